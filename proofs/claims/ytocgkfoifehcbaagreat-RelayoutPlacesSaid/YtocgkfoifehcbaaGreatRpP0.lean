/- The runs of the functions that RelayoutPlaces reaches do what their plain forms say, part 0. Made by a program. -/
import Derived.Test.YtocgkfoifehcbaaGreatRpGk
namespace Go.Proofs.YtocgkfoifehcbaaGreat
noncomputable section
open Go.RowKit
set_option maxRecDepth 20000
set_option linter.all false
section
abbrev es:=b7×Int×Int×Int×c6
variable[GS](M:Nat→Prop)(c:az)(r:Bool)(a d:dn)(b:Fv)(v5:Int)(e:Nat)(f:Int→Option Bool)
abbrev F7:Cx:=⟨aT,32,M,c⟩
abbrev HO:=bodyPost aT Tryz.f63 (bP M c (fun v _=>v=.bool r))
abbrev ZI(a:ck)(s:AS):=VE (F7 M c) (HO M c r) a .normal s
abbrev Te(n:Nat):aq:=.c (cat Tryz.f63 (pn n))
abbrev HM:ck:=[.b 0,Te 15]
abbrev agy:ck:=kl (F7 M c) (HO M c r) HM (cat Tryz.f63 (pn 116)) e::HM
def UX:AS:=⟨[(1,.sl (lm aP d)),(2,.fn b.id b.aV),(15,.sl (lm aP a)),(16,iI (a.length:Int)),(17,iI v5)],[],[],[]⟩
abbrev P5:Prop:=∀{v5:Int},f v5=some r→LP (F7 M c) (HO M c r) HM (cat Tryz.f63 (pn 116)) e (UX a d b v5)
variable{M c r a d b v5 e f}{K:Kn}{n:Nat}
def aiT(o:am K)(k:P5 M c r a d b e f)(h:DG K n a d b f v5=some r):ZI M c r (Te 116::agy M c r e) (UX a d b v5):=by
 unfold DG at h;refine av 6 7 3 ?_;obtain⟨j,h⟩|⟨j,h⟩:=ao h
 ·refine ai 18 j (cX 8 9 1 3 5 (aj 1 ?_));obtain⟨l,h⟩:=aB h;refine au (bX aP aD l (gB) (eE)) (ae (av 2 3 1 (aj 2 ?_)));obtain⟨m,h⟩:=aB h;refine au (bX aP aD m (gB) (eE)) (ae (av 2 3 1 (aj 3 ?_)));obtain⟨v6,i,h⟩:=aw h;refine oB (o.sk i) (ae ?_);obtain⟨g,h⟩|⟨g,h⟩:=ao h
  ·refine ai 30 g (aM 9 ?_);cases h;exact bD
  ·exact ai 30 g (ah 4 (bu (k h)))
 ·refine ai 18 j (aM 8 ?_);cases h;exact bD
def aft(e:am K)(m:Nat):P5 M c r a d b m (yh K n a d b m):=by
 induction m with
 | zero=>exact fun h=>nomatch h
 | succ m f=>exact fun h=>bq (aiT e f h)
def ahb(f:am K)(h:xP K n a d b=some r):aZ aT 63 [.sl (lm aP a),.sl (lm aP d),.fn b.id b.aV] (fun v _=>v=.bool r):=by
 refine bK (cat Tryz.f63 (pn 1)) Tryz.func63 Tryz.ntmps63 fun M c=>(bn ⟨[(0,.sl (lm aP a)),(1,.sl (lm aP d)),(2,.fn b.id b.aV)],[],[],[]⟩ ?_);unfold xP at h;refine cj 12 13 7 4 (aj 1 (au (bF aP a) (aW 3 1 (au (bF aP d) (ae ?_)))));obtain⟨e,h⟩|⟨e,h⟩:=ao h
 ·refine ai 14 e (aM 5 ?_);cases h;exact bD
 ·exact ai 14 e (n9 4 5 3 4 (aj 1 (au (bF aP a) (ae (ah 1 (cf (p:=pn 58) n (aft f n h)))))))
end
section
variable[GS](M:Nat→Prop)(a:az)(r:Bool)(b c:ag)(v4:Bool)  
abbrev aiq(n:Nat):aq:=.c (cat Tryz.f27 (pn n))
abbrev aie:Cx:=⟨aT,52,M,a⟩
abbrev Y0:=bodyPost aT Tryz.f27 (bP M a (fun v _=>v=.bool r))
abbrev abO(b:ck)(s:AS):=VE (aie M a) (Y0 M a r) b .normal s
def aaM:AS:=⟨[(4,.bool v4)],[],[],[]⟩
variable{M a r b c v4}{K:Kn}{n:Nat}
def qy(b:am K)(h:mO K n v4=some r):abO M a r [aiq 7] (aaM v4):=by
 unfold mO at h;refine aM 1 ?_;cases h;exact bD
def DR(d:am K)(h:oD K n b c=some r):aZ aT 27 [.agg (aD b),.agg (aD c)] (fun v _=>v=.bool r):=by
 refine bK (cat Tryz.f27 (pn 1)) Tryz.func27 Tryz.ntmps27 fun M a=>(bn ⟨[(0,.agg (aD b)),(1,.agg (aD c))],[],[],[]⟩ ?_);unfold oD at h;refine av 6 7 3 (aj 6 ?_);obtain⟨e,h⟩|⟨e,h⟩:=ao h
 ·refine aF 10 e (aW 13 7 ?_);obtain⟨f,h⟩|⟨f,h⟩:=ao h
  ·refine aF 17 f (aW 20 7 ?_);obtain⟨g,h⟩|⟨g,h⟩:=ao h
   ·refine aF 24 g (aW 27 7 ?_);obtain⟨i,h⟩|⟨i,h⟩:=ao h
    ·refine aF 31 i (aW 34 7 ?_);obtain⟨j,h⟩|⟨j,h⟩:=ao h
     ·refine aF 38 j (aW 41 7 ?_);obtain⟨k,h⟩|⟨k,h⟩:=ao h
      ·refine aF 45 k (aW 45 4 ?_);obtain⟨m,l,h⟩:=aw h;exact aR (ahb d l) (ae (ah 0 (qy d h)))
      ·exact aF 45 k (ae (ah 0 (qy d h)))
     ·exact aF 38 j (ae (ah 0 (qy d h)))
    ·exact aF 31 i (ae (ah 0 (qy d h)))
   ·exact aF 24 g (ae (ah 0 (qy d h)))
  ·exact aF 17 f (ae (ah 0 (qy d h)))
 ·exact aF 10 e (ae (ah 0 (qy d h)))
end
section
variable[GS](M:Nat→Prop)(b:az)(r a:b7)  
variable{M b r a}{K:Kn}{n:Nat}
def Lh(f:am K)(h:qF K n a=some r):aZ aT 78 [.sl (lm aN a)] (fun v s=>v=.ref 5∧look 5 s.r=some (bf r)):=by
 refine bK (cat Tryz.f78 (pn 1)) Tryz.func78 Tryz.ntmps78 fun M b=>(bn ⟨[(0,.sl (lm aN a))],[],[],[]⟩ ?_);unfold qF at h;refine cj 12 13 7 4 (aj 1 ?_);refine Sb (aL Tryz.f78 (pn 12) 1) (.eql) 42 42 (.tmp 3) (.const (.slice none 0 0)) 4 (lm aN a) (r:=aJ Tryz.f78 (pn 12) 2) (e:=44) (by kernel_rfl) (by kernel_rfl) (by kernel_rfl) (by kernel_rfl) (by kernel_rfl) (by kernel_rfl) (by kernel_rfl) (by kernel_rfl) (fun d=>?_) ?_
 ·have h:=VH (by simpa using d) h;refine ae (aM 5 (fQ 5 2 44 67 ?_));cases h;exact eX
 ·have h:=LW h;refine ae (gY 2 3 3 (aj 0 (Bv 42 5 (e:=44) (sz:=67) (aW 2 1 ?_))));obtain⟨c,h⟩:=aB h;refine au (cG 7 5 44 67 aN (rfl) (ky) c) (ae (aM 1 ?_));cases h;exact eX
end
section
variable[GS](M:Nat→Prop)(a:az)(r b:ab)(c:b7)(v4:Int)(v5:b7)(d:Nat)(e:Int→b7→Option ab)
abbrev K3:Cx:=⟨aT,25,M,a⟩
abbrev GZ:=bodyPost aT Tryz.f40 (bP M a (fun v s=>v=.agg (List.set (aC ({ r with Kids:=[] }:ab)) 66 (.ref 1007))∧look 1007 s.r=some (bf r.Kids)))
abbrev ac9(b:ck)(s:AS):=VE (K3 M a) (GZ M a r) b .normal s
abbrev Q2(n:Nat):aq:=.c (cat Tryz.f40 (pn n))
abbrev I6:ck:=[.b 0,Q2 15]
abbrev aki:ck:=kl (K3 M a) (GZ M a r) I6 (cat Tryz.f40 (pn 116)) d::I6
def NH:AS:=⟨[(1,.ptr 1 0),(2,.ptr 2 0),(10,.ref 1007),(11,iI (c.length:Int)),(12,iI v4)],[(1,List.set (aC ({ b with Kids:=[] }:ab)) 66 (.ref 1007)),(2,List.set (aC bU) 66 (.nils))],[(1007,(bf v5))],[1,2,1007]⟩
abbrev MS:Prop:=∀{v4:Int} {v5:b7},e v4 v5=some r→LP (K3 M a) (GZ M a r) I6 (cat Tryz.f40 (pn 116)) d (NH b c v4 v5)
variable{M a r b c v4 v5 d e}{K:Kn}{n:Nat}
def ahQ(l:am K)(g:MS M a r b c d e)(h:Eg K n b c e v4 v5=some r):ac9 M a r (Q2 116::aki M a r d) (NH b c v4 v5):=by
 unfold Eg at h;refine av 6 7 3 ?_;obtain⟨f,h⟩|⟨f,h⟩:=ao h
 ·refine ai 13 f (cX 8 9 1 3 5 (aj 1 ?_));obtain⟨i,h⟩:=aB h;refine au (cr 1007 67 aN i) (au (bJ 44 0 aN aC (bB i).2 (dV)) (ae (bV [1,2,3,4,10,11,12] [1,2,4] [1007] ?_)));obtain⟨v6,k,h⟩:=aw h;obtain⟨j,h⟩:=aB h;exact ci 1 (nu 17 [.ptr 1 66,.ref 1007,iI v4,.agg (aC (gD v5 v4)),.agg (aC v6),.eptr 1007 67 (v4.toNat) 0]) [] [] [eD 1007 ⟨44,67,lm aN (List.set v5 v4.toNat v6)⟩] (aE (vz 4) (ax (cR 0 1 21 (l.Al k)) (bE (cD 1007 67 aN (L:=v5) j) (ax (dq (m:=0) (dI 1007 44 67 0 aN aC v6 (bB j).2 (dV))) cg)))) (ah 2 (bu (g h)))
 ·refine ai 13 f (aM 8 ?_);cases h;exact eX
def aay(d:am K)(m:Nat):MS M a r b c m (Am K n b c m):=by
 induction m with
 | zero=>exact fun h=>nomatch h
 | succ m e=>exact fun h=>bq (ahQ d e h)
def Dc(d:am K)(h:pK K n b=some r):aZ aT 40 [.agg (aC b)] (fun v s=>v=.agg (List.set (aC ({ r with Kids:=[] }:ab)) 66 (.ref 1007))∧look 1007 s.r=some (bf r.Kids)):=by
 refine bK (cat Tryz.f40 (pn 1)) Tryz.func40 Tryz.ntmps40 fun M a=>(bn ⟨[(0,.agg (aC b))],[],[],[]⟩ ?_);unfold pK at h;refine av 6 7 3 (aj 2 ?_);obtain⟨c,e,h⟩:=aw h;exact fc 1007 (Lh d e) (fk 5) (ae (cj 4 5 3 2 (aj 2 (au (bF aN c) (ae (ah 1 (cf (p:=pn 58) n (aay d n h))))))))
end
section
variable[GS](M:Nat→Prop)(a:az)(r:ab×Bool×Int×Int×c6)(b:ag)(d e v4:Int)(v5:c6)(f:Int)(g:Bool)(j:Nat)(k:Int→Option (ab×Bool×Int×Int×c6))
abbrev H7:Cx:=⟨aT,34,M,a⟩
abbrev KK:=bodyPost aT Tryz.f19 (bP M a (fun v s=>v=.tup [.agg (aC r.1),.bool r.2.1]∧cB s.o [(ac r.2.2.1 r.2.2.2.1)]∧look 440009 s.r=some (be r.2.2.2.2)))
abbrev Rc(b:ck)(s:AS):=VE (H7 M a) (KK M a r) b .normal s
abbrev pX(n:Nat):aq:=.c (cat Tryz.f19 (pn n))
abbrev LF:ck:=[.b 0,pX 7]
abbrev QU:ck:=kl (H7 M a) (KK M a r) LF (cat Tryz.f19 (pn 52)) j::LF
def ahC:AS:=⟨[(2,iI d),(4,.ptr 4 0),(6,.ptr 6 0),(9,.ptr 9 0),(13,.ref 440009),(14,iI (v5.length:Int)),(15,iI f),(28,.bool g)],[(4,aD b),(6,List.set (aC bU) 66 (.nils)),(9,ba (gD v5 f)),(ac e v4)],[(440009,(be v5))],[4,6,9,440001,440009,1440001,440001]⟩
def Oi:AS:=⟨[(2,iI d),(4,.ptr 4 0),(6,.ptr 6 0),(13,.ref 440009),(14,iI (v5.length:Int)),(15,iI f)],[(4,aD b),(6,List.set (aC bU) 66 (.nils)),(ac e v4)],[(440009,(be v5))],[4,6,440001,440009,1440001,440001]⟩
abbrev GP:Prop:=∀{f:Int},k f=some r→LP (H7 M a) (KK M a r) LF (cat Tryz.f19 (pn 52)) j (Oi b d e v4 v5 f)
variable{M a r b d e v4 v5 f g j k}{K:Kn}{n:Nat}[SG a][RG]
def Sf(o:am K)(m:GP M a r b d e v4 v5 j k)(h:zC K n b d e v4 v5 f k g=some r):Rc M a r (pX 3379 :: .b 1::pX 423::QU M a r j) (ahC b d e v4 v5 f g):=by
 unfold zC at h;obtain⟨c,h⟩|⟨c,h⟩:=ao h
 ·refine ai 28 c (av 4 5 2 (aj 2 ?_));obtain⟨p,l,h⟩:=aw h;refine fc 1031 (Dc o l) (BA (i:=66) (by kernel_rfl)) (ae (aM 6 (jz 1031 ?_)));cases h;exact n6
 ·exact ai 28 c (ah 4 (bu (m h)))
def aex(m:am K)(c:GP M a r b d e v4 v5 j k)(h:BE K n b d e v4 v5 k f=some r):Rc M a r (pX 52::QU M a r j) (Oi b d e v4 v5 f):=by
 unfold BE at h;refine av 6 7 3 ?_;obtain⟨i,h⟩|⟨i,h⟩:=ao h
 ·refine ai 16 i (cX 8 9 1 3 5 (aj 0 ?_));obtain⟨o,h⟩:=aB h;refine au (cr 440009 127 ba o) (au (bJ 64 0 ba ba (bB o).2 ap) (ae (av 2 3 1 (aj 5 ?_))));obtain⟨l,h⟩|⟨l,h⟩:=ao h
  ·refine aF 23 l (aW 8 3 ?_);obtain⟨p,g,h⟩:=aw h;exact aR (DR m g) (ae (ah 0 (Sf m c h)))
  ·exact aF 23 l (ae (ah 0 (Sf m c h)))
 ·refine ai 16 i (aM 8 (va 6 ?_));cases h;exact n6
def XC(c:am K)(m:Nat):GP M a r b d e v4 v5 m (wW K n b d e v4 v5 m):=by
 induction m with
 | zero=>exact fun h=>nomatch h
 | succ m f=>exact fun h=>bq (aex c f h)
def aes(f:am K)(h:yX K n b d e v4 v5=some r):eO aT 19 [.ptr 440001 0,.agg (aD b),iI d] [(ac e v4)] (be v5) (fun v s=>v=.tup [.agg (aC r.1),.bool r.2.1]∧cB s.o [(ac r.2.2.1 r.2.2.2.1)]∧look 440009 s.r=some (be r.2.2.2.2)):=by
 refine kx (c:=cat Tryz.f19 []) Tryz.func19 (by kernel_rfl) _ Tryz.ntmps19 (il (by kernel_rfl)) fun M a=>(bn ⟨[(0,.ptr 440001 0),(1,.agg (aD b)),(2,iI d)],[(ac e v4)],[(440009,(be v5))],[440009,440001,1440001]⟩ ?_);unfold yX at h;exact bW (ks':=[pX 12,pX 13,pX 7]) 4 (aj 4 (au (bF ba v5) (ae (ah 1 (cf (p:=pn 26) n (XC f n h))))))
end
section
variable[GS](M:Nat→Prop)(a:az)(r:ab×Bool×Int×Int×c6)(b:ag)(d e v4:Int)(v5:c6)(v6:ab×Bool×Int×Int×c6)(f:Int)  
abbrev GE(n:Nat):aq:=.c (cat Tryz.f36 (pn n))
abbrev aiY:Cx:=⟨aT,27,M,a⟩
abbrev q36:=bodyPost aT Tryz.f36 (bP M a (fun v s=>v=.tup [.agg (aC r.1),.bool r.2.1]∧cB s.o [(ac r.2.2.1 r.2.2.2.1)]∧look 440009 s.r=some (be r.2.2.2.2)))
abbrev ahP(b:ck)(s:AS):=VE (aiY M a) (q36 M a r) b .normal s
def ajD:AS:=⟨[(6,.ptr 6 0),(8,.ptr 8 0),(9,.bool v6.2.1)],[(6,List.set (aC bU) 66 (.nils)),(8,aC v6.1),(ac v6.2.2.1 f)],[(440009,(be v6.2.2.2.2))],[6,8,440001,440009,1440001,440001]⟩
variable{M a r b d e v4 v5 v6 f}{K:Kn}{n:Nat}[SG a][RG]
def PK(b:am K)(h:Dr K n v6 f=some r):ahP M a r [GE 15] (ajD v6 f):=by
 unfold Dr at h;refine aM 3 ?_;cases h;exact n6
def adP(g:am K)(h:zd K n b d e v4 v5=some r):eO aT 36 [.ptr 440001 0,.agg (aD b),iI d] [(ac e v4)] (be v5) (fun v s=>v=.tup [.agg (aC r.1),.bool r.2.1]∧cB s.o [(ac r.2.2.1 r.2.2.2.1)]∧look 440009 s.r=some (be r.2.2.2.2)):=by
 refine kx (c:=cat Tryz.f36 []) Tryz.func36 (by kernel_rfl) _ Tryz.ntmps36 (il (by kernel_rfl)) fun M a=>(bn ⟨[(0,.ptr 440001 0),(1,.agg (aD b)),(2,iI d)],[(ac e v4)],[(440009,(be v5))],[440009,440001,1440001]⟩ ?_);unfold zd at h;refine bW (ks':=[GE 6,GE 7]) 3 (aj 3 ?_);obtain⟨v6,i,h⟩:=aw h;refine rx (aes g i) (ae (av 5 3 3 ?_));obtain⟨f,h⟩|⟨f,h⟩:=ao h
 ·exact ai 17 f (ah 2 (PK g h))
 ·exact ai 17 f (ah 2 (PK g h))
end
section
variable[GS](M:Nat→Prop)(e:az)(r:Int×Int×c6)(a:ag)(b:Int)(d:ab)(v4 v5:Int)(v6:c6)  
abbrev Zf(n:Nat):aq:=.c (cat Tryz.f37 (pn n))
variable{M e r a b d v4 v5 v6}{K:Kn}{n:Nat}[SG e][RG]
def ajt(j:am K)(h:w5 K n a b d v4 v5 v6=some r):eO aT 37 [.ptr 440001 0,.agg (aD a),iI b,.agg (aC d)] [(ac v4 v5)] (be v6) (fun v s=>v=bb∧cB s.o [(ac r.1 r.2.1)]∧look 440009 s.r=some (be r.2.2)):=by
 refine kx (c:=cat Tryz.f37 []) Tryz.func37 (by kernel_rfl) _ Tryz.ntmps37 (il (by kernel_rfl)) fun M e=>(bn ⟨[(0,.ptr 440001 0),(1,.agg (aD a)),(2,iI b),(3,.agg (aC d))],[(ac v4 v5)],[(440009,(be v6))],[440009,440001,1440001]⟩ ?_);unfold w5 at h;refine bW (ks':=[Zf 7]) 4 (bV [0,2,5,7] [5,7,440001] [440009] ?_);obtain⟨f,g,h⟩:=aw h;obtain⟨i,h⟩:=aB h;refine ci 2 (nu 15 [.ptr 440001 0,.ptr 440001 0,.ptr 440001 0,.ptr 440001 0,.ref 440009,.agg (aD a),iI b,.agg (aC d),.agg (aC f),.agg (ba (⟨a,b,f⟩:ay)),.sl (lm ba [(⟨a,b,f⟩:ay)])]++nu 27 [.ptr 440001 0,.ptr 440001 0]) [] [] [gh 26 440009 ⟨64,127,lm ba (v6++[(⟨a,b,f⟩:ay)])⟩,cF aT 29 Tryz.f37 (pn 7) 14] (aE [.v 0 2,.v 0 2,.v 0 2,.v 0 2,.v 0 1,.v 0 2,.v 0 2,.v 0 2] (ax (cR 0 1 23 (aZ.cA (Dc j g) (V':=.agg (aC f)) (by kernel_rfl))) (aE [.v 0 2,.v 0 1] (ax (dq (m:=0) (cG 26 440009 64 127 ba (rfl) (G5) i)) (aE [.v 1 2,.v 1 1] (ax (cE 1) cg)))))) (pF ?_)
 cases h;exact n6
end
section
variable[GS](M:Nat→Prop)(b:az)(r a:Int)  
variable{M b r a}{K:Kn}{n:Nat}
def lC(c:am K)(h:jA K n a=some r):aZ aT 124 [iI a] (fun v _=>v=iI r):=by
 refine bK (cat Tryz.f124 (pn 1)) Tryz.func124 Tryz.ntmps124 fun M b=>(bn ⟨[(0,iI a)],[],[],[]⟩ ?_);unfold jA at h;refine aM 5 ?_;cases h;exact bD
end
section
variable[GS](M:Nat→Prop)(a:az)(r:Int×Bool)(b:cL)(c v4:Int)  
abbrev abX(n:Nat):aq:=.c (cat Tryz.f86 (pn n))
abbrev aku:Cx:=⟨aT,25,M,a⟩
abbrev Zb:=bodyPost aT Tryz.f86 (bP M a (fun v _=>v=.tup [iI r.1,.bool r.2]))
abbrev akD(b:ck)(s:AS):=VE (aku M a) (Zb M a r) b .normal s
def afR:AS:=⟨[(6,iI v4)],[],[],[]⟩
variable{M a r b c v4}{K:Kn}{n:Nat}
def SN(b:am K)(h:uT K n v4=some r):akD M a r [.b 0,abX 15] (afR v4):=by
 unfold uT at h;refine aM 4 ?_;cases h;exact jC
def eN(f:am K)(h:ep K n b c=some r):aZ aT 86 [.agg (gu b),iI c] (fun v _=>v=.tup [iI r.1,.bool r.2]):=by
 refine bK (cat Tryz.f86 (pn 1)) Tryz.func86 Tryz.ntmps86 fun M a=>(bn ⟨[(0,.agg (gu b)),(1,iI c)],[],[],[]⟩ ?_);unfold ep at h;refine jb 117 0 15 10 ?_;obtain⟨d,h⟩|⟨d,h⟩:=ao h
 ·exact ai 11 d (ah 2 (SN f h))
 ·refine ai 11 d (br 7 3 ?_);obtain⟨e,h⟩|⟨e,h⟩:=ao h
  ·refine ai 13 e (br 2 1 (aj 1 ?_));obtain⟨i,g,h⟩:=aw h;exact aR (lC f g) (ae (ah 0 (SN f h)))
  ·refine ai 13 e (aM 6 ?_);cases h;exact jC
end
section
variable[GS](M:Nat→Prop)(a:az)(r:cb)(b:aO)(d e:Int)  
abbrev qH(n:Nat):aq:=.c (cat Tryz.f88 (pn n))
abbrev X5:Cx:=⟨aT,52,M,a⟩
abbrev XN:=bodyPost aT Tryz.f88 (bP M a (fun v _=>v=.agg (cC r)))
abbrev Bb(m:Nat):ck:=kl (X5 M a) (XN M a r) [.b 0,qH 15] (cat Tryz.f88 (pn 116)) m::[.b 0,qH 15]
variable{M a r b d e}{K:Kn}{n:Nat}
def qm(f:am K)(h:lg K n b d e=some r):aZ aT 88 [.agg (aG b),iI d,iI e] (fun v _=>v=.agg (cC r)):=by
 refine bK (cat Tryz.f88 (pn 1)) Tryz.func88 Tryz.ntmps88 fun M a=>(bn ⟨[(0,.agg (aG b)),(1,iI d),(2,iI e)],[],[],[]⟩ ?_);unfold lg at h;refine bC (ks':=[qH 58,.b 0,qH 15]) 8 ⟨[(1,iI d),(3,.ptr 3 0),(6,.ptr 6 0),(7,.ptr 7 0),(13,iI 0)],[(3,aG b),(6,cC l8),(7,cC ({ l8 with Content:=e }:cb))],[],[3,6,7]⟩ (o6 40 (c:=cat Tryz.f88 [1,1,0,1,0,0]) (by kernel_rfl) (bq (bW (ks':=qH 7474::qH 7475 :: .b 1::qH 935::Bb M a r 39) 10 (aj 6 ?_))));obtain⟨v4,w,h⟩:=aw h;refine aR (eN f w) (ae (av 2 3 1 (aj 5 ?_)));obtain⟨v5,x,h⟩:=aw h;refine aR (lC f x) (ae (av 2 3 1 (aj 5 ?_)));obtain⟨v6,y,h⟩:=aw h;refine aR (eN f y) (ae (bC (ks':=Bb M a r 39) 3 ⟨[(1,iI d),(3,.ptr 3 0),(6,.ptr 6 0),(7,.ptr 7 0),(13,iI 1)],[(3,aG b),(6,cC l8),(7,cC (⟨⟨v4.1,0,0,0⟩,⟨v5,0,0,0⟩,⟨(max v6.1 0),0,0,0⟩,e⟩:cb))],[],[3,6,7]⟩ (bu (bq (dL 114 115 1 15 10 (aj 6 ?_))))));obtain⟨s,z,h⟩:=aw h;refine aR (eN f z) (ae (av 2 3 1 (aj 5 ?_)))
 obtain⟨t,A,h⟩:=aw h;refine aR (lC f A) (ae (av 2 3 1 (aj 5 ?_)));obtain⟨u,B,h⟩:=aw h;refine aR (eN f B) (ae (bC (ks':=Bb M a r 38) 3 ⟨[(1,iI d),(3,.ptr 3 0),(6,.ptr 6 0),(7,.ptr 7 0),(13,iI 2)],[(3,aG b),(6,cC l8),(7,cC (⟨⟨v4.1,s.1,0,0⟩,⟨v5,t,0,0⟩,⟨(max v6.1 0),(max u.1 0),0,0⟩,e⟩:cb))],[],[3,6,7]⟩ (bu (bq (dL 114 115 1 15 10 (aj 6 ?_))))));obtain⟨g,C,h⟩:=aw h;refine aR (eN f C) (ae (av 2 3 1 (aj 5 ?_)));obtain⟨i,D,h⟩:=aw h;refine aR (lC f D) (ae (av 2 3 1 (aj 5 ?_)));obtain⟨j,E,h⟩:=aw h;refine aR (eN f E) (ae (bC (ks':=Bb M a r 37) 3 ⟨[(1,iI d),(3,.ptr 3 0),(6,.ptr 6 0),(7,.ptr 7 0),(13,iI 3)],[(3,aG b),(6,cC l8),(7,cC (⟨⟨v4.1,s.1,g.1,0⟩,⟨v5,t,i,0⟩,⟨(max v6.1 0),(max u.1 0),(max j.1 0),0⟩,e⟩:cb))],[],[3,6,7]⟩ (bu (bq (dL 114 115 1 15 10 (aj 6 ?_))))));obtain⟨o,k,h⟩:=aw h;refine aR (eN f k) (ae (av 2 3 1 (aj 5 ?_)));obtain⟨p,l,h⟩:=aw h
 refine aR (lC f l) (ae (av 2 3 1 (aj 5 ?_)));obtain⟨q,m,h⟩:=aw h;refine aR (eN f m) (ae (bC (ks':=Bb M a r 36) 3 ⟨[(1,iI d),(3,.ptr 3 0),(6,.ptr 6 0),(7,.ptr 7 0),(13,iI 4)],[(3,aG b),(6,cC l8),(7,cC (⟨⟨v4.1,s.1,g.1,o.1⟩,⟨v5,t,i,p⟩,⟨(max v6.1 0),(max u.1 0),(max j.1 0),(max q.1 0)⟩,e⟩:cb))],[],[3,6,7]⟩ (bu (bq (aM 11 ?_)))));cases h;exact bD
end
section
variable[GS](M:Nat→Prop)(b:az)(r:Int)(a:cb)  
variable{M b r a}{K:Kn}{n:Nat}
def qV(c:am K)(h:mM K n a=some r):aZ aT 89 [.agg (cC a)] (fun v _=>v=iI r):=by
 refine bK (cat Tryz.f89 (pn 1)) Tryz.func89 Tryz.ntmps89 fun M b=>(bn ⟨[(0,.agg (cC a))],[],[],[]⟩ ?_);unfold mM at h;refine aM 5 ?_;cases h;exact bD
end
section
variable[GS](M:Nat→Prop)(a:az)(r:Int)(b:aO)(c d v5 e:Int)  
abbrev Qx(n:Nat):aq:=.c (cat Tryz.f90 (pn n))
abbrev ag2:Cx:=⟨aT,37,M,a⟩
abbrev X6:=bodyPost aT Tryz.f90 (bP M a (fun v _=>v=iI r))
abbrev Q6(b:ck)(s:AS):=VE (ag2 M a) (X6 M a r) b .normal s
def ako:AS:=⟨[(2,iI e)],[],[],[]⟩
def Xe:AS:=⟨[(1,iI c),(2,iI v5),(3,.ptr 3 0)],[(3,aG b)],[],[3]⟩
variable{M a r b c d v5 e}{K:Kn}{n:Nat}
def Nh(b:am K)(h:xe K n e=some r):Q6 M a r [Qx 31] (ako e):=by
 unfold xe at h;refine aM 3 ?_;cases h;exact bD
def Rd(e:am K)(h:wu K n b c v5=some r):Q6 M a r [Qx 15] (Xe b c v5):=by
 unfold wu at h;refine cj 4 5 3 2 (aj 3 ?_);obtain⟨v6,f,h⟩:=aw h;refine aR (eN e f) (ae (br 3 2 ?_));obtain⟨d,h⟩|⟨d,h⟩:=ao h
 ·exact ai 32 d (ah 2 (Nh e h))
 ·exact ai 32 d (ah 2 (Nh e h))
def CA(f:am K)(h:pf K n b c d=some r):aZ aT 90 [.agg (aG b),iI c,iI d] (fun v _=>v=iI r):=by
 refine bK (cat Tryz.f90 (pn 1)) Tryz.func90 Tryz.ntmps90 fun M a=>(bn ⟨[(0,.agg (aG b)),(1,iI c),(2,iI d)],[],[],[]⟩ ?_);unfold pf at h;refine cj 28 29 15 6 (aj 3 ?_);obtain⟨v4,g,h⟩:=aw h;refine aR (eN f g) (ae (br 3 2 ?_));obtain⟨e,h⟩|⟨e,h⟩:=ao h
 ·exact ai 20 e (ah 2 (Rd f h))
 ·exact ai 20 e (ah 2 (Rd f h))
end
section
variable[GS](M:Nat→Prop)(e:az)(r:cb)(i:aO)(k f:Int)(v4:cb)(l g j:Int)(a b:(Int×Bool))(c:Bool)(d:V4 Int)  
abbrev E9(n:Nat):aq:=.c (cat Tryz.f75 (pn n))
abbrev ak3:Cx:=⟨aT,89,M,e⟩
abbrev q75:=bodyPost aT Tryz.f75 (bP M e (fun v _=>v=.agg (cC r)))
abbrev Il(a:ck)(s:AS):=VE (ak3 M e) (q75 M e r) a .normal s
def akR:AS:=⟨[(4,.ptr 4 0),(5,.ptr 5 0)],[(4,cC l8),(5,cC ({ v4 with Margin:=d,Content:=g }:cb))],[],[4,5]⟩
def adx:AS:=⟨[(4,.ptr 4 0),(5,.ptr 5 0),(8,iI (aa (f-j))),(10,.bool a.2),(12,.bool b.2),(59,.bool c)],[(4,cC l8),(5,cC ({ v4 with Content:=g }:cb))],[],[4,5]⟩
def ajh:AS:=⟨[(1,iI f),(2,.ptr 2 0),(4,.ptr 4 0),(5,.ptr 5 0),(6,iI l)],[(2,aG i),(4,cC l8),(5,cC v4)],[],[2,4,5]⟩
variable{M e r i k f v4 l g j a b c d}{K:Kn}{n:Nat}
def BC(a:am K)(h:qM K n v4 g d=some r):Il M e r [.b 0,E9 4095] (akR v4 g d):=by
 unfold qM at h;refine aM 4 ?_;cases h;exact bD
def QZ(l:am K)(h:wZ K n f v4 g j a b c=some r):Il M e r [E9 16377,.b 0,E9 4095] (adx f v4 g j a b c):=by
 unfold wZ at h;obtain⟨d,h⟩|⟨d,h⟩:=ao h
 ·exact ai 59 d (ah 4 (BC l h))
 ·refine ai 59 d (br 7 3 ?_);obtain⟨i,h⟩|⟨i,h⟩:=ao h
  ·exact ai 76 i (ah 2 (BC l h))
  ·refine ai 76 i (br 7 3 ?_);obtain⟨k,h⟩|⟨k,h⟩:=ao h
   ·exact ai 82 k (ah 2 (BC l h))
   ·exact ai 82 k (ah 2 (BC l h))
def Sa(d:am K)(h:tX K n i f v4 l=some r):Il M e r [E9 63] (ajh i f v4 l):=by
 unfold tX at h;refine av 2 3 1 (aj 3 ?_);obtain⟨g,o,h⟩:=aw h;refine aR (CA d o) (ae (av 2 3 1 (aj 2 ?_)));obtain⟨j,p,h⟩:=aw h;refine aR (qV d p) (ae (av 5 3 3 ?_));obtain⟨m,h⟩|⟨m,h⟩:=ao h
 ·refine ai 41 m (aM 5 ?_);cases h;exact bD
 ·refine ai 41 m (gY 2 3 3 (aj 4 ?_));obtain⟨a,q,h⟩:=aw h;refine aR (eN d q) (ae (av 2 3 1 (aj 4 ?_)));obtain⟨b,k,h⟩:=aw h;refine aR (eN d k) (ae (dL 8 9 0 3 3 (aj 3 ?_)));obtain⟨c,h⟩|⟨c,h⟩:=ao h
  ·exact aF 62 c (ae (ah 0 (QZ d h)))
  ·exact aF 62 c (ae (ah 0 (QZ d h)))
def K2(a:am K)(h:qC K n i k=some r):aZ aT 75 [.agg (aG i),iI k] (fun v _=>v=.agg (cC r)):=by
 refine bK (cat Tryz.f75 (pn 1)) Tryz.func75 Tryz.ntmps75 fun M e=>(bn ⟨[(0,.agg (aG i)),(1,iI k)],[],[],[]⟩ ?_);unfold qC at h;refine av 6 7 3 (aj 1 ?_);obtain⟨f,c,h⟩:=aw h;refine aR (lC a c) (ae (av 2 3 1 (aj 2 ?_)));obtain⟨v4,d,h⟩:=aw h;refine aR (qm a d) (ae (av 2 3 1 (aj 3 ?_)));obtain⟨v5,g,h⟩:=aw h;refine aR (eN a g) (ae (av 5 3 3 ?_));obtain⟨b,h⟩|⟨b,h⟩:=ao h
 ·refine ai 26 b (br 2 1 (aj 2 ?_));obtain⟨v6,j,h⟩:=aw h;exact aR (qV a j) (ae (ah 0 (Sa a h)))
 ·exact ai 26 b (ah 2 (Sa a h))
end
section
variable[GS](M:Nat→Prop)(b:az)(r:bh)(a:Int)  
variable{M b r a}{K:Kn}{n:Nat}
def BD(c:am K)(h:nc K n a=some r):aZ aT 79 [iI a] (fun v _=>v=.agg (c8 r)):=by
 refine bK (cat Tryz.f79 (pn 1)) Tryz.func79 Tryz.ntmps79 fun M b=>(bn ⟨[(0,iI a)],[],[],[]⟩ ?_);unfold nc at h;refine aM 5 ?_;cases h;exact bD
end
section
variable[GS](M:Nat→Prop)(d:az)(r:Int)(a:cL)(b c:Int)  
variable{M d r a b c}{K:Kn}{n:Nat}
def Ad(g:am K)(h:mZ K n a b c=some r):aZ aT 82 [.agg (gu a),iI b,iI c] (fun v _=>v=iI r):=by
 refine bK (cat Tryz.f82 (pn 1)) Tryz.func82 Tryz.ntmps82 fun M d=>(bn ⟨[(0,.agg (gu a)),(1,iI b),(2,iI c)],[],[],[]⟩ ?_);unfold mZ at h;refine cj 12 13 7 4 (aj 2 ?_);obtain⟨v4,f,h⟩:=aw h;refine aR (eN g f) (ae (br 3 2 ?_));obtain⟨e,h⟩|⟨e,h⟩:=ao h
 ·refine ai 15 e (aM 5 ?_);cases h;exact bD
 ·refine ai 15 e (aM 5 ?_);cases h;exact bD
end
section
variable[GS](M:Nat→Prop)(g:az)(r x:b5)(i j:Int)(v4:Fv)(f:Int)(o:b5)(a:Int)(d:b5)(t:Bool)(l u:Nat)(q w:Int→b5→Option b5)
abbrev Bm:Cx:=⟨aT,53,M,g⟩
abbrev xO:=bodyPost aT Tryz.f189 (bP M g (fun v s=>v=pr r∧look 0 s.r=some (bc r)))
abbrev K9(a:ck)(s:AS):=VE (Bm M g) (xO M g r) a .normal s
abbrev zq(n:Nat):aq:=.c (cat Tryz.f189 (pn n))
abbrev He:ck:=[.b 0]
abbrev WK:ck:=kl (Bm M g) (xO M g r) He (cat Tryz.f189 (pn 12)) l::He
abbrev IU:ck:=.b 2 :: .b 1::zq 51::WK M g r l
abbrev OZ:ck:=kl (Bm M g) (xO M g r) (IU M g r l) (cat Tryz.f189 (pn 804)) u::(IU M g r l)
def X8:AS:=⟨[(0,.ref 0),(1,iI i),(2,iI j),(3,.fn v4.id v4.aV),(8,iI f),(9,iI a),(34,.bool t)],[],[(0,(bc d))],[0,1000000,0]⟩
def Uo:AS:=⟨[(0,.ref 0),(1,iI i),(2,iI j),(3,.fn v4.id v4.aV),(8,iI f),(9,iI a)],[],[(0,(bc d))],[0,1000000,0]⟩
def QI:AS:=⟨[(0,.ref 0),(1,iI i),(2,iI j),(3,.fn v4.id v4.aV),(8,iI f)],[],[(0,(bc o))],[0,1000000,0]⟩
abbrev xk:Prop:=∀{f:Int} {o:b5},q f o=some r→LP (Bm M g) (xO M g r) He (cat Tryz.f189 (pn 12)) l (QI i j v4 f o)
abbrev HZ:Prop:=∀{a:Int} {d:b5},w a d=some r→LP (Bm M g) (xO M g r) (IU M g r l) (cat Tryz.f189 (pn 804)) u (Uo i j v4 f a d)
variable{M g r x i j v4 f o a d t l u q w}{K:Kn}{n:Nat}
def Ng(x:am K)(s:xk M g r i j v4 l q)(v:HZ M g r i j v4 f l u w)(h:vD K n i j v4 f a d q w t=some r):K9 M g r (zq 3217::zq 1609::OZ M g r l u) (X8 i j v4 f a d t):=by
 unfold vD at h;obtain⟨b,h⟩|⟨b,h⟩:=ao h
 ·refine ai 34 b (GX 4 3 3 4 (bV [0,1,2,3,8,9] [] [0] ?_));obtain⟨e,h⟩:=aB h;obtain⟨o,h⟩:=aB h;obtain⟨c,h⟩:=aB h;obtain⟨p,h⟩:=aB h;exact ci 2 (nu 37 [.ref 0,iI a,.ref 0,iI a,iI (aa (a-1)),.ref 0,iI a,iI (aa (a-1)),.eptr 0 1 (((aa (a-1))).toNat) 0,iI (gD d ((aa (a-1)))),.ref 0,iI a,.eptr 0 1 (a.toNat) 0,iI (gD d a),.eptr 0 1 (a.toNat) 0,.eptr 0 1 (((aa (a-1))).toNat) 0]) [] [] [eD 0 ⟨3,1,lm (ak .i64) (List.set d a.toNat (gD d ((aa (a-1)))))⟩,eD 0 ⟨3,1,lm (ak .i64) (List.set (List.set d a.toNat (gD d ((aa (a-1))))) ((aa (a-1))).toNat (gD d a))⟩] (aE [.v 0 1,.v 0 1,.v 0 2,.v 0 2,.v 0 2,.v 0 1,.v 0 1,.v 0 1] (bE (cD 0 1 (ak .i64) (L:=d) e) (bE (bJ 3 0 (ak .i64) (ak .i64) (bB e).2 ap) (aE [.v 0 2,.v 0 2] (ax (fv (lo:=0) (k:=2) (di ⟨(by kernel_rfl),(dp (cD 0 1 (ak .i64) (L:=d) o) (by kernel_rfl))⟩ (di ⟨(by kernel_rfl),(dp (cD 0 1 (ak .i64) (L:=(List.set d a.toNat (gD d ((aa (a-1)))))) o) (by kernel_rfl))⟩ fG))) (bE (bJ 3 0 (ak .i64) (ak .i64) (bB c).2 ap) (bE (cD 0 1 (ak .i64) (L:=d) c) (ax (dq (m:=0) (dI 0 3 1 0 (ak .i64) (ak .i64) (gD d ((aa (a-1)))) (bB c).2 ap)) (ax (Dm (lo:=1) (cD 0 1 (ak .i64) (L:=(List.set d a.toNat (gD d ((aa (a-1)))))) p)) (ax (dq (m:=1) (dI 0 3 1 0 (ak .i64) (ak .i64) (gD d a) (bB p).2 ap)) cg)))))))))) (ah 2 (bu (v h)))
 ·exact ai 34 b (ah 7 (bu (s h)))
def afy(v:am K)(s:xk M g r i j v4 l q)(t:HZ M g r i j v4 f l u w)(h:D9 K n i j v4 f q w a d=some r):K9 M g r (zq 804::OZ M g r l u) (Uo i j v4 f a d):=by
 unfold D9 at h;refine cj 4 5 3 2 (bV [0,1,2,3,8,9] [] [0] ?_);obtain⟨c,h⟩|⟨c,h⟩:=ao h
 ·obtain⟨m,h⟩:=aB h;obtain⟨o,h⟩:=aB h;obtain⟨k,p,h⟩:=aw h;exact ci 0 (nu 18 [iI a,iI i,.bool (decide (a>i)),.bool true,.fn v4.id v4.aV,.ref 0,iI a,.eptr 0 1 (a.toNat) 0,iI (gD d a),.ref 0,iI a,iI (aa (a-1)),.eptr 0 1 (((aa (a-1))).toNat) 0,iI (gD d ((aa (a-1)))),iI k,.bool (decide (k<0)),.bool (decide (k<0))]) [] [] [] (aE (vz 3) (ax (iB 0 21 (e:=(decide (a>i))) (b:=true) c) (aE (vz 3) (bE (cD 0 1 (ak .i64) (L:=d) m) (bE (bJ 3 0 (ak .i64) (ak .i64) (bB m).2 ap) (aE (vz 3) (bE (cD 0 1 (ak .i64) (L:=d) o) (bE (bJ 3 0 (ak .i64) (ak .i64) (bB o).2 ap) (ax (cR 0 1 32 (v.ta p).2 (v.ta p).1) (aE (vz 2) cg)))))))))) (ah 0 (Ng v s t h))
 ·exact ci 0 (nu 18 [iI a,iI i,.bool (decide (a>i)),.bool false,bb,bb,bb,bb,bb,bb,bb,bb,bb,bb,bb,bb,.bool false]) [] [] [] (aE (vz 3) (ax (iB 0 21 (e:=(decide (a>i))) (b:=false) c) (ax (bO 0 1) (ax (bO 0 1) (ax (bO 0 1) (ax (bO 0 1) (ax (bO 0 1) (ax (bO 0 1) (ax (bO 0 1) (ax (bO 0 1) (ax (bO 0 1) (ax (bO 0 1) (ax (bO 0 1) (ax (bO 0 1) (aE [.v 0 1] cg))))))))))))))) (ah 0 (Ng v s t h))
def aht(b:am K)(a:xk M g r i j v4 l q)(m:Nat):HZ M g r i j v4 f l m (wV K n i j v4 f q m):=by
 induction m with
 | zero=>exact fun h=>nomatch h
 | succ m c=>exact fun h=>bq (afy b a c h)
def ahU(c:am K)(b:xk M g r i j v4 l q)(h:wT K n i j v4 q f o=some r):K9 M g r (zq 12::WK M g r l) (QI i j v4 f o):=by
 unfold wT at h;refine av 5 3 3 ?_;obtain⟨a,h⟩|⟨a,h⟩:=ao h
 ·exact ai 14 a (ah 7 (cf (p:=pn 402) n (aht c b n h)))
 ·refine ai 14 a (bW (ks':=[]) 5 (pF ?_));cases h;exact qW
def agp(a:am K)(m:Nat):xk M g r i j v4 m (sd K n i j v4 m):=by
 induction m with
 | zero=>exact fun h=>nomatch h
 | succ m b=>exact fun h=>bq (ahU a b h)
def Nd(a:am K)(h:uN K n x i j v4=some r):wj aT 189 [.ref 0,iI i,iI j,.fn v4.id v4.aV] 0 (bc x) (fun v s=>v=pr r∧look 0 s.r=some (bc r)):=by
 refine Bo (c:=cat Tryz.f189 (pn 1)) Tryz.func189 (by kernel_rfl) _ Tryz.ntmps189 (il (by kernel_rfl)) fun M g=>(bn ⟨[(0,.ref 0),(1,iI i),(2,iI j),(3,.fn v4.id v4.aV)],[],[(0,(bc x))],[0,1000000]⟩ ?_);unfold uN at h;exact ah 3 (cf (p:=pn 6) n (agp a n h))
end
section
variable[GS](M:Nat→Prop)(a:az)(r t:b5)(e:Int)(b:Fv)(v5 v6:Int)(j f:b5)(d:Int)(k g l:Nat)(o:Int→Int→b5→Option b5)(i:Int→Option b5)(q:Option b5)
abbrev rJ:Cx:=⟨aT,63,M,a⟩
abbrev qZ:=bodyPost aT Tryz.f182 (bP M a (fun v s=>v=pr r∧look 0 s.r=some (bc r)))
abbrev Hb(b:ck)(s:AS):=VE (rJ M a) (qZ M a r) b .normal s
abbrev qL(n:Nat):aq:=.c (cat Tryz.f182 (pn n))
abbrev FW:ck:=[.b 2]
abbrev P1:ck:=kl (rJ M a) (qZ M a r) FW (cat Tryz.f182 (pn 124)) g::FW
abbrev Jv:ck:=[.b 0,qL 15]
abbrev R3:ck:=kl (rJ M a) (qZ M a r) Jv (cat Tryz.f182 (pn 56)) k::Jv
abbrev HI:ck:=.b 4::qL 1995 :: .b 3::P1 M a r g
abbrev agK:ck:=kl (rJ M a) (qZ M a r) (HI M a r g) (cat Tryz.f182 (pn 7976)) l::(HI M a r g)
def PQ:AS:=⟨[(0,.ref 0),(1,iI e),(2,.fn b.id b.aV),(6,iI d),(7,iI 0),(8,iI (aa (2*d)))],[],[(0,(bc f))],[0,1000000,0]⟩
def Ua:AS:=⟨[(0,.ref 0),(1,iI e),(2,.fn b.id b.aV),(6,iI d)],[],[(0,(bc f))],[0,1000000,0]⟩
def QR:AS:=⟨[(0,.ref 0),(1,iI e),(2,.fn b.id b.aV),(6,iI 20),(7,iI v5),(8,iI v6)],[],[(0,(bc j))],[0,1000000,0]⟩
abbrev Vy:Prop:=∀{v5:Int} {v6:Int} {j:b5},o v5 v6 j=some r→LP (rJ M a) (qZ M a r) Jv (cat Tryz.f182 (pn 56)) k (QR e b v5 v6 j)
abbrev Ec:Prop:=∀{d:Int},i d=some r→LP (rJ M a) (qZ M a r) FW (cat Tryz.f182 (pn 124)) g (Ua e b f d)
abbrev LU:Prop:=q=some r→LP (rJ M a) (qZ M a r) (HI M a r g) (cat Tryz.f182 (pn 7976)) l (PQ e b f d)
variable{M a r t e b v5 v6 j f d k g l o i q}{K:Kn}{n:Nat}
def ZC(o:am K)(k:Ec M a r e b f g i)(m:LU M a r e b f d g l q)(h:G3 K n e b f d i q=some r):Hb M a r (qL 7976::agK M a r g l) (PQ e b f d):=by
 unfold G3 at h;refine av 5 3 3 ?_;obtain⟨c,h⟩|⟨c,h⟩:=ao h
 ·refine ai 35 c ?_;cases h
 ·refine ai 35 c (gV 11 3 10 ?_);obtain⟨j,h⟩|⟨j,h⟩:=ao h
  ·refine ai 54 j ?_;cases h
  ·exact ai 54 j (ah 4 (bu (k h)))
def ad5(j:am K)(c:Ec M a r e b f g i)(m:Nat):LU M a r e b f d g m (Fj K n e b f d i m):=by
 induction m with
 | zero=>exact fun h=>nomatch h
 | succ m k=>exact fun h=>bq (ZC j c k h)
def akM(k:am K)(j:Ec M a r e b f g i)(h:EB K n e b f i d=some r):Hb M a r (qL 124::P1 M a r g) (Ua e b f d):=by
 unfold EB at h;refine av 5 3 3 ?_;obtain⟨c,h⟩|⟨c,h⟩:=ao h
 ·exact ai 30 c (ah 7 (cf (p:=pn 3988) n (ad5 k j n h)))
 ·refine ai 30 c (bW (ks':=[]) 5 (pF ?_));cases h;exact qW
def akB(c:am K)(m:Nat):Ec M a r e b f m (CD K n e b f m):=by
 induction m with
 | zero=>exact fun h=>nomatch h
 | succ m d=>exact fun h=>bq (akM c d h)
def Zh(d:am K)(g:Vy M a r e b k o)(h:CS K n e b o v5 v6 j=some r):Hb M a r (qL 56::R3 M a r k) (QR e b v5 v6 j):=by
 unfold CS at h;refine av 5 3 3 ?_;obtain⟨c,h⟩|⟨c,h⟩:=ao h
 ·refine ai 13 c (bW (ks':=qL 452::qL 453 :: .b 1::R3 M a r k) 4 (aj 4 ?_));obtain⟨m,i,h⟩:=aw h;exact tx 0 0 (Nd d i) (ae (ah 4 (bu (g h))))
 ·refine ai 13 c (gV 2 3 6 (aj 4 ?_));obtain⟨f,l,h⟩:=aw h;exact tx 0 0 (Nd d l) (ae (ah 1 (cf (p:=pn 62) n (akB d n h))))
def ak4(c:am K)(m:Nat):Vy M a r e b m (EP K n e b m):=by
 induction m with
 | zero=>exact fun h=>nomatch h
 | succ m d=>exact fun h=>bq (Zh c d h)
def ab1(d:am K)(h:Bw K n t e b=some r):wj aT 182 [.ref 0,iI e,.fn b.id b.aV] 0 (bc t) (fun v s=>v=pr r∧look 0 s.r=some (bc r)):=by
 refine Bo (c:=cat Tryz.f182 (pn 1)) Tryz.func182 (by kernel_rfl) _ Tryz.ntmps182 (il (by kernel_rfl)) fun M a=>(bn ⟨[(0,.ref 0),(1,iI e),(2,.fn b.id b.aV)],[],[(0,(bc t))],[0,1000000]⟩ ?_);unfold Bw at h;exact ah 6 (cf (p:=pn 28) n (ak4 d n h))
end
section
variable[GS](M:Nat→Prop)(d:az)(r b:b5)(a:Fv)  
variable{M d r b a}{K:Kn}{n:Nat}
def QJ(f:am K)(h:mo K n b a=some r):wj aT 164 [.ref 0,.fn a.id a.aV] 0 (bc b) (fun v s=>v=pr r∧look 0 s.r=some (bc r)):=by
 refine Bo (c:=cat Tryz.f164 (pn 1)) Tryz.func164 (by kernel_rfl) _ Tryz.ntmps164 (il (by kernel_rfl)) fun M d=>(bn ⟨[(0,.ref 0),(1,.fn a.id a.aV)],[],[(0,(bc b))],[0,1000000]⟩ ?_);unfold mo at h;refine aj 2 (au (bF (ak .i64) b) (aW 4 1 ?_));obtain⟨g,e,h⟩:=aw h;refine tx 0 0 (ab1 f e) (ae (pF ?_));cases h;exact qW
end
section
variable[GS](M:Nat→Prop)(a:az)(r:Bool)(b:ag)(c:Bool)  
abbrev aah(n:Nat):aq:=.c (cat Tryz.f171 (pn n))
abbrev alk:Cx:=⟨aT,12,M,a⟩
abbrev Z6:=bodyPost aT Tryz.f171 (bP M a (fun v _=>v=.bool r))
abbrev aaa(b:ck)(s:AS):=VE (alk M a) (Z6 M a r) b .normal s
def acY:AS:=⟨[(2,.bool c)],[],[],[]⟩
variable{M a r b c}{K:Kn}{n:Nat}
def U7(b:am K)(h:y5 K n c=some r):aaa M a r [aah 7] (acY c):=by
 unfold y5 at h;refine aM 1 ?_;cases h;exact bD
def Gq(d:am K)(h:kD K n b=some r):aZ aT 171 [.agg (aD b)] (fun v _=>v=.bool r):=by
 refine bK (cat Tryz.f171 (pn 1)) Tryz.func171 Tryz.ntmps171 fun M a=>(bn ⟨[(0,.agg (aD b))],[],[],[]⟩ ?_);unfold kD at h;refine av 6 7 3 (aj 4 ?_);obtain⟨c,h⟩|⟨c,h⟩:=ao h
 ·exact aF 6 c (ae (ah 0 (U7 d h)))
 ·exact aF 6 c (ae (ah 0 (U7 d h)))
end
section
variable[GS](M:Nat→Prop)(b:az)(r:Bool)(a:Int)  
variable{M b r a}{K:Kn}{n:Nat}
def Nn(c:am K)(h:tZ K n a=some r):aZ aT 183 [iI a] (fun v _=>v=.bool r):=by
 refine bK (cat Tryz.f183 (pn 1)) Tryz.func183 Tryz.ntmps183 fun M b=>(bn ⟨[(0,iI a)],[],[],[]⟩ ?_);unfold tZ at h;refine aM 5 ?_;cases h;exact bD
end
section
variable[GS](M:Nat→Prop)(c:az)(r:Int)(a b:Int)  
variable{M c r a b}{K:Kn}{n:Nat}
def T2(j:am K)(h:vQ K n a b=some r):aZ aT 166 [iI a,iI b] (fun v _=>v=iI r):=by
 refine bK (cat Tryz.f166 (pn 1)) Tryz.func166 Tryz.ntmps166 fun M c=>(bn ⟨[(0,iI a),(1,iI b)],[],[],[]⟩ ?_);unfold vQ at h;refine av 6 7 3 (aj 1 ?_);obtain⟨m,k,h⟩:=aw h;refine aR (Nn j k) (ae (av 2 3 1 (aj 1 ?_)));obtain⟨v4,l,h⟩:=aw h;refine aR (Nn j l) (ae (av 5 3 3 ?_));obtain⟨d,h⟩|⟨d,h⟩:=ao h
 ·refine ai 11 d (av 9 5 4 ?_);obtain⟨e,h⟩|⟨e,h⟩:=ao h
  ·refine ai 12 e (aM 6 ?_);cases h;exact bD
  ·refine ai 12 e (aM 6 ?_);cases h;exact bD
 ·refine ai 11 d (gY 5 3 5 ?_);obtain⟨f,h⟩|⟨f,h⟩:=ao h
  ·refine ai 13 f (aM 5 ?_);cases h;exact bD
  ·refine ai 13 f (gY 5 3 5 ?_);obtain⟨g,h⟩|⟨g,h⟩:=ao h
   ·refine ai 16 g (aM 5 ?_);cases h;exact bD
   ·refine ai 16 g (gY 5 3 5 ?_);obtain⟨i,h⟩|⟨i,h⟩:=ao h
    ·refine ai 19 i (aM 5 ?_);cases h;exact bD
    ·refine ai 19 i (aM 5 ?_);cases h;exact bD
end
section
variable[GS](M:Nat→Prop)(d:az)(r:Int)(b c:Int)(a:dn)  
variable{M d r b c a}{K:Kn}{n:Nat}
def agI(i:am K)(h:wF K n b c a=some r):aZ aT 172 [iI b,iI c,.cptr ([.sl (lm aP a)])] (fun v _=>v=iI r):=by
 refine bK (cat Tryz.f172 (pn 1)) Tryz.func172 Tryz.ntmps172 fun M d=>(bn ⟨[(0,iI b),(1,iI c),(2,.cptr ([.sl (lm aP a)]))],[],[],[]⟩ ?_);unfold wF at h;refine av 6 7 3 (bV [0,1,2] [] [] ?_);obtain⟨e,h⟩:=aB h;obtain⟨f,h⟩:=aB h;obtain⟨v4,g,h⟩:=aw h;refine ci 1 (nu 6 [.sl (lm aP a),iI b,.cptr (aD (gD a b)),.cptr (List.drop 2 (aD (gD a b))),.cptr (List.drop 48 (List.drop 2 (aD (gD a b)))),iI (((gD a b).Style).Order),.sl (lm aP a),iI c,.cptr (aD (gD a c)),.cptr (List.drop 2 (aD (gD a c))),.cptr (List.drop 48 (List.drop 2 (aD (gD a c)))),iI (((gD a c).Style).Order),iI v4]) [] [] [cF aT 19 Tryz.f172 (pn 6) 13] (aE (vz 2) (bE (bX aP aD e (gB) (eE)) (aE (vz 5) (bE (bX aP aD f (gB) (eE)) (aE (vz 3) (ax (cR 0 1 18 (T2 i g)) (ax (cE 0) cg))))))) (aM 1 ?_);cases h;exact bD
end
section
variable[GS](M:Nat→Prop)(b:az)(r:b5)(a:dn)(v6:Int)(d f:b5)(c:Nat)(e:Int→b5→Option b5)
abbrev Ll:Cx:=⟨aT,24,M,b⟩
abbrev K6:=bodyPost aT Tryz.f146 (bP M b (fun v s=>v=.ref 18∧look 18 s.r=some (bc r)))
abbrev N0(a:ck)(s:AS):=VE (Ll M b) (K6 M b r) a .normal s
abbrev FR(n:Nat):aq:=.c (cat Tryz.f146 (pn n))
abbrev IA:ck:=[.b 0,FR 15]
abbrev N8:ck:=kl (Ll M b) (K6 M b r) IA (cat Tryz.f146 (pn 116)) c::IA
def aa2:AS:=⟨[(1,.ptr 1 0),(3,.ref 18),(6,.sl (lm aP a)),(7,iI (a.length:Int)),(8,iI v6)],[(1,[.sl (lm aP a)])],[(18,(bc f))],[1,18]⟩
def Qd:AS:=⟨[(1,.ptr 1 0),(3,.ref 18),(6,.sl (lm aP a)),(7,iI (a.length:Int)),(8,iI v6)],[(1,[.sl (lm aP a)])],[(18,(bc d))],[1,18]⟩
abbrev KX:Prop:=∀{v6:Int} {d:b5},e v6 d=some r→LP (Ll M b) (K6 M b r) IA (cat Tryz.f146 (pn 116)) c (Qd a v6 d)
variable{M b r a v6 d f c e}{K:Kn}{n:Nat}
def SX(g:am K)(d:KX M b r a c e)(h:AM K n a v6 e f=some r):N0 M b r (.b 1::FR 935::N8 M b r c) (aa2 a v6 f):=by
 unfold AM at h;exact ah 2 (bu (d h))
def Zc(j:am K)(i:KX M b r a c e)(h:EG K n a e v6 d=some r):N0 M b r (FR 116::N8 M b r c) (Qd a v6 d):=by
 unfold EG at h;refine av 6 7 3 ?_;obtain⟨f,h⟩|⟨f,h⟩:=ao h
 ·refine ai 9 f (cX 8 9 1 3 5 (aj 1 ?_));obtain⟨k,h⟩:=aB h;refine au (bX aP aD k (gB) (eE)) (ae (av 2 3 1 (aj 1 ?_)));obtain⟨q,l,h⟩:=aw h;refine aR (Gq j l) (ae ?_);obtain⟨g,h⟩|⟨g,h⟩:=ao h
  ·refine ai 14 g (br 2 1 (aj 3 ?_));obtain⟨m,h⟩:=aB h;exact au (cG 18 18 3 1 (ak .i64) (rfl) ap m) (ae (ah 0 (SX j i h)))
  ·exact ai 14 g (ah 2 (SX j i h))
 ·refine ai 9 f (gV 2 3 6 (aj 1 (mK 1 1 ([.sl (lm aP a)]) (rZ 172 #[(.tmp 1)] [.cptr ([.sl (lm aP a)])] ?_))));obtain⟨p,o,h⟩:=aw h;refine tx 18 0 (QJ j o) (ae (aM 3 ?_));cases h;exact eX
def aa4(c:am K)(m:Nat):KX M b r a m (AQ K n a m):=by
 induction m with
 | zero=>exact fun h=>nomatch h
 | succ m d=>exact fun h=>bq (Zc c d h)
def aaU(c:am K)(h:uB K n a=some r):aZ aT 146 [.sl (lm aP a)] (fun v s=>v=.ref 18∧look 18 s.r=some (bc r)):=by
 refine bK (cat Tryz.f146 (pn 1)) Tryz.func146 Tryz.ntmps146 fun M b=>(bn ⟨[(0,.sl (lm aP a))],[],[],[]⟩ ?_);unfold uB at h;exact cj 28 29 15 6 (aj 1 (au (bF aP a) (ae (ic 2 0 1 (bV [1,3,6,7,8] [1] [] (fQ 18 3 3 1 (ah 0 (cf (p:=pn 58) n (aa4 c n h)))))))))
end
section
variable[GS](M:Nat→Prop)(a:az)(r:dn)(b:ag)(c:b5)(d:Int)(v4:dn)(e:Nat)(f:Int→dn→Option dn)
abbrev F2:Cx:=⟨aT,24,M,a⟩
abbrev I4:=bodyPost aT Tryz.f102 (bP M a (fun v s=>v=.ref 21∧look 21 s.r=some (bk r)))
abbrev akE(b:ck)(s:AS):=VE (F2 M a) (I4 M a r) b .normal s
abbrev RI(n:Nat):aq:=.c (cat Tryz.f102 (pn n))
abbrev J0:ck:=[.b 0,RI 15]
abbrev ala:ck:=kl (F2 M a) (I4 M a r) J0 (cat Tryz.f102 (pn 116)) e::J0
def WO:AS:=⟨[(1,.ptr 1 0),(3,.ref 21),(8,.ref 1008),(9,iI (c.length:Int)),(10,iI d)],[(1,aD b)],[(21,(bk v4)),(1008,(bc c))],[1,21,1008]⟩
abbrev Ph:Prop:=∀{d:Int} {v4:dn},f d v4=some r→LP (F2 M a) (I4 M a r) J0 (cat Tryz.f102 (pn 116)) e (WO b c d v4)
variable{M a r b c d v4 e f}{K:Kn}{n:Nat}
def Xq(m:am K)(l:Ph M a r b c e f)(h:En K n b c f d v4=some r):akE M a r (RI 116::ala M a r e) (WO b c d v4):=by
 unfold En at h;refine av 6 7 3 ?_;obtain⟨g,h⟩|⟨g,h⟩:=ao h
 ·refine ai 11 g (cX 8 9 1 3 5 (aj 0 ?_));obtain⟨i,h⟩:=aB h;refine au (cr 1008 1 (ak .i64) i) (au (bJ 3 0 (ak .i64) (ak .i64) (bB i).2 ap) (ae (aj 4 ?_)));obtain⟨j,h⟩:=aB h;refine au (bX aP aD j (gB) (eE)) (aW 6 1 (au (ii aP ([(gD b.Kids ((gD c d)))]:dn) (new:=[aD (gD b.Kids ((gD c d)))]) (by simp only[n5,u7,eE])) ?_));obtain⟨k,h⟩:=aB h;exact au (cG 21 21 48 59 aP (rfl) (gB) k) (ae (ah 2 (bu (l h))))
 ·refine ai 11 g (aM 8 ?_);cases h;exact eX
def acs(d:am K)(m:Nat):Ph M a r b c m (xg K n b c m):=by
 induction m with
 | zero=>exact fun h=>nomatch h
 | succ m e=>exact fun h=>bq (Xq d e h)
def Jf(d:am K)(h:lO K n b=some r):aZ aT 102 [.agg (aD b)] (fun v s=>v=.ref 21∧look 21 s.r=some (bk r)):=by
 refine bK (cat Tryz.f102 (pn 1)) Tryz.func102 Tryz.ntmps102 fun M a=>(bn ⟨[(0,.agg (aD b))],[],[],[]⟩ ?_);unfold lO at h;refine cj 28 29 15 6 (aj 2 ?_);obtain⟨c,e,h⟩:=aw h;exact fc 1008 (aaU d e) (fk 18) (au (bF (ak .i64) c) (ae (ic 2 0 1 (bV [1,3,8,9,10] [1] [1008] (fQ 21 3 48 59 (ah 0 (cf (p:=pn 58) n (acs d n h))))))))
end
section
variable[GS](M:Nat→Prop)(b:az)(r:Int)(a:bh)  
variable{M b r a}{K:Kn}{n:Nat}
def n8(c:am K)(h:gK K n a=some r):aZ aT 126 [.agg (c8 a)] (fun v _=>v=iI r):=by
 refine bK (cat Tryz.f126 (pn 1)) Tryz.func126 Tryz.ntmps126 fun M b=>(bn ⟨[(0,.agg (c8 a))],[],[],[]⟩ ?_);unfold gK at h;refine aM 5 ?_;cases h;exact bD
end
section
variable[GS](M:Nat→Prop)(b:az)(r:Int)(a:ab)  
variable{M b r a}{K:Kn}{n:Nat}
def Ou(e:am K)(h:tD K n a=some r):aZ aT 127 [.agg (aC a)] (fun v _=>v=iI r):=by
 refine bK (cat Tryz.f127 (pn 1)) Tryz.func127 Tryz.ntmps127 fun M b=>(bn ⟨[(0,.agg (aC a))],[],[],[]⟩ ?_);unfold tD at h;refine av 13 7 5 ?_;obtain⟨c,h⟩|⟨c,h⟩:=ao h
 ·refine ai 4 c (aM 5 ?_);cases h;exact bD
 ·refine ai 4 c (gY 2 3 3 (aj 2 ?_));obtain⟨f,d,h⟩:=aw h;refine aR (n8 e d) (ae (aM 1 ?_));cases h;exact bD
end
section
variable[GS](M:Nat→Prop)(c:az)(r:Int)(a b:Int)  
variable{M c r a b}{K:Kn}{n:Nat}
def ng(d:am K)(h:jk K n a b=some r):aZ aT 104 [iI a,iI b] (fun v _=>v=iI r):=by
 refine bK (cat Tryz.f104 (pn 1)) Tryz.func104 Tryz.ntmps104 fun M c=>(bn ⟨[(0,iI a),(1,iI b)],[],[],[]⟩ ?_);unfold jk at h;refine aM 5 ?_;cases h;exact bD
end
section
variable[GS](M:Nat→Prop)(b:az)(r a:bG)  
variable{M b r a}{K:Kn}{n:Nat}
def QY(c:am K)(h:zg K n a=some r):aZ aT 159 [.agg (co a)] (fun v _=>v=.agg (co r)):=by
 refine bK (cat Tryz.f159 (pn 1)) Tryz.func159 Tryz.ntmps159 fun M b=>(bn ⟨[(0,.agg (co a))],[],[],[]⟩ ?_);unfold zg at h;refine av 6 7 3 (aj 2 ?_);obtain⟨j,d,h⟩:=aw h;refine aR (ng c d) (ae (av 2 3 1 (aj 2 ?_)));obtain⟨k,e,h⟩:=aw h;refine aR (ng c e) (ae (av 2 3 1 (aj 2 ?_)));obtain⟨v4,f,h⟩:=aw h;refine aR (ng c f) (ae (av 2 3 1 (aj 2 ?_)));obtain⟨v5,g,h⟩:=aw h;refine aR (ng c g) (ae (av 2 3 1 (bV [1,2] [1,2] [] ?_)));obtain⟨v6,i,h⟩:=aw h;refine ci 1 (nu 19 [.ptr 1 4,iI a.Max,iI v6,.ptr 1 3,iI v5,iI (max v6 v5),.ptr 1 4]) [] [] [cF aT 27 Tryz.f159 (pn 126) 7] (aE (vz 2) (ax (cR 0 1 21 (ng c i)) (aE (vz 4) (ax (cE 0) cg)))) (aM 3 ?_);cases h;exact bD
end
section
variable[GS](M:Nat→Prop)(c:az)(r:Int)(a:bG)(b:Int)  
variable{M c r a b}{K:Kn}{n:Nat}
def Kl(d:am K)(h:qh K n a b=some r):aZ aT 160 [.agg (co a),iI b] (fun v _=>v=iI r):=by
 refine bK (cat Tryz.f160 (pn 1)) Tryz.func160 Tryz.ntmps160 fun M c=>(bn ⟨[(0,.agg (co a)),(1,iI b)],[],[],[]⟩ ?_);unfold qh at h;refine aM 5 ?_;cases h;exact bD
end
section
variable[GS](M:Nat→Prop)(b:az)(r:Int)(a:bG)  
variable{M b r a}{K:Kn}{n:Nat}
def Kg(c:am K)(h:vb K n a=some r):aZ aT 128 [.agg (co a)] (fun v _=>v=iI r):=by
 refine bK (cat Tryz.f128 (pn 1)) Tryz.func128 Tryz.ntmps128 fun M b=>(bn ⟨[(0,.agg (co a))],[],[],[]⟩ ?_);unfold vb at h;refine av 6 7 3 (aj 1 ?_);obtain⟨f,d,h⟩:=aw h;refine aR (QY c d) (ae (av 2 3 1 (aj 3 ?_)));obtain⟨g,e,h⟩:=aw h;refine aR (Kl c e) (ae (aM 1 ?_));cases h;exact bD
end
section
variable[GS](M:Nat→Prop)(d:az)(r:Int)(b c:Int)(a:b5)  
variable{M d r b c a}{K:Kn}{n:Nat}
def ahr(i:am K)(h:Af K n b c a=some r):aZ aT 165 [iI b,iI c,.cptr ([.sl (lm (ak .i64) a)])] (fun v _=>v=iI r):=by
 refine bK (cat Tryz.f165 (pn 1)) Tryz.func165 Tryz.ntmps165 fun M d=>(bn ⟨[(0,iI b),(1,iI c),(2,.cptr ([.sl (lm (ak .i64) a)]))],[],[],[]⟩ ?_);unfold Af at h;refine av 6 7 3 (bV [0,1,2] [] [] ?_);obtain⟨e,h⟩:=aB h;obtain⟨f,h⟩:=aB h;obtain⟨v4,g,h⟩:=aw h;refine ci 1 (nu 6 [.sl (lm (ak .i64) a),iI c,.cptr ([iI (gD a c)]),iI (gD a c),.sl (lm (ak .i64) a),iI b,.cptr ([iI (gD a b)]),iI (gD a b),iI v4]) [] [] [cF aT 15 Tryz.f165 (pn 6) 9] (aE (vz 2) (bE (bX (ak .i64) (ak .i64) e ap ap) (aE (vz 3) (bE (bX (ak .i64) (ak .i64) f ap ap) (aE [.v 0 1] (ax (cR 0 1 14 (T2 i g)) (ax (cE 0) cg))))))) (aM 1 ?_);cases h;exact bD
end
section
variable[GS](M:Nat→Prop)(d:az)(r:b5)(D:Int)(b:b5)(c:Int)(v4 v5 v6:b5)(g w i a:Int)(l f j o:b5)(u q:Int)(t:b5)(y x z:Nat)(A:Int→Int→Option b5)(B:Int→Int→b5→b5→b5→Option b5)(C:b5→Int→Int→b5→Option b5)
abbrev sq:Cx:=⟨aT,96,M,d⟩
abbrev qd:=bodyPost aT Tryz.f136 (bP M d (fun v s=>v=.ref 21∧look 21 s.r=some (bc r)))
abbrev JG(a:ck)(s:AS):=VE (sq M d) (qd M d r) a .normal s
abbrev jg(n:Nat):aq:=.c (cat Tryz.f136 (pn n))
abbrev JB:ck:=[.b 4,jg 8191]
abbrev ai7:ck:=kl (sq M d) (qd M d r) JB (cat Tryz.f136 (pn 65524)) z::JB
abbrev FK:ck:=[.b 2,jg 2047]
abbrev Qr:ck:=kl (sq M d) (qd M d r) FK (cat Tryz.f136 (pn 16372)) x::FK
abbrev Iu:ck:=[.b 0,jg 255]
abbrev Zn:ck:=kl (sq M d) (qd M d r) Iu (cat Tryz.f136 (pn 2036)) y::Iu
def Ml:AS:=⟨[(5,.ref 21),(82,.sl (lm (ak .i64) o)),(83,iI u),(84,iI q)],[],[(21,(bc t))],[21]⟩
def Tm:AS:=⟨[(0,iI c),(5,.ref 21),(6,.ptr 6 0),(7,.ref 27),(8,iI g),(11,iI i),(43,.sl (lm (ak .i64) b)),(44,iI (b.length:Int)),(45,iI a)],[(6,[.ref 24])],[(21,(bc l)),(24,(bc f)),(27,(bc j))],[6,21,24,27]⟩
def M7:AS:=⟨[(0,iI c),(1,.sl (lm (ak .i64) b)),(5,.ref 21),(6,.ptr 6 0),(7,.ref 27),(8,iI g),(28,.sl (lm (ak .i64) b)),(29,iI (b.length:Int)),(30,iI w)],[(6,[.ref 24])],[(21,(bc v4)),(24,(bc v5)),(27,(bc v6))],[6,21,24,27]⟩
abbrev MC:Prop:=∀{g:Int} {w:Int},A g w=some r→LP (sq M d) (qd M d r) Iu (cat Tryz.f136 (pn 2036)) y (M7 b c v4 v5 v6 g w)
abbrev PY:Prop:=∀{i:Int} {a:Int} {l:b5} {f:b5} {j:b5},B i a l f j=some r→LP (sq M d) (qd M d r) FK (cat Tryz.f136 (pn 16372)) x (Tm b c g i a l f j)
abbrev Qm:Prop:=∀{o:b5} {u:Int} {q:Int} {t:b5},C o u q t=some r→LP (sq M d) (qd M d r) JB (cat Tryz.f136 (pn 65524)) z (Ml o u q t)
variable{M d r D b c v4 v5 v6 g w i a l f j o u q t y x z A B C}{K:Kn}{n:Nat}
def YI(g:am K)(f:Qm M d r z C)(h:Br K n C o u q t=some r):JG M d r (jg 65524::ai7 M d r z) (Ml o u q t):=by
 unfold Br at h;refine av 6 7 3 ?_;obtain⟨a,h⟩|⟨a,h⟩:=ao h
 ·refine ai 85 a (cX 8 9 5 3 5 (aj 0 ?_));obtain⟨e,h⟩:=aB h;refine au (bX (ak .i64) (ak .i64) e ap ap) (ae (aj 2 ?_));obtain⟨b,h⟩:=aB h;refine au (cr 21 1 (ak .i64) b) (au (bJ 3 0 (ak .i64) (ak .i64) (bB b).2 ap) (aW 5 1 ?_));obtain⟨c,h⟩:=aB h;exact au (cr 21 1 (ak .i64) c) (au (dI 21 3 1 0 (ak .i64) (ak .i64) (aa ((gD t ((gD o q)))+1)) (bB c).2 ap) (ae (ah 2 (bu (f h)))))
 ·refine ai 85 a (aM 8 ?_);cases h;exact eX
def afM(a:am K)(m:Nat):Qm M d r m (sH K n m):=by
 induction m with
 | zero=>exact fun h=>nomatch h
 | succ m b=>exact fun h=>bq (YI a b h)
def agh(H:am K)(I:PY M d r b c g x B)(h:C0 K n b c g B i a l f j=some r):JG M d r (jg 16372::Qr M d r x) (Tm b c g i a l f j):=by
 unfold C0 at h;refine av 6 7 3 ?_;obtain⟨q,h⟩|⟨q,h⟩:=ao h
 ·refine ai 46 q (cX 8 9 3 3 5 (aj 1 ?_));obtain⟨z,h⟩:=aB h;refine au (bX (ak .i64) (ak .i64) z ap ap) (ae (av 2 3 1 (aj 2 ?_)));obtain⟨o,A,h⟩:=aw h;refine aR (ng H A) (ae (av 2 3 1 (bV [0,5,6,7,8,11,12,14,43,44,45] [6] [21,24,27] ?_)));obtain⟨C,h⟩:=aB h;obtain⟨s,h⟩:=aB h;obtain⟨t,h⟩:=aB h;obtain⟨u,h⟩:=aB h;obtain⟨v,h⟩:=aB h;refine ci 3 (nu 54 [.ref 21,iI a,.ref 24,iI a,.ref 27,iI a,iI (aa (c*o)),iI g,iI (aa (Int.tdiv (aa (c*o)) g)),iI (aa (c*o)),iI g,iI (Int.tmod (aa (c*o)) g),iI a,.eptr 21 1 (a.toNat) 0,.eptr 24 1 (a.toNat) 0,.eptr 27 1 (a.toNat) 0]) [] [] [eD 21 ⟨3,1,lm (ak .i64) (List.set l a.toNat (aa (Int.tdiv (aa (c*o)) g)))⟩,eD 24 ⟨3,1,lm (ak .i64) (List.set f a.toNat (Int.tmod (aa (c*o)) g))⟩,eD 27 ⟨3,1,lm (ak .i64) (List.set j a.toNat a)⟩] (aE [.v 0 1,.v 0 1,.v 0 2,.v 0 2,.v 0 3,.v 0 3,.v 0 1,.v 0 1] (bE (akV .i64 (aa (c*o)) C) (aE [.v 0 2,.v 0 2] (ax (fv (lo:=0) (k:=2) (di ⟨(by kernel_rfl),(dp (Gm .i64 (aa (c*o)) s) (by kernel_rfl))⟩ (di ⟨(by kernel_rfl),(dp (Gm .i64 (aa (c*o)) s) (by kernel_rfl))⟩ fG))) (aE [.v 0 3] (bE (cD 21 1 (ak .i64) (L:=l) t) (ax (dq (m:=0) (dI 21 3 1 0 (ak .i64) (ak .i64) (aa (Int.tdiv (aa (c*o)) g)) (bB t).2 ap)) (ax (Dm (lo:=1) (cD 24 1 (ak .i64) (L:=f) u)) (ax (dq (m:=1) (dI 24 3 1 0 (ak .i64) (ak .i64) (Int.tmod (aa (c*o)) g) (bB u).2 ap)) (ax (Dm (lo:=2) (cD 27 1 (ak .i64) (L:=j) v)) (ax (dq (m:=2) (dI 27 3 1 0 (ak .i64) (ak .i64) a (bB v).2 ap)) cg))))))))))) ?_
  obtain⟨J,D,h⟩:=cc h;obtain⟨N,E,h⟩:=cc h;refine bC (ks':=jg 2095719 :: .b 3::jg 130983::Qr M d r x) 0 ⟨[(0,iI c),(5,.ref 21),(6,.ptr 6 0),(7,.ref 27),(8,iI g),(11,iI i),(12,iI a),(43,.sl (lm (ak .i64) b)),(44,iI (b.length:Int)),(45,iI a)],[(6,[.ref 24])],[(21,(bc J)),(24,(bc N)),(27,⟨3,1,lm (ak .i64) (List.set j a.toNat a)⟩)],[6,21,24,27]⟩ ?_ (by subst E;subst D;kernel_rfl);refine aj 3 ?_;obtain⟨w,h⟩:=aB h;exact au (cr 21 1 (ak .i64) w) (au (bJ 3 0 (ak .i64) (ak .i64) (bB w).2 ap) (ae (ah 2 (bu (I h)))))
 ·refine ai 46 q (gV 2 3 6 (aj 1 (ny 24 (mK 6 6 ([.sl (lm (ak .i64) f)]) (rZ 165 #[(.tmp 6)] [.cptr ([.sl (lm (ak .i64) f)])] ?_)))));obtain⟨y,F,h⟩:=aw h;refine tx 27 0 (QJ H F) (ae (cj 4 5 3 2 (aj 2 (ny 27 ?_))));obtain⟨G,h⟩:=aB h;exact au (kS (ak .i64) y (0:Int) i 72 (.tmp 80) none (some (.tmp 81)) 82 (e:=3) (sz:=1) (by kernel_rfl) (by kernel_rfl) (by kernel_rfl) (by kernel_rfl) (by kernel_rfl) (by kernel_rfl) ap (fun k O=>by subst O;kernel_rfl) G) (au (bF (ak .i64) (List.drop ((0:Int)).toNat (List.take i.toNat y))) (ae (ah 1 (cf (p:=pn 32762) n (afM H n h)))))
def acI(a:am K)(m:Nat):PY M d r b c g m (vY K n b c g m):=by
 induction m with
 | zero=>exact fun h=>nomatch h
 | succ m e=>exact fun h=>bq (agh a e h)
def alj(k:am K)(j:MC M d r b c v4 v5 v6 y A)(h:B8 K n b c v4 v5 v6 A g w=some r):JG M d r (jg 2036::Zn M d r y) (M7 b c v4 v5 v6 g w):=by
 unfold B8 at h;refine av 6 7 3 ?_;obtain⟨a,h⟩|⟨a,h⟩:=ao h
 ·refine ai 31 a (cX 8 9 1 3 5 (aj 0 ?_));obtain⟨f,h⟩:=aB h;refine au (bX (ak .i64) (ak .i64) f ap ap) (ae (aj 2 ?_));obtain⟨l,i,h⟩:=aw h;exact aR (ng k i) (ae (ah 2 (bu (j h))))
 ·refine ai 31 a (gV 5 3 8 ?_);obtain⟨e,h⟩|⟨e,h⟩:=ao h
  ·refine ai 40 e (aM 5 ?_);cases h;exact eX
  ·exact ai 40 e (n9 12 13 7 6 (aj 1 (au (bF (ak .i64) b) (ae (ah 1 (cf (p:=pn 8186) n (acI k n h)))))))
def Xm(a:am K)(m:Nat):MC M d r b c v4 v5 v6 m (yZ K n b c v4 v5 v6 m):=by
 induction m with
 | zero=>exact fun h=>nomatch h
 | succ m e=>exact fun h=>bq (alj a e h)
def abj(a:am K)(h:xd K n D b=some r):aZ aT 136 [iI D,.sl (lm (ak .i64) b)] (fun v s=>v=.ref 21∧look 21 s.r=some (bc r)):=by
 refine bK (cat Tryz.f136 (pn 1)) Tryz.func136 Tryz.ntmps136 fun M d=>(bn ⟨[(0,iI D),(1,.sl (lm (ak .i64) b))],[],[],[]⟩ ?_);unfold xd at h;refine av 6 7 3 (aj 1 ?_);obtain⟨c,f,h⟩:=aw h;refine aR (ng a f) (ae (av 2 3 1 (aj 1 (au (bF (ak .i64) b) ?_))));obtain⟨g,h⟩:=aB h;refine pg (ak .i64) (0:Int) 72 (.tmp 20) (.tmp 20) 21 (e:=3) (sz:=1) (zc:=[iI 0]) (kd:=.i64) (kd':=.i64) g (ae ?_);obtain⟨v4,i,h⟩:=cc h;refine bC (ks':=[jg 30,jg 31]) 1 ⟨[(0,iI c),(1,.sl (lm (ak .i64) b)),(5,.ref 21)],[],[(21,(bc v4))],[21]⟩ ?_ (by subst i;kernel_rfl);refine aj 1 (au (bF (ak .i64) b) ?_);obtain⟨j,h⟩:=aB h;refine pg (ak .i64) (0:Int) 72 (.tmp 23) (.tmp 23) 24 (e:=3) (sz:=1) (zc:=[iI 0]) (kd:=.i64) (kd':=.i64) j (ae ?_);obtain⟨v5,k,h⟩:=cc h;refine bC (ks':=[jg 62,jg 63]) 1 ⟨[(0,iI c),(1,.sl (lm (ak .i64) b)),(5,.ref 21),(6,.ptr 6 0)],[(6,[.ref 24])],[(21,(bc v4)),(24,(bc v5))],[6,21,24]⟩ ?_ (by subst k;kernel_rfl)
 refine aj 1 (au (bF (ak .i64) b) ?_);obtain⟨l,h⟩:=aB h;refine pg (ak .i64) (0:Int) 72 (.tmp 26) (.tmp 26) 27 (e:=3) (sz:=1) (zc:=[iI 0]) (kd:=.i64) (kd':=.i64) l (ae ?_);obtain⟨v6,m,h⟩:=cc h;refine bC (ks':=[jg 508,jg 509,jg 255]) 4 ⟨[(0,iI c),(1,.sl (lm (ak .i64) b)),(5,.ref 21),(6,.ptr 6 0),(7,.ref 27),(8,iI 0)],[(6,[.ref 24])],[(21,(bc v4)),(24,(bc v5)),(27,(bc v6))],[6,21,24,27]⟩ ?_ (by subst m;kernel_rfl);exact aj 1 (au (bF (ak .i64) b) (ae (ah 1 (cf (p:=pn 1018) n (Xm a n h)))))
end
section
variable[GS](M:Nat→Prop)(g:az)(r:Bool×d6)(i:d6)(N l u w o:Int)(a q:b5)(y z:Int)(A B:b5)(C f b:Int)(d:b5)(e:Int)(k:d6)(t:Int)(D:Bool)(E:d6)(G I x:Nat)(H:Int→Int→Int→b5→b5→Option (Bool×d6))(J:Int→Int→b5→Option (Bool×d6))(F:Int→d6→Option (Bool×d6))
abbrev qG:Cx:=⟨aT,170,M,g⟩
abbrev qN:=bodyPost aT Tryz.f161 (bP M g (fun v s=>v=.bool r.1∧look 0 s.r=some (bt r.2)))
abbrev rd(a:ck)(s:AS):=VE (qG M g) (qN M g r) a .normal s
abbrev iY(n:Nat):aq:=.c (cat Tryz.f161 (pn n))
abbrev H5:ck:=[.b 4,iY 4095]
abbrev K0:ck:=kl (qG M g) (qN M g r) H5 (cat Tryz.f161 (pn 32756)) x::H5
abbrev KW:ck:=[.b 2,iY 2047]
abbrev NW:ck:=kl (qG M g) (qN M g r) KW (cat Tryz.f161 (pn 16372)) I::KW
abbrev FC:ck:=[.b 0,iY 31]
abbrev Fx:ck:=kl (qG M g) (qN M g r) FC (cat Tryz.f161 (pn 244)) G::FC
def Yd:AS:=⟨[(0,.ref 0),(2,iI l),(7,iI y),(8,iI z),(9,.ref 47),(10,.ref 52),(22,.ref 0),(23,iI (i.length:Int)),(24,iI o)],[],[(0,(bt i)),(47,(bc A)),(52,(bc B))],[0,47,52,1000000,0]⟩
def aiJ:AS:=⟨[(0,.ref 0),(13,iI f),(14,.ref 1075),(117,.ref 47),(118,iI (a.length:Int)),(119,iI e)],[],[(0,(bt E)),(47,(bc a)),(1075,(bc d))],[0,47,1075,1000000,0]⟩
def agr:AS:=⟨[(0,.ref 0),(13,iI f),(14,.ref 1075),(19,.eptr 0 9 (((gD a e)).toNat) 0),(20,iI t),(117,.ref 47),(118,iI (a.length:Int)),(119,iI e),(161,.bool D)],[],[(0,(bt k)),(47,(bc a)),(1075,(bc d))],[0,47,1075,1000000,0]⟩
def Vn:AS:=⟨[(0,.ref 0),(13,iI f),(14,.ref 1075),(117,.ref 47),(118,iI (a.length:Int)),(119,iI e)],[],[(0,(bt k)),(47,(bc a)),(1075,(bc d))],[0,47,1075,1000000,0]⟩
def M2:AS:=⟨[(0,.ref 0),(2,iI l),(9,.ref 47),(13,iI f),(14,.ref 1075),(76,.ref 47),(77,iI (a.length:Int)),(78,iI b)],[],[(0,(bt i)),(47,(bc a)),(1075,(bc d))],[0,47,1075,1000000,0]⟩
def ZD:AS:=⟨[(0,.ref 0),(2,iI l),(7,iI C),(9,.ref 47),(10,.ref 52)],[],[(0,(bt i)),(47,(bc a)),(52,(bc q))],[0,47,52,1000000,0]⟩
def Ra:AS:=⟨[(0,.ref 0),(2,iI l),(7,iI u),(8,iI w),(9,.ref 47),(10,.ref 52),(22,.ref 0),(23,iI (i.length:Int)),(24,iI o)],[],[(0,(bt i)),(47,(bc a)),(52,(bc q))],[0,47,52,1000000,0]⟩
abbrev F1:Prop:=∀{u:Int} {w:Int} {o:Int} {a:b5} {q:b5},H u w o a q=some r→LP (qG M g) (qN M g r) FC (cat Tryz.f161 (pn 244)) G (Ra i l u w o a q)
abbrev S3:Prop:=∀{f:Int} {b:Int} {d:b5},J f b d=some r→LP (qG M g) (qN M g r) KW (cat Tryz.f161 (pn 16372)) I (M2 i l a f b d)
abbrev EM:Prop:=∀{e:Int} {k:d6},F e k=some r→LP (qG M g) (qN M g r) H5 (cat Tryz.f161 (pn 32756)) x (Vn a f d e k)
variable{M g r i N l u w o a q y z A B C f b d e k t D E G I x H J F}{K:Kn}{n:Nat}
def Mr(b:am K)(a:F1 M g r i l G H)(h:Aq K n i l o H y z A B=some r):rd M g r (iY 1959::Fx M g r G) (Yd i l o y z A B):=by
 unfold Aq at h;exact ah 1 (bu (a h))
def VU(c:am K)(b:EM M g r a f d x F)(h:yT K n a f d e F E=some r):rd M g r (.b 5::iY 262055::K0 M g r x) (aiJ a f d e E):=by
 unfold yT at h;exact ah 2 (bu (b h))
def ss(l:am K)(i:EM M g r a f d x F)(h:nP K n a f d e k t F D=some r):rd M g r (iY 8385743 :: .b 5::iY 262055::K0 M g r x) (agr a f d e k t D):=by
 unfold nP at h;obtain⟨b,h⟩|⟨b,h⟩:=ao h
 ·refine ai 161 b (br 2 1 (aj 5 ?_));obtain⟨c,h⟩:=aB h;exact au (dI 0 220 9 7 bz bz ({ (gD k ((gD a e)))with size:=t }:bd) (il c) ap) (aW 8 2 (au (dI 0 220 9 8 bz bz (L:=(List.set k ((gD a e)).toNat ({ (gD k ((gD a e)))with size:=t }:bd))) (j:=((gD a e)).toNat) ({ (gD (List.set k ((gD a e)).toNat ({ (gD k ((gD a e)))with size:=t }:bd)) ((gD a e)))with fixed:=true }:bd) (ji (il c)) ap) (ae (ah 0 (VU l i h)))))
 ·exact ai 161 b (ah 2 (VU l i h))
def abJ(p:am K)(b:EM M g r a f d x F)(h:Cq K n a f d F e k=some r):rd M g r (iY 32756::K0 M g r x) (Vn a f d e k):=by
 unfold Cq at h;refine av 6 7 3 ?_;obtain⟨c,h⟩|⟨c,h⟩:=ao h
 ·refine ai 120 c (cX 8 9 5 3 5 (aj 1 ?_));obtain⟨q,h⟩:=aB h;refine au (cr 47 1 (ak .i64) q) (au (bJ 3 0 (ak .i64) (ak .i64) (bB q).2 ap) (ae (av 2 3 1 (aj 2 ?_))));obtain⟨s,h⟩:=aB h;refine au (cr 0 9 bz s) (ae (av 2 3 1 (bV [0,13,14,17,19,117,118,119] [] [0,47,1075] ?_)));obtain⟨u,h⟩:=aB h;obtain⟨t,z,h⟩:=aw h;refine ci 1 (nu 127 [.eptr 0 9 (((gD a e)).toNat) 0,.eptr 0 9 (((gD a e)).toNat) 0,.eptr 0 9 (((gD a e)).toNat) 0,.agg (co ((gD k ((gD a e))).Item)),.ref 1075,iI e,.eptr 1075 1 (e.toNat) 0,iI (gD d e),iI t]) [] [] [cF aT 170 Tryz.f161 (pn 4192870) 9] (aE (vz 3) (bE (bJ 176 0 bz bz (bB s).2 ap) (aE (vz 2) (bE (cD 1075 1 (ak .i64) (L:=d) u) (bE (bJ 3 0 (ak .i64) (ak .i64) (bB u).2 ap) (ax (cR 0 1 135 (Kl p z)) (ax (cE 0) cg))))))) (av 2 3 1 (aj 3 ?_));obtain⟨i,h⟩|⟨i,h⟩:=ao h
  ·exact aF 138 i (ae (ah 0 (ss p b h)))
  ·refine aF 138 i (aW 6 3 ?_);obtain⟨j,h⟩|⟨j,h⟩:=ao h
   ·refine aF 141 j (aW 9 3 ?_);obtain⟨v,h⟩:=aB h;refine au (cr 1075 1 (ak .i64) v) (au (bJ 3 0 (ak .i64) (ak .i64) (bB v).2 ap) (aW 15 4 ?_));obtain⟨l,h⟩|⟨l,h⟩:=ao h
    ·exact aF 150 l (ae (ah 0 (ss p b h)))
    ·refine aF 150 l (aW 18 3 ?_);obtain⟨m,h⟩|⟨m,h⟩:=ao h
     ·refine aF 153 m (aW 21 3 ?_);obtain⟨w,h⟩:=aB h;exact au (cr 1075 1 (ak .i64) w) (au (bJ 3 0 (ak .i64) (ak .i64) (bB w).2 ap) (ae (ah 0 (ss p b h))))
     ·exact aF 153 m (ae (ah 0 (ss p b h)))
   ·refine aF 141 j (aW 18 12 ?_);obtain⟨o,h⟩|⟨o,h⟩:=ao h
    ·refine aF 153 o (aW 21 3 ?_);obtain⟨y,h⟩:=aB h;exact au (cr 1075 1 (ak .i64) y) (au (bJ 3 0 (ak .i64) (ak .i64) (bB y).2 ap) (ae (ah 0 (ss p b h))))
    ·exact aF 153 o (ae (ah 0 (ss p b h)))
 ·refine ai 120 c (aM 8 ?_);cases h;exact eX
def ade(b:am K)(m:Nat):EM M g r a f d m (uH K n a f d m):=by
 induction m with
 | zero=>exact fun h=>nomatch h
 | succ m c=>exact fun h=>bq (abJ b c h)
def aiy(z:am K)(y:S3 M g r i l a I J)(h:Dv K n i l a J f b d=some r):rd M g r (iY 16372::NW M g r I) (M2 i l a f b d):=by
 unfold Dv at h;refine av 6 7 3 ?_;obtain⟨e,h⟩|⟨e,h⟩:=ao h
 ·refine ai 79 e (cX 8 9 3 3 5 (aj 1 ?_));obtain⟨q,h⟩:=aB h;refine au (cr 47 1 (ak .i64) q) (au (bJ 3 0 (ak .i64) (ak .i64) (bB q).2 ap) (ae (av 2 3 1 (bV [0,2,9,13,14,15,16,76,77,78] [] [0,47,1075] ?_))));obtain⟨s,h⟩:=aB h;obtain⟨u,h⟩:=aB h;obtain⟨j,h⟩:=aB h;refine ci 1 (nu 83 [.ref 1075,iI b,.ref 0,iI (gD a b),.eptr 0 9 (((gD a b)).toNat) 0,.eptr 0 9 (((gD a b)).toNat) 0,.eptr 0 9 (((gD a b)).toNat) 0,iI (((gD i ((gD a b))).Item).az),iI l,.ref 1075,iI b,.eptr 1075 1 (b.toNat) 0,iI (gD d b),iI (aa (l*(gD d b))),iI (aa ((((gD i ((gD a b))).Item).az)+(aa (l*(gD d b))))),.eptr 1075 1 (b.toNat) 0]) [] [] [eD 1075 ⟨3,1,lm (ak .i64) (List.set d b.toNat (aa ((((gD i ((gD a b))).Item).az)+(aa (l*(gD d b))))))⟩] (aE (vz 4) (bE (cD 0 9 bz (L:=i) s) (aE (vz 2) (bE (bJ 3 0 bz bz (bB s).2 ap) (aE (vz 3) (bE (cD 1075 1 (ak .i64) (L:=d) u) (bE (bJ 3 0 (ak .i64) (ak .i64) (bB j).2 ap) (aE (vz 2) (bE (cD 1075 1 (ak .i64) (L:=d) j) (ax (dq (m:=0) (dI 1075 3 1 0 (ak .i64) (ak .i64) (aa ((((gD i ((gD a b))).Item).az)+(aa (l*(gD d b))))) (bB j).2 ap)) cg)))))))))) ?_
  obtain⟨c,v,h⟩:=cc h;refine bC (ks':=iY 1047859 :: .b 3::iY 130983::NW M g r I) 0 ⟨[(0,.ref 0),(2,iI l),(9,.ref 47),(13,iI f),(14,.ref 1075),(15,iI b),(16,iI (gD a b)),(76,.ref 47),(77,iI (a.length:Int)),(78,iI b)],[],[(0,(bt i)),(47,(bc a)),(1075,(bc c))],[0,47,1075,1000000,0]⟩ ?_ (by subst v;kernel_rfl);obtain⟨t,h⟩:=aB h;obtain⟨w,h⟩:=aB h;obtain⟨o,x,h⟩:=aw h;obtain⟨k,h⟩:=aB h;exact ci 1 (nu 99 [iI f,.ref 0,iI (gD a b),.eptr 0 9 (((gD a b)).toNat) 0,.eptr 0 9 (((gD a b)).toNat) 0,.agg (co ((gD i ((gD a b))).Item)),.ref 1075,iI b,.eptr 1075 1 (b.toNat) 0,iI (gD c b),iI o,.ref 1075,iI b,.eptr 1075 1 (b.toNat) 0,iI (gD c b),iI (aa (o-(gD c b))),iI (aa (f+(aa (o-(gD c b)))))]) [] [] [cF aT 170 Tryz.f161 (pn 1047859) 17] (aE (vz 3) (bE (cD 0 9 bz (L:=i) t) (aE [.v 0 1] (bE (bJ 176 0 bz bz (bB t).2 ap) (aE (vz 2) (bE (cD 1075 1 (ak .i64) (L:=c) w) (bE (bJ 3 0 (ak .i64) (ak .i64) (bB k).2 ap) (ax (cR 0 1 109 (Kl z x)) (aE (vz 2) (bE (cD 1075 1 (ak .i64) (L:=c) k) (bE (bJ 3 0 (ak .i64) (ak .i64) (bB k).2 ap) (aE (vz 2) (ax (cE 0) cg))))))))))))) (ah 2 (bu (y h)))
 ·exact ai 79 e (yo 4 5 3 7 (aj 1 (au (bF (ak .i64) a) (ae (ah 1 (cf (p:=pn 16378) n (ade z n h)))))))
def agW(b:am K)(m:Nat):S3 M g r i l a m (xu K n i l a m):=by
 induction m with
 | zero=>exact fun h=>nomatch h
 | succ m c=>exact fun h=>bq (aiy b c h)
def Ps(c:am K)(h:vo K n i l a q C=some r):rd M g r [iY 255] (ZD i l a q C):=by
 unfold vo at h;refine av 6 7 3 (aj 2 (ny 52 ?_));obtain⟨d,b,h⟩:=aw h;exact fc 1075 (abj c b) (fk 21) (ae (cj 4 5 3 2 (aj 1 (au (bF (ak .i64) a) (ae (ah 1 (cf (p:=pn 8186) n (agW c n h))))))))
def aks(k:am K)(j:F1 M g r i l G H)(h:DT K n i l H u w o a q=some r):rd M g r (iY 244::Fx M g r G) (Ra i l u w o a q):=by
 unfold DT at h;refine av 6 7 3 ?_;obtain⟨b,h⟩|⟨b,h⟩:=ao h
 ·refine ai 25 b (cX 8 9 1 3 5 (aj 1 ?_));obtain⟨f,h⟩:=aB h;refine au (cr 0 9 bz f) (au (bJ 220 0 bz bz (bB f).2 ap) (ae (av 5 3 3 ?_)));obtain⟨c,h⟩|⟨c,h⟩:=ao h
  ·exact ai 30 c (ah 6 (Mr k j h))
  ·refine ai 30 c ?_;obtain⟨v,m,h⟩:=cc h;obtain⟨x,p,h⟩:=cc h;refine bC (ks':=iY 125342::iY 125343 :: .b 1::iY 1959::Fx M g r G) 7 ⟨[(0,.ref 0),(2,iI l),(7,iI v),(8,iI x),(9,.ref 47),(10,.ref 52),(11,iI o),(12,.ptr 12 0),(22,.ref 0),(23,iI (i.length:Int)),(24,iI o)],[(12,bz (gD i o))],[(0,(bt i)),(47,(bc a)),(52,(bc q))],[12,0,47,52,1000000,0]⟩ ?_ (by subst p;subst m;kernel_rfl);refine aj 3 ?_;obtain⟨s,h⟩:=aB h;refine au (cG 47 47 3 1 (ak .i64) (rfl) ap s) (ae (aj 4 ?_));obtain⟨t,h⟩:=aB h;exact au (cG 52 52 3 1 (ak .i64) (rfl) ap t) (ae (ah 1 (Mr k j h)))
 ·refine ai 25 b (yo 4 5 3 7 (aj 1 (au (bF (ak .i64) a) (ae ?_))));obtain⟨d,h⟩|⟨d,h⟩:=ao h
  ·refine ai 56 d (aM 5 ?_);cases h;exact eX
  ·refine ai 56 d (gY 13 7 7 ?_);obtain⟨e,h⟩|⟨e,h⟩:=ao h
   ·exact ai 62 e (ah 2 (Ps k h))
   ·exact ai 62 e (ah 2 (Ps k h))
def aeh(a:am K)(m:Nat):F1 M g r i l m (ze K n i l m):=by
 induction m with
 | zero=>exact fun h=>nomatch h
 | succ m b=>exact fun h=>bq (aks a b h)
def abP(a:am K)(h:vq K n i N l=some r):wj aT 161 [.ref 0,iI N,iI l] 0 (bt i) (fun v s=>v=.bool r.1∧look 0 s.r=some (bt r.2)):=by
 refine Bo (c:=cat Tryz.f161 (pn 1)) Tryz.func161 (by kernel_rfl) _ Tryz.ntmps161 (il (by kernel_rfl)) fun M g=>(bn ⟨[(0,.ref 0),(1,iI N),(2,iI l)],[],[(0,(bt i))],[0,1000000]⟩ ?_);unfold vq at h;exact cj 60 61 31 8 (aj 1 (au (bF bz i) (ae (ic 2 0 1 (bV [0,2,7,8,9,10,22,23,24] [] [0] (fQ 47 9 3 1 (fQ 52 10 3 1 (ah 0 (cf (p:=pn 122) n (aeh a n h))))))))))
end
section
variable[GS](M:Nat→Prop)(f:az)(r:b5)(k:d7)(G g z u:Int)(c:d6)(d a:Int)(b o x q:d6)(i:Bool×d6)(l:Int)(t:b5)(A w B C:Nat)(D:Int→Int→d6→Option b5)(y:Int→d6→Option b5)(E:d6→Option b5)(F:Int→b5→Option b5)
abbrev n7:Cx:=⟨aT,158,M,f⟩
abbrev mY:=bodyPost aT Tryz.f129 (bP M f (fun v s=>v=.ref 143∧look 143 s.r=some (bc r)))
abbrev qb(a:ck)(s:AS):=VE (n7 M f) (mY M f r) a .normal s
abbrev eC(n:Nat):aq:=.c (cat Tryz.f129 (pn n))
abbrev HJ:ck:=[.b 6,eC 4095]
abbrev ak9:ck:=kl (n7 M f) (mY M f r) HJ (cat Tryz.f129 (pn 32756)) C::HJ
abbrev Ip:ck:=[.b 4,eC 1023]
abbrev aiz:ck:=kl (n7 M f) (mY M f r) Ip (cat Tryz.f129 (pn 4088)) B::Ip
abbrev Iz:ck:=[.b 2,eC 511]
abbrev zT:ck:=kl (n7 M f) (mY M f r) Iz (cat Tryz.f129 (pn 4084)) w::Iz
abbrev LD:ck:=[.b 0,eC 63]
abbrev Nx:ck:=kl (n7 M f) (mY M f r) LD (cat Tryz.f129 (pn 500)) A::LD
def aca:AS:=⟨[(1,iI g),(5,.ref 20),(9,iI d),(48,iI (c.length:Int)),(49,iI a)],[],[(20,(bt x))],[20]⟩
def ae0:AS:=⟨[(1,iI g),(5,.ref 20),(9,iI d),(11,.eptr 20 9 (a.toNat) 0),(48,iI (c.length:Int)),(49,iI a)],[],[(20,(bt o))],[20]⟩
def Tu:AS:=⟨[(12,.ref 143),(144,.ref 20),(145,iI (i.2.length:Int)),(146,iI l)],[],[(20,(bt i.2)),(143,(bc t))],[20,143]⟩
def Qa:AS:=⟨[(1,iI g),(5,.ref 20),(9,iI d)],[],[(20,(bt q))],[20]⟩
def PE:AS:=⟨[(1,iI g),(5,.ref 20),(9,iI d),(48,iI (c.length:Int)),(49,iI a)],[],[(20,(bt b))],[20]⟩
def ag8:AS:=⟨[(1,iI g),(5,.ref 20),(9,iI d)],[],[(20,(bt c))],[20]⟩
def Rp:AS:=⟨[(1,iI g),(5,.ref 20),(6,iI z),(21,.sl (lm co k)),(22,iI (k.length:Int)),(23,iI u)],[],[(20,(bt c))],[20]⟩
abbrev V0:Prop:=∀{z:Int} {u:Int} {c:d6},D z u c=some r→LP (n7 M f) (mY M f r) LD (cat Tryz.f129 (pn 500)) A (Rp k g z u c)
abbrev Ej:Prop:=∀{a:Int} {b:d6},y a b=some r→LP (n7 M f) (mY M f r) Iz (cat Tryz.f129 (pn 4084)) w (PE g c d a b)
abbrev Qz:Prop:=∀{q:d6},E q=some r→LP (n7 M f) (mY M f r) Ip (cat Tryz.f129 (pn 4088)) B (Qa g d q)
abbrev P3:Prop:=∀{l:Int} {t:b5},F l t=some r→LP (n7 M f) (mY M f r) HJ (cat Tryz.f129 (pn 32756)) C (Tu i l t)
variable{M f r k G g z u c d a b o x q i l t A w B C D y E F}{K:Kn}{n:Nat}
def Mh(e:am K)(b:Ej M f r g c d w y)(h:yz K n g c d a y x=some r):qb M f r (.b 3::eC 32679::zT M f r w) (aca g c d a x):=by
 unfold yz at h;exact ah 2 (bu (b h))
def So(j:am K)(i:Ej M f r g c d w y)(h:wM K n g c d a y o=some r):qb M f r (eC 522855 :: .b 3::eC 32679::zT M f r w) (ae0 g c d a o):=by
 unfold wM at h;refine aj 4 ?_;obtain⟨b,h⟩:=aB h;refine au (bJ 4 8 bz bz (il b) ap) (aW 6 1 ?_);obtain⟨e,h⟩|⟨e,h⟩:=ao h
 ·exact aF 127 e (aW 14 8 (au (dI 20 220 9 8 bz bz ({ (gD o a)with fixed:=true }:bd) (il b) ap) (ae (ah 0 (Mh j i h)))))
 ·exact aF 127 e (aW 9 3 (au (bJ 3 5 bz bz (il b) ap) (aW 14 4 (au (dI 20 220 9 8 bz bz ({ (gD o a)with fixed:=(((gD o a).factor) == 0) }:bd) (il b) ap) (ae (ah 0 (Mh j i h)))))))
def ahR(e:am K)(d:P3 M f r i C F)(h:CK K n i F l t=some r):qb M f r (eC 32756::ak9 M f r C) (Tu i l t):=by
 unfold CK at h;refine av 6 7 3 ?_;obtain⟨a,h⟩|⟨a,h⟩:=ao h
 ·refine ai 147 a (cX 8 9 7 3 5 (aj 1 ?_));obtain⟨b,h⟩:=aB h;refine au (cr 20 9 bz b) (au (bJ 220 0 bz bz (bB b).2 ap) (ae (aj 4 ?_)));obtain⟨c,h⟩:=aB h;exact au (cr 143 1 (ak .i64) c) (au (dI 143 3 1 0 (ak .i64) (ak .i64) ((gD i.2 l).size) (bB c).2 ap) (ae (ah 2 (bu (d h)))))
 ·refine ai 147 a (aM 8 ?_);cases h;exact eX
def af7(a:am K)(m:Nat):P3 M f r i m (zP K n i m):=by
 induction m with
 | zero=>exact fun h=>nomatch h
 | succ m b=>exact fun h=>bq (ahR a b h)
def aeS(m:am K)(k:Qz M f r g d B E)(h:Dw K n g d E q=some r):qb M f r (eC 4088::aiz M f r B) (Qa g d q):=by
 unfold Dw at h;refine cj 4 5 3 2 (aj 3 ?_);obtain⟨i,b,h⟩:=aw h;refine tx 20 0 (abP m b) (ae ?_);obtain⟨a,h⟩|⟨a,h⟩:=ao h
 ·exact ai 140 a (ah 5 (bu (k h)))
 ·refine ai 140 a (gV 2 3 6 (aj 1 (au (bF bz i.2) ?_)));obtain⟨c,h⟩:=aB h;refine pg (ak .i64) (0:Int) 72 (.tmp 142) (.tmp 142) 143 (e:=3) (sz:=1) (zc:=[iI 0]) (kd:=.i64) (kd':=.i64) c (ae ?_);obtain⟨l,j,h⟩:=cc h;refine bC (ks':=[eC 8188,eC 8189,eC 4095]) 2 ⟨[(5,.ref 20),(12,.ref 143)],[],[(20,(bt i.2)),(143,(bc l))],[20,143]⟩ ?_ (by subst j;kernel_rfl);exact aj 1 (au (bF bz i.2) (ae (ah 1 (cf (p:=pn 16378) n (af7 m n h)))))
def ajB(a:am K)(m:Nat):Qz M f r g d m (sJ K n g d m):=by
 induction m with
 | zero=>exact fun h=>nomatch h
 | succ m b=>exact fun h=>bq (aeS a b h)
def Xl(u:am K)(t:Ej M f r g c d w y)(h:C7 K n g c d y a b=some r):qb M f r (eC 4084::zT M f r w) (PE g c d a b):=by
 unfold C7 at h;refine av 6 7 3 ?_;obtain⟨q,h⟩|⟨q,h⟩:=ao h
 ·refine ai 50 q (cX 18 19 3 3 7 (aj 2 ?_));obtain⟨e,h⟩:=aB h;refine au (cr 20 9 bz e) (ae (av 5 3 3 ?_));obtain⟨s,h⟩|⟨s,h⟩:=ao h
  ·refine ai 56 s (av 4 5 2 (bV [1,5,9,11,48,49] [] [20] (ci 2 (nu 57 [.eptr 20 9 (a.toNat) 0,.eptr 20 9 (a.toNat) 0,.eptr 20 9 (a.toNat) 0,.eptr 20 9 (a.toNat) 0,.eptr 20 9 (a.toNat) 0,.eptr 20 9 (a.toNat) 1,iI (((gD b a).Item).Grow),.eptr 20 9 (a.toNat) 0,.eptr 20 9 (a.toNat) 0,.eptr 20 9 (a.toNat) 0,.eptr 20 9 (a.toNat) 1,iI (((gD b a).Item).Grow),.eptr 20 9 (a.toNat) 0,.eptr 20 9 (a.toNat) 5,.eptr 20 9 (a.toNat) 0,.eptr 20 9 (a.toNat) 6]) [] [] [eD 20 ⟨220,9,lm bz (List.set b a.toNat ({ (gD b a)with factor:=((gD b a).Item).Grow }:bd))⟩,eD 20 ⟨220,9,lm bz (List.set (List.set b a.toNat ({ (gD b a)with factor:=((gD b a).Item).Grow }:bd)) a.toNat ({ (gD (List.set b a.toNat ({ (gD b a)with factor:=((gD b a).Item).Grow }:bd)) a)with weight:=((gD b a).Item).Grow }:bd))⟩] (aE [.v 0 1,.v 0 2,.v 0 1,.v 0 1,.v 0 1,.v 0 1] (bE (bJ 3 1 bz bz (bB e).2 ap) (aE [.v 0 2,.v 0 2,.v 0 2,.v 0 2] (bE (bJ 3 1 bz bz (bB e).2 ap) (aE [.v 0 2,.v 0 1] (ax (dq (m:=0) (dI 20 220 9 5 bz bz ({ (gD b a)with factor:=((gD b a).Item).Grow }:bd) (bB e).2 ap)) (aE [.v 1 2,.v 1 1] (ax (dq (m:=1) (dI 20 220 9 6 bz bz (L:=(List.set b a.toNat ({ (gD b a)with factor:=((gD b a).Item).Grow }:bd))) (j:=a.toNat) ({ (gD (List.set b a.toNat ({ (gD b a)with factor:=((gD b a).Item).Grow }:bd)) a)with weight:=((gD b a).Item).Grow }:bd) (ji (bB e).2) ap)) cg)))))))) ?_)))
   obtain⟨i,l,h⟩:=cc h;refine bC (ks':=eC 4182837::eC 522855 :: .b 3::eC 32679::zT M f r w) 0 ⟨[(1,iI g),(5,.ref 20),(9,iI d),(11,.eptr 20 9 (a.toNat) 0),(48,iI (c.length:Int)),(49,iI a)],[],[(20,(bt i))],[20]⟩ ?_ (by subst l;kernel_rfl);exact ci 1 (nu 73 [.eptr 20 9 (a.toNat) 0,.eptr 20 9 (a.toNat) 0,.eptr 20 9 (a.toNat) 0,.eptr 20 9 (a.toNat) 0,.eptr 20 9 (a.toNat) 0,iI (((gD i a).Item).az),.eptr 20 9 (a.toNat) 0,.eptr 20 9 (a.toNat) 0,.eptr 20 9 (a.toNat) 7,iI ((gD i a).size),.bool (decide ((((gD i a).Item).az)>((gD i a).size))),.eptr 20 9 (a.toNat) 0,.eptr 20 9 (a.toNat) 8]) [] [] [eD 20 ⟨220,9,lm bz (List.set i a.toNat ({ (gD i a)with fixed:=(decide ((((gD i a).Item).az)>((gD i a).size))) }:bd))⟩] (aE (vz 5) (bE (bJ 3 0 bz bz (L:=i) (j:=a.toNat) (by rw[←l];exact(ji (ji (bB e).2))) ap) (aE (vz 3) (bE (bJ 3 7 bz bz (L:=i) (j:=a.toNat) (by rw[←l];exact(ji (ji (bB e).2))) ap) (aE [.v 0 1,.v 0 2,.v 0 1] (ax (dq (m:=0) (dI 20 220 9 8 bz bz (L:=i) (j:=a.toNat) ({ (gD i a)with fixed:=(decide ((((gD i a).Item).az)>((gD i a).size))) }:bd) (by rw[←l];exact(ji (ji (bB e).2))) ap)) cg)))))) (ah 0 (So u t h))
  ·refine ai 56 s (av 6 7 2 (bV [1,5,9,11,48,49] [] [20] (ci 2 (nu 86 [.eptr 20 9 (a.toNat) 0,.eptr 20 9 (a.toNat) 0,.eptr 20 9 (a.toNat) 0,.eptr 20 9 (a.toNat) 0,.eptr 20 9 (a.toNat) 0,.eptr 20 9 (a.toNat) 2,iI (((gD b a).Item).Shrink),.eptr 20 9 (a.toNat) 0,.eptr 20 9 (a.toNat) 0,.eptr 20 9 (a.toNat) 0,.eptr 20 9 (a.toNat) 0,iI (((gD b a).Item).az),.eptr 20 9 (a.toNat) 0,.eptr 20 9 (a.toNat) 0,.eptr 20 9 (a.toNat) 0,.eptr 20 9 (a.toNat) 2,iI (((gD b a).Item).Shrink),iI (aa ((((gD b a).Item).az)*(((gD b a).Item).Shrink))),iI (aa (Int.tdiv (aa ((((gD b a).Item).az)*(((gD b a).Item).Shrink))) 1000)),.eptr 20 9 (a.toNat) 0,.eptr 20 9 (a.toNat) 5,.eptr 20 9 (a.toNat) 0,.eptr 20 9 (a.toNat) 6]) [] [] [eD 20 ⟨220,9,lm bz (List.set b a.toNat ({ (gD b a)with factor:=((gD b a).Item).Shrink }:bd))⟩,eD 20 ⟨220,9,lm bz (List.set (List.set b a.toNat ({ (gD b a)with factor:=((gD b a).Item).Shrink }:bd)) a.toNat ({ (gD (List.set b a.toNat ({ (gD b a)with factor:=((gD b a).Item).Shrink }:bd)) a)with weight:=(aa (Int.tdiv (aa ((((gD b a).Item).az)*(((gD b a).Item).Shrink))) 1000)) }:bd))⟩] (aE [.v 0 1,.v 0 2,.v 0 1,.v 0 1,.v 0 1,.v 0 1] (bE (bJ 3 2 bz bz (bB e).2 ap) (aE [.v 0 2,.v 0 2,.v 0 2,.v 0 2] (bE (bJ 3 0 bz bz (bB e).2 ap) (aE [.v 0 2,.v 0 2,.v 0 2,.v 0 2] (bE (bJ 3 2 bz bz (bB e).2 ap) (aE [.v 0 2,.v 0 2,.v 0 2,.v 0 1] (ax (dq (m:=0) (dI 20 220 9 5 bz bz ({ (gD b a)with factor:=((gD b a).Item).Shrink }:bd) (bB e).2 ap)) (aE [.v 1 2,.v 1 1] (ax (dq (m:=1) (dI 20 220 9 6 bz bz (L:=(List.set b a.toNat ({ (gD b a)with factor:=((gD b a).Item).Shrink }:bd))) (j:=a.toNat) ({ (gD (List.set b a.toNat ({ (gD b a)with factor:=((gD b a).Item).Shrink }:bd)) a)with weight:=(aa (Int.tdiv (aa ((((gD b a).Item).az)*(((gD b a).Item).Shrink))) 1000)) }:bd) (ji (bB e).2) ap)) cg)))))))))) ?_)))
   obtain⟨k,o,h⟩:=cc h;refine bC (ks':=eC 4182839::eC 522855 :: .b 3::eC 32679::zT M f r w) 0 ⟨[(1,iI g),(5,.ref 20),(9,iI d),(11,.eptr 20 9 (a.toNat) 0),(48,iI (c.length:Int)),(49,iI a)],[],[(20,(bt k))],[20]⟩ ?_ (by subst o;kernel_rfl);exact ci 1 (nu 109 [.eptr 20 9 (a.toNat) 0,.eptr 20 9 (a.toNat) 0,.eptr 20 9 (a.toNat) 0,.eptr 20 9 (a.toNat) 0,.eptr 20 9 (a.toNat) 0,iI (((gD k a).Item).az),.eptr 20 9 (a.toNat) 0,.eptr 20 9 (a.toNat) 0,.eptr 20 9 (a.toNat) 7,iI ((gD k a).size),.bool (decide ((((gD k a).Item).az)<((gD k a).size))),.eptr 20 9 (a.toNat) 0,.eptr 20 9 (a.toNat) 8]) [] [] [eD 20 ⟨220,9,lm bz (List.set k a.toNat ({ (gD k a)with fixed:=(decide ((((gD k a).Item).az)<((gD k a).size))) }:bd))⟩] (aE (vz 5) (bE (bJ 3 0 bz bz (L:=k) (j:=a.toNat) (by rw[←o];exact(ji (ji (bB e).2))) ap) (aE (vz 3) (bE (bJ 3 7 bz bz (L:=k) (j:=a.toNat) (by rw[←o];exact(ji (ji (bB e).2))) ap) (aE [.v 0 1,.v 0 2,.v 0 1] (ax (dq (m:=0) (dI 20 220 9 8 bz bz (L:=k) (j:=a.toNat) ({ (gD k a)with fixed:=(decide ((((gD k a).Item).az)<((gD k a).size))) }:bd) (by rw[←o];exact(ji (ji (bB e).2))) ap)) cg)))))) (ah 0 (So u t h))
 ·exact ai 50 q (ah 7 (cf (p:=pn 2044) n (ajB u n h)))
def abq(a:am K)(m:Nat):Ej M f r g c d m (xL K n g c d m):=by
 induction m with
 | zero=>exact fun h=>nomatch h
 | succ m b=>exact fun h=>bq (Xl a b h)
def Tz(a:am K)(h:vG K n g c d=some r):qb M f r [eC 255] (ag8 g c d):=by
 unfold vG at h;exact cj 4 5 3 2 (aj 1 (au (bF bz c) (ae (ah 1 (cf (p:=pn 2042) n (abq a n h))))))
def aaD(l:am K)(t:V0 M f r k g A D)(h:E7 K n k g D z u c=some r):qb M f r (eC 500::Nx M f r A) (Rp k g z u c):=by
 unfold E7 at h;refine av 6 7 3 ?_;obtain⟨d,h⟩|⟨d,h⟩:=ao h
 ·refine ai 24 d (cX 8 9 1 3 5 (aj 1 ?_));obtain⟨o,h⟩:=aB h;refine au (bX co co o (HB) ap) (ae (av 2 3 1 (bV [1,5,6,7,8,21,22,23] [8] [20] ?_)));obtain⟨a,p,h⟩:=aw h;obtain⟨b,q,h⟩:=aw h;obtain⟨i,h⟩:=aB h;refine ci 1 (nu 28 [.ref 20,iI u,.agg (co (gD k u)),.agg (co a),.agg (co (gD k u)),iI b,.agg (bz ({ i9 with Item:=a,size:=b }:bd)),.eptr 20 9 (u.toNat) 0]) [] [] [eD 20 ⟨220,9,lm bz (List.set c u.toNat ({ i9 with Item:=a,size:=b }:bd))⟩] (aE (vz 3) (ax (cR 0 1 31 (QY l p)) (aE [.v 0 1] (ax (cR 0 1 33 (Kg l q)) (aE [.v 0 1] (bE (cD 20 9 bz (L:=c) i) (ax (dq (m:=0) (dI 20 220 9 0 bz bz ({ i9 with Item:=a,size:=b }:bd) (bB i).2 ap)) cg))))))) ?_;obtain⟨v,s,h⟩:=cc h;refine bC (ks':=eC 32051 :: .b 1::eC 4007::Nx M f r A) 0 ⟨[(1,iI g),(5,.ref 20),(6,iI z),(7,iI u),(21,.sl (lm co k)),(22,iI (k.length:Int)),(23,iI u)],[],[(20,(bt v))],[20]⟩ ?_ (by subst s;kernel_rfl)
  refine aj 3 ?_;obtain⟨j,h⟩:=aB h;exact au (cr 20 9 bz j) (aW 5 1 (au (bJ 3 7 bz bz (bB j).2 ap) (ae (ah 2 (bu (t h))))))
 ·refine ai 24 d (gV 13 7 10 ?_);obtain⟨e,h⟩|⟨e,h⟩:=ao h
  ·exact ai 46 e (ah 2 (Tz l h))
  ·exact ai 46 e (ah 2 (Tz l h))
def Zp(a:am K)(m:Nat):V0 M f r k g m (Ag K n k g m):=by
 induction m with
 | zero=>exact fun h=>nomatch h
 | succ m b=>exact fun h=>bq (aaD a b h)
def NP(d:am K)(h:kh K n k G=some r):aZ aT 129 [.sl (lm co k),iI G] (fun v s=>v=.ref 143∧look 143 s.r=some (bc r)):=by
 refine bK (cat Tryz.f129 (pn 1)) Tryz.func129 Tryz.ntmps129 fun M f=>(bn ⟨[(0,.sl (lm co k)),(1,iI G)],[],[],[]⟩ ?_);unfold kh at h;obtain⟨g,a,h⟩:=cc h;refine bC (ks':=[eC 14,eC 15]) 5 ⟨[(0,.sl (lm co k)),(1,iI g)],[],[],[]⟩ ?_ (by subst a;kernel_rfl);refine aj 1 (au (bF co k) ?_);obtain⟨b,h⟩:=aB h;refine pg bz (i9:bd) 218 (.tmp 19) (.tmp 19) 20 (e:=220) (sz:=9) (zc:=bz i9) (kd:=.i64) (kd':=.i64) b (ae ?_);obtain⟨v4,c,h⟩:=cc h;refine bC (ks':=[eC 124,eC 125,eC 63]) 4 ⟨[(0,.sl (lm co k)),(1,iI g),(5,.ref 20),(6,iI 0)],[],[(20,(bt v4))],[20]⟩ ?_ (by subst c;kernel_rfl);exact aj 1 (au (bF co k) (ae (ah 1 (cf (p:=pn 250) n (Zp d n h)))))
end
section
variable[GS](M:Nat→Prop)(q:az)(r:b7×Int×Int×Int×c6)(D:ag)(E:Int)(C:bN)(v4 v5:Int)(v6:c6)(B:dn)(y t:Int)(w:b5)(A:d7)(b d:b5)(f:b7)(j l:Int)(o:c6)(g:ab×Int×Int×c6)(u F G I:Int)(i:b5)(z a:Int)(x:b7)(J N:Nat)(O:Int→Int→b5→d7→b5→b5→b7→Int→Int→c6→Option es)(P:Int→Int→b7→Option es)
abbrev yU:Cx:=⟨aT,170,M,q⟩
abbrev xZ:=bodyPost aT Tryz.f80 (bP M q (fun v s=>v=.tup [.ref 440010,iI r.2.1]∧cB s.o [(ac r.2.2.1 r.2.2.2.1)]∧look 440009 s.r=some (be r.2.2.2.2)∧look 440010 s.r=some (bf r.1)))
abbrev DS(a:ck)(s:AS):=VE (yU M q) (xZ M q r) a .normal s
abbrev eW(n:Nat):aq:=.c (cat Tryz.f80 (pn n))
abbrev Lj:ck:=[.b 2,eW 4095]
abbrev Gu:ck:=kl (yU M q) (xZ M q r) Lj (cat Tryz.f80 (pn 32756)) N::Lj
abbrev Jx:ck:=[.b 0,eW 511]
abbrev yq:ck:=kl (yU M q) (xZ M q r) Jx (cat Tryz.f80 (pn 4084)) J::Jx
def Xu:AS:=⟨[(1,iI E),(3,.ptr 3 0),(5,.ptr 5 0),(8,.ref 116),(9,.ref 84),(10,.ref 99),(11,.ref 88),(12,iI y),(13,.ref 28),(16,.ptr 16 0),(18,iI u),(19,.ptr 19 0),(30,.ref 1030),(31,iI (B.length:Int)),(32,iI t)],[(3,aD D),(5,ce C),(16,aC g.1),(19,co (⟨I,F,G,0,1048576⟩:bG)),(ac g.2.1 g.2.2.1)],[(28,(bc w)),(84,⟨176,5,lm co A⟩),(88,(bc b)),(99,(bc d)),(116,(bf f)),(1030,(bk B)),(440009,(be g.2.2.2))],[3,5,16,19,440001,28,84,88,99,116,1030,440009,1440001,440001]⟩
def Nf:AS:=⟨[(8,.ref 116),(10,.ref 99),(11,.ref 88),(13,.ref 1125),(20,iI z),(127,iI (f.length:Int)),(128,iI a)],[(ac j l)],[(88,(bc b)),(99,(bc d)),(116,(bf x)),(1125,(bc i)),(440009,(be o))],[440001,88,99,116,1125,440009,1440001,440001]⟩
def Zs:AS:=⟨[(8,.ref 116),(10,.ref 99),(11,.ref 88),(13,.ref 1125)],[(ac j l)],[(88,(bc b)),(99,(bc d)),(116,(bf f)),(1125,(bc i)),(440009,(be o))],[440001,88,99,116,1125,440009,1440001,440001]⟩
def Vx:AS:=⟨[(1,iI E),(3,.ptr 3 0),(5,.ptr 5 0),(8,.ref 116),(9,.ref 84),(10,.ref 99),(11,.ref 88),(12,iI y),(13,.ref 28),(30,.ref 1030),(31,iI (B.length:Int)),(32,iI t)],[(3,aD D),(5,ce C),(ac j l)],[(28,(bc w)),(84,⟨176,5,lm co A⟩),(88,(bc b)),(99,(bc d)),(116,(bf f)),(1030,(bk B)),(440009,(be o))],[3,5,440001,28,84,88,99,116,1030,440009,1440001,440001]⟩
abbrev Jn:Prop:=∀{y:Int} {t:Int} {w:b5} {A:d7} {b:b5} {d:b5} {f:b7} {j:Int} {l:Int} {o:c6},O y t w A b d f j l o=some r→LP (yU M q) (xZ M q r) Jx (cat Tryz.f80 (pn 4084)) J (Vx D E C B y t w A b d f j l o)
abbrev Re:Prop:=∀{z:Int} {a:Int} {x:b7},P z a x=some r→LP (yU M q) (xZ M q r) Lj (cat Tryz.f80 (pn 32756)) N (Nf b d f j l o i z a x)
variable{M q r D E C v4 v5 v6 B y t w A b d f j l o g u F G I i z a x J N O P}{K:Kn}{n:Nat}[SG q][PF C.Layout]
def MW(L:am K)(N:Jn M q r D E C B J O)(h:o7 K n D E C B y t w A b d f g u F G O I=some r):DS M q r (eW 4182847 :: .b 1::eW 32679::yq M q r J) (Xu D E C B y t w A b d f g u F G I):=by
 unfold o7 at h;refine av 2 3 1 (aj 3 ?_);obtain⟨j,h⟩:=aB h;refine au (cG 84 84 176 5 co (rfl) (HB) j) (ae ?_);obtain⟨i,k,h⟩:=cc h;refine bC (ks':=eW 16731390::eW 16731391 :: .b 1::eW 32679::yq M q r J) 1 ⟨[(1,iI E),(3,.ptr 3 0),(5,.ptr 5 0),(8,.ref 116),(9,.ref 84),(10,.ref 99),(11,.ref 88),(12,iI y),(13,.ref 28),(16,.ptr 16 0),(18,iI u),(19,.ptr 19 0),(30,.ref 1030),(31,iI (B.length:Int)),(32,iI t)],[(3,aD D),(5,ce C),(16,aC g.1),(19,co (⟨I,F,G,0,1048576⟩:bG)),(ac g.2.1 g.2.2.1)],[(28,(bc w)),(84,⟨176,5,lm co i⟩),(88,(bc b)),(99,(bc d)),(116,(bf f)),(1030,(bk B)),(440009,(be g.2.2.2))],[3,5,16,19,440001,28,84,88,99,116,1030,440009,1440001,440001]⟩ ?_ (by subst k;kernel_rfl);refine aj 3 ?_;obtain⟨l,h⟩:=aB h;refine au (cG 88 88 3 1 (ak .i64) (rfl) ap l) (ae (av 2 3 1 (bV [1,3,5,8,9,10,11,12,13,16,18,19,30,31,32] [3,5,16,19,440001] [28,84,88,99,116,1030,440009] ?_)))
 obtain⟨a,o,h⟩:=aw h;obtain⟨c,p,h⟩:=aw h;obtain⟨s,h⟩:=aB h;refine ci 2 (nu 89 [.ref 99,.ptr 16 61,.agg (c8 g.1.Before),iI a,.agg (aC g.1),iI c,iI (aa (a+c)),iI u,iI (aa ((aa (a+c))+u)),.sl (lm (ak .i64) [(aa ((aa (a+c))+u))])]) [] [] [gh 99 99 ⟨3,1,lm (ak .i64) (d++[(aa ((aa (a+c))+u))])⟩,cF aT 170 Tryz.f80 (pn 33462782) 11] (aE [.v 0 1,.v 0 2,.v 0 2] (ax (cR 0 2 92 (n8 L o)) (aE [.v 0 2] (ax (cR 0 1 94 (Ou L p)) (aE [.v 0 2,.v 0 2,.v 0 2,.v 0 1] (ax (dq (m:=0) (cG 99 99 3 1 (ak .i64) (rfl) ap s)) (ax (cE 1) cg))))))) (av 2 3 1 (aj 3 (au (bF (ak .i64) (d++[(aa ((aa (a+c))+u))])) (aW 5 1 ?_))));obtain⟨e,h⟩:=aB h;refine au (cr 99 1 (ak .i64) e) (au (bJ 3 0 (ak .i64) (ak .i64) (bB e).2 ap) (ae ?_));obtain⟨P,v,h⟩:=cc h;refine bC (ks':=eW 133851134::eW 133851135 :: .b 1::eW 32679::yq M q r J) 1 ⟨[(1,iI E),(3,.ptr 3 0),(5,.ptr 5 0),(8,.ref 116),(9,.ref 84),(10,.ref 99),(11,.ref 88),(12,iI P),(13,.ref 28),(16,.ptr 16 0),(19,.ptr 19 0),(30,.ref 1030),(31,iI (B.length:Int)),(32,iI t)],[(3,aD D),(5,ce C),(16,aC g.1),(19,co (⟨I,F,G,0,1048576⟩:bG)),(ac g.2.1 g.2.2.1)],[(28,(bc w)),(84,⟨176,5,lm co i⟩),(88,⟨3,1,lm (ak .i64) (b++[u])⟩),(99,⟨3,1,lm (ak .i64) (d++[(aa ((aa (a+c))+u))])⟩),(116,(bf f)),(1030,(bk B)),(440009,(be g.2.2.2))],[3,5,16,19,440001,28,84,88,99,116,1030,440009,1440001,440001]⟩ ?_ (by subst v;kernel_rfl)
 refine aj 2 ?_;obtain⟨Q,x,h⟩:=aw h;refine aR (Kg L x) (aW 4 1 ?_);obtain⟨z,h⟩:=aB h;refine au (cG 112 28 3 1 (ak .i64) (rfl) ap z) (ae (aj 2 (au (ii aN ([g.1]:b7) (new:=[aC g.1]) (by simp only[n5,u7,dV])) ?_)));obtain⟨H,h⟩:=aB h;exact au (cG 116 116 44 67 aN (rfl) (ky) H) (ae (ah 2 (bu (N h))))
def alJ(F:am K)(C:Re M q r b d f j l o i N P)(h:Cm K n b d f j l o i P z a x=some r):DS M q r (eW 32756::Gu M q r N) (Nf b d f j l o i z a x):=by
 unfold Cm at h;refine av 6 7 3 ?_;obtain⟨c,h⟩|⟨c,h⟩:=ao h
 ·refine ai 129 c (cX 18 19 3 3 7 (bV [8,10,11,13,20,21,127,128] [440001] [88,99,116,1125,440009] ?_));obtain⟨g,h⟩:=aB h;obtain⟨p,h⟩:=aB h;obtain⟨e,h⟩:=aB h;refine ci 1 (nu 131 [.ref 116,iI a,.ref 1125,iI a,.eptr 1125 1 (a.toNat) 0,iI (gD i a),.ref 88,iI a,.eptr 88 1 (a.toNat) 0,iI (gD b a),iI (aa ((gD i a)+(gD b a))),.eptr 116 67 (a.toNat) 0,.eptr 116 67 (a.toNat) 5]) [] [] [eD 116 ⟨44,67,lm aN (List.set x a.toNat ({ (gD x a)with H:=(aa ((gD i a)+(gD b a))) }:ab))⟩] (aE (vz 4) (bE (cD 1125 1 (ak .i64) (L:=i) g) (bE (bJ 3 0 (ak .i64) (ak .i64) (bB g).2 ap) (aE (vz 2) (bE (cD 88 1 (ak .i64) (L:=b) p) (bE (bJ 3 0 (ak .i64) (ak .i64) (bB p).2 ap) (aE [.v 0 1] (ax (fv (lo:=0) (k:=2) (di ⟨(by kernel_rfl),(dp (cD 116 67 aN (L:=x) e) (by kernel_rfl))⟩ (di ⟨(by kernel_rfl),(dp (cD 116 67 aN (L:=(List.set x a.toNat ({ (gD x a)with H:=(aa ((gD i a)+(gD b a))) }:ab))) e) (by kernel_rfl))⟩ fG))) (aE [.v 0 1] (ax (dq (m:=0) (dI 116 44 67 5 aN aC ({ (gD x a)with H:=(aa ((gD i a)+(gD b a))) }:ab) (bB e).2 (dV))) cg)))))))))) ?_
  obtain⟨w,y,h⟩:=cc h;refine bC (ks':=eW 4192870::eW 4192871 :: .b 3::eW 262055::Gu M q r N) 1 ⟨[(8,.ref 116),(10,.ref 99),(11,.ref 88),(13,.ref 1125),(20,iI z),(21,iI a),(127,iI (f.length:Int)),(128,iI a)],[(ac j l)],[(88,(bc b)),(99,(bc d)),(116,(bf w)),(1125,(bc i)),(440009,(be o))],[440001,88,99,116,1125,440009,1440001,440001]⟩ ?_ (by subst y;kernel_rfl);refine aj 5 ?_;obtain⟨s,h⟩:=aB h;refine au (cr 116 67 aN s) (aW 7 1 (au (bJ 41 61 aN aC (bB s).2 (dV)) ?_));obtain⟨D,A,h⟩:=aw h;refine aR (n8 F A) (aW 10 1 ?_);obtain⟨t,h⟩:=aB h;refine au (cr 116 67 aN t) (aW 12 1 (au (dI 116 44 67 3 aN aC ({ (gD w a)with Y:=(aa (z+D)) }:ab) (bB t).2 (dV)) (ae ?_)));obtain⟨E,B,h⟩:=cc h;refine bC (ks':=eW 4192871 :: .b 3::eW 262055::Gu M q r N) 0 ⟨[(8,.ref 116),(10,.ref 99),(11,.ref 88),(13,.ref 1125),(20,iI z),(21,iI a),(127,iI (f.length:Int)),(128,iI a)],[(ac j l)],[(88,(bc b)),(99,(bc d)),(116,(bf E)),(1125,(bc i)),(440009,(be o))],[440001,88,99,116,1125,440009,1440001,440001]⟩ ?_ (by subst B;kernel_rfl)
  obtain⟨u,h⟩:=aB h;obtain⟨v,h⟩:=aB h;exact ci 1 (nu 156 [iI z,.ref 1125,iI a,.eptr 1125 1 (a.toNat) 0,iI (gD i a),.ref 99,iI a,.eptr 99 1 (a.toNat) 0,iI (gD d a),iI (aa ((gD i a)+(gD d a))),iI (aa (z+(aa ((gD i a)+(gD d a)))))]) [] [] [cF aT 170 Tryz.f80 (pn 4192871) 11] (aE (vz 3) (bE (cD 1125 1 (ak .i64) (L:=i) u) (bE (bJ 3 0 (ak .i64) (ak .i64) (bB u).2 ap) (aE (vz 2) (bE (cD 99 1 (ak .i64) (L:=d) v) (bE (bJ 3 0 (ak .i64) (ak .i64) (bB v).2 ap) (aE (vz 2) (ax (cE 0) cg)))))))) (ah 2 (bu (C h)))
 ·refine ai 129 c (aM 8 (rf 116 440010 ?_));cases h;exact QH
def ajH(a:am K)(m:Nat):Re M q r b d f j l o i m (zH K n b d f j l o i m):=by
 induction m with
 | zero=>exact fun h=>nomatch h
 | succ m c=>exact fun h=>bq (alJ a c h)
def NK(a:am K)(h:kM K n b d f j l o i=some r):DS M q r [eW 1023] (Zs b d f j l o i):=by
 unfold kM at h;exact cj 12 13 7 4 (aj 1 (au (bF aN f) (ae (ah 1 (cf (p:=pn 16378) n (ajH a n h))))))
def akH(a:am K)(p:Jn M q r D E C B J O)(h:C3 K n D E C B O y t w A b d f j l o=some r):DS M q r (eW 4084::yq M q r J) (Vx D E C B y t w A b d f j l o):=by
 unfold C3 at h;refine av 6 7 3 ?_;obtain⟨c,h⟩|⟨c,h⟩:=ao h
 ·refine ai 33 c (cX 8 9 1 3 5 (aj 0 ?_));obtain⟨k,h⟩:=aB h;refine au (cr 1030 59 aP k) (au (bJ 48 0 aP aD (bB k).2 (eE)) (ae (av 2 3 1 (aj 4 ?_))));obtain⟨g,m,h⟩:=aw h;refine rx (a.dE m).2 ?_ (a.dE m).1;refine ae (av 2 3 1 (aj 3 ?_));obtain⟨R,s,h⟩:=aw h;refine aR (qm a s) (ae ?_);obtain⟨u,v,h⟩:=cc h;obtain⟨P,x,h⟩:=cc h;obtain⟨Q,z,h⟩:=cc h;obtain⟨F,H,h⟩:=cc h;obtain⟨G,I,h⟩:=cc h;refine bC (ks':=eW 8365693::eW 4182847 :: .b 1::eW 32679::yq M q r J) 7 ⟨[(1,iI E),(3,.ptr 3 0),(5,.ptr 5 0),(8,.ref 116),(9,.ref 84),(10,.ref 99),(11,.ref 88),(12,iI y),(13,.ref 28),(15,.ptr 15 0),(16,.ptr 16 0),(18,iI u),(19,.ptr 19 0),(30,.ref 1030),(31,iI (B.length:Int)),(32,iI t),(75,.bool P)],[(3,aD D),(5,ce C),(15,aD (gD B t)),(16,aC g.1),(19,co (⟨Q,F,G,0,1048576⟩:bG)),(ac g.2.1 g.2.2.1)],[(28,(bc w)),(84,⟨176,5,lm co A⟩),(88,(bc b)),(99,(bc d)),(116,(bf f)),(1030,(bk B)),(440009,(be g.2.2.2))],[3,5,15,16,19,440001,28,84,88,99,116,1030,440009,1440001,440001]⟩ ?_ (by subst I;subst H;subst z;subst x;subst v;kernel_rfl)
  obtain⟨e,h⟩|⟨e,h⟩:=ao h
  ·refine ai 75 e (br 2 1 (aj 3 ?_));obtain⟨S,L,h⟩:=aw h;exact aR (Ad a L) (ae (ah 0 (MW a p h)))
  ·exact ai 75 e (ah 2 (MW a p h))
 ·refine ai 33 c (gV 5 3 8 ?_);obtain⟨i,h⟩|⟨i,h⟩:=ao h
  ·refine ai 122 i (br 2 1 (aj 2 (ny 84 ?_)));obtain⟨T,N,h⟩:=aw h;exact fc 1125 (NP a N) (fk 143) (ae (ah 0 (NK a h)))
  ·exact ai 122 i (bW (ks':=[eW 1023]) 2 (bV [8,10,11,13] [440001] [28,88,99,116,440009] (rf 28 1125 (ah 0 (NK a h)))))
def X1(a:am K)(m:Nat):Jn M q r D E C B m (mL K n D E C B m):=by
 induction m with
 | zero=>exact fun h=>nomatch h
 | succ m b=>exact fun h=>bq (akH a b h)
def agJ(a:am K)(h:zp K n D E C v4 v5 v6=some r):eO aT 80 [.agg (aD D),iI E,.agg (ce C)] [(ac v4 v5)] (be v6) (fun v s=>v=.tup [.ref 440010,iI r.2.1]∧cB s.o [(ac r.2.2.1 r.2.2.2.1)]∧look 440009 s.r=some (be r.2.2.2.2)∧look 440010 s.r=some (bf r.1)):=by
 refine kx (c:=cat Tryz.f80 []) Tryz.func80 (by kernel_rfl) _ Tryz.ntmps80 (il (by kernel_rfl)) fun M q=>(bn ⟨[(0,.agg (aD D)),(1,iI E),(2,.agg (ce C))],[(ac v4 v5)],[(440009,(be v6))],[440009,440001,1440001]⟩ ?_);unfold zp at h;refine bW (ks':=[eW 62,eW 63]) 9 (aj 3 ?_);obtain⟨f,b,h⟩:=aw h;refine aR (Ad a b) (ae (av 6 7 3 (aj 0 (Bv 72 28 (e:=3) (sz:=1) (ae (cj 4 5 3 2 (aj 1 ?_)))))));obtain⟨B,d,h⟩:=aw h;exact fc 1030 (Jf a d) (fk 21) (au (bF aP B) (ae (ic 2 0 1 (bV [1,3,5,8,9,10,11,12,13,30,31,32] [3,5,440001] [28,1030,440009] (fQ 116 8 44 67 (fQ 84 9 176 5 (fQ 99 10 3 1 (fQ 88 11 3 1 (ah 0 (cf (p:=pn 2042) n (X1 a n h)))))))))))
end
section
variable[GS](M:Nat→Prop)(b:az)(r a:b5)(c f v4:Int)(v5:b5)(v6:Int)(g:Bool)(i:Int)(j:b5)(d:Nat)(e:Int→Int→b5→Option b5)
abbrev Fu:Cx:=⟨aT,33,M,b⟩
abbrev JO:=bodyPost aT Tryz.f130 (bP M b (fun v s=>v=.ref 29∧look 29 s.r=some (bc r)))
abbrev KS(a:ck)(s:AS):=VE (Fu M b) (JO M b r) a .normal s
abbrev pw(n:Nat):aq:=.c (cat Tryz.f130 (pn n))
abbrev JM:ck:=[.b 0,pw 31]
abbrev DC:ck:=kl (Fu M b) (JO M b r) JM (cat Tryz.f130 (pn 244)) d::JM
def ac8:AS:=⟨[(1,iI c),(5,.ref 29),(6,iI i),(9,.sl (lm (ak .i64) a)),(10,iI (a.length:Int)),(11,iI v4)],[],[(29,(bc j))],[29]⟩
def aiN:AS:=⟨[(1,iI c),(5,.ref 29),(6,iI v6),(7,iI v4),(8,iI (gD a v4)),(9,.sl (lm (ak .i64) a)),(10,iI (a.length:Int)),(11,iI v4),(25,.bool g)],[],[(29,(bc v5))],[29]⟩
def Ns:AS:=⟨[(1,iI c),(5,.ref 29),(6,iI f),(9,.sl (lm (ak .i64) a)),(10,iI (a.length:Int)),(11,iI v4)],[],[(29,(bc v5))],[29]⟩
abbrev D0:Prop:=∀{f:Int} {v4:Int} {v5:b5},e f v4 v5=some r→LP (Fu M b) (JO M b r) JM (cat Tryz.f130 (pn 244)) d (Ns a c f v4 v5)
variable{M b r a c f v4 v5 v6 g i j d e}{K:Kn}{n:Nat}
def Pj(g:am K)(f:D0 M b r a c d e)(h:vx K n a c v4 e i j=some r):KS M b r (.b 1::pw 1959::DC M b r d) (ac8 a c v4 i j):=by
 unfold vx at h;exact ah 2 (bu (f h))
def LN(k:am K)(i:D0 M b r a c d e)(h:uE K n a c v4 v5 v6 e g=some r):KS M b r (pw 31335 :: .b 1::pw 1959::DC M b r d) (aiN a c v4 v5 v6 g):=by
 unfold uE at h;obtain⟨f,h⟩|⟨f,h⟩:=ao h
 ·refine ai 25 f (av 4 5 2 (aj 3 ?_));obtain⟨j,h⟩:=aB h;exact au (cG 29 29 3 1 (ak .i64) (rfl) ap j) (ae (ah 1 (Pj k i h)))
 ·exact ai 25 f (ah 2 (Pj k i h))
def afq(k:am K)(i:D0 M b r a c d e)(h:Ah K n a c e f v4 v5=some r):KS M b r (pw 244::DC M b r d) (Ns a c f v4 v5):=by
 unfold Ah at h;refine av 6 7 3 ?_;obtain⟨j,h⟩|⟨j,h⟩:=ao h
 ·refine ai 12 j (cX 8 9 1 3 5 (aj 1 ?_));obtain⟨l,h⟩:=aB h;refine au (bX (ak .i64) (ak .i64) l ap ap) (ae ?_);obtain⟨v6,m,h⟩:=cc h;refine bC (ks':=pw 31334::pw 31335 :: .b 1::pw 1959::DC M b r d) 3 ⟨[(1,iI c),(5,.ref 29),(6,iI v6),(7,iI v4),(8,iI (gD a v4)),(9,.sl (lm (ak .i64) a)),(10,iI (a.length:Int)),(11,iI v4)],[],[(29,(bc v5))],[29]⟩ ?_ (by subst m;kernel_rfl);refine aj 3 ?_;obtain⟨g,h⟩|⟨g,h⟩:=ao h
  ·exact aF 21 g (ae (ah 0 (LN k i h)))
  ·exact aF 21 g (ae (ah 0 (LN k i h)))
 ·refine ai 12 j (aM 8 ?_);cases h;exact eX
def abh(d:am K)(m:Nat):D0 M b r a c m (wm K n a c m):=by
 induction m with
 | zero=>exact fun h=>nomatch h
 | succ m e=>exact fun h=>bq (afq d e h)
def aj0(d:am K)(h:qu K n a c=some r):aZ aT 130 [.sl (lm (ak .i64) a),iI c] (fun v s=>v=.ref 29∧look 29 s.r=some (bc r)):=by
 refine bK (cat Tryz.f130 (pn 1)) Tryz.func130 Tryz.ntmps130 fun M b=>(bn ⟨[(0,.sl (lm (ak .i64) a)),(1,iI c)],[],[],[]⟩ ?_);unfold qu at h;exact cj 60 61 31 8 (aj 1 (au (bF (ak .i64) a) (ae (ic 2 0 1 (bV [1,5,6,9,10,11] [] [] (fQ 29 5 3 1 (ah 0 (cf (p:=pn 122) n (abh d n h)))))))))
end
section
variable[GS](M:Nat→Prop)(d:az)(r a:ag)(b:Int)(v4 v6 f e:(V4 cL))  
abbrev lM(n:Nat):aq:=.c (cat Tryz.f131 (pn n))
abbrev Ta:Cx:=⟨aT,40,M,d⟩
abbrev UV:=bodyPost aT Tryz.f131 (bP M d (fun v _=>v=.agg (aD r)))
abbrev Dn(a:ck)(s:AS):=VE (Ta M d) (UV M d r) a .normal s
def abQ:AS:=⟨[(2,.ptr 2 0),(4,.ptr 4 0),(21,.agg ((ly gu) a.Style.Margin)),(22,iI 3)],[(2,aD ({ a with Style:=({ a.Style with Width:=(⟨1,b⟩:cL),MinWidth:=cn,MaxWidth:=cn,Margin:=e }:aO) }:ag)),(4,List.set (aD dk) 58 (.nils))],[],[2,4]⟩
def ah2:AS:=⟨[(2,.ptr 2 0),(4,.ptr 4 0),(21,.agg ((ly gu) a.Style.Margin)),(22,iI 2)],[(2,aD ({ a with Style:=({ a.Style with Width:=(⟨1,b⟩:cL),MinWidth:=cn,MaxWidth:=cn,Margin:=f }:aO) }:ag)),(4,List.set (aD dk) 58 (.nils))],[],[2,4]⟩
def acS:AS:=⟨[(2,.ptr 2 0),(4,.ptr 4 0),(21,.agg ((ly gu) a.Style.Margin)),(22,iI 1)],[(2,aD ({ a with Style:=({ a.Style with Width:=(⟨1,b⟩:cL),MinWidth:=cn,MaxWidth:=cn,Margin:=v6 }:aO) }:ag)),(4,List.set (aD dk) 58 (.nils))],[],[2,4]⟩
def acO:AS:=⟨[(2,.ptr 2 0),(4,.ptr 4 0),(21,.agg ((ly gu) a.Style.Margin)),(22,iI 0)],[(2,aD ({ a with Style:=({ a.Style with Width:=(⟨1,b⟩:cL),MinWidth:=cn,MaxWidth:=cn,Margin:=v4 }:aO) }:ag)),(4,List.set (aD dk) 58 (.nils))],[],[2,4]⟩
abbrev mW(m:Nat):ck:=kl (Ta M d) (UV M d r) [.b 0,lM 31] (cat Tryz.f131 (pn 244)) m::[.b 0,lM 31]
variable{M d r a b v4 v6 f e}{K:Kn}{n:Nat}
def VV(c:am K)(h:AK K n a b e=some r):Dn M d r (.b 1::lM 1959::mW M d r 36) (abQ a b e):=by
 unfold AK at h;refine bC (ks':=mW M d r 36) 2 ⟨[(2,.ptr 2 0),(4,.ptr 4 0),(21,.agg ((ly gu) a.Style.Margin)),(22,iI 4)],[(2,aD ({ a with Style:=({ a.Style with Width:=(⟨1,b⟩:cL),MinWidth:=cn,MaxWidth:=cn,Margin:=e }:aO) }:ag)),(4,List.set (aD dk) 58 (.nils))],[],[2,4]⟩ (bu (bq (aM 11 ?_)));cases h;exact bD
def UK(e:am K)(h:uq K n a b f=some r):Dn M d r (.b 1::lM 1959::mW M d r 37) (ah2 a b f):=by
 unfold uq at h;refine bC (ks':=mW M d r 37) 2 ⟨[(2,.ptr 2 0),(4,.ptr 4 0),(21,.agg ((ly gu) a.Style.Margin)),(22,iI 3)],[(2,aD ({ a with Style:=({ a.Style with Width:=(⟨1,b⟩:cL),MinWidth:=cn,MaxWidth:=cn,Margin:=f }:aO) }:ag)),(4,List.set (aD dk) 58 (.nils))],[],[2,4]⟩ (bu (bq (dL 114 115 1 15 10 (aj 1 ?_))));obtain⟨i,g,h⟩:=aw h;refine aR (eN e g) (ae (br 3 2 ?_));obtain⟨c,h⟩|⟨c,h⟩:=ao h
 ·exact ai 32 c (ah 2 (VV e h))
 ·exact ai 32 c (ah 2 (VV e h))
def NA(e:am K)(h:tn K n a b v6=some r):Dn M d r (.b 1::lM 1959::mW M d r 38) (acS a b v6):=by
 unfold tn at h;refine bC (ks':=mW M d r 38) 2 ⟨[(2,.ptr 2 0),(4,.ptr 4 0),(21,.agg ((ly gu) a.Style.Margin)),(22,iI 2)],[(2,aD ({ a with Style:=({ a.Style with Width:=(⟨1,b⟩:cL),MinWidth:=cn,MaxWidth:=cn,Margin:=v6 }:aO) }:ag)),(4,List.set (aD dk) 58 (.nils))],[],[2,4]⟩ (bu (bq (dL 114 115 1 15 10 (aj 1 ?_))));obtain⟨g,f,h⟩:=aw h;refine aR (eN e f) (ae (br 3 2 ?_));obtain⟨c,h⟩|⟨c,h⟩:=ao h
 ·exact ai 32 c (ah 2 (UK e h))
 ·exact ai 32 c (ah 2 (UK e h))
def Pv(e:am K)(h:td K n a b v4=some r):Dn M d r (.b 1::lM 1959::mW M d r 39) (acO a b v4):=by
 unfold td at h;refine bC (ks':=mW M d r 39) 2 ⟨[(2,.ptr 2 0),(4,.ptr 4 0),(21,.agg ((ly gu) a.Style.Margin)),(22,iI 1)],[(2,aD ({ a with Style:=({ a.Style with Width:=(⟨1,b⟩:cL),MinWidth:=cn,MaxWidth:=cn,Margin:=v4 }:aO) }:ag)),(4,List.set (aD dk) 58 (.nils))],[],[2,4]⟩ (bu (bq (dL 114 115 1 15 10 (aj 1 ?_))));obtain⟨v5,f,h⟩:=aw h;refine aR (eN e f) (ae (br 3 2 ?_));obtain⟨c,h⟩|⟨c,h⟩:=ao h
 ·exact ai 32 c (ah 2 (NA e h))
 ·exact ai 32 c (ah 2 (NA e h))
def ai8(f:am K)(h:wE K n a b=some r):aZ aT 131 [.agg (aD a),iI b] (fun v _=>v=.agg (aD r)):=by
 refine bK (cat Tryz.f131 (pn 1)) Tryz.func131 Tryz.ntmps131 fun M d=>(bn ⟨[(0,.agg (aD a)),(1,iI b)],[],[],[]⟩ ?_);unfold wE at h;refine bC (ks':=[lM 122,.b 0,lM 31]) 10 ⟨[(2,.ptr 2 0),(4,.ptr 4 0),(21,.agg ((ly gu) a.Style.Margin)),(22,iI 0)],[(2,aD ({ a with Style:=({ a.Style with Width:=(⟨1,b⟩:cL),MinWidth:=cn,MaxWidth:=cn }:aO) }:ag)),(4,List.set (aD dk) 58 (.nils))],[],[2,4]⟩ (o6 40 (c:=cat Tryz.f131 [1,1,1,0,1,0,0]) (by kernel_rfl) (bq (bW (ks':=lM 15666::lM 15667 :: .b 1::lM 1959::mW M d r 39) 10 (aj 1 ?_))));obtain⟨i,g,h⟩:=aw h;refine aR (eN f g) (ae (br 3 2 ?_));obtain⟨e,h⟩|⟨e,h⟩:=ao h
 ·exact ai 32 e (ah 2 (Pv f h))
 ·exact ai 32 e (ah 2 (Pv f h))
end
end
end Go.Proofs.YtocgkfoifehcbaaGreat
