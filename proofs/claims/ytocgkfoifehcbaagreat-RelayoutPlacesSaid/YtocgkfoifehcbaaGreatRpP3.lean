/- The runs of the functions that RelayoutPlaces reaches do what their plain forms say, part 3. Made by a program. -/
import Derived.Test.YtocgkfoifehcbaaGreatRpP2
namespace Go.Proofs.YtocgkfoifehcbaaGreat
noncomputable section
open Go.RowKit
set_option maxRecDepth 20000
set_option linter.all false
section
def AT:=@List.getD_eq_getElem?_getD
def IN:=@List.getElem?_set_self
def T5:=@List.getElem?_set_ne
def ae4:=@decide_eq_true
def amv:=@Option.some.inj
def amz:=@List.nodup_append
variable[GS](M:Nat→Prop)(b:az)(r:Int)(c:c6)(a:Fv)(v4:Int)(d:Nat)(e:Int→Option Int)
abbrev Fr:Cx:=⟨aT,19,M,b⟩
abbrev G8:=bodyPost aT Tryz.f77 (bP M b (fun v _=>v=iI r))
abbrev adp(a:ck)(s:AS):=VE (Fr M b) (G8 M b r) a .normal s
abbrev TP(n:Nat):aq:=.c (cat Tryz.f77 (pn n))
abbrev FU:ck:=[.b 0,TP 7]
abbrev Xf:ck:=kl (Fr M b) (G8 M b r) FU (cat Tryz.f77 (pn 52)) d::FU
def Vv:AS:=⟨[(0,.sl (lm ba c)),(1,.fn a.id a.aV),(7,iI (c.length:Int)),(8,iI v4)],[],[],[]⟩
abbrev L6:Prop:=∀{v4:Int},e v4=some r→LP (Fr M b) (G8 M b r) FU (cat Tryz.f77 (pn 52)) d (Vv c a v4)
variable{M b r c a v4 d e}{K:Kn}{n:Nat}
def af4(l:am K)(i:L6 M b r c a d e)(h:De K n c a e v4=some r):adp M b r (TP 52::Xf M b r d) (Vv c a v4):=by
 unfold De at h;refine av 6 7 3 ?_;obtain⟨f,h⟩|⟨f,h⟩:=ao h
 ·refine ai 9 f (cX 18 19 1 3 7 (aj 3 ?_));obtain⟨j,h⟩:=aB h;refine au (bX ba ba j (G5) ap) (aW 5 1 ?_);obtain⟨v5,k,h⟩:=aw h;refine oB (l.sQ k) (ae ?_);obtain⟨g,h⟩|⟨g,h⟩:=ao h
  ·refine ai 16 g (aM 9 ?_);cases h;exact bD
  ·exact ai 16 g (ah 4 (bu (i h)))
 ·refine ai 9 f (aM 8 ?_);cases h;exact bD
def ait(d:am K)(m:Nat):L6 M b r c a m (wR K n c a m):=by
 induction m with
 | zero=>exact fun h=>nomatch h
 | succ m e=>exact fun h=>bq (af4 d e h)
def ahZ(d:am K)(h:EQ K n c a=some r):aZ aT 77 [.sl (lm ba c),.fn a.id a.aV] (fun v _=>v=iI r):=by
 refine bK (cat Tryz.f77 (pn 1)) Tryz.func77 Tryz.ntmps77 fun M b=>(bn ⟨[(0,.sl (lm ba c)),(1,.fn a.id a.aV)],[],[],[]⟩ ?_);unfold EQ at h;exact cj 12 13 7 4 (aj 1 (au (bF ba c) (ae (ah 1 (cf (p:=pn 26) n (ait d n h))))))
end
section
variable[GS](M:Nat→Prop)(c:az)(r:Bool)(b:c6)(a:Fv)  
variable{M c r b a}{K:Kn}{n:Nat}
def aim(e:am K)(h:ww K n b a=some r):aZ aT 38 [.sl (lm ba b),.fn a.id a.aV] (fun v _=>v=.bool r):=by
 refine bK (cat Tryz.f38 (pn 1)) Tryz.func38 Tryz.ntmps38 fun M c=>(bn ⟨[(0,.sl (lm ba b)),(1,.fn a.id a.aV)],[],[],[]⟩ ?_);unfold ww at h;refine av 6 7 3 (aj 2 ?_);obtain⟨f,d,h⟩:=aw h;refine aR (ahZ e d) (ae (aM 1 ?_));cases h;exact bD
end
section
variable[GS](M:Nat→Prop)(a:az)(r:Bool)(b c:ay)(v4:Bool)  
abbrev aco(n:Nat):aq:=.c (cat Tryz.f39 (pn n))
abbrev acf:Cx:=⟨aT,16,M,a⟩
abbrev q39:=bodyPost aT Tryz.f39 (bP M a (fun v _=>v=.bool r))
abbrev W6(b:ck)(s:AS):=VE (acf M a) (q39 M a r) b .normal s
def aiv:AS:=⟨[(3,.bool v4)],[],[],[]⟩
variable{M a r b c v4}{K:Kn}{n:Nat}
def RW(b:am K)(h:Bn K n v4=some r):W6 M a r [aco 7] (aiv v4):=by
 unfold Bn at h;refine aM 1 ?_;cases h;exact bD
def afX(e:am K)(h:zO K n b c=some r):aZ aT 39 [.agg (ba b),.cptr (ba c)] (fun v _=>v=.bool r):=by
 refine bK (cat Tryz.f39 (pn 1)) Tryz.func39 Tryz.ntmps39 fun M a=>(bn ⟨[(0,.agg (ba b)),(1,.cptr (ba c))],[],[],[]⟩ ?_);unfold zO at h;refine av 6 7 3 (aj 6 ?_);obtain⟨d,h⟩|⟨d,h⟩:=ao h
 ·refine aF 9 d (aW 10 4 ?_);obtain⟨g,f,h⟩:=aw h;exact aR (DR e f) (ae (ah 0 (RW e h)))
 ·exact aF 9 d (ae (ah 0 (RW e h)))
end
section
variable[GS](M:Nat→Prop)(e:az)(r:ab×Int×Int×c6)(f:ag)(o q v4 v5:Int)(v6:c6)(a:ab×Int×Int×c6)(b:Int)(d:c6)(j:Bool)(k:c6)(g:Nat)(l:Int→c6→Option er)
abbrev Hl:Cx:=⟨aT,60,M,e⟩
abbrev Km:=bodyPost aT Tryz.f12 (bP M e (fun v s=>v=.agg (aC r.1)∧cB s.o [(ac r.2.1 r.2.2.1)]∧look 440009 s.r=some (be r.2.2.2)))
abbrev Ij(a:ck)(s:AS):=VE (Hl M e) (Km M e r) a .normal s
abbrev sg(n:Nat):aq:=.c (cat Tryz.f12 (pn n))
abbrev JR:ck:=[.b 0,sg 63]
abbrev KF:ck:=kl (Hl M e) (Km M e r) JR (cat Tryz.f12 (pn 500)) g::JR
def ai1:AS:=⟨[(0,.adr GS.g 0),(5,.ptr 5 0),(8,.ptr 8 0),(9,.ptr 9 0),(10,.ref 2010),(32,.ref 440009),(33,iI (a.2.2.2.length:Int)),(34,iI b)],[(5,aD f),(8,List.set (aC bU) 66 (.nils)),(9,aC a.1),(ac a.2.1 a.2.2.1)],[(2010,(be k)),(440009,(be a.2.2.2))],[5,8,9,440001,2010,440009,1440001,440001]⟩
def adS:AS:=⟨[(0,.adr GS.g 0),(5,.ptr 5 0),(8,.ptr 8 0),(9,.ptr 9 0),(10,.ref 2010),(12,.cptr (ba (gD a.2.2.2 b))),(32,.ref 440009),(33,iI (a.2.2.2.length:Int)),(34,iI b),(48,.bool j)],[(5,aD f),(8,List.set (aC bU) 66 (.nils)),(9,aC a.1),(ac a.2.1 a.2.2.1)],[(2010,(be d)),(440009,(be a.2.2.2))],[5,8,9,440001,2010,440009,1440001,440001]⟩
def O5:AS:=⟨[(0,.adr GS.g 0),(5,.ptr 5 0),(8,.ptr 8 0),(9,.ptr 9 0),(10,.ref 2010),(32,.ref 440009),(33,iI (a.2.2.2.length:Int)),(34,iI b)],[(5,aD f),(8,List.set (aC bU) 66 (.nils)),(9,aC a.1),(ac a.2.1 a.2.2.1)],[(2010,(be d)),(440009,(be a.2.2.2))],[5,8,9,440001,2010,440009,1440001,440001]⟩
abbrev Bs:Prop:=∀{b:Int} {d:c6},l b d=some r→LP (Hl M e) (Km M e r) JR (cat Tryz.f12 (pn 500)) g (O5 f a b d)
variable{M e r f o q v4 v5 v6 a b d j k g l}{K:Kn}{n:Nat}[SG e][RG]
def R8(d:am K)(c:Bs M e r f a g l)(h:yf K n f a b l k=some r):Ij M e r (.b 1::sg 4007::KF M e r g) (ai1 f a b k):=by
 unfold yf at h;exact ah 2 (bu (c h))
def P2(m:am K)(i:Bs M e r f a g l)(h:AO K n f a b d l j=some r):Ij M e r (sg 64103 :: .b 1::sg 4007::KF M e r g) (adS f a b d j):=by
 unfold AO at h;obtain⟨c,h⟩|⟨c,h⟩:=ao h
 ·refine ai 48 c (br 2 1 (aj 3 ?_));obtain⟨k,h⟩:=aB h;exact au (cG 52 2010 64 127 ba (rfl) (G5) k) (ae (ah 0 (R8 m i h)))
 ·exact ai 48 c (ah 2 (R8 m i h))
def Z3(m:am K)(o:Bs M e r f a g l)(h:Co K n f a l b d=some r):Ij M e r (sg 500::KF M e r g) (O5 f a b d):=by
 unfold Co at h;refine av 6 7 3 ?_;obtain⟨c,h⟩|⟨c,h⟩:=ao h
 ·refine ai 35 c (cX 8 9 1 3 5 (aj 0 ?_));obtain⟨k,h⟩:=aB h;refine au (cr 440009 127 ba k) (au (bJ 64 0 ba ba (bB k).2 ap) (ae (av 2 3 1 (aj 1 (mK 12 12 (ba (gD a.2.2.2 b)) (rZ 39 #[(.tmp 12)] [.cptr (ba (gD a.2.2.2 b))] ?_))))));obtain⟨t,p,h⟩:=aw h;refine ajO (aim m p) (ae (av 2 3 1 (aj 3 ?_)));obtain⟨j,h⟩|⟨j,h⟩:=ao h
  ·refine aF 43 j (aW 6 3 ?_);obtain⟨u,q,h⟩:=aw h;exact aR (PD m q) (ae (ah 0 (P2 m o h)))
  ·exact aF 43 j (ae (ah 0 (P2 m o h)))
 ·refine ai 35 c (gV 2 3 6 (aj 4 (Wj 57 0 (ae (av 2 3 1 (aj 1 ?_))))));obtain⟨v,s,h⟩:=aw h;refine fc 1059 (Dc m s) (BA (i:=66) (by kernel_rfl)) (ae (aM 1 (bV [8] [8,440001] [1059,2010] (rf 2010 440009 (jz 1059 ?_)))));cases h;exact gI
def aiV(b:am K)(m:Nat):Bs M e r f a m (uU K n f a m):=by
 induction m with
 | zero=>exact fun h=>nomatch h
 | succ m c=>exact fun h=>bq (Z3 b c h)
def BZ(b:am K)(h:oy K n f o q v4 v5 v6=some r):eO aT 12 [.ptr 440001 0,.agg (aD f),iI o,iI q] [(ac v4 v5)] (be v6) (fun v s=>v=.agg (aC r.1)∧cB s.o [(ac r.2.1 r.2.2.1)]∧look 440009 s.r=some (be r.2.2.2)):=by
 refine kx (c:=cat Tryz.f12 []) Tryz.func12 (by kernel_rfl) _ Tryz.ntmps12 (il (by kernel_rfl)) fun M e=>(bn ⟨[(0,.ptr 440001 0),(1,.agg (aD f)),(2,iI o),(3,iI q)],[(ac v4 v5)],[(440009,(be v6))],[440009,440001,1440001]⟩ ?_);unfold oy at h;refine bW (ks':=[sg 14,sg 15]) 5 (bV [0,2,3,5,8,14] [5,8,440001] [440009] (Gz 14 (adk 0 0 ?_)));obtain⟨i,d,h⟩:=aw h;obtain⟨a,g,h⟩:=aw h;exact ci 2 (nu 20 [.agg (aD f),iI o,iI q,.adr GS.g 0,eQ 36 true,.adr GS.g 0,eQ 37 true,.agg (ce i)]++nu 9 [.ptr 9 0]) [(9,List.set (aC bU) 66 (.nils))] [] [CV (some 28) (be a.2.2.2) [(ac a.2.1 a.2.2.1)] (.agg (aC a.1)),cF aT 60 Tryz.f12 (pn 14) 10] (aE [.v 0 1,.v 0 1,.v 0 1,.v 0 2,.v 0 2,.v 0 2,.v 0 2] (ax (cR 0 1 27 (Up b d)) (ax (Ix 0 14 (P7 b g)) (ax (tW 0 2 44 9 (List.set (aC bU) 66 (.nils))) (ax (cE 1) cg))))) (cj 12 13 7 4 (aj 3 (Wj 31 0 (aW 4 1 (au (bF ba a.2.2.2) (ae (ic 2 0 1 (bV [0,5,8,9,10,32,33,34] [5,8,9,440001] [440009] (fQ 2010 10 64 127 (ah 0 (cf (p:=pn 250) n (aiV b n h))))))))))))
end
section
variable[GS](M:Nat→Prop)(b:az)(r:ag)(a:Int)  
variable{M b r a}{K:Kn}{n:Nat}
def Ea(c:am K)(h:uM K n a=some r):aZ aT 33 [iI a] (fun v _=>v=.agg (aD r)):=by
 refine bK (cat Tryz.f33 (pn 1)) Tryz.func33 Tryz.ntmps33 fun M b=>(bn ⟨[(0,iI a)],[],[],[]⟩ ?_);unfold uM at h;refine aM 5 (va 2 ?_);cases h;exact bD
end
section
variable(M:Nat→Prop)(a:az)(r b:Bool)  
abbrev abx(n:Nat):aq:=.c (cat Tryz.f10 (pn n))
abbrev Za:Cx:=⟨aT,33,M,a⟩
abbrev q10:=bodyPost aT Tryz.f10 (bP M a (fun v _=>v=.bool r))
abbrev aau(b:ck)(s:AS):=VE (Za M a) (q10 M a r) b .normal s
def akn:AS:=⟨[(0,.bool b)],[],[],[]⟩
variable{M a r b}{K:Kn}{n:Nat}
def EU(c:∀ [GS],am K)(h:vJ K n b=some r):aau M a r [abx 127] (akn b):=by
 letI:GS:=⟨0,true⟩;have d:=@c ⟨0,true⟩
 unfold vJ at h;refine aM 1 ?_;cases h;exact bD
def YP(b:∀ [GS],am K)(h:CF K n=some r):aZ aT 10 [] (fun v _=>v=.bool r):=by
 letI:GS:=⟨0,true⟩;have c:=@b ⟨0,true⟩
 refine bK (cat Tryz.f10 (pn 1)) Tryz.func10 Tryz.ntmps10 fun M a=>(bn ⟨[],[],[],[]⟩ ?_);unfold CF at h;refine av 14 15 5 (aj 0 ?_);obtain⟨g,j,h⟩:=aw h;refine aR (Ea c j) ?_;obtain⟨i,k,h⟩:=aw h;refine aR (Ea c k) (au (ii aP ([g,i]:dn) (new:=[aD g,aD i]) (by simp only[n5,u7,eE])) (aW 4 1 (O0 400001 1 0 64 127 ?_)));obtain⟨q,l,h⟩:=aw h;refine Cf 1 400001 (fun [GS] [RG]=>(BZ b l)) (ae (av 6 7 3 (aj 0 ?_)));obtain⟨v4,m,h⟩:=aw h;refine aR (Ea c m) ?_;obtain⟨v5,o,h⟩:=aw h;refine aR (Ea c o) (au (ii aP ([v4,v5]:dn) (new:=[aD v4,aD v5]) (by simp only[n5,u7,eE])) (aW 4 1 ?_));obtain⟨v6,p,h⟩:=aw h;refine Cf 1 400001 (fun [GS] [RG]=>(BZ b p)) (ae (av 2 3 1 (aj 4 ?_)));obtain⟨d,h⟩|⟨d,h⟩:=ao h
 ·refine aF 19 d (aW 8 4 ?_);obtain⟨e,h⟩|⟨e,h⟩:=ao h
  ·refine aF 23 e (aW 13 5 ?_);obtain⟨f,h⟩|⟨f,h⟩:=ao h
   ·exact aF 28 f (ae (ah 0 (EU b h)))
   ·exact aF 28 f (ae (ah 0 (EU b h)))
  ·exact aF 23 e (ae (ah 0 (EU b h)))
 ·exact aF 19 d (ae (ah 0 (EU b h)))
end
section
variable[GS](M:Nat→Prop)(a:az)(r:Bool)(b:cL)(c:Bool)  
abbrev aeF(n:Nat):aq:=.c (cat Tryz.f72 (pn n))
abbrev ai5:Cx:=⟨aT,11,M,a⟩
abbrev q72:=bodyPost aT Tryz.f72 (bP M a (fun v _=>v=.bool r))
abbrev afK(b:ck)(s:AS):=VE (ai5 M a) (q72 M a r) b .normal s
def ae8:AS:=⟨[(2,.bool c)],[],[],[]⟩
variable{M a r b c}{K:Kn}{n:Nat}
def VS(b:am K)(h:zB K n c=some r):afK M a r [aeF 7] (ae8 c):=by
 unfold zB at h;refine aM 1 ?_;cases h;exact bD
def jy(d:am K)(h:gl K n b=some r):aZ aT 72 [.agg (gu b)] (fun v _=>v=.bool r):=by
 refine bK (cat Tryz.f72 (pn 1)) Tryz.func72 Tryz.ntmps72 fun M a=>(bn ⟨[(0,.agg (gu b))],[],[],[]⟩ ?_);unfold gl at h;refine av 6 7 3 (aj 4 ?_);obtain⟨c,h⟩|⟨c,h⟩:=ao h
 ·exact aF 6 c (ae (ah 0 (VS d h)))
 ·exact aF 6 c (ae (ah 0 (VS d h)))
end
section
variable[GS](M:Nat→Prop)(d:az)(r:Bool)(b:eq)(e a:Int)(i j k l o:Bool)(f:Nat)(g:Int→Option Bool)
abbrev Ew:Cx:=⟨aT,130,M,d⟩
abbrev Fa:=bodyPost aT Tryz.f34 (bP M d (fun v _=>v=.bool r))
abbrev uJ(a:ck)(s:AS):=VE (Ew M d) (Fa M d r) a .normal s
abbrev fX(n:Nat):aq:=.c (cat Tryz.f34 (pn n))
abbrev H0:ck:=[.b 0,fX 7]
abbrev Be:ck:=kl (Ew M d) (Fa M d r) H0 (cat Tryz.f34 (pn 52)) f::H0
def Z8:AS:=⟨[(0,.sl (lm aH b)),(1,iI e),(5,iI a),(6,.ptr 6 0),(7,iI 3),(125,.bool o)],[(6,aG ((gD b a).Style))],[],[6]⟩
def ZH:AS:=⟨[(0,.sl (lm aH b)),(1,iI e),(5,iI a),(6,.ptr 6 0),(7,iI 2),(125,.bool l)],[(6,aG ((gD b a).Style))],[],[6]⟩
def agC:AS:=⟨[(0,.sl (lm aH b)),(1,iI e),(5,iI a),(6,.ptr 6 0),(7,iI 1),(125,.bool k)],[(6,aG ((gD b a).Style))],[],[6]⟩
def adW:AS:=⟨[(0,.sl (lm aH b)),(1,iI e),(5,iI a),(6,.ptr 6 0),(7,iI 0),(125,.bool j)],[(6,aG ((gD b a).Style))],[],[6]⟩
def ZU:AS:=⟨[(0,.sl (lm aH b)),(1,iI e),(5,iI a),(6,.ptr 6 0),(107,.bool i)],[(6,aG ((gD b a).Style))],[],[6]⟩
def Ro:AS:=⟨[(0,.sl (lm aH b)),(1,iI e),(5,iI a)],[],[],[]⟩
abbrev rk:Prop:=∀{a:Int},g a=some r→LP (Ew M d) (Fa M d r) H0 (cat Tryz.f34 (pn 52)) f (Ro b e a)
abbrev nH(m:Nat):ck:=kl (Ew M d) (Fa M d r) (.b 2 :: .b 1::fX 211::Be M d r f) (cat Tryz.f34 (pn 13468)) m::(.b 2 :: .b 1::fX 211::Be M d r f)
variable{M d r b e a i j k l o f g}{K:Kn}{n:Nat}
def Q3(j:am K)(i:rk M d r b e f g)(h:sN K n b e a g o=some r):uJ M d r (fX 215497 :: .b 3::fX 53875::nH M d r f 36) (Z8 b e a o):=by
 unfold sN at h;obtain⟨c,h⟩|⟨c,h⟩:=ao h
 ·refine ai 125 c (aM 13 ?_);cases h;exact bD
 ·exact ai 125 c (bC (ks':=nH M d r f 36) 4 ⟨[(0,.sl (lm aH b)),(1,iI e),(5,iI a),(6,.ptr 6 0),(7,iI 4)],[(6,aG ((gD b a).Style))],[],[6]⟩ (bu (bq (ah 10 (bu (i h))))))
def P9(k:am K)(j:rk M d r b e f g)(h:yR K n b e a g l=some r):uJ M d r (fX 215497 :: .b 3::fX 53875::nH M d r f 37) (ZH b e a l):=by
 unfold yR at h;obtain⟨c,h⟩|⟨c,h⟩:=ao h
 ·refine ai 125 c (aM 13 ?_);cases h;exact bD
 ·refine ai 125 c (bC (ks':=nH M d r f 37) 4 ⟨[(0,.sl (lm aH b)),(1,iI e),(5,iI a),(6,.ptr 6 0),(7,iI 3)],[(6,aG ((gD b a).Style))],[],[6]⟩ (bu (bq (dL 24 25 3 7 8 (aj 4 ?_)))));obtain⟨p,m,h⟩:=aw h;refine aR (jy k m) (aW 7 2 ?_);obtain⟨i,h⟩|⟨i,h⟩:=ao h
  ·exact aF 118 i (ae (ah 0 (Q3 k j h)))
  ·refine aF 118 i (aW 11 4 ?_);obtain⟨q,o,h⟩:=aw h;exact aR (jy k o) (ae (ah 0 (Q3 k j h)))
def T6(l:am K)(j:rk M d r b e f g)(h:xy K n b e a g k=some r):uJ M d r (fX 215497 :: .b 3::fX 53875::nH M d r f 38) (agC b e a k):=by
 unfold xy at h;obtain⟨c,h⟩|⟨c,h⟩:=ao h
 ·refine ai 125 c (aM 13 ?_);cases h;exact bD
 ·refine ai 125 c (bC (ks':=nH M d r f 38) 4 ⟨[(0,.sl (lm aH b)),(1,iI e),(5,iI a),(6,.ptr 6 0),(7,iI 2)],[(6,aG ((gD b a).Style))],[],[6]⟩ (bu (bq (dL 24 25 3 7 8 (aj 4 ?_)))));obtain⟨p,m,h⟩:=aw h;refine aR (jy l m) (aW 7 2 ?_);obtain⟨i,h⟩|⟨i,h⟩:=ao h
  ·exact aF 118 i (ae (ah 0 (P9 l j h)))
  ·refine aF 118 i (aW 11 4 ?_);obtain⟨q,o,h⟩:=aw h;exact aR (jy l o) (ae (ah 0 (P9 l j h)))
def Sm(l:am K)(k:rk M d r b e f g)(h:zQ K n b e a g j=some r):uJ M d r (fX 215497 :: .b 3::fX 53875::nH M d r f 39) (adW b e a j):=by
 unfold zQ at h;obtain⟨c,h⟩|⟨c,h⟩:=ao h
 ·refine ai 125 c (aM 13 ?_);cases h;exact bD
 ·refine ai 125 c (bC (ks':=nH M d r f 39) 4 ⟨[(0,.sl (lm aH b)),(1,iI e),(5,iI a),(6,.ptr 6 0),(7,iI 1)],[(6,aG ((gD b a).Style))],[],[6]⟩ (bu (bq (dL 24 25 3 7 8 (aj 4 ?_)))));obtain⟨p,m,h⟩:=aw h;refine aR (jy l m) (aW 7 2 ?_);obtain⟨i,h⟩|⟨i,h⟩:=ao h
  ·exact aF 118 i (ae (ah 0 (T6 l k h)))
  ·refine aF 118 i (aW 11 4 ?_);obtain⟨q,o,h⟩:=aw h;exact aR (jy l o) (ae (ah 0 (T6 l k h)))
def iU(m:am K)(l:rk M d r b e f g)(h:fu K n b e a g i=some r):uJ M d r (fX 3365::fX 1683 :: .b 1::fX 211::Be M d r f) (ZU b e a i):=by
 unfold fu at h;obtain⟨j,h⟩|⟨j,h⟩:=ao h
 ·refine ai 107 j (aM 10 ?_);cases h;exact bD
 ·refine ai 107 j (bC (ks':=fX 6734 :: .b 2 :: .b 1::fX 211::Be M d r f) 5 ⟨[(0,.sl (lm aH b)),(1,iI e),(5,iI a),(6,.ptr 6 0),(7,iI 0)],[(6,aG ((gD b a).Style))],[],[6]⟩ (o6 40 (c:=cat Tryz.f34 [1,0,1,0,0,1,0,0,1,1,1,0,0]) (by kernel_rfl) (bq (bW (ks':=fX 215496::fX 215497 :: .b 3::fX 53875::nH M d r f 39) 8 (aj 4 ?_)))));obtain⟨q,o,h⟩:=aw h;refine aR (jy m o) (aW 7 2 ?_);obtain⟨k,h⟩|⟨k,h⟩:=ao h
  ·exact aF 118 k (ae (ah 0 (Sm m l h)))
  ·refine aF 118 k (aW 11 4 ?_);obtain⟨s,p,h⟩:=aw h;exact aR (jy m p) (ae (ah 0 (Sm m l h)))
def ajC(i:am K)(c:rk M d r b e f g)(h:oK K n b e g a=some r):uJ M d r (fX 52::Be M d r f) (Ro b e a):=by
 unfold oK at h;refine cj 4 5 3 2 (aj 2 (au (bF aH b) (ae ?_)));obtain⟨j,h⟩|⟨j,h⟩:=ao h
 ·refine ai 11 j (cX 8 9 1 3 5 (aj 2 ?_));obtain⟨B,h⟩:=aB h;refine au (bX aH aH B (dJ) ap) (ae (cj 4 5 3 2 (aj 2 ?_)));obtain⟨C,h⟩:=aB h;refine au (bX aH aH C (dJ) ap) (aW 8 5 ?_);obtain⟨k,h⟩|⟨k,h⟩:=ao h
  ·exact aF 26 k (ae (ah 0 (iU i c h)))
  ·refine aF 26 k (aW 10 2 ?_);obtain⟨L,D,h⟩:=aw h;refine aR (jy i D) (aW 14 3 ?_);obtain⟨l,h⟩|⟨l,h⟩:=ao h
   ·exact aF 32 l (ae (ah 0 (iU i c h)))
   ·refine aF 32 l (aW 16 2 ?_);obtain⟨N,E,h⟩:=aw h;refine aR (jy i E) (aW 20 3 ?_);obtain⟨m,h⟩|⟨m,h⟩:=ao h
    ·exact aF 38 m (ae (ah 0 (iU i c h)))
    ·refine aF 38 m (aW 22 2 ?_);obtain⟨O,F,h⟩:=aw h;refine aR (jy i F) (aW 26 3 ?_);obtain⟨o,h⟩|⟨o,h⟩:=ao h
     ·exact aF 44 o (ae (ah 0 (iU i c h)))
     ·refine aF 44 o (aW 28 2 ?_);obtain⟨P,G,h⟩:=aw h;refine aR (jy i G) (aW 32 3 ?_);obtain⟨p,h⟩|⟨p,h⟩:=ao h
      ·exact aF 50 p (ae (ah 0 (iU i c h)))
      ·refine aF 50 p (aW 34 2 ?_);obtain⟨Q,H,h⟩:=aw h;refine aR (jy i H) (aW 38 3 ?_);obtain⟨q,h⟩|⟨q,h⟩:=ao h
       ·exact aF 56 q (ae (ah 0 (iU i c h)))
       ·refine aF 56 q (aW 40 2 ?_);obtain⟨R,I,h⟩:=aw h;refine aR (jy i I) (aW 44 3 ?_);obtain⟨s,h⟩|⟨s,h⟩:=ao h
        ·exact aF 62 s (ae (ah 0 (iU i c h)))
        ·refine aF 62 s (aW 46 2 ?_);obtain⟨S,J,h⟩:=aw h;refine aR (jy i J) (aW 50 3 ?_);obtain⟨t,h⟩|⟨t,h⟩:=ao h
         ·exact aF 68 t (ae (ah 0 (iU i c h)))
         ·refine aF 68 t (aW 55 5 ?_);obtain⟨u,h⟩|⟨u,h⟩:=ao h
          ·exact aF 73 u (ae (ah 0 (iU i c h)))
          ·refine aF 73 u (aW 60 5 ?_);obtain⟨v,h⟩|⟨v,h⟩:=ao h
           ·exact aF 78 v (ae (ah 0 (iU i c h)))
           ·refine aF 78 v (aW 65 5 ?_);obtain⟨w,h⟩|⟨w,h⟩:=ao h
            ·exact aF 83 w (ae (ah 0 (iU i c h)))
            ·refine aF 83 w (aW 70 5 ?_);obtain⟨x,h⟩|⟨x,h⟩:=ao h
             ·exact aF 88 x (ae (ah 0 (iU i c h)))
             ·refine aF 88 x (aW 75 5 ?_);obtain⟨y,h⟩|⟨y,h⟩:=ao h
              ·exact aF 93 y (ae (ah 0 (iU i c h)))
              ·refine aF 93 y (aW 80 5 ?_);obtain⟨z,h⟩|⟨z,h⟩:=ao h
               ·exact aF 98 z (ae (ah 0 (iU i c h)))
               ·refine aF 98 z (aW 85 5 ?_);obtain⟨A,h⟩|⟨A,h⟩:=ao h
                ·exact aF 103 A (ae (ah 0 (iU i c h)))
                ·exact aF 103 A (ae (ah 0 (iU i c h)))
 ·refine ai 11 j (gV 2 3 6 (aj 1 (au (bF aH b) (ae (aM 1 ?_)))));cases h;exact bD
def YR(a:am K)(m:Nat):rk M d r b e m (uh K n b e m):=by
 induction m with
 | zero=>exact fun h=>nomatch h
 | succ m c=>exact fun h=>bq (ajC a c h)
def VJ(a:am K)(h:xr K n b e=some r):aZ aT 34 [.sl (lm aH b),iI e] (fun v _=>v=.bool r):=by
 refine bK (cat Tryz.f34 (pn 1)) Tryz.func34 Tryz.ntmps34 fun M d=>(bn ⟨[(0,.sl (lm aH b)),(1,iI e)],[],[],[]⟩ ?_);unfold xr at h;exact ah 6 (cf (p:=pn 26) n (YR a n h))
end
section
variable[GS](M:Nat→Prop)(b:az)(r:Bool)(c:eq)(a:List fi)(v4:Int)(f:Bool)(d:Nat)(e:Int→Option Bool)
abbrev HU:Cx:=⟨aT,31,M,b⟩
abbrev IE:=bodyPost aT Tryz.f11 (bP M b (fun v _=>v=.bool r))
abbrev UB(a:ck)(s:AS):=VE (HU M b) (IE M b r) a .normal s
abbrev KZ(n:Nat):aq:=.c (cat Tryz.f11 (pn n))
abbrev Kj:ck:=[.b 0,KZ 7]
abbrev aeV:ck:=kl (HU M b) (IE M b r) Kj (cat Tryz.f11 (pn 52)) d::Kj
def aly:AS:=⟨[(4,.bool f)],[],[],[]⟩
def NE:AS:=⟨[(0,.sl (lm aH c)),(1,.sl (lm eF a)),(7,.sl (lm eF a)),(8,iI (a.length:Int)),(9,iI v4)],[],[],[]⟩
abbrev TO:Prop:=∀{v4:Int},e v4=some r→LP (HU M b) (IE M b r) Kj (cat Tryz.f11 (pn 52)) d (NE c a v4)
variable{M b r c a v4 f d e}{K:Kn}{n:Nat}
def Ku(a:am K)(h:sP K n f=some r):UB M b r [KZ 15] (aly f):=by
 unfold sP at h;refine aM 1 ?_;cases h;exact bD
def aj3(i:am K)(l:TO M b r c a d e)(h:Cg K n c a e v4=some r):UB M b r (KZ 52::aeV M b r d) (NE c a v4):=by
 unfold Cg at h;refine av 6 7 3 ?_;obtain⟨j,h⟩|⟨j,h⟩:=ao h
 ·refine ai 10 j (cX 8 9 1 3 5 (aj 0 ?_));obtain⟨m,h⟩:=aB h;refine au (bX eF eF m (Og) ap) (ae (av 2 3 1 (aj 3 ?_)));obtain⟨v5,o,h⟩:=aw h;refine aR (VJ i o) (ae ?_);obtain⟨k,h⟩|⟨k,h⟩:=ao h
  ·refine ai 17 k (aM 9 ?_);cases h;exact bD
  ·exact ai 17 k (ah 4 (bu (l h)))
 ·refine ai 10 j (gV 2 3 6 (aj 1 ?_));obtain⟨v6,p,h⟩:=aw h;refine aR (VJ i p) (aW 3 1 ?_);obtain⟨f,h⟩|⟨f,h⟩:=ao h
  ·refine aF 21 f (aW 4 1 (au (bF aH c) (aW 8 3 ?_)));obtain⟨g,h⟩|⟨g,h⟩:=ao h
   ·exact aF 26 g (aW 9 1 (au (bF eF a) (ae (ah 0 (Ku i h)))))
   ·exact aF 26 g (ae (ah 0 (Ku i h)))
  ·exact aF 21 f (ae (ah 0 (Ku i h)))
def XA(d:am K)(m:Nat):TO M b r c a m (Bd K n c a m):=by
 induction m with
 | zero=>exact fun h=>nomatch h
 | succ m e=>exact fun h=>bq (aj3 d e h)
def abB(d:am K)(h:ES K n c a=some r):aZ aT 11 [.sl (lm aH c),.sl (lm eF a)] (fun v _=>v=.bool r):=by
 refine bK (cat Tryz.f11 (pn 1)) Tryz.func11 Tryz.ntmps11 fun M b=>(bn ⟨[(0,.sl (lm aH c)),(1,.sl (lm eF a))],[],[],[]⟩ ?_);unfold ES at h;exact cj 12 13 7 4 (aj 1 (au (bF eF a) (ae (ah 1 (cf (p:=pn 26) n (XA d n h))))))
end
section
variable[GS](M:Nat→Prop)(d:az)(r:ag×Int)(a:eq)(c:Int)(e:Bool)(b:Int)(f:dn)(g:Bool)(i:Nat)(j:Int→dn→Option eg)
abbrev FJ:Cx:=⟨aT,95,M,d⟩
abbrev KI:=bodyPost aT Tryz.f41 (bP M d (fun v s=>v=.tup [.agg (List.set (aD ({ r.1 with Kids:=[] }:ag)) 58 (.ref 72)),iI r.2]∧look 72 s.r=some (bk r.1.Kids)))
abbrev Lz(a:ck)(s:AS):=VE (FJ M d) (KI M d r) a .normal s
abbrev rS(n:Nat):aq:=.c (cat Tryz.f41 (pn n))
abbrev J5:ck:=[.b 0,rS 127]
abbrev HF:ck:=kl (FJ M d) (KI M d r) J5 (cat Tryz.f41 (pn 504)) i::J5
def Zv:AS:=⟨[(0,.sl (lm aH a)),(1,iI b),(4,.ptr 4 0),(6,.ptr 6 0),(7,.int .u8 ((gD a c).Depth)),(8,.bool e),(60,.bool g)],[(4,List.set (aD dk) 58 (.nils)),(6,List.set (aD ({ dk with Kind:=1,Node:=(aa (10+c)),Style:=(gD a c).Style }:ag)) 58 (.ref 72))],[(72,(bk f))],[4,6,72]⟩
def Qo:AS:=⟨[(0,.sl (lm aH a)),(1,iI b),(4,.ptr 4 0),(6,.ptr 6 0),(7,.int .u8 ((gD a c).Depth)),(8,.bool e)],[(4,List.set (aD dk) 58 (.nils)),(6,List.set (aD ({ dk with Kind:=1,Node:=(aa (10+c)),Style:=(gD a c).Style }:ag)) 58 (.ref 72))],[(72,(bk f))],[4,6,72]⟩
def adM:AS:=⟨[(0,.sl (lm aH a)),(1,iI (aa (c+1))),(4,.ptr 4 0),(6,.ptr 6 0),(7,.int .u8 ((gD a c).Depth)),(8,.bool e)],[(4,List.set (aD dk) 58 (.nils)),(6,List.set (aD ({ dk with Kind:=1,Node:=(aa (10+c)),Style:=(gD a c).Style }:ag)) 58 (.nils))],[],[4,6]⟩
abbrev Ke:Prop:=∀{b:Int} {f:dn},j b f=some r→LP (FJ M d) (KI M d r) J5 (cat Tryz.f41 (pn 504)) i (Qo a c e b f)
variable{M d r a c e b f g i j}{K:Kn}{n:Nat}
def WR(x:am K)(s:Ke M d r a c e i j)(h:mX K n a c e b f j g=some r):Lz M d r (rS 2017::rS 1009::HF M d r i) (Zv a c e b f g):=by
 unfold mX at h;obtain⟨l,h⟩|⟨l,h⟩:=ao h
 ·refine ai 60 l (bW (ks':=rS 8073::rS 4037 :: .b 1::HF M d r i) 6 ?_);obtain⟨o,h⟩|⟨o,h⟩:=ao h
  ·refine ai 61 o (av 4 5 2 (aj 2 ?_));obtain⟨t,u,h⟩:=aw h;refine aR (x.k7 u) (ae (av 2 3 1 (aj 3 (au (ii aP ([t.1]:dn) (new:=[aD t.1]) (by simp only[n5,u7,eE])) ?_))));obtain⟨v,h⟩:=aB h;exact au (cG 72 72 48 59 aP (rfl) (gB) v) (ae (ah 5 (bu (s h))))
  ·refine ai 61 o (gY 2 3 3 (bV [0,1,4,6,7,8] [4,6] [72] ?_));obtain⟨p,h⟩:=aB h;obtain⟨q,h⟩:=aB h;obtain⟨w,h⟩:=aB h;exact ci 2 (nu 75 [.ptr 6 58,.ref 72,.sl (lm aH a),iI b,.cptr (aH (gD a b)),.cptr (List.drop 5 (aH (gD a b))),.agg (aG ((gD a b).Style)),.sl (lm aH a),iI b,.cptr (aH (gD a b)),.cptr (List.drop 2 (aH (gD a b))),.str ((gD a b).Text),.agg (List.set (aD ({ dk with Kind:=3,Style:=(gD a b).Style,Text:=(gD a b).Text }:ag)) 58 (.nils)),.sl (lm aP [({ dk with Kind:=3,Style:=(gD a b).Style,Text:=(gD a b).Text }:ag)])]++nu 90 [.ptr 6 58]) [] [] [gh 89 72 ⟨48,59,lm aP (f++[({ dk with Kind:=3,Style:=(gD a b).Style,Text:=(gD a b).Text }:ag)])⟩,cF aT 95 Tryz.f41 (pn 8074) 16] (aE [.v 0 2,.v 0 1,.v 0 2,.v 0 2] (ax (fv (lo:=0) (k:=2) (di ⟨(by kernel_rfl),(dp (bX aH aH p (dJ) ap) (by kernel_rfl))⟩ (di ⟨(by kernel_rfl),(dp (bX aH aH p (dJ) ap) (by kernel_rfl))⟩ fG))) (aE [.v 0 2,.v 0 2,.v 0 2,.v 0 2] (ax (fv (lo:=0) (k:=2) (di ⟨(by kernel_rfl),(dp (bX aH aH q (dJ) ap) (by kernel_rfl))⟩ (di ⟨(by kernel_rfl),(dp (bX aH aH q (dJ) ap) (by kernel_rfl))⟩ fG))) (aE [.v 0 2,.v 0 2,.v 0 2] (bE (ii aP ([({ dk with Kind:=3,Style:=(gD a b).Style,Text:=(gD a b).Text }:ag)]:dn) (new:=[aD ({ dk with Kind:=3,Style:=(gD a b).Style,Text:=(gD a b).Text }:ag)]) (by simp only[n5,u7,eE])) (ax (dq (m:=0) (cG 89 72 48 59 aP (rfl) (gB) w)) (aE [.v 1 1] (ax (cE 1) cg))))))))) (ah 2 (bu (s h)))
 ·refine ai 60 l (aM 8 ?_);cases h;exact qW
def ZR(m:am K)(k:Ke M d r a c e i j)(h:se K n a c e j b f=some r):Lz M d r (rS 504::HF M d r i) (Qo a c e b f):=by
 unfold se at h;refine cj 4 5 3 2 (aj 2 (au (bF aH a) (aW 5 2 ?_)));obtain⟨g,h⟩|⟨g,h⟩:=ao h
 ·refine aF 52 g (aW 7 2 ?_);obtain⟨l,h⟩:=aB h;exact au (bX aH aH l (dJ) ap) (ae (ah 0 (WR m k h)))
 ·exact aF 52 g (ae (ah 0 (WR m k h)))
def ajl(b:am K)(m:Nat):Ke M d r a c e m (nZ K n a c e m):=by
 induction m with
 | zero=>exact fun h=>nomatch h
 | succ m f=>exact fun h=>bq (ZR b f h)
def KP(b:am K)(h:pb K n a c e=some r):Lz M d r [rS 63] (adM a c e):=by
 unfold pb at h;exact jb 4 0 3 2 (bV [0,1,4,6,7,8] [4,6] [] (sC 72 6 58 48 59 (ah 0 (cf (p:=pn 252) n (ajl b n h)))))
def ai9(f:am K)(h:oI K n a c=some r):aZ aT 41 [.sl (lm aH a),iI c] (fun v s=>v=.tup [.agg (List.set (aD ({ r.1 with Kids:=[] }:ag)) 58 (.ref 72)),iI r.2]∧look 72 s.r=some (bk r.1.Kids)):=by
 refine bK (cat Tryz.f41 (pn 1)) Tryz.func41 Tryz.ntmps41 fun M d=>(bn ⟨[(0,.sl (lm aH a)),(1,iI c)],[],[],[]⟩ ?_);unfold oI at h;refine av 6 7 3 (aj 4 ?_);obtain⟨g,h⟩:=aB h;refine au (bX aH aH g (dJ) ap) (ae (av 2 3 1 (aj 2 ?_)));obtain⟨i,h⟩:=aB h;refine au (bX aH aH i (dJ) ap) (ae (av 6 7 3 (aj 2 (au (bF aH a) (aW 5 2 ?_)))));obtain⟨b,h⟩|⟨b,h⟩:=ao h
 ·refine aF 30 b (aW 7 2 ?_);obtain⟨j,h⟩:=aB h;refine au (bX aH aH j (dJ) ap) (aW 14 6 ?_);obtain⟨e,h⟩|⟨e,h⟩:=ao h
  ·refine aF 39 e (aW 16 2 ?_);obtain⟨k,h⟩:=aB h;exact au (bX aH aH k (dJ) ap) (ae (ah 0 (KP f h)))
  ·exact aF 39 e (ae (ah 0 (KP f h)))
 ·exact aF 30 b (ae (ah 0 (KP f h)))
end
structure DB where
 nd:Bool
 b:ag
 y:Value
 kids:List DB
instance:Inhabited DB:=⟨⟨false,dk,.nilIface,[]⟩⟩
def DB.cells(D:DB):b6:=List.set (aD ({ D.b with Kids:=[] }:ag)) 58 (.vv D.y)
def DB.Xv(D:DB):D.cells.length=59:=rfl
mutual
def DB.plain:DB→ag
 | ⟨_,b,_,a⟩=>{ b with Kids:=jB a }
def jB:List DB→dn
 | []=>[]
 | d::r=>d.plain::jB r
end
def m9:∀l:List DB,jB l=l.map DB.plain
 | []=>rfl
 | d::r=>by simp[jB,m9 r]
mutual
def DB.bl:DB→d4
 | ⟨b,_,y,a⟩=>match b with|true=>(match bg (some y) with|some g=>[g]|none=>[])++bls a|false=>[]
def bls:List DB→d4
 | []=>[]
 | d::r=>d.bl++bls r
end
def Jm:∀(l m:List DB),bls (l++m)=bls l++bls m
 | [],m=>rfl
 | d::r,m=>by simp[bls,Jm r m]
def kX:∀{l:List DB} {g:Nat},g∈bls l↔∃d∈l,g∈d.bl
 | [],g=>by simp[bls]
 | d::r,g=>by simp[bls,kX (l:=r)]
def DB.L9(D:DB):D.plain={ D.b with Kids:=D.kids.map DB.plain }:=by cases D;simp only[DB.plain,m9]
def DB.R6(D:DB):aP D.plain=List.set (aD ({ D.b with Kids:=[] }:ag)) 58 (.sl (lm aP (D.kids.map DB.plain))):=by
 rw[eE,DB.L9];rfl
def ahG{y x:Value}(h:iA (.vv y) x):x=y:=by
 have:=h (fun _=>False) default bA;cases this;rfl
inductive dZ (w:World):DB→Prop
 | leaf (b:ag) (y:Value) (hb:b.Kind≠1) (A:Option Addr) (c:Nat) (hy:y=.slice A 0 c):dZ w ⟨false,b,y,[]⟩
 | node (b:ag) (y:Value) (kids:List DB) (xs:d5) (h1:w.ownsRow 0 48 59 y kids.length xs) (h2:∀ x∈xs,x.oneCell'=true)
     (h3:∀(j:Nat) (D:DB),kids[j]?=some D→∀(i:Nat) (c:AV),D.cells[i]?=some c→∃x,xs[j*59+i]?=some x∧iA c x) (h4:∀D∈kids,dZ w D):dZ w ⟨true,b,y,kids⟩
def Ot{b:ag}{y:Value}{a:List DB}{D:DB}(h:D∈a){g:Nat}(c:g∈D.bl):g∈(⟨true,b,y,a⟩:DB).bl:=by
 simp only[DB.bl,kb];exact .inr (kX.2 ⟨D,h,c⟩)
def CH{b:ag}{y:Value}{a:List DB}{g:Nat}(c:bg (some y)=some g):g∈(⟨true,b,y,a⟩:DB).bl:=by
 simp[DB.bl,c]
def dZ.ca{w w':World}{D:DB}(h:dZ w D):(∀g∈D.bl,w'.heap[g]?=w.heap[g]?)→dZ w' D:=by
 induction h with
 | leaf b y l A c m=>intro _;exact .leaf b y l A c m
 | node b y a xs i j k o n=>intro f;exact .node b y a xs (fS i (fun g d=>f g (CH d))) j k (fun D e=>n D e (fun g d=>f g (Ot e d)))
def dZ.lt{w:World}{D:DB}(h:dZ w D):∀g∈D.bl,g<w.heap.size:=by
 induction h with
 | leaf b y d A c p=>intro g a;cases a
 | node b y f xs i m n o k =>
   intro g a;simp only[DB.bl,kb]at a;rcases a with a|a
   · cases d:bg (some y) with
     | none=>rw[d]at a;cases a
     | some l=>rw[d]at a;rw[acN.1 a];exact JE i d
   · obtain⟨D,j,e⟩:=kX.1 a;exact k D j g e
def dZ.rel{w:World}{N:Nat→Prop}{D:DB}(h:dZ w D):(∀g∈D.bl,¬ N g)→Rel N w bA (.sl (lm aP (D.kids.map DB.plain))) D.y:=by
 induction h with
 | leaf b y Q A c U=>intro _;subst U;exact .sl0 _ _ _
 | node b y a xs O P G X W =>
   intro I;obtain⟨Y,⟨V,C⟩|⟨g,s,t,K,Q,r,R,J,T,F⟩⟩:=O
   · have:a=[]:=ne C;subst this;show Rel N w bA (.sl []) y;rw[V];exact .sl0 _ _ _
   · have z:bg (some y)=some g:=by rw[K];rfl
     have H:(lm aP (a.map DB.plain)).length=a.length:=by simp
     have q:∀(j:Nat) (e:b6),(lm aP (a.map DB.plain))[j]?=some e→∃D,a[j]?=some D∧e=aP D.plain:=fun j e d=>by
       rw[th,th]at d;cases L:a[j]? with
       | none=>rw[L]at d;cases d
       | some D=>rw[L]at d;injection d with d;exact⟨D,rfl,d.symm⟩
     have k:∀(j:Nat) (e:b6),(lm aP (a.map DB.plain))[j]?=some e→∀(i:Nat) (x:AV),e[i]?=some x→∃v,xs[j*59+i]?=some v∧Rel N w bA x v:=fun j e d i x l=>by
       obtain⟨D,u,rfl⟩:=q j e d;rw[DB.R6]at l;have n:=jt u;have m:(aD ({ D.b with Kids:=[] }:ag)).length=59:=rfl;by_cases p:i=58
       · subst p;rw[IN (by rw[m];omega)]at l;injection l with l;subst l
         obtain⟨v,f,E⟩:=G j D u 58 (.vv D.y) (by unfold DB.cells;rw[IN (by rw[m];omega)]);refine⟨v,f,?_⟩;rw[ahG E];exact W D n (fun M B=>I M (Ot n B))
       · rw[T5 (fun e=>p e.symm)]at l;obtain⟨v,f,E⟩:=G j D u i x (by unfold DB.cells;rw[T5 (fun e=>p e.symm)];exact l);exact⟨v,f,E _ _ _⟩
     have o:=Rel.sl (N:=N) (w:=w) bA (lm aP (a.map DB.plain)) g 0 s 59 (fun j i=>(xs[j*59+i]?).getD (.bool true)) (fun e d=>by
         obtain⟨b,_,rfl⟩:=u6.1 d;exact gB b) (lc.1 r).1 (I g (CH z)) (fun j i=>by
         cases e:xs[j*59+i]? with
         | none=>rfl
         | some v=>exact P v (jt e)) (fun j e d i x l=>by
         obtain⟨v,f,_⟩:=k j e d i x l;rw[amm _ _ _ _ 48 (0,0) r];have:t.toList[j*59+i]?=some v:=by
           rw[←F]at f;rw[u5]at f;split at f
           · exact f
           · cases f
         simp only[f,DO];rw[←aas,z5];exact this) (fun j e d i x l=>by
         obtain⟨v,f,S⟩:=k j e d i x l;simp only[f,DO];exact S) (by rw[H];exact R)
     rw[H]at o;show Rel N w bA _ y;rw[K];exact o
def LG{N:Nat→Prop}{w:World}{ι:Env}{l:b6}{c:AV}{y x:Value}{q:Nat}(h:Rel N w ι (.agg (l.set q c)) x)(g:q<l.length)(p:((l.set q (.bool true)).all vp)=true)(o:∀v,Rel N w ι c v→v=y)(s:y.oneCell'=true):iA (.agg (l.set q (.vv y))) x:=by
 cases h with
 | agg _ _ vs b m j =>
   intro N' w' ι';refine .agg _ _ vs (by simpa using b) m fun i a v d k=>?_;rw[alW]at b;by_cases f:i=q
   · subst f;rw[IN g]at d;injection d with d;subst d
     have:=o v (j i c v (IN g) k);subst this;exact .vv _ _ s
   · rw[T5 (fun e=>f e.symm)]at d;have n:=j i a v (by rw[T5 (fun e=>f e.symm)];exact d) k;have r:=ll.1 p a (jt (i:=i) (by rw[T5 (fun e=>f e.symm)];exact d));exact DZ r n
def Iy{N:Nat→Prop}{w:World}{ι:Env}{id:Nat}{y:Value}(a:ι id=some y):∀v,Rel N w ι (.ref id) v→v=y:=fun v h=>by
 cases h with
 | ref _ _ A n c h=>rw[a]at h;injection h with h;exact h.symm
def Ks{N:Nat→Prop}{w:World}{D:DB}{i:Nat}{c:AV}{x:Value}(a:D.cells[i]?=some c)(h:Rel N w bA c x):iA c x:=by
 have d:(aD ({ D.b with Kids:=[] }:ag)).length=59:=rfl;by_cases b:i=58
 · subst b;unfold DB.cells at a;rw[IN (by rw[d];omega)]at a;injection a with a;subst a
   cases h with
   | vv _ _ f=>exact fun _ _ _=>.vv _ _ f
 · have g:vp c=true:=ll.1 (show ((List.set (aD ({ D.b with Kids:=[] }:ag)) 58 (.bool true)).all vp)=true from rfl) c (jt (i:=i) (by
     unfold DB.cells at a;rw[T5 (fun e=>b e.symm)]at a⊢;exact a))
   exact fun _ _ _=>DZ g h
def DB.ga(D:DB):b6:=List.set (aD ({ D.b with Kids:=[] }:ag)) 58 (match D.nd with|true=>.vv D.y|false=>.sl [])
def DB.UU(D:DB):D.ga.length=59:=rfl
def Kk{α β:Type}{P:Nat→α→β→Prop}:∀(l:List α) (k:Nat),(∀(j:Nat) (a:α),l[j]?=some a→∃b,P (k+j) a b)→∃m:List β,m.length=l.length∧∀(j:Nat) (a:α),l[j]?=some a→∃b,m[j]?=some b∧P (k+j) a b
 | [],k,_=>⟨[],rfl,fun j a h=>by simp at h⟩
 | a::r,k,h=>by
   obtain⟨b,n⟩:=h 0 a rfl;obtain⟨m,g,i⟩:=Kk (P:=P) r (k+1) (fun j d c=>by have:=h (j+1) d (by simpa using c);rw[show k+1+j=k+(j+1) by omega];exact this);refine⟨b::m,by simp[g],fun j d c=>?_⟩;cases j with
   | zero=>simp at c;subst c;exact⟨b,rfl,n⟩
   | succ j =>
     obtain⟨b',e,f⟩:=i j d (by simpa using c);exact⟨b',by simpa using e,by rw[show k+(j+1)=k+1+j by omega];exact f⟩
def EY{α β γ:Type}{f:α→γ}{g:β→γ}:∀{l:List α} {m:List β},m.length=l.length→(∀(j:Nat) (a:α),l[j]?=some a→∃b,m[j]?=some b∧g b=f a)→m.map g=l.map f
 | [],[],_,_=>rfl
 | [],_::_,h,_=>by cases h
 | _::_,[],h,_=>by cases h
 | a::r,b::q,h,k=>by
   obtain⟨b',c,e⟩:=k 0 a rfl;simp at c;subst c;rw[n5,n5,e,EY (by simpa using h) (fun j d i=>by simpa using k (j+1) d (by simpa using i))]
def qf:∀l:List DB,bls l=(l.map DB.bl).flatten
 | []=>rfl
 | d::r=>by simp[bls,qf r]
def Zd{M:Nat→Prop}{b:az}{w:World}{ι:Env}{s:AS}(h:HS M b w ι s){id:Nat}{n:List DB}(hr:look id s.r=some ⟨48,59,n.map DB.ga⟩)(g0:id<TG){y:Value}(U:ι id=some y)(W:ag)(S:∀D∈n,(D.nd=true→dZ b.w D∧∀g∈D.bl,M g)∧(D.nd=false→D.kids=[]∧D.b.Kind≠1))(J:(bls n).Nodup):
   ∃Ds',jB Ds'=jB n∧bls Ds'=bls n∧dZ w ⟨true,W,y,Ds'⟩∧(∀g∈bls Ds',M g)∧(⟨true,W,y,Ds'⟩:DB).bl.Nodup∧(∀g,bg (some y)=some g→b.O g∧g<w.heap.size):=by
 obtain⟨v,xs,Q,e2,e3,e4,e5⟩:=h.arrs id _ hr (by rw[U];rfl);rw[U]at Q;injection Q with Q;subst Q
 have C:∀D:DB,D.nd=false→D.bl=[]:=fun D l=>by cases D;simp only at l;subst l;rfl
 have X:∀D∈n,∀g∈D.bl,M g:=fun D l g m=>by
   cases B:D.nd with
   | true=>exact((S D l).1 B).2 g m
   | false=>rw[C D B]at m;cases m
 have step:∀(j:Nat) (D:DB),n[j]?=some D→∃k:DB,k.plain=D.plain∧k.bl=D.bl∧dZ w k∧∀(i:Nat) (c:AV),k.cells[i]?=some c→∃x,xs[(0+j)*59+i]?=some x∧iA c x:=fun j D l=>by
   have u:=jt l;have F:(aD ({ D.b with Kids:=[] }:ag)).length=59:=rfl;have get:∀(i:Nat) (c:AV),D.ga[i]?=some c→∃x,xs[j*59+i]?=some x∧Rel (NN M ι) w bA c x:=fun i c d=>by
     obtain⟨x,O,z⟩:=e5 j D.ga (by rw[th,l];rfl) i c d;exact⟨x,O,z.flat (by omega)⟩
   cases B:D.nd with
   | true =>
     have q:D.ga=D.cells:=by unfold DB.ga DB.cells;rw[B]
     refine⟨D,rfl,rfl,((S D u).1 B).1.ca fun g m=>?_,fun i c d=>?_⟩
     · have G:=h.old g (((S D u).1 B).2 g m);exact h.below.block g G.1 G.2
     · obtain⟨x,O,z⟩:=get i c (by rw[q];exact d);exact⟨x,by rw[z5];exact O,Ks d z⟩
   | false =>
     obtain⟨r,t⟩:=(S D u).2 B;have q:D.ga=List.set (aD ({ D.b with Kids:=[] }:ag)) 58 (.sl []):=by unfold DB.ga;rw[B]
     obtain⟨x,O,z⟩:=get 58 (.sl []) (by rw[q,IN (by rw[F];omega)]);have f0:∃A c,x=.slice A 0 c:=by
       cases z with
       | sl0 _ A c=>exact⟨A,c,rfl⟩
       | sl _ _ b o c sz h0=>exact⟨_,_,rfl⟩
     obtain⟨A,c0,rfl⟩:=f0;obtain⟨nd,V,yy,kk⟩:=D;simp only at B r t;subst B;subst r;refine⟨⟨false,V,.slice A 0 c0,[]⟩,rfl,rfl,.leaf V _ t A c0 rfl,fun i c d=>?_⟩;rw[z5];by_cases K:i=58
     · subst K;unfold DB.cells at d;rw[IN (by rw[F];omega)]at d;injection d with d;subst d
       exact⟨_,O,fun _ _ _=>.vv _ _ rfl⟩
     · have Z:(DB.ga ⟨false,V,yy,[]⟩)[i]?=some c:=by
         unfold DB.cells at d;unfold DB.ga;rw[T5 (fun e=>K e.symm)]at d⊢;exact d
       obtain⟨x,e0,N⟩:=get i c Z;exact⟨x,e0,Ks d N⟩
 obtain⟨Ds',T,H⟩:=Kk (P:=fun j (D k:DB)=>k.plain=D.plain∧k.bl=D.bl∧dZ w k∧∀(i:Nat) (c:AV),k.cells[i]?=some c→∃x,xs[j*59+i]?=some x∧iA c x) n 0 step;have d0:jB Ds'=jB n:=by
   rw[m9,m9];exact EY T fun j a Y=>by obtain⟨b,E,R,_⟩:=H j a Y;exact⟨b,E,R⟩
 have I:bls Ds'=bls n:=by
   rw[qf,qf,EY (f:=DB.bl) (g:=DB.bl) T fun j a Y=>by obtain⟨b,E,_,R,_⟩:=H j a Y;exact⟨b,E,R⟩]
 have p:∀(j:Nat) (k:DB),Ds'[j]?=some k→dZ w k∧∀(i:Nat) (c:AV),k.cells[i]?=some c→∃x,xs[j*59+i]?=some x∧iA c x:=fun j k L=>by
   have b0:j<n.length:=by rw[←T];exact(g7.1 L).1
   obtain⟨b,E,R,g3,g4,g5⟩:=H j _ (h6 b0);rw[L]at E;injection E with E;subst E
   exact⟨g4,fun i c d=>by have:=g5 i c d;rw[z5]at this;exact this⟩
 have hM:∀g∈bls Ds',M g:=fun g m=>by
   rw[I]at m;obtain⟨D,l,a0⟩:=kX.1 m;exact X D l g a0
 refine⟨Ds',d0,I,.node W y Ds' xs (by rw[T];simpa using e2) e4 (fun j D l i c d=>(p j D l).2 i c d) (fun D l=>?_),hM,?_,fun g m=>h.own id g (by rw[U];exact m)⟩
 · obtain⟨j,hj⟩:=amg l;exact(p j D hj).1
 · simp only[DB.bl];rw[←I]at J;cases hb:bg (some y) with
   | none=>exact J
   | some g =>
     refine List.nodup_cons.2 ⟨fun m=>?_,J⟩;exact h.sep (hM g m) (by rw[U];exact hb)
section
variable(M:Nat→Prop)(f:World)(b':az)(r:ag×Int)(d:eq)(o:Int)(u:Bool)(j:Int)(t:List DB)(z:Bool)(B:Nat)(A:Int→dn→Option eg)
abbrev Kq:Cx:=⟨aT,95,M,b'⟩
def QT(r:ag×Int)(w w':World)(v:AV):Prop:=∃D:DB,D.nd=true∧D.plain=r.1∧v=.tup [.agg D.cells,iI r.2]∧dZ w' D∧(∀g∈D.bl,w.heap.size≤g∧g<w'.heap.size)∧D.bl.Nodup
abbrev qT:=bodyPost aT Tryz.f41 (fun e w'=>∃x v,e=.returned x∧Below f.heap.size f w'∧QT r f w' v∧iA v x)
abbrev Lb(a:ck)(s:AS):=VE (Kq M b') (qT f r) a .normal s
structure FI(M:Nat→Prop)(f:World)(b':az)(Ds:List DB):Prop where
 gr:fD (fun _=>False) (gC f) b'
 ok:∀D∈Ds,(D.nd=true→dZ b'.w D∧∀g∈D.bl,M g∧f.heap.size≤g)∧(D.nd=false→D.kids=[]∧D.b.Kind≠1)
 nodup:(bls Ds).Nodup
def FI.bl{M:Nat→Prop}{f:World}{b':az}{d:List DB}(h:FI M f b' d):∀g∈bls d,M g∧f.heap.size≤g:=fun g i=>by
 obtain⟨D,e,a⟩:=kX.1 i;cases c:D.nd with
 | true=>exact((h.ok D e).1 c).2 g a
 | false=>obtain⟨j,b,y,k⟩:=D;simp only at c;subst c;cases a
def FI.add{M:Nat→Prop}{f w:World}{b' m:az}{r:List DB}(h:FI M f b' r)(s:∀k,M k→k<b'.w.heap.size∧¬ b'.G k)(q:b'.w.heap.size≤w.heap.size)(t:fD (fun _=>False) b' m){D:DB}(n:D.nd=true)(p:dZ m.w D)(l:∀g∈D.bl,w.heap.size≤g∧g<m.w.heap.size)(o:D.bl.Nodup):FI (fun c=>M c∨c∈D.bl) f m (r++[D]):=by
 refine⟨h.gr.trans t,fun j d=>?_,?_⟩
 · rcases kb.1 d with d|d
   · refine⟨fun i=>⟨((h.ok j d).1 i).1.ca fun g e=>?_,fun g e=>⟨.inl (((h.ok j d).1 i).2 g e).1,(((h.ok j d).1 i).2 g e).2⟩⟩,(h.ok j d).2⟩;have:=s g (((h.ok j d).1 i).2 g e).1;exact t.block g this.1 this.2 (fun h=>h)
   · rw[acN.1 d];exact⟨fun _=>⟨p,fun g e=>⟨.inr e,oR h.gr.size (oR q (l g e).1)⟩⟩,fun i=>by rw[n]at i;cases i⟩
 · rw[Jm];refine amz.2 ⟨h.nodup,by simpa[bls]using o,fun a u b v=>?_⟩;have x:=s a (h.bl a u).1;have y:=l b (by simpa[bls]using v);omega
def FI.XS{M:Nat→Prop}{f:World}{b':az}{c:List DB}(h:FI M f b' c){b:ag}{y:Value}(e:b.Kind≠1):FI M f b' (c++[⟨false,b,y,[]⟩]):=by
 refine⟨h.gr,fun d a=>?_,?_⟩
 · rcases kb.1 a with a|a
   · exact h.ok d a
   · rw[acN.1 a];exact⟨fun g=>(by cases g),fun _=>⟨rfl,e⟩⟩
 · rw[Jm];have:bls [(⟨false,b,y,[]⟩:DB)]=[]:=rfl;rw[this,IF];exact h.nodup
def ak0{M:Nat→Prop}{f w:World}{b':az}{ι:Env}{s:AS}{A:List DB}{b:ag}{n:Int}{x:Value}(c:FI M f b' A)(m:HS M b' w ι s)(W:look 72 s.r=some ⟨48,59,A.map DB.ga⟩)(X:Rel (NN M ι) w ι (.tup [.agg (List.set (aD ({ b with Kids:=[] }:ag)) 58 (.ref 72)),iI n]) x):
   ∃v,Below f.heap.size f w∧QT ({ b with Kids:=A.map DB.plain },n) f w v∧iA v x:=by
 cases X with
 | tup _ _ vs r u =>
   match vs,r with
   | [p,q],_ =>
     have J:=u 0 _ p rfl rfl;have z:=u 1 _ q rfl rfl;have o:∃y,ι 72=some y∧y.oneCell'=true:=by
       cases J with
       | agg _ _ Y U B G =>
         have t:58<Y.length:=by rw[←U];show 58<59;omega
         have e:=G 58 (.ref 72) _ (IN (show 58<59 by omega)) (h6 t);have S:=B _ (sj t);obtain⟨y,o⟩:=fk 72 _ _ _ _ e;exact⟨y,o,by rw[←Iy o _ e];exact S⟩
     obtain⟨y,o,H⟩:=o;obtain⟨Ds',B,O,P,h4,Q,R⟩:=Zd m W (by decide) o ({ b with Kids:=[] }:ag) (fun D C=>⟨fun z=>⟨((c.ok D C).1 z).1,fun g d=>(((c.ok D C).1 z).2 g d).1⟩,(c.ok D C).2⟩) c.nodup;refine⟨.tup [.agg (DB.cells ⟨true,{ b with Kids:=[] },y,Ds'⟩),iI n],⟨m.below.os.trans c.gr.os,m.below.tape.trans c.gr.tape,m.below.output.trans c.gr.output,oR c.gr.size m.below.size,fun k F=>?_⟩,⟨⟨true,{ b with Kids:=[] },y,Ds'⟩,rfl,?_,rfl,P,fun g d=>?_,Q⟩,fun N Z ι2=>.tup _ _ [p,q] rfl fun i a v j l=>?_⟩
     · have V:¬ b'.G k:=fun T=>by
         rcases c.gr.O k (.inr T)with e|e
         · exact absurd F (afl.2 e)
         · exact e
       exact(m.below.block k (nx F c.gr.size) V).trans (c.gr.block k F (fun h=>h) (fun h=>h))
     · show({ b with Kids:=jB Ds' }:ag)=_;rw[B,m9]
     · simp only[DB.bl,kb]at d;rcases d with d|d
       · cases E:bg (some y) with
         | none=>rw[E]at d;cases d
         | some I =>
           rw[E]at d;rw[acN.1 d];obtain⟨K,L⟩:=R I E;rcases c.gr.O I K with g3|g3
           · exact⟨g3,L⟩
           · exact g3.elim
       · rw[O]at d;have e:=c.bl g d;exact⟨e.2,nx (m.old g e.1).1 m.below.size⟩
     · match i,j,l with
       | 0,j,l =>
         injection j with j;injection l with l;subst j;subst l
         exact LG J (by show 58<59;omega) rfl (Iy o) H N Z ι2
       | 1,j,l =>
         injection j with j;injection l with l;subst j;subst l
         exact DZ rfl z
abbrev qp(n:Nat):aq:=.c (cat Tryz.f41 (pn n))
abbrev J8:ck:=[.b 0,qp 127]
abbrev KU:ck:=kl (Kq M b') (qT f r) J8 (cat Tryz.f41 (pn 504)) B::J8
def abo:AS:=⟨[(0,.sl (lm aH d)),(1,iI j),(4,.ptr 4 0),(6,.ptr 6 0),(7,.int .u8 ((gD d o).Depth)),(8,.bool u),(60,.bool z)],[(4,List.set (aD dk) 58 (.nils)),(6,List.set (aD ({ dk with Kind:=1,Node:=(aa (10+o)),Style:=(gD d o).Style }:ag)) 58 (.ref 72))],[(72,⟨48,59,lm DB.ga t⟩)],[4,6,72]⟩
def Wk:AS:=⟨[(0,.sl (lm aH d)),(1,iI j),(4,.ptr 4 0),(6,.ptr 6 0),(7,.int .u8 ((gD d o).Depth)),(8,.bool u)],[(4,List.set (aD dk) 58 (.nils)),(6,List.set (aD ({ dk with Kind:=1,Node:=(aa (10+o)),Style:=(gD d o).Style }:ag)) 58 (.ref 72))],[(72,⟨48,59,lm DB.ga t⟩)],[4,6,72]⟩
def aao:AS:=⟨[(0,.sl (lm aH d)),(1,iI (aa (o+1))),(4,.ptr 4 0),(6,.ptr 6 0),(7,.int .u8 ((gD d o).Depth)),(8,.bool u)],[(4,List.set (aD dk) 58 (.nils)),(6,List.set (aD ({ dk with Kind:=1,Node:=(aa (10+o)),Style:=(gD d o).Style }:ag)) 58 (.nils))],[],[4,6]⟩
abbrev HE:Prop:=∀{M:Nat→Prop} {b':az} {j:Int} {t:(List DB)},FI M f b' t→A j (t.map DB.plain)=some r→LP (Kq M b') (qT f r) J8 (cat Tryz.f41 (pn 504)) B (Wk d o u j t)
def KD(K:Kn):Prop:=∀{l:eq} {a:Int} {r:ag×Int},K.k7 l a=some r→zu aT 41 [.sl (lm aH l),iI a] (QT r)
variable{M f b' r d o u j t z B A}{K:Kn}{n:Nat}
def Um(U:KD K)(C:HE f r d o u B A)(H:FI M f b' t)(h:mX K n d o u j (t.map DB.plain) A z=some r):Lb M f b' r (qp 2017::qp 1009::KU M f b' r B) (abo d o u j t z):=by
 unfold mX at h;obtain⟨a,h⟩|⟨a,h⟩:=ao h
 ·refine ai 60 a (bW (ks':=qp 8073::qp 4037 :: .b 1::KU M f b' r B) 6 ?_);obtain⟨b,h⟩|⟨b,h⟩:=ao h
  ·refine ai 61 b (av 4 5 2 (aj 2 ?_));obtain⟨Q,G,h⟩:=aw h;refine VO (U G) (fun v w b2 W V P hG J=>?_);obtain⟨⟨nd,c,i,e⟩,E,O,Y,N,D,L⟩:=W;simp only at E;subst E;subst Y;refine⟨fun g=>g∈(⟨true,c,i,e⟩:DB).bl,D,?_⟩;have I:=H.add V P J rfl N D L;refine ae (av 2 3 1 (aj 3 (au (ii DB.ga ([⟨true,c,i,e⟩]:List DB) (new:=[DB.cells ⟨true,c,i,e⟩]) rfl) ?_)));obtain⟨p,h⟩:=aB h;rw[lp]at p;refine au (cG 72 72 48 59 DB.ga (rfl) (DB.UU) (M:=[⟨true,c,i,e⟩]) p) (ae ?_);have F:A Q.2 ((t++[(⟨true,c,i,e⟩:DB)]).map DB.plain)=some r:=by rw[Db,n5,u7,O];exact h
   exact ah 5 (bu (C I F))
  ·refine ai 61 b (gY 2 3 3 (bV [0,1,4,6,7,8] [4,6] [72] ?_));obtain⟨q,h⟩:=aB h;obtain⟨s,h⟩:=aB h;obtain⟨y,h⟩:=aB h;rw[lp]at y;have F:A (aa (j+1)) ((t++[(⟨false,({ dk with Kind:=3,Style:=(gD d j).Style,Text:=(gD d j).Text }:ag),.nilIface,[]⟩:DB)]).map DB.plain)=some r:=by rw[Db];exact h
   exact ci 2 (nu 75 [.ptr 6 58,.ref 72,.sl (lm aH d),iI j,.cptr (aH (gD d j)),.cptr (List.drop 5 (aH (gD d j))),.agg (aG ((gD d j).Style)),.sl (lm aH d),iI j,.cptr (aH (gD d j)),.cptr (List.drop 2 (aH (gD d j))),.str ((gD d j).Text),.agg (List.set (aD ({ dk with Kind:=3,Style:=(gD d j).Style,Text:=(gD d j).Text }:ag)) 58 (.nils)),.sl (lm DB.ga [(⟨false,({ dk with Kind:=3,Style:=(gD d j).Style,Text:=(gD d j).Text }:ag),.nilIface,[]⟩:DB)])]++nu 90 [.ptr 6 58]) [] [] [gh 89 72 ⟨48,59,lm DB.ga (t++[(⟨false,({ dk with Kind:=3,Style:=(gD d j).Style,Text:=(gD d j).Text }:ag),.nilIface,[]⟩:DB)])⟩,cF aT 95 Tryz.f41 (pn 8074) 16] (aE [.v 0 2,.v 0 1,.v 0 2,.v 0 2] (ax (fv (lo:=0) (k:=2) (di ⟨(by kernel_rfl),(dp (bX aH aH q (dJ) ap) (by kernel_rfl))⟩ (di ⟨(by kernel_rfl),(dp (bX aH aH q (dJ) ap) (by kernel_rfl))⟩ fG))) (aE [.v 0 2,.v 0 2,.v 0 2,.v 0 2] (ax (fv (lo:=0) (k:=2) (di ⟨(by kernel_rfl),(dp (bX aH aH s (dJ) ap) (by kernel_rfl))⟩ (di ⟨(by kernel_rfl),(dp (bX aH aH s (dJ) ap) (by kernel_rfl))⟩ fG))) (aE [.v 0 2,.v 0 2,.v 0 2] (bE (ii DB.ga ([⟨false,({ dk with Kind:=3,Style:=(gD d j).Style,Text:=(gD d j).Text }:ag),.nilIface,[]⟩]:List DB) (new:=[DB.ga ⟨false,({ dk with Kind:=3,Style:=(gD d j).Style,Text:=(gD d j).Text }:ag),.nilIface,[]⟩]) rfl) (ax (dq (m:=0) (cG 89 72 48 59 DB.ga (rfl) (DB.UU) (M:=[(⟨false,({ dk with Kind:=3,Style:=(gD d j).Style,Text:=(gD d j).Text }:ag),.nilIface,[]⟩:DB)]) y)) (aE [.v 1 1] (ax (cE 1) cg))))))))) (ah 2 (bu (C (H.XS (by show(3:Int)≠1;omega)) F)))
 ·refine ai 60 a (aM 8 ?_);cases h;refine mN (l:=[.agg (List.set (aD ({ (⟨1,(aa (10+o)),(gD d o).Style,⟨#[]⟩,0,0,[]⟩:ag)with Kids:=[] }:ag)) 58 (.ref 72)),iI j]) (by kernel_rfl) (fun w ι x X Z=>?_);obtain⟨v,R,S,T⟩:=ak0 H X (by kernel_rfl) Z;exact⟨x,v,rfl,R,S,T⟩
def acL(e:KD K)(b:HE f r d o u B A)(g:FI M f b' t)(h:se K n d o u A j (t.map DB.plain)=some r):Lb M f b' r (qp 504::KU M f b' r B) (Wk d o u j t):=by
 unfold se at h;refine cj 4 5 3 2 (aj 2 (au (bF aH d) (aW 5 2 ?_)));obtain⟨a,h⟩|⟨a,h⟩:=ao h
 ·refine aF 52 a (aW 7 2 ?_);obtain⟨c,h⟩:=aB h;exact au (bX aH aH c (dJ) ap) (ae (ah 0 (Um e b g h)))
 ·exact aF 52 a (ae (ah 0 (Um e b g h)))
def ae5(b:KD K)(m:Nat):HE f r d o u m (nZ K n d o u m):=by
 induction m with
 | zero=>intro M b' j t a h;cases h
 | succ m c=>intro M b' j t a h;have h:se K n d o u (nZ K n d o u m) j (t.map DB.plain)=some r:=h;exact bq (acL b c a h)
def KE(a:KD K)(b:FI M f b' [])(h:pb K n d o u=some r):Lb M f b' r [qp 63] (aao d o u):=by
 unfold pb at h;exact jb 4 0 3 2 (bV [0,1,4,6,7,8] [4,6] [] (sC 72 6 58 48 59 (ah 0 (cf (p:=pn 252) n (ae5 a n b h)))))
def agR(e:KD K)(h:oI K n d o=some r):zu aT 41 [.sl (lm aH d),iI o] (QT r):=by
 refine acH (c:=cat Tryz.f41 (pn 1)) Tryz.func41 (by kernel_rfl) _ Tryz.ntmps41 (il (by kernel_rfl)) fun M f=>?_;have g:FI M f (gC f) []:=⟨.refl _ _,fun D m=>(by cases m),List.nodup_nil⟩;refine bn ⟨[(0,.sl (lm aH d)),(1,iI o)],[],[],[]⟩ ?_;unfold oI at h;refine av 6 7 3 (aj 4 ?_);obtain⟨i,h⟩:=aB h;refine au (bX aH aH i (dJ) ap) (ae (av 2 3 1 (aj 2 ?_)));obtain⟨j,h⟩:=aB h;refine au (bX aH aH j (dJ) ap) (ae (av 6 7 3 (aj 2 (au (bF aH d) (aW 5 2 ?_)))));obtain⟨a,h⟩|⟨a,h⟩:=ao h
 ·refine aF 30 a (aW 7 2 ?_);obtain⟨k,h⟩:=aB h;refine au (bX aH aH k (dJ) ap) (aW 14 6 ?_);obtain⟨b,h⟩|⟨b,h⟩:=ao h
  ·refine aF 39 b (aW 16 2 ?_);obtain⟨l,h⟩:=aB h;exact au (bX aH aH l (dJ) ap) (ae (ah 0 (KE e g h)))
  ·exact aF 39 b (ae (ah 0 (KE e g h)))
 ·exact aF 30 a (ae (ah 0 (KE e g h)))
def NI:∀(m:Nat) {l:eq} {a:Int} {r:ag×Int},lH K n m l a=some r→zu aT 41 [.sl (lm aH l),iI a] (QT r)
 | 0,_,_,_,h=>by cases h
 | m+1,l,a,r,h=>agR (K:={ K with k7:=lH K n m }) (fun h=>NI m h) h
end
def TB{f:ag→Option ag}:∀{l m:dn},li f l=some m→m.length=l.length∧∀(j:Nat) (k:ag),l[j]?=some k→∃a,m[j]?=some a∧(if (k.Kind == 1)=true then f k else some k)=some a
 | [],m,h=>by injection h with h;subst h;exact⟨rfl,fun j k i=>by simp at i⟩
 | k::r,m,h=>by
   obtain⟨a,e,h⟩:=aw h;obtain⟨n,g,h⟩:=aw h;injection h with h;subst h
   obtain⟨c,d⟩:=TB g;refine⟨by simp[c],fun j q b=>?_⟩;cases j with
   | zero=>simp at b;subst b;exact⟨a,rfl,e⟩
   | succ j=>simpa using d j q (by simpa using b)
def Ss:∀{l:List DB} {i j:Nat} {a b:DB} {g:Nat},(bls l).Nodup→i≠j→l[i]?=some a→l[j]?=some b→g∈a.bl→g∈b.bl→False
 | [],i,j,a,b,g,_,_,h,_,_,_=>by simp at h
 | d::r,i,j,a,b,g,q,f,c,k,m,n=>by
   have o:(d.bl++bls r).Nodup:=q;obtain⟨t,s,p⟩:=amz.1 o;cases i with
   | zero =>
     cases j with
     | zero=>exact f rfl
     | succ j =>
       simp at c k;subst c;exact p g m g (kX.2 ⟨b,jt k,n⟩) rfl
   | succ i =>
     cases j with
     | zero =>
       simp at c k;subst k;exact p g n g (kX.2 ⟨a,jt c,m⟩) rfl
     | succ j=>exact Ss (i:=i) (j:=j) s (fun e=>f (by omega)) (by simpa using c) (by simpa using k) m n
structure DI(M:Nat→Prop)(w0:World)(y:Value)(b':az)(Ds X:List DB):Prop where
 gr:fD (fun g=>g∈bls Ds) (nC w0 700 y) b'
 ok:∀D∈X,dZ b'.w D
 sub:∀g∈bls Ds,M g
 bl:X.map DB.bl=Ds.map DB.bl
def DI.bls{M:Nat→Prop}{b:World}{y:Value}{b':az}{a X:List DB}(h:DI M b y b' a X):bls X=bls a:=by rw[qf,qf,h.bl]
def DI.put{M:Nat→Prop}{v:World}{y:Value}{b' m:az}{f X:List DB}(h:DI M v y b' f X)(x:(Go.Proofs.YtocgkfoifehcbaaGreat.bls f).Nodup){i:Nat}{D l:DB}(c:X[i]?=some D)(w:∀k,M k→k<b'.w.heap.size∧¬ b'.G k)(u:fD (fun g=>g∈D.bl) b' m)(s:dZ m.w l)(o:l.bl=D.bl):DI M v y m f (X.set i l):=by
 have d:∀g∈D.bl,g∈Go.Proofs.YtocgkfoifehcbaaGreat.bls f:=fun g p=>by rw[←h.bls];exact kX.2 ⟨D,jt c,p⟩
 refine⟨h.gr.trans (u.mono d),fun t n=>?_,h.sub,?_⟩
 · obtain⟨j,a⟩:=amg n;by_cases e:i=j
   · subst e;rw[IN (g7.1 c).1]at a;injection a with a;subst a;exact s
   · rw[T5 e]at a;refine (h.ok t (jt a)).ca fun g b=>?_;have q:g∈Go.Proofs.YtocgkfoifehcbaaGreat.bls X:=kX.2 ⟨t,jt a,b⟩;have:=w g (h.sub g (by rw[←h.bls];exact q));exact u.block g this.1 this.2 (fun r=>Ss (by rw[h.bls];exact x) e c a r b)
 · rw [←h.bl,List.map_set,o];exact alV fun k=>by
     rw[amf];split
     · rename_i e;subst e;have:=(g7.1 c).1;rw[lp,iF this,th,c];rfl
     · rfl
def Eb{M:Nat→Prop}{f w:World}{b':az}{ι:Env}{s:AS}{n X:List DB}{b:ag}{y x:Value}(a:DI M f y b' n X)(d:HS M b' w ι s)(K:look 700 s.r=some ⟨48,59,X.map DB.cells⟩)(B:y.oneCell'=true)(z:Rel (NN M ι) w ι (.agg (List.set (aD ({ b with Kids:=[] }:ag)) 58 (.ref 700))) x):
   w.os=f.os∧w.tape=f.tape∧w.output=f.output∧f.heap.size≤w.heap.size∧(∀k,k<f.heap.size→¬ k∈(⟨true,{ b with Kids:=[] },y,n⟩:DB).bl→w.heap[k]?=f.heap[k]?)∧dZ w ⟨true,{ b with Kids:=[] },y,X⟩∧iA (.agg (DB.cells ⟨true,{ b with Kids:=[] },y,X⟩)) x:=by
 have A:ι 700=some y:=(d.pin 700 y (by rw[a.gr.pv];simp[nC])).1;refine⟨d.below.os.trans a.gr.os,d.below.tape.trans a.gr.tape,d.below.output.trans a.gr.output,oR a.gr.size d.below.size,fun k q E=>?_,?_,?_⟩
 · have h:¬ (nC f 700 y).G k:=fun p=>E (CH p);have r:¬ k∈bls n:=fun I=>E (by simp only [DB.bl,kb]; exact .inr I);have t:¬ b'.G k:=fun p=>by
     rcases a.gr.O k (.inr p)with o|o
     · exact absurd q (afl.2 o)
     · exact h o
   exact(d.below.block k (nx q a.gr.size) t).trans (a.gr.block k q h r)
 · obtain⟨v,xs,l,F,L,G,H⟩:=d.arrs 700 _ K (by rw[A];rfl);rw[A]at l;injection l with l;subst l
   refine .node _ y X xs (by simpa using F) G (fun j D m i c C=>?_) (fun D m=>(a.ok D m).ca fun g J=>?_)
   · obtain⟨x,z,u⟩:=H j D.cells (by rw[th,m];rfl) i c C;exact⟨x,z,Ks C (u.flat (by decide))⟩
   · have e:=d.old g (a.sub g (by rw[←a.bls];exact kX.2 ⟨D,m,J⟩));exact d.below.block g e.1 e.2
 · exact LG z (by show 58<59;omega) rfl (Iy A) B
section
variable(M:Nat→Prop)(c:World)(b':az)(l:eq)(b:ag)(y:Value)(a Ds' X:List DB)(v5:Bool)(v6:Int)(d:DB)(f:Nat)
abbrev J7:Cx:=⟨aT,52,M,b'⟩
abbrev qR:=bodyPost aT Tryz.f42 (fun e w'=>∃x,e=.returned x∧w'.os=c.os∧w'.tape=c.tape∧w'.output=c.output∧c.heap.size≤w'.heap.size∧(∀k,k<c.heap.size→¬ k∈(⟨true,{ b with Kids:=[] },y,a⟩:DB).bl→w'.heap[k]?=c.heap[k]?)∧dZ w' d∧iA (.agg (DB.cells d)) x)
abbrev VgR(e:ck)(s:AS):=VE (J7 M b') (qR c b y a d) e .normal s
abbrev jp(n:Nat):aq:=.c (cat Tryz.f42 (pn n))
abbrev RR:ck:=[.b 0,jp 15]
abbrev TR:ck:=kl (J7 M b') (qR c b y a d) RR (cat Tryz.f42 (pn 116)) f::RR
def sR:AS:=⟨[(1,.sl (lm aH l)),(2,.ptr 2 0),(4,.ptr 4 0),(5,.bool v5),(6,iI v6)],[(2,List.set (aD ({ b with Kids:=[] }:ag)) 58 (.ref 700)),(4,List.set (aD dk) 58 (.nils))],[(700,⟨48,59,lm DB.cells X⟩)],[2,4,700,1000700,700]⟩
variable{M c b' l b y a Ds' X v5 v6 d f}
def ahJ(r:DI M c y b' a X)(e:y.oneCell'=true){v:ag}(s:d=⟨true,{ v with Kids:=[] },y,X⟩)(h:ku l b [] v5=some v):VgR M c b' b y a d [jp 15] (sR l b X v5 v6):=by
 refine bW (ks':=[jp 30,jp 31]) 1 (aj 4 (ae ?_));cases v5 with
 | false =>
   unfold ku at h;have o:=amv h;subst o;subst s;refine aM 8 ?_;refine mN (l:=[.agg (List.set (aD ({ b with Kids:=[] }:ag)) 58 (.ref 700))]) (by kernel_rfl) (fun w ι x p q=>?_);obtain⟨f,g,i,j,k,m,n⟩:=Eb r p (by kernel_rfl) e q;exact⟨x,rfl,f,g,i,j,k,m,n⟩
 | true =>
   unfold ku at h;refine bW (ks':=[jp 124,jp 125,jp 63]) 2 (aj 4 ?_);obtain⟨t,h⟩|⟨t,h⟩:=ao h
   · refine aF 39 t ?_;refine aW 8 4 ?_;obtain⟨z,h⟩:=aB h;refine au (bX aH aH z (dJ) ap) (aW 13 4 ?_);obtain⟨u,h⟩|⟨u,h⟩:=ao h
     · refine aF 48 u ?_;refine ae ?_;have o:=amv h;subst o;subst s;refine aM 5 ?_;refine mN (l:=[.agg (List.set (aD ({ ({ b with Kind:=6 }:ag)with Kids:=[] }:ag)) 58 (.ref 700))]) (by kernel_rfl) (fun w ι x p q=>?_);obtain⟨f,g,i,j,k,m,n⟩:=Eb (b:={ b with Kind:=6 }) r p (by kernel_rfl) e q;exact⟨x,rfl,f,g,i,j,k,m,n⟩
     · refine aF 48 u ?_;refine ae ?_;have o:=amv h;subst o;subst s;refine aM 5 ?_;refine mN (l:=[.agg (List.set (aD ({ b with Kids:=[] }:ag)) 58 (.ref 700))]) (by kernel_rfl) (fun w ι x p q=>?_);obtain⟨f,g,i,j,k,m,n⟩:=Eb r p (by kernel_rfl) e q;exact⟨x,rfl,f,g,i,j,k,m,n⟩
   · refine aF 39 t ?_;refine ae ?_;have o:=amv h;subst o;subst s;refine aM 5 ?_;refine mN (l:=[.agg (List.set (aD ({ b with Kids:=[] }:ag)) 58 (.ref 700))]) (by kernel_rfl) (fun w ι x p q=>?_);obtain⟨f,g,i,j,k,m,n⟩:=Eb r p (by kernel_rfl) e q;exact⟨x,rfl,f,g,i,j,k,m,n⟩
def CP(l:eq)(D a:DB):Prop:=a.bl=D.bl∧((D.b.Kind == 1)=true→q8 aT 42 [.agg D.cells,.sl (lm aH l)] (fun g=>g∈D.bl) (fun w=>dZ w D) (.agg a.cells) (fun w=>dZ w a))∧((D.b.Kind == 1)=false→a=D)
structure Mx(a Ds' X:List DB)(i:Nat)(v5:Bool):Prop where
 len:X.length=a.length
 le:i≤a.length
 lo:∀j,j<i→X[j]?=Ds'[j]?
 hi:∀j,i≤j→X[j]?=a[j]?
 blocks:v5=(a.take i).any fun D=>D.b.Kind == 1
def akI(hn:(bls a).Nodup)(T:Ds'.length=a.length)(O:∀(j:Nat) (D s:DB),a[j]?=some D→Ds'[j]?=some s→CP l D s)(E:a.length≤maxLen)(Q:y.oneCell'=true){R:ag}(hz:d=⟨true,{ R with Kids:=[] },y,Ds'⟩)(h:ku l b [] (a.any fun D=>D.b.Kind == 1)=some R):
   ∀(m:Nat) {M:Nat→Prop} {b':az} {X:List DB} {i:Nat} {v5:Bool} {v6:Int},v6=(i:Int)→Mx a Ds' X i v5→DI M c y b' a X→a.length<m+i→LP (J7 M b') (qR c b y a d) RR (cat Tryz.f42 (pn 116)) m (sR l b X v5 v6):=by
 intro m
 induction m with
 | zero=>intro M b' X i v5 v6 _ k _ Z;have:=k.le;omega
 | succ m U =>
   intro M b' X i v5 v6 S k A Z;refine bq (bW (ks':=jp 464::jp 465::jp 233::TR M c b' b y a d m) 2 (aj 3 (au (bF DB.cells X) (aW 5 1 ?_))));by_cases p:i<a.length
   · have t:decide (v6<(X.length:Int))=true:=ae4 (by rw [k.len]; omega);refine aF 12 t (ae ?_);have q:=k.hi i (h7 _);have o:a[i]?=some (a[i]'p):=h6 p;have n:Ds'[i]?=some (Ds'[i]'(by omega)):=h6 _;generalize a[i]'p=D at o;generalize Ds'[i]'(by omega:i<Ds'.length)=s at n;rw [o] at q;have r:X.getD v6.toNat default=D:=by
       rw[S,AT,Int.toNat_natCast,q];rfl
     have f:aU v6 X.length=true:=by
       unfold aU;rw[g6];exact⟨ae4 (by omega),ae4 (by rw[k.len];omega)⟩
     have H:aa (v6+1)=((i+1:Nat):Int):=by
       rw[S];unfold maxLen at E;have:(0:Int)≤(i:Int)+1∧(i:Int)+1<9223372036854775808:=by omega
       unfold aa;rw[alY];omega
     obtain⟨t1,t2,t3⟩:=O i D s o n;refine bW (ks':=jp 1864::jp 1865 :: .b 1::jp 467::TR M c b' b y a d m) 5 (aj 3 (au (cr 700 59 DB.cells f) (aW 5 1 (au (bJ 3 0 DB.cells DB.cells (bB f).2 ap) (ae ?_)))));cases z:(D.b.Kind == 1) with
     | true =>
       have u:((X.getD v6.toNat default).b.Kind == 1)=true:=by rw[r];exact z
       refine ai 21 u (bW (ks':=jp 7461 :: .b 1::jp 467::TR M c b' b y a d m) 3 (bV [1,2,4,5,6] [2,4] [700] ?_));have G:q8 aT 42 [.agg (X.getD v6.toNat default).cells,.sl (lm aH l)] (fun g=>g∈D.bl) (fun w=>dZ w D) (.agg s.cells) (fun w=>dZ w s):=by rw[r];exact t2 z
       have F:∀g∈D.bl,g∈bls a:=fun g B=>kX.2 ⟨D,jt o,B⟩;refine als 9 31 [(22,.ptr 2 58),(23,.ref 700),(24,iI v6),(25,.ptr 2 58),(26,.ref 700),(27,iI v6),(28,.eptr 700 59 v6.toNat 0),(29,.agg (X.getD v6.toNat default).cells),(30,.sl (lm aH l))] G (fun g B=>A.sub g (F g B))
         (fun w _ H=>(A.ok D (jt q)).ca H)
         (aE (vz 6) (bE (cr 700 59 DB.cells (L:=X) (i:=v6) f) (bE (bJ 48 0 DB.cells DB.cells (bB f).2 ap) (aE [.v 0 1] Ar))))
         (aE (vz 6) (bE (cr 700 59 DB.cells (L:=X) (i:=v6) f) (bE (bJ 48 0 DB.cells DB.cells (bB f).2 ap) (aE [.v 0 1] Ar))))
         (fun V B Y W=>?_)
       have J:=A.put hn q W B Y t1;refine au (cr 700 59 DB.cells f) (au (dI 700 48 59 0 DB.cells DB.cells s (bB f).2 ap) (ae ?_));have v:Mx a Ds' (List.set X v6.toNat s) (i+1) true:=by
         have x:v6.toNat=i:=by omega
         rw[x];refine⟨by rw[alW];exact k.len,p,fun j C=>?_,fun j C=>?_,?_⟩
         · rw[amf];split
           · rename_i e;subst e;rw[iF (by rw[k.len];exact p),n]
           · exact k.lo j (by omega)
         · rw[T5 (by omega)];exact k.hi j (by omega)
         · symm;rw[aaf];exact⟨D,jt (i:=i) (by rw[u5,iF (by omega)];exact o),z⟩
       have K:DI M c y V a (List.set X v6.toNat s):=by
         have x:v6.toNat=i:=by omega
         rw[x];exact J
       exact ah 2 (bu (U (v6:=aa (v6+1)) H v K (by omega)))
     | false =>
       have u:((X.getD v6.toNat default).b.Kind == 1)=false:=by rw[r];exact z
       refine ai 21 u ?_;have v:Mx a Ds' X (i+1) v5:=by
         refine⟨k.len,p,fun j C=>?_,fun j C=>k.hi j (by omega),?_⟩
         · by_cases e:j=i
           · subst e;rw[q,n,t3 z]
           · exact k.lo j (by omega)
         · rw[k.blocks,List.take_succ,o,List.any_append];simp[z]
       exact ah 4 (bu (U (v6:=aa (v6+1)) H v A (by omega)))
   · have t:decide (v6<(X.length:Int))=false:=decide_eq_false (by rw[k.len];omega);refine aF 12 t (ae ?_);have N:i=a.length:=by have:=k.le;omega
     have I:X=Ds':=alV fun j=>by
       by_cases C:j<i
       · exact k.lo j C
       · rw[k.hi j (by omega),al1 (by omega),al1 (by omega)]
     have P:v5=a.any fun D=>D.b.Kind == 1:=by rw[k.blocks,N,alR]
     subst I;rw[←P]at h;exact ah 5 (ahJ (v6:=v6) A Q hz h)
end
def aaE{l:eq}{b a:ag}{q f:dn}{c:Bool}(h:ku l { b with Kids:=q } f c=some a):ku l b [] c=some { a with Kids:=[] }∧a.Kids=f:=by
 unfold ku at h⊢;cases c with
 | false=>injection h with h;subst h;exact⟨rfl,rfl⟩
 | true =>
   simp only at h⊢;split at h
   · rename_i d;rw[iF d];obtain⟨g,h⟩:=aB h;rw[g];simp only[aA];split at h
     · rename_i e;rw[iF e];injection h with h;subst h;exact⟨rfl,rfl⟩
     · rename_i e;rw[io e];injection h with h;subst h;exact⟨rfl,rfl⟩
   · rename_i d;rw[io d];injection h with h;subst h;exact⟨rfl,rfl⟩
def Mf(D:DB):D.plain.Kind=D.b.Kind:=by rw[DB.L9]
def Tw{N:Nat→Prop}{w:World}{ι:Env}{l:b6}{c d:AV}{x:Value}{q:Nat}(h:Rel N w ι (.agg (l.set q c)) x)(j:q<l.length)(o:∀v,Rel N w ι c v→Rel N w ι d v):Rel N w ι (.agg (l.set q d)) x:=by
 cases h with
 | agg _ _ vs f n k =>
   refine .agg _ _ vs (by simpa using f) n fun i a v b m=>?_;by_cases g:i=q
   · subst g;rw[IN j]at b;injection b with b;subst b
     exact o v (k i c v (IN j) m)
   · rw[T5 (fun e=>g e.symm)]at b;exact k i a v (by rw[T5 (fun e=>g e.symm)];exact b) m
def WD:∀{l:List DB},(bls l).Nodup→∀{D:DB},D∈l→D.bl.Nodup
 | [],_,D,a=>by cases a
 | d::r,h,D,a=>by
   have b:(d.bl++bls r).Nodup:=h;obtain⟨c,e,_⟩:=amz.1 b;rcases l3.1 a with rfl|a
   · exact c
   · exact WD e a
section
def TI:∀(m:Nat) {l:eq} {D:DB} {F:ag},jr l m D.plain=some F→D.nd=true→(∃w,dZ w D)→D.bl.Nodup →
   ∃o:DB,o.plain=F∧o.bl=D.bl∧q8 aT 42 [.agg D.cells,.sl (lm aH l)] (fun g=>g∈D.bl) (fun w=>dZ w D) (.agg o.cells) (fun w=>dZ w o)
 | 0,_,_,_,h,_,_,_=>by cases h
 | m+1,l,⟨nd,b,y,d⟩,F,h,S,⟨w1,p0⟩,hn=>by
   simp only at S;subst S;have h:(li (jr l m) (jB d)).bind (fun X=>ku l { b with Kids:=jB d } X ((jB d).any fun k=>k.Kind == 1))=some F:=h;obtain⟨X,l0,h⟩:=aw h;obtain⟨K,Z⟩:=aaE h;obtain⟨g1,g2⟩:=TB l0;have L:((jB d).any fun k=>k.Kind == 1)=d.any fun D=>D.b.Kind == 1:=by
     rw[m9,List.any_map];congr 1;funext D;show(D.plain.Kind == 1)=_;rw[Mf]
   rw[L]at K;cases p0 with
   | node _ _ _ xs I q0 i0 B =>
   have G:(bls d).Nodup:=by
     have:(⟨true,b,y,d⟩:DB).bl.Nodup:=hn;simp only[DB.bl]at this;exact(amz.1 this).2.1
   have T:∀g∈bls d,bg (some y)≠some g:=fun g J e=>by
     have h9:(⟨true,b,y,d⟩:DB).bl.Nodup:=hn;simp only[DB.bl,e]at h9;exact(List.nodup_cons.1 h9).1 J
   have step:∀(j:Nat) (D:DB),d[j]?=some D→∃o:DB,CP l D o∧X[j]?=some o.plain:=fun j D s=>by
     obtain⟨k',r,t⟩:=g2 j D.plain (by rw[m9,th,s];rfl);rw[Mf]at t;have C:=jt s;cases U:(D.b.Kind == 1) with
     | true =>
       rw[U]at t;have g0:D.nd=true:=by
         have hk:=B D C;cases hk with
         | leaf b0 y0 h0 A0 c0 r0=>exact absurd (by simpa using U) h0
         | node b0 y0 k0 x0=>rfl
       have f0:D.bl.Nodup:=WD G C;obtain⟨o,q1,q2,q3⟩:=TI m (by simpa using t) g0 ⟨w1,B D C⟩ f0;exact⟨o,⟨q2,fun _=>q3,fun hf=>by rw[U]at hf;cases hf⟩,by rw[r,q1]⟩
     | false =>
       rw[U]at t;have Y:D.plain=k':=by simpa using t
       exact⟨D,⟨rfl,fun ht=>(by rw[U]at ht;cases ht),fun _=>rfl⟩,by rw[r,Y]⟩
   obtain⟨Ds',Q,u⟩:=Kk (P:=fun j (D o:DB)=>CP l D o∧X[j]?=some o.plain) d 0 (fun j D s=>by rw[z5];exact step j D s);have o0:∀(j:Nat) (D o:DB),d[j]?=some D→Ds'[j]?=some o→CP l D o:=fun j D o s e0=>by
     obtain⟨D2,r,t,_⟩:=u j D s;rw[e0]at r;injection r with r;subst r;exact t
   have m0:jB Ds'=X:=by
     rw[m9];refine alV fun j=>?_;rw[th];by_cases hj:j<d.length
     · obtain⟨D2,r,_,Y⟩:=u j _ (h6 hj);rw[z5]at Y;rw[r,Y];rfl
     · rw[al1 (by omega),al1 (by rw[g1,m9,lp];omega)];rfl
   have O:bls Ds'=bls d:=by
     rw[qf,qf,EY (f:=DB.bl) (g:=DB.bl) Q fun j a z=>by obtain⟨D2,r,t,_⟩:=u j a z;exact⟨D2,r,t.1⟩]
   have W:∃A n c,y=.slice A n c:=by
     rcases I.2 with⟨e,_⟩|⟨g,a0,d0,e,_⟩
     · exact⟨_,_,_,e⟩
     · exact⟨_,_,_,e⟩
   have R:d.length≤maxLen:=by
     rcases I.2 with⟨_,e⟩|⟨g,a0,d0,_,_,_,r,t,_⟩
     · rw[e];exact n3 _
     · exact oR r t
   have V:y.oneCell'=true:=by obtain⟨A,n,c,rfl⟩:=W;rfl
   have H:(aD ({ b with Kids:=[] }:ag)).length=59:=rfl;refine⟨⟨true,{ F with Kids:=[] },y,Ds'⟩,?_,?_,?_⟩
   · show({ F with Kids:=jB Ds' }:ag)=F;rw[m0];subst Z;cases F;rfl
   · simp only[DB.bl,O]
   refine aiS (id0:=700) (v0:=y) (ar:=⟨48,59,d.map DB.cells⟩) (args':=[.agg (List.set (aD ({ b with Kids:=[] }:ag)) 58 (.ref 700)),.sl (lm aH l)]) (c:=cat Tryz.f42 (pn 1)) Tryz.func42 (by kernel_rfl) _ Tryz.ntmps42 (il (by kernel_rfl)) rfl (fun g J=>CH J) (fun w hw=>?_) (fun N w i a b9 x z E hr=>?_) (fun M w hM hw=>?_)
   · cases hw with
     | node _ _ _ xs K Z h3 h4 =>
       refine⟨xs,by simpa using K,fun e he=>?_,Z,fun j e he i c hc=>?_⟩
       · obtain⟨D,_,rfl⟩:=u6.1 he;exact DB.Xv D
       · have q:(d.map DB.cells)[j]?=some e:=he;rw[th]at q;cases s:d[j]? with
         | none=>rw[s]at q;cases q
         | some D=>rw[s]at q;injection q with q;subst q;exact h3 j D s i c hc
   · match i,z,E with
     | 0,z,E =>
       injection z with z;injection E with E;subst z;subst E
       have hp:=LG (y:=y) (show Rel N w bA (.agg (List.set (aD ({ b with Kids:=[] }:ag)) 58 (.vv y))) x from hr) (by rw[H];omega) rfl (fun v hv=>by cases hv;rfl) V;refine Tw (hp N w (ext bA 700 y)) (by rw[H];omega) (fun v hv=>?_);cases hv;obtain⟨A,n,c,rfl⟩:=W;exact .ref _ _ _ _ _ (cH _ _ _)
     | 1,z,E =>
       injection z with z;injection E with E;subst z;subst E
       exact hr.pure rfl _
   · have hf:DI M w y (nC w 700 y) d d:=⟨.refl _ _,fun D s=>(by cases hw with|node _ _ _ xs K Z h3 h4=>exact h4 D s),fun g J=>hM g (by simp only[DB.bl,kb];exact .inr J) (T g J),rfl⟩;exact bn ⟨[(0,.agg (List.set (aD ({ b with Kids:=[] }:ag)) 58 (.ref 700))),(1,.sl (lm aH l))],[],[(700,⟨48,59,d.map DB.cells⟩)],[700,1000700]⟩ (ah 8 (cf (p:=pn 58) (d.length+1) (akI (Ds':=Ds') (b:=b) (v6:=0) (v5:=false) (i:=0) G Q o0 R V rfl K (d.length+1) rfl ⟨rfl,n3 _,fun j hj=>absurd hj (Nat.not_lt_zero _),fun j _=>rfl,rfl⟩ hf (by omega))))
section
variable(M:Nat→Prop)(c:az)(r:ag)(a X:eq)(v4:Int)(d:Nat)
abbrev IC:Cx:=⟨aT,36,M,c⟩
abbrev qS:=bodyPost aT Tryz.f13 (bP M c (fun v _=>v=.agg (aD r)))
abbrev VgS(a:ck)(s:AS):=VE (IC M c) (qS M c r) a .normal s
abbrev fN(n:Nat):aq:=.c (cat Tryz.f13 (pn n))
abbrev RS:ck:=[.b 0,fN 15]
abbrev TS:ck:=kl (IC M c) (qS M c r) RS (cat Tryz.f13 (pn 116)) d::RS
def sS:AS:=⟨[(0,.sl (lm aH a)),(2,.ptr 2 0),(3,.ref 300),(4,iI v4)],[(2,List.set (aD dk) 58 (.nils))],[(300,⟨37,58,lm aH X⟩)],[2,300]⟩
variable{M c r a X v4 d}{K:Kn}{n:Nat}
def ads{t:ag×Int}(hX:X=a.map fL)(S:lH K n n X 0=some t)(L:jr X n t.1=some r):VgS M c r [fN 15] (sS a X v4):=by
 refine bW (ks':=[fN 30,fN 31]) 1 (jz 300 (aj 1 ?_));refine VO (NI n S) (fun v w b2 W P H hG E=>?_);obtain⟨⟨nd,A,C,B⟩,q,G,I,s,o,F⟩:=W;simp only at q;subst q;subst I;rw[←G]at L;obtain⟨⟨j,e,i,f⟩,q1,Q,q3⟩:=TI n L rfl ⟨_,s⟩ F;refine⟨fun g=>g∈(⟨true,A,C,B⟩:DB).bl,o,?_⟩;refine ae (bW (ks':=[fN 62,fN 63]) 1 (aj 2 ?_));refine act q3 (fun k y=>.inr y) (fun w _ hw=>s.ca hw) (fun R hg Y V=>?_);refine ae (aM 1 ?_);refine mN (l:=[.agg (DB.cells ⟨j,e,i,f⟩)]) (by kernel_rfl) (fun w' ι x z hx=>?_);have p:fD (fun g=>g∈(⟨true,A,C,B⟩:DB).bl) c R:=(E.mono (fun _ h=>h.elim)).trans hg;have O:∀g,g∈(⟨true,A,C,B⟩:DB).bl→c.w.heap.size≤g:=fun g d=>oR H (o g d).1;refine⟨x,.agg (aD r),_,ι,rfl,rfl,z.WI p O (fun k y=>⟨.inl y,P k y⟩),?_⟩;have u:dZ w' ⟨j,e,i,f⟩:=Y.ca fun g d=>by
   rw[Q]at d;have:=z.old g (.inr d);exact z.below.block g this.1 this.2
 have D:=u.rel (N:=NN M ι) (fun g d m=>by
   rw[Q]at d;rcases m with m|⟨id,m⟩
   · have T:=(P g m).1;have U:=O g d;exact absurd T (afl.2 U)
   · exact z.sep (.inr d) m)
 have J:Rel (NN M ι) w' ι (.agg (DB.cells ⟨j,e,i,f⟩)) x:=hx.mono (h7 _) (fun b _ Z=>Z.elim (fun h=>.inl (.inl h)) .inr) (fun _ _ _=>rfl) (fun _ _ h=>h);rw[←eE,← q1,DB.R6];exact Tw J (by show 58<59;omega) (fun v I=>by cases I;exact D.pure rfl _)
def acn{t:ag×Int}(d:fits a.length 480=true)(q:lH K n n (a.map fL) 0=some t)(s:jr (a.map fL) n t.1=some r):
   ∀(m:Nat) {X:eq} {i:Nat} {v4:Int},v4=(i:Int)→X=(a.take i).map fL→i≤a.length→a.length<m+i→LP (IC M c) (qS M c r) RS (cat Tryz.f13 (pn 116)) m (sS a X v4):=by
 have o:a.length≤maxLen:=by
   unfold fits at d;simp only[g6,ob]at d;exact d.1
 intro m
 induction m with
 | zero=>intro X i v4 _ _ q s;omega
 | succ m x =>
   intro X i v4 v j y A;refine bq (bW (ks':=fN 464::fN 465::fN 233::TS M c r m) 2 (aj 2 (au (bF aH a) (aW 4 1 ?_))));by_cases f:i<a.length
   · have g:decide (v4<(a.length:Int))=true:=ae4 (by omega);refine aF 11 g (ae ?_);have l:aU v4 a.length=true:=by
       unfold aU;rw[g6];exact⟨ae4 (by omega),ae4 (by omega)⟩
     have w:aa (v4+1)=((i+1:Nat):Int):=by
       rw[v];unfold maxLen at o;unfold aa;rw[alY];omega
     have k:a.getD v4.toNat default=a[i]:=by
       rw[v,AT,Int.toNat_natCast,h6 f];rfl
     refine bW (ks':=fN 1864::fN 1865 :: .b 1::fN 467::TS M c r m) 5 (aj 2 (au (bX aH aH l (dJ) ap) (ae (bW (ks':=fN 7461::fN 3731 :: .b 1::fN 467::TS M c r m) 3 ?_))));have e:X++[fL (a.getD v4.toNat default)]=(a.take (i+1)).map fL:=by
       rw[j,k,List.take_succ,h6 f,Db];rfl
     have b:fits (X.length+[fL (a.getD v4.toNat default)].length) 480=true:=by
       have z:X.length=i:=by rw[j,lp,Dj];omega
       unfold fits at d⊢;simp only[g6,ob,List.length_singleton]at d⊢;omega
     cases p:((a.getD v4.toNat default).Style.Position == 2) with
     | true =>
       refine ai 21 p (bW (ks':=fN 3731 :: .b 1::fN 467::TS M c r m) 2 (aj 2 ?_));have h:fL (a.getD v4.toNat default)={ a.getD v4.toNat default with Style:={ (a.getD v4.toNat default).Style with Position:=0 } }:=by unfold fL;rw[iF p]
       rw[h]at e b;exact au (ii aH [{ a.getD v4.toNat default with Style:={ (a.getD v4.toNat default).Style with Position:=0 } }] (new:=[aH { a.getD v4.toNat default with Style:={ (a.getD v4.toNat default).Style with Position:=0 } }]) rfl) (au (cG 27 300 37 58 aH (rfl) (dJ) b) (ae (ah 2 (bu (x (v4:=aa (v4+1)) w e f (by omega))))))
     | false =>
       refine ai 21 p (bW (ks':=fN 3731 :: .b 1::fN 467::TS M c r m) 2 (aj 2 ?_));have h:fL (a.getD v4.toNat default)=a.getD v4.toNat default:=by unfold fL;rw[io (by rw[p];simp)]
       rw[h]at e b;exact au (ii aH [a.getD v4.toNat default] (new:=[aH (a.getD v4.toNat default)]) rfl) (au (cG 27 300 37 58 aH (rfl) (dJ) b) (ae (ah 2 (bu (x (v4:=aa (v4+1)) w e f (by omega))))))
   · have g:decide (v4<(a.length:Int))=false:=decide_eq_false (by omega);refine aF 11 g (ae ?_);have u:i=a.length:=by omega
     rw[u,alR]at j;rw[←j]at q s;exact ah 5 (ads (v4:=v4) j q s)
def ahM(h:qq K n a=some r):aZ aT 13 [.sl (lm aH a)] (fun v _=>v=.agg (aD r)):=by
 unfold qq at h;obtain⟨b,h⟩:=aB h;obtain⟨t,d,e⟩:=aw h;exact bK (cat Tryz.f13 (pn 1)) Tryz.func13 Tryz.ntmps13 fun M c=>(bn ⟨[(0,.sl (lm aH a))],[],[],[]⟩ (bW (ks':=[fN 58,.b 0,fN 15]) 8 (bV [0,2,3,4] [2] [] (fQ 300 3 37 58 (ah 0 (cf (p:=pn 58) (a.length+1) (acn b d e (a.length+1) (X:=[]) (i:=0) rfl rfl (n3 _) (by omega))))))))
end
end
def TX[GS]{K:Kn}{n:Nat}{a:eq}{r:ag}(b:am K)(h:qq K n a=some r):aZ aT 13 [.sl (lm aH a)] (fun v _=>v=.agg (aD r)):=ahM h
section
variable[GS](M:Nat→Prop)(c:az)(r a:eq)(b:fi)(d:eq)  
abbrev pD(n:Nat):aq:=.c (cat Tryz.f14 (pn n))
abbrev afu:Cx:=⟨aT,105,M,c⟩
abbrev W3:=bodyPost aT Tryz.f14 (bP M c (fun v s=>v=.ref 7∧look 7 s.r=some ⟨37,58,lm aH r⟩))
abbrev acr(a:ck)(s:AS):=VE (afu M c) (W3 M c r) a .normal s
def aiG:AS:=⟨[(5,.ref 7)],[],[(7,⟨37,58,lm aH d⟩)],[7]⟩
variable{M c r a b d}{K:Kn}{n:Nat}
def RY(a:am K)(h:zl K n d=some r):acr M c r [.b 0,pD 63] (aiG d):=by
 unfold zl at h;refine aM 4 ?_;cases h;exact eX
def ag3(R:am K)(h:xY K n a b=some r):aZ aT 14 [.sl (lm aH a),.agg (eF b)] (fun v s=>v=.ref 7∧look 7 s.r=some ⟨37,58,lm aH r⟩):=by
 refine bK (cat Tryz.f14 (pn 1)) Tryz.func14 Tryz.ntmps14 fun M c=>(bn ⟨[(0,.sl (lm aH a)),(1,.agg (eF b))],[],[],[]⟩ ?_);unfold xY at h;refine av 6 7 3 (aj 0 (Bv 22 7 (e:=37) (sz:=58) (aW 2 1 ?_)));obtain⟨S,h⟩:=aB h;refine au (cG 9 7 37 58 aH (rfl) (dJ) S) (ae (cj 4 5 3 2 (aj 1 (au (bF aH a) (ae ?_)))));obtain⟨C,h⟩|⟨C,h⟩:=ao h
 ·refine ai 12 C (av 4 5 2 (bV [0,3,5] [3] [7] ?_));obtain⟨P,h⟩:=aB h;obtain⟨U,h⟩:=aB h;refine ci 2 (nu 13 [.ref 7,.sl (lm aH a),.cptr (aH (gD a (0:Int))),.cptr (List.drop 0 (aH (gD a (0:Int)))),.int .u8 ((gD a (0:Int)).Depth),.int .u8 (IntKind.wrap .u8 (((gD a (0:Int)).Depth)+1)),.ptr 3 2,.ptr 3 7,.agg (aG b.Spec.Style),.agg (aH ({ uC with Depth:=(IntKind.wrap .u8 (((gD a (0:Int)).Depth)+1)),Style:=b.Spec.Style }:aK)),.sl (lm aH [({ uC with Depth:=(IntKind.wrap .u8 (((gD a (0:Int)).Depth)+1)),Style:=b.Spec.Style }:aK)])]) [] [] [gh 24 7 ⟨37,58,lm aH ((([]:eq)++a)++[({ uC with Depth:=(IntKind.wrap .u8 (((gD a (0:Int)).Depth)+1)),Style:=b.Spec.Style }:aK)])⟩,cF aT 105 Tryz.f14 (pn 116) 12] (aE [.v 0 1,.v 0 2] (ax (fv (lo:=0) (k:=2) (di ⟨(by kernel_rfl),(dp (bX aH aH P (dJ) ap) (by kernel_rfl))⟩ (di ⟨(by kernel_rfl),(dp (bX aH aH P (dJ) ap) (by kernel_rfl))⟩ fG))) (aE [.v 0 2,.v 0 2,.v 0 2,.v 0 2,.v 0 2,.v 0 2,.v 0 2,.v 0 1] (ax (dq (m:=0) (cG 24 7 37 58 aH (rfl) (dJ) U)) (ax (cE 1) cg))))) (aM 2 ?_)
  cases h;exact eX
 ·refine ai 12 C (gY 2 3 3 (aj 4 (au (bF aH a) (aW 6 1 ?_))));obtain⟨V,h⟩:=aB h;refine au (Gm .i64 (aa b.At) V) (ae ?_);obtain⟨d,W,h⟩:=cc h;refine bC (ks':=[pD 501,.b 0,pD 63]) 6 ⟨[(3,.ptr 3 0),(5,.ref 7),(6,iI d),(35,.int .u8 (Int.tmod b.Kind 4)),(56,.bool ((Int.tmod b.Kind 4) == 0))],[(3,eF b)],[(7,⟨37,58,lm aH (([]:eq)++a)⟩)],[3,7]⟩ ?_ (by subst W;kernel_rfl);obtain⟨O,h⟩|⟨O,h⟩:=ao h
  ·refine ai 56 O (av 4 5 2 (bV [3,5,6] [3] [7] ?_));obtain⟨X,h⟩:=aB h;obtain⟨Q,h⟩:=aB h;obtain⟨f,h⟩:=aB h;refine ci 3 (nu 58 [.ref 7,iI d,.eptr 7 58 (d.toNat) 0,.eptr 7 58 (d.toNat) 0,.int .u8 ((gD (([]:eq)++a) d).Depth),.ref 7,iI d,.eptr 7 58 (d.toNat) 0,.eptr 7 58 (d.toNat) 1,.int .u8 ((gD (([]:eq)++a) d).Kind),.ref 7,iI d,.eptr 7 58 (d.toNat) 0,.eptr 7 58 (d.toNat) 3,.int .u8 ((gD (([]:eq)++a) d).Rows),.ptr 3 2,.ptr 3 2,.ptr 3 2,.ptr 3 3,.ptr 3 2,.ptr 3 5]) [] [] [cF aT 105 Tryz.f14 (pn 2004) 17,cF aT 105 Tryz.f14 (pn 2004) 20,cF aT 105 Tryz.f14 (pn 2004) 23] (aE (vz 2) (bE (cD 7 58 aH (L:=(([]:eq)++a)) X) (aE [.v 0 1] (bE (bJ 5 0 aH aH (bB f).2 ap) (aE [.v 0 2,.v 0 2] (ax (fv (lo:=0) (k:=2) (di ⟨(by kernel_rfl),(dp (cD 7 58 aH (L:=(([]:eq)++a)) Q) (by kernel_rfl))⟩ (di ⟨(by kernel_rfl),(dp (cD 7 58 aH (L:=(([]:eq)++a)) Q) (by kernel_rfl))⟩ fG))) (aE [.v 0 2] (ax (fv (lo:=0) (k:=2) (di ⟨(by kernel_rfl),(dp (bJ 5 1 aH aH (bB f).2 ap) (by kernel_rfl))⟩ (di ⟨(by kernel_rfl),(dp (bJ 5 1 aH aH (bB f).2 ap) (by kernel_rfl))⟩ fG))) (aE [.v 0 3,.v 0 3] (ax (fv (lo:=0) (k:=3) (di ⟨(by kernel_rfl),(dp (cD 7 58 aH (L:=(([]:eq)++a)) f) (by kernel_rfl))⟩ (di ⟨(by kernel_rfl),(dp (cD 7 58 aH (L:=(([]:eq)++a)) f) (by kernel_rfl))⟩ (di ⟨(by kernel_rfl),(dp (cD 7 58 aH (L:=(([]:eq)++a)) f) (by kernel_rfl))⟩ fG)))) (aE [.v 0 3] (ax (fv (lo:=0) (k:=3) (di ⟨(by kernel_rfl),(dp (bJ 5 3 aH aH (bB f).2 ap) (by kernel_rfl))⟩ (di ⟨(by kernel_rfl),(dp (bJ 5 3 aH aH (bB f).2 ap) (by kernel_rfl))⟩ (di ⟨(by kernel_rfl),(dp (bJ 5 3 aH aH (bB f).2 ap) (by kernel_rfl))⟩ fG)))) (aE [.v 0 2,.v 0 1] (ax (cE 0) (aE [.v 1 2,.v 1 1] (ax (cE 1) (aE [.v 2 2,.v 2 1] (ax (cE 2) cg)))))))))))))))))) ?_
   obtain⟨v4,w,h⟩:=cc h;obtain⟨v5,z,h⟩:=cc h;obtain⟨v6,A,h⟩:=cc h;refine bC (ks':=[pD 2005,.b 0,pD 63]) 0 ⟨[(3,.ptr 3 0),(5,.ref 7),(6,iI d)],[(3,eF ({ b with Spec:=({ b.Spec with Depth:=v4,Kind:=v5,Rows:=v6 }:aK) }:fi))],[(7,⟨37,58,lm aH (([]:eq)++a)⟩)],[3,7]⟩ ?_ (by subst A;subst z;subst w;kernel_rfl);refine aj 4 ?_;obtain⟨o,h⟩:=aB h;exact au (cr 7 58 aH o) (au (dI 7 37 58 0 aH aH ({ b.Spec with Depth:=v4,Kind:=v5,Rows:=v6 }:aK) (bB o).2 ap) (ae (ah 0 (RY R h))))
  ·refine ai 56 O (br 7 3 ?_);obtain⟨i,h⟩|⟨i,h⟩:=ao h
   ·refine ai 84 i (br 2 1 (aj 2 ?_));obtain⟨p,h⟩:=aB h;refine au (cr 7 58 aH p) (aW 4 1 (au (bJ 9 2 aH aH (bB p).2 ap) ?_));obtain⟨B,h⟩:=aB h;refine au (alI B) ?_;obtain⟨q,h⟩:=aB h;exact au (cr 7 58 aH q) (aW 8 1 (au (dI 7 37 58 2 aH aH ({ (gD (([]:eq)++a) d)with Text:=(((gD (([]:eq)++a) d).Text)++(⟨#[120]⟩:ByteArray)) }:aK) (bB q).2 ap) (ae (ah 0 (RY R h)))))
   ·refine ai 84 i (br 7 3 ?_);obtain⟨j,h⟩|⟨j,h⟩:=ao h
    ·refine ai 94 j (av 4 5 2 (bV [5,6] [] [7] ?_));obtain⟨D,h⟩:=aB h;obtain⟨E,h⟩:=aB h;refine Wi 7 0 [(96,.ref 7),(97,iI d),(98,.sref 7 58 ((0:Int).toNat) (d.toNat-(0:Int).toNat)),(99,.ref 7),(100,iI d),(101,iI (aa (d+1))),(102,.sref 7 58 (((aa (d+1))).toNat) ((((([]:eq)++a).length:Int)).toNat-((aa (d+1))).toNat))] [] [] [] (aE (vz 2) (bE (Q0 aH (([]:eq)++a) (0:Int) d 22 (.tmp 96) none (some (.tmp 97)) 98 (id:=7) (e:=37) (sz:=58) (et:=37) (by kernel_rfl) (by kernel_rfl) (by kernel_rfl) (by kernel_rfl) (by kernel_rfl) (by kernel_rfl) (by kernel_rfl) (fun k g=>by subst g;kernel_rfl) D) (aE (vz 3) (bE (Q0 aH (([]:eq)++a) (aa (d+1)) ((([]:eq)++a).length:Int) 22 (.tmp 99) (some (.tmp 101)) none 102 (id:=7) (e:=37) (sz:=58) (et:=37) (by kernel_rfl) (by kernel_rfl) (by kernel_rfl) (by kernel_rfl) (by kernel_rfl) (by kernel_rfl) (by kernel_rfl) (fun k g=>by subst g;kernel_rfl) E) (Ar))))) ?_
     obtain⟨F,h⟩:=aB h;refine ac0 103 7 37 58 (d.toNat-(0:Int).toNat) (((aa (d+1))).toNat) ((((([]:eq)++a).length:Int)).toNat-((aa (d+1))).toNat) aH (L:=(([]:eq)++a)) (x:=(.tmp 98)) (y:=(.tmp 102)) (T:=22) (bytes:=480) F (ae (aM 3 ?_));cases h;exact eX
    ·refine ai 94 j (av 6 7 2 (aj 2 ?_));obtain⟨t,h⟩:=aB h;refine au (cr 7 58 aH t) (aW 4 1 (au (bJ 5 0 aH aH (bB t).2 ap) (ae ?_)));obtain⟨u,G,h⟩:=cc h;refine bC (ks':=[pD 64254,pD 64255,.b 0,pD 63]) 1 ⟨[(3,.ptr 3 0),(5,.ref 7),(6,iI d)],[(3,eF ({ b with Spec:=({ b.Spec with Depth:=u }:aK) }:fi))],[(7,⟨37,58,lm aH (([]:eq)++a)⟩)],[3,7]⟩ ?_ (by subst G;kernel_rfl);refine jz 7 ?_;obtain⟨H,h⟩:=aB h;obtain⟨I,h⟩:=aB h;obtain⟨J,h⟩:=aB h;obtain⟨l,h⟩:=aB h;obtain⟨N,h⟩:=aB h;refine ci 4 (nu 43 [.ref 43,.sl (lm aH (([]:eq)++a)),iI d,.sl (lm aH (List.drop ((0:Int)).toNat (List.take d.toNat (([]:eq)++a))))]++nu 48 [.ptr 3 2,.agg (aH ({ b.Spec with Depth:=u }:aK)),.sl (lm aH [({ b.Spec with Depth:=u }:aK)])]++nu 52 [.sl (lm aH (([]:eq)++a)),iI d,.sl (lm aH (List.drop d.toNat (List.take (((([]:eq)++a).length:Int)).toNat (([]:eq)++a))))]) [] [(43,⟨37,58,[]⟩)] [gh 47 43 ⟨37,58,lm aH (([]:eq)++(List.drop ((0:Int)).toNat (List.take d.toNat (([]:eq)++a))))⟩,gh 51 43 ⟨37,58,lm aH ((([]:eq)++(List.drop ((0:Int)).toNat (List.take d.toNat (([]:eq)++a))))++[({ b.Spec with Depth:=u }:aK)])⟩,gh 55 43 ⟨37,58,lm aH (((([]:eq)++(List.drop ((0:Int)).toNat (List.take d.toNat (([]:eq)++a))))++[({ b.Spec with Depth:=u }:aK)])++(List.drop d.toNat (List.take (((([]:eq)++a).length:Int)).toNat (([]:eq)++a))))⟩,cF aT 105 Tryz.f14 (pn 64254) 13] (ax (e_n 0 1 22 43 37 58) (aE [.v 0 4,.v 0 4] (bE (kS aH (([]:eq)++a) (0:Int) d 22 (.tmp 44) none (some (.tmp 45)) 46 (e:=37) (sz:=58) (by kernel_rfl) (by kernel_rfl) (by kernel_rfl) (by kernel_rfl) (by kernel_rfl) (by kernel_rfl) (dJ) (fun k g=>by subst g;kernel_rfl) H) (ax (dq (m:=0) (cG 47 43 37 58 aH (rfl) (dJ) I)) (aE [.v 0 4,.v 0 4,.v 0 2] (ax (dq (m:=1) (cG 51 43 37 58 aH (rfl) (dJ) J)) (aE [.v 0 4,.v 0 4] (ax (fv (lo:=0) (k:=3) (di ⟨(by kernel_rfl),(dp (kS aH (([]:eq)++a) d ((([]:eq)++a).length:Int) 22 (.tmp 52) (some (.tmp 53)) none 54 (e:=37) (sz:=58) (by kernel_rfl) (by kernel_rfl) (by kernel_rfl) (by kernel_rfl) (by kernel_rfl) (by kernel_rfl) (dJ) (fun k g=>by subst g;kernel_rfl) l) (by kernel_rfl))⟩ (di ⟨(by kernel_rfl),(dp (kS aH (([]:eq)++a) d ((([]:eq)++a).length:Int) 22 (.tmp 52) (some (.tmp 53)) none 54 (e:=37) (sz:=58) (by kernel_rfl) (by kernel_rfl) (by kernel_rfl) (by kernel_rfl) (by kernel_rfl) (by kernel_rfl) (dJ) (fun k g=>by subst g;kernel_rfl) l) (by kernel_rfl))⟩ (di ⟨(by kernel_rfl),(dp (kS aH (([]:eq)++a) d ((([]:eq)++a).length:Int) 22 (.tmp 52) (some (.tmp 53)) none 54 (e:=37) (sz:=58) (by kernel_rfl) (by kernel_rfl) (by kernel_rfl) (by kernel_rfl) (by kernel_rfl) (by kernel_rfl) (dJ) (fun k g=>by subst g;kernel_rfl) l) (by kernel_rfl))⟩ fG)))) (ax (dq (m:=2) (cG 55 43 37 58 aH (rfl) (dJ) N)) (ax (cE 3) cg)))))))))) (aM 3 (bV [4] [] [43] (rf 43 7 ?_)))
     cases h;exact eX
end
section
variable(M:Nat→Prop)(d:az)(r:ab)(a:ag)(b c:Int)  
variable{M d r a b c}{K:Kn}{n:Nat}
def afe(e:am K)(h:yD K n a b c=some r):aZ aT 21 [.agg (aD a),iI b,iI c] (fun v _=>v=.agg (aC r)):=by
 refine bK (cat Tryz.f21 (pn 1)) Tryz.func21 Tryz.ntmps21 fun M d=>(bn ⟨[(0,.agg (aD a)),(1,iI b),(2,iI c)],[],[],[]⟩ ?_);unfold yD at h;refine av 6 7 3 (bV [1,2,3,6] [3,6] [] ?_);obtain⟨v4,f,h⟩:=aw h;refine Wi 4 0 [(7,.agg (aD a)),(8,iI b),(9,iI c),(10,.agg (ce v4))] [] [] [] (aE (vz 3) (ax (cR 0 1 10 (XO (Up e f))) (Ar))) ?_;obtain⟨i,h⟩:=aB h;haveI:=PF.of i;obtain⟨v5,g,h⟩:=aw h;refine aR (afs (V:=fun r=>.agg (aC r)) g fun h=>P7 e h) (ae (aM 1 ?_));cases h;exact bD
end
section
variable[GS](M:Nat→Prop)(i:az)(r:Int×Unit×b5)(f:ByteArray)(g:Bool)(a:b5)  
variable{M i r f g a}{K:Kn}{n:Nat}
def aaP(o:am K)(h:La K n f g a=some r):lL aT 70 [.ptr 450119 0,.str f] [(450119,[(nD g 450119),.ref 9])] 9 (bY a) [9,450119,1450119] (fun v s=>v=.tup [iI r.1,.vv .nilIface]∧cB s.o [(450119,[.ptr 450119 0,.ref 9])]∧look 9 s.r=some (bY r.2.2)):=by
 refine uu (c:=cat Tryz.f70 (pn 1)) Tryz.func70 (by kernel_rfl) _ Tryz.ntmps70 (il (by kernel_rfl)) fun M i=>(bn ⟨[(0,.ptr 450119 0),(1,.str f)],[(450119,[(nD g 450119),.ref 9])],[(9,(bY a))],[9,450119,1450119]⟩ ?_);unfold La at h;refine av 6 7 3 (aj 1 ?_);rcases ao h with⟨k,j⟩|⟨k,j⟩
 ·subst k;have h:=j;refine E2 450119 (b:=true) (c1:=.ref 9) (ae (av 2 3 1 (aj 6 ?_)));obtain⟨l,h⟩:=aB h;refine RD (d:=14) (id:=9) (e:=5) (L:=a) l (ae (aM 3 ?_));cases h;exact n6
 ·subst k;have h:=j;refine E2 450119 (b:=false) (c1:=.ref 9) (ae (av 2 3 1 (aj 6 ?_)));obtain⟨m,h⟩:=aB h;refine RD (d:=14) (id:=9) (e:=5) (L:=a) m (ae (aM 3 ?_));cases h;exact n6
end
section
abbrev M9[YD](P:Program)(G:cU×ab→BS→Prop)(Y:cU×ab→BS→Option BS)(Z:cU×ab→World→Prop):Prop :=
 ∀(a:cU×ab) (s:BS),G a s→LY (m8 P YD.l) [.agg (ja a.1),.agg (aC a.2)] (c9 s.1) (dQ s.2) (YG (dj Y [a] s) Z)
section
variable[YD][Yk](M:Nat→Prop)(i:az)(b:ab)(o q r:Int)(t:Nat)(s:BS)(g:BS ⊕ (cU×ab))(Z:cU×ab→World→Prop)
abbrev Er:Cx:=⟨aT,46,M,i⟩
abbrev qA:=bodyPost aT Tryz.f122 (YG g Z M i)
abbrev VA(a:ck)(s:AS):=VE (Er M i) (qA M i g Z) a .normal s
abbrev RL(n:Nat):aq:=.c (cat Tryz.f122 (pn n))
abbrev RA:ck:=[.b 0,RL 31]
abbrev TA:ck:=kl (Er M i) (qA M i g Z) RA (cat Tryz.f122 (pn 244)) t::RA
def sA:AS:=⟨[(3,.vv (g9 YD.l)),(9,.ptr 9 0),(31,.sl (lm aN b.Kids)),(32,iI (b.Kids.length:Int)),(33,iI r)],((9,ja (fy b o q))::yO (c9 s.1)),[(440009,dQ s.2)],9::YU⟩
def Tb{a:cU×ab}(b:∀a w w',Z a w→Below w.heap.size w w'→Z a w'){w':World}(f:Z a w'){l:b6}{s:AS}(d:gz aT s Tryz.f122.results.toList=some [.bool false]):VE (fm:=fm0) ⟨aT,46,fun _=>False,gC w'⟩ (qA M i (.inr a) Z) [] .ret s :=
 mN d fun w ι x c e=>.inr ⟨by cases e;rfl,b a w' w f c.below.plain⟩
variable{M i b o q r t s g Z}
def akd{j:Nat}(u:r=(j:Int)){G:cU×ab→BS→Prop}{Y:cU×ab→BS→Option BS}{n:Nat}(O:∀a w w',Z a w→Below w.heap.size w w'→Z a w')(U:Yw M i.G i.w)(D:j0 i.pv)
   (T:∀f x y s l,jT n f x y=some l→jJ G Y l s→LY (Calls aT 122) [.agg (aC f),iI x,iI y,.vv (g9 YD.l)] (c9 s.1) (dQ s.2) (YG (dj Y l s) Z))
   (W:b.Kids.length<9223372036854775807) (p:∀s' L,j<b.Kids.length→pC (fun k=>jT n k (fy b o q).X (fy b o q).Y) (b.Kids.drop (j+1))=some L→jJ G Y L s'→dj Y L s'=g→LP (Er M i) (qA M i g Z) RA (cat Tryz.f122 (pn 244)) t (sA b o q (aa (r+1)) s'))
   {L:List (cU×ab)} (c:pC (fun k=>jT n k (fy b o q).X (fy b o q).Y) (b.Kids.drop j)=some L) (R:jJ G Y L s) (m:dj Y L s=g) (V:j≤b.Kids.length):VA M i g Z (RL 244::TA M i t g Z) (sA b o q r s):=by
 refine av 6 7 3 ?_;by_cases h:j<b.Kids.length
 · have z:decide (r<(b.Kids.length:Int))=true:=by subst u;simp;omega
   refine ai 34 z (cX 8 9 1 3 5 (aj 0 ?_));have A:aU r b.Kids.length=true:=by subst u;unfold aU;simp;omega
   refine au (bX aN aC A (ky) (dV)) (ae (av 2 3 1 (aj 6 ?_)));rw[kp h]at c;simp only[pC]at c;obtain⟨E,F,c⟩:=aw c;obtain⟨J,N,c⟩:=aw c;injection c with c;subst c
   rw[Qq]at m;obtain⟨B,C⟩:=H2 R;have Q:b.Kids.getD r.toNat default=b.Kids[j]:=by subst u;simp[h6 h]
   rw[←Q]at F;refine VQ U D (d:=43) (T _ _ _ s E F B) (Ky (by kernel_rfl) (by kernel_rfl) (by kernel_rfl)) (H3 _) (fun H=>?_) (fun w' v=>?_)
   · cases e:dj Y E s with
     | inr a=>rw[e]at H;exact H.elim
     | inl I =>
       rw[e]at m;simp only[e,gS];refine ae (ai 44 (b':=false) rfl ?_);obtain⟨K,X⟩:=I;cases K<;>exact ah 4 (bu (p _ J h N (C _ e) m))
   · cases e:dj Y E s with
     | inl I=>rw[e]at v;exact v.elim
     | inr a =>
       rw[e]at v m;subst m;exact ae (ai 44 (b':=true) rfl (aM 9 (Tb M i Z O v (l:=[]) (by kernel_rfl))))
 · rw[la (by omega)]at c;injection c with c;subst c
   subst m;have z:decide (r<(b.Kids.length:Int))=false:=by subst u;simp;omega
   refine ai 34 z (aM 8 ?_);refine mN (l:=[.bool true]) (by kernel_rfl) fun w ι x P S=>.inl ⟨trivial,_,ι,by cases S;rfl,⟨by kernel_rfl,by kernel_rfl,by kernel_rfl,trivial⟩,by kernel_rfl,P⟩
def P0{G:cU×ab→BS→Prop}{Y:cU×ab→BS→Option BS}{n:Nat}(p:∀a w w',Z a w→Below w.heap.size w w'→Z a w')(u:Yw M i.G i.w)(c:j0 i.pv)
   (t:∀f x y s l,jT n f x y=some l→jJ G Y l s→LY (Calls aT 122) [.agg (aC f),iI x,iI y,.vv (g9 YD.l)] (c9 s.1) (dQ s.2) (YG (dj Y l s) Z)) (r:b.Kids.length<9223372036854775807) :
   ∀(m j:Nat) (s:BS) (L:List (cU×ab)),j≤b.Kids.length→b.Kids.length<m+j→pC (fun k=>jT n k (fy b o q).X (fy b o q).Y) (b.Kids.drop j)=some L→jJ G Y L s→dj Y L s=g→LP (Er M i) (qA M i g Z) RA (cat Tryz.f122 (pn 244)) m (sA b o q (j:Int) s)
 | 0,j,s,L,d,z,_,_,_=>absurd d (by omega)
 | m+1,j,s,L,d,z,A,F,B=>bq (akd rfl p u c t r (fun s' v E C h D=>by
     have e:aa ((j:Int)+1)=((j+1:Nat):Int):=by
       unfold aa;rw[alY];omega
     rw[e];exact P0 p u c t r m (j+1) s' v E (by omega) C h D) A F B d)
def Ni{G:cU×ab→BS→Prop}{Y:cU×ab→BS→Option BS}(m:∀a w w',Z a w→Below w.heap.size w w'→Z a w')(r:M9 aT G Y Z):∀(n:Nat) (f:ab) (x y:Int) (s:BS) (l:List (cU×ab)),jT n f x y=some l→jJ G Y l s →
   LY (Calls aT 122) [.agg (aC f),iI x,iI y,.vv (g9 YD.l)] (c9 s.1) (dQ s.2) (YG (dj Y l s) Z)
 | 0,f,x,y,s,l,h,_=>by cases h
 | n+1,f,x,y,s,l,h,t=>by
   refine Mn (c:=cat Tryz.f122 (pn 1)) Tryz.func122 (by kernel_rfl) _ Tryz.ntmps122 (il (by kernel_rfl)) fun M i v j=>(bn ⟨[(0,.agg (aC f)),(1,iI x),(2,iI y),(3,.vv (g9 YD.l))],yO (c9 s.1),[(440009,dQ s.2)],YU⟩ ?_);unfold jT at h;obtain⟨L,A,h⟩:=aw h;obtain⟨B,h⟩:=aB h;injection h with h;subst h
   have C:f.Kids.length<9223372036854775807:=by have:=Lp B;omega
   refine cj 28 29 15 6 (aj 3 ?_);have o:=r (fy f x y,f) s t.1;have g:=t.2;refine aef v j (d:=28) o (Ky (by kernel_rfl) (by kernel_rfl) (by kernel_rfl)) (H3 _) (fun u=>?_) (fun w' k=>?_)
   · cases b:Y (fy f x y,f) s with
     | none=>simp only[dj,b]at u;exact u.elim
     | some q =>
       have e:dj Y ((fy f x y,f)::L) s=dj Y L q:=by simp only[dj,b]
       rw[e];simp only[b]at g;simp only[dj,b,gS];refine ae (ai 29 (b':=false) rfl (n9 4 5 3 4 (aj 2 (au (bF aN f.Kids) (ae ?_)))));obtain⟨z,D⟩:=q;cases z<;>exact ah 1 (cf (p:=pn 122) (f.Kids.length+1) (P0 m v j (Ni m r n) C (f.Kids.length+1) 0 _ L (n3 _) (by omega) A g rfl))
   · cases b:Y (fy f x y,f) s with
     | some q=>simp only[dj,b]at k;exact k.elim
     | none =>
       have e:dj Y ((fy f x y,f)::L) s=.inr (fy f x y,f):=by simp only[dj,b]
       rw[e];simp only[dj,b]at k;exact ae (ai 29 (b':=true) rfl (aM 5 (Tb M i Z m k (l:=[]) (by kernel_rfl))))
def LQ{G:cU×ab→BS→Prop}{Y:cU×ab→BS→Option BS}(j:∀a w w',Z a w→Below w.heap.size w w'→Z a w')(m:M9 aT G Y Z)(n:Nat)(f:ab)(s:BS)(l:List (cU×ab))(h:jT n f 0 0=some l)(o:jJ G Y l s):
   LY (Calls aT 121) [.vv (g9 YD.l),.cptr (aC f)] (c9 s.1) (dQ s.2) (R1 (dj Y l s) Z):=by
 refine Mn (c:=cat Tryz.f121 (pn 1)) Tryz.func121 (by kernel_rfl) _ Tryz.ntmps121 (il (by kernel_rfl)) fun M i r g=>(bn ⟨[(0,.vv (g9 YD.l)),(1,.cptr (aC f))],yO (c9 s.1),[(440009,dQ s.2)],YU⟩ (aj 2 ?_));refine VQ r g (d:=5) (Ni j m n f 0 0 s l h o) (Ky (by kernel_rfl) (by kernel_rfl) (by kernel_rfl)) (H3 _) (fun p=>?_) (fun w' b=>?_)
 · refine ae ?_;exact pF (mN (l:=[]) (by kernel_rfl) fun w ι x e q=>⟨_,rfl,.inl ⟨p,_,ι,⟨by kernel_rfl,by kernel_rfl,by kernel_rfl,trivial⟩,by kernel_rfl,e⟩⟩)
 · refine ae ?_;refine pF ?_;refine mN (l:=[]) (by kernel_rfl) fun w ι x e q=>⟨_,rfl,.inr ?_⟩;cases k:dj Y l s with
   | inl t=>rw[k]at b;exact b.elim
   | inr a=>rw[k]at b;exact j a w' w b e.below.plain
end
def SD(f:ab):aZ aT 69 [.agg (aC f)] (fun v _=>v=.fn 121 [.cptr (aC f)]):=by
 exact bK (cat Tryz.f69 (pn 1)) Tryz.func69 Tryz.ntmps69 fun M a=>(bn ⟨[(0,.agg (aC f))],[],[],[]⟩ (av 6 7 3 (aj 0 (mK 1 1 (aC f) (rZ 121 #[(.tmp 1)] [.cptr (aC f)] (ae (aM 1 bD)))))))
end
section
variable[GS]
def UW:Code→Code
 | .rangeFunc _ _ a _=>a
 | c=>c
def MF:Code→Code
 | .rangeFunc _ _ _ b=>b
 | c=>c
def Cv(f:Func)(c:Code):Func:={ f with body:=some c }
def CX:∀(l:b7) (s:BS),s.2.length≤(tK l s).2.length
 | [],s=>h7 _
 | k::r,s=>by
   unfold tK;split
   · exact oR (by simp) (CX r _)
   · exact CX r _
def aac(t:ByteArray):(fT t).length=t.size:=by simp[fT]
def Sk{a b s:Nat}(h:fits b s=true)(c:a≤b):fits a s=true:=by
 unfold fits at h⊢;simp only[g6,ob]at h⊢;exact⟨oR c h.1,oR (ye _ c) h.2⟩
abbrev TZ:Func:=Cv Tryz.f32 (UW (cat Tryz.f32 (pn 58)))
abbrev zj:Func:=Cv Tryz.f32 (MF (cat Tryz.f32 (pn 58)))
section
variable[YD][Yk]
def Fh(f:ab)(s:BS):AS:=⟨[(5,.ptr 5 0),(3,.ptr 450119 0)],(5,aC f)::yO (c9 s.1),[(440009,dQ s.2)],5::YU⟩
def alw[FM]{M:Nat→Prop}{d:az}(a:cU×ab)(s:BS):
   VE ⟨aT,31,M,d⟩ (fun e c w=>e=.normal∧∃ι,aI ⟨aT,31,M,d⟩ (Fh a.2 s) c w ι) [.c (cat TZ (pn 1))] .normal ⟨[(10,.agg (ja a.1)),(11,.agg (aC a.2)),(3,.ptr 450119 0)],yO (c9 s.1),[(440009,dQ s.2)],YU⟩:=by
 refine aj 2 (ae ?_);obtain⟨b,l⟩:=s;cases b<;>exact ah (ks':=[]) (e':=.normal) (s':=Fh a.2 (_,l)) 0 (fun c w ι f=>⟨rfl,ι,f⟩)
section
variable[FM](M:Nat→Prop)(d:az)(a:cU×ab)(Z:cU×ab→World→Prop)(c:Obj)(g:BS)(f:Nat)
abbrev CE:Cx:=⟨aT,31,M,d⟩
abbrev EJ:Exit→Act→World→Prop:=bQ (.inl g) Z c M d
abbrev VT(a:ck)(s:AS):=VE (CE M d) (EJ M d Z c g) a .normal s
abbrev jn(n:Nat):aq:=.c (cat zj (pn n))
abbrev RT:ck:=[.b 2,jn 11,.b 1]
abbrev LT:ck:=kl (CE M d) (EJ M d Z c g) RT (cat zj (pn 84)) f::RT
def Js(j:Int)(s:BS):AS:=⟨[(3,.ptr 450119 0),(16,.sl (lm aN a.2.Kids)),(17,iI (a.2.Kids.length:Int)),(18,iI j)],yO (c9 s.1),[(440009,dQ s.2)],YU⟩
variable{M d a Z c g f}
def C1{K:Kn}(c:am K)(t:ByteArray)(b:Bool)(l:b5)(h:fits (l.length+t.size) 1=true):lL aT 70 [.ptr 450119 0,.str t] [(450119,[nD b 450119,.ref 9])] 9 (bY l) [9,450119,1450119] (fun v a=>v=.tup [iI t.size,.vv .nilIface]∧cB a.o [(450119,[.ptr 450119 0,.ref 9])]∧look 9 a.r=some ⟨5,1,lm (ak .u8) (l++fT t)⟩) :=
 aaP (n:=0) (r:=((t.size:Int),(),l++fT t)) c (by unfold La;rw[h];simp[aA])
def adO{K:Kn}(n:am K){E:BS}(x:g=(true,E.2++[10]))(q:fits (E.2.length+1) 1=true){v:Int}{j:Nat}(o:v=(j:Int)){s:BS}(e:tK (a.2.Kids.drop j) s=E)(A:a.2.Kids.length<9223372036854775807)(z:j≤a.2.Kids.length)
   (h:∀s',j<a.2.Kids.length→tK (a.2.Kids.drop (j+1)) s'=E→LP (CE M d) (EJ M d Z c g) RT (cat zj (pn 84)) f (Js a (aa (v+1)) s')):VT M d Z c g (jn 84::LT M d Z c g f) (Js a v s):=by
 refine av 6 7 3 ?_;by_cases i:j<a.2.Kids.length
 · have p:decide (v<(a.2.Kids.length:Int))=true:=by subst o;simp;omega
   have r:aU v a.2.Kids.length=true:=by subst o;unfold aU;simp;omega
   rw[kp i]at e;simp only[tK]at e;have y:a.2.Kids.getD v.toNat default=a.2.Kids[j]:=by subst o;simp[h6 i]
   rw[←y]at e;refine ai 19 p (bW (ks':=jn 2712::jn 2713 :: .b 3::jn 679::LT M d Z c g f) 5 (aj 0 (au (bX aN aC r (ky) (dV)) (ae (av 2 3 1 (aj 3 (ae ?_)))))));cases k:((a.2.Kids.getD v.toNat default).Kind == 3) with
   | true =>
     refine ai 24 k ?_;rw[iF k]at e;have m:fits (s.2.length+(a.2.Kids.getD v.toNat default).Text.size) 1=true:=Sk q (by
       have u:=CX (a.2.Kids.drop (j+1)) (true,s.2++fT (a.2.Kids.getD v.toNat default).Text);rw[e,kc,aac]at u;omega)
     refine bW (ks':=jn 10854 :: .b 3::jn 679::LT M d Z c g f) 1 (aj 2 ?_);obtain⟨b,l⟩:=s;cases b
     · refine kI 440009 9 [(450119,450119)] (C1 n _ false l m) ?_;exact ae (ah 2 (bu (h (true,_) i e)))
     · refine kI 440009 9 [(450119,450119)] (C1 n _ true l m) ?_;exact ae (ah 2 (bu (h (true,_) i e)))
   | false =>
     refine ai 24 k ?_;rw[io (by rw[k];simp)]at e;obtain⟨b,l⟩:=s;cases b<;>exact ah 4 (bu (h (_,_) i e))
 · rw[la (by omega)]at e;have e:s=E:=e;subst e;subst x;have p:decide (v<(a.2.Kids.length:Int))=false:=by subst o;simp;omega
   refine ai 19 p (bW (ks':=[jn 11,.b 1]) 5 (aj 0 ?_));obtain⟨b,l⟩:=s;cases b
   · refine kI 440009 9 [(450119,450119)] (C1 n ⟨#[10]⟩ false l q) ?_;exact ae (ah (ks':=[]) (e':=.normal) (s':=⟨[],yO (c9 true),[(440009,dQ (l++[10]))],YU⟩) 1 (fun t w ι e=>⟨trivial,ι,_,e.hs,⟨rfl,rfl,rfl,trivial⟩,rfl⟩))
   · refine kI 440009 9 [(450119,450119)] (C1 n ⟨#[10]⟩ true l q) ?_;exact ae (ah (ks':=[]) (e':=.normal) (s':=⟨[],yO (c9 true),[(440009,dQ (l++[10]))],YU⟩) 1 (fun t w ι e=>⟨trivial,ι,_,e.hs,⟨rfl,rfl,rfl,trivial⟩,rfl⟩))
def PA{K:Kn}(h:am K){E:BS}(f:g=(true,E.2++[10]))(i:fits (E.2.length+1) 1=true)(k:a.2.Kids.length<9223372036854775807):
   ∀(m j:Nat) (s:BS),j≤a.2.Kids.length→a.2.Kids.length<m+j→tK (a.2.Kids.drop j) s=E→LP (CE M d) (EJ M d Z c g) RT (cat zj (pn 84)) m (Js a (j:Int) s)
 | 0,j,s,b,l,_=>absurd b (by omega)
 | m+1,j,s,b,l,n=>bq (adO h f i rfl n k b (fun s' p o=>by
     have e:aa ((j:Int)+1)=((j+1:Nat):Int):=by
       unfold aa;rw[alY];omega
     rw[e];exact PA h f i k m (j+1) s' p (by omega) o))
def alq{K:Kn}(j:am K)(k:a.2.Kids.length<9223372036854775807){s:BS}(i:fits (g.2.length) 1=true)(f:g=tY a s):VT M d Z c g [jn 1] (Fh a.2 s):=by
 refine bW (ks':=[jn 8,jn 9,jn 5,.b 1]) 3 (aj 3 (ae ?_));cases h:(a.2.Kind != 2) with
 | true =>
   have e:tY a s=s:=by unfold tY;rw[iF h]
   rw[e]at f;subst f;refine ai 14 h ?_;obtain⟨b,l⟩:=g;cases b<;>exact ah (ks':=[]) (e':=.normal) (s':=⟨[],yO (c9 _),[(440009,dQ l)],YU⟩) 4 (fun n w ι m=>⟨trivial,ι,_,m.hs,⟨rfl,rfl,rfl,trivial⟩,rfl⟩)
 | false =>
   have e:tY a s=(true,(tK a.2.Kids s).2++[10]):=by unfold tY;rw[io (by rw[h];simp)]
   rw[e]at f;refine ai 14 h (bW (ks':=[jn 20,jn 21,jn 11,.b 1]) 4 (aj 2 (au (bF aN a.2.Kids) (ae ?_))));rw[f]at i;simp only[kc,iN,ro]at i;obtain⟨b,l⟩:=s;cases b<;>exact ah 1 (cf (p:=pn 42) (a.2.Kids.length+1) (PA j f i k (a.2.Kids.length+1) 0 _ (n3 _) (by omega) rfl))
end
end
def FA:∀(l:b7) (s:BS),(∀n∈s.2,0≤n∧n<256)→∀n∈(tK l s).2,0≤n∧n<256
 | [],s,h=>h
 | k::r,s,h=>by
   unfold tK;split
   · refine FA r _ fun n a=>?_;rcases kb.1 a with a|a
     · exact h n a
     · obtain⟨b,_,rfl⟩:=u6.1 a;have:=b.toNat_lt;omega
   · exact FA r s h
def L7:∀(l:List (cU×ab)) (s:BS),(∀n∈s.2,0≤n∧n<256)→∀n∈(tF l s).2,0≤n∧n<256
 | [],s,h=>h
 | a::r,s,h=>by
   refine L7 r (tY a s) ?_;unfold tY;split
   · exact h
   · intro n b;rcases kb.1 b with b|b
     · exact FA _ s h n b
     · have:=acN.1 b;subst this;omega
def Mj:∀(l:List (cU×ab)) (s:BS),s.2.length≤(tF l s).2.length
 | [],s=>h7 _
 | a::r,s=>by
   refine oR ?_ (Mj r (tY a s));unfold tY;split
   · exact h7 _
   · have:=CX a.2.Kids s;simp;omega
abbrev tG(x:cU×ab)(s:BS):Prop:=x.2.Kids.length<9223372036854775807∧fits (tY x s).2.length 1=true
def IR:∀(l:List (cU×ab)) (s:BS),dj (fun x s=>some (tY x s)) l s=.inl (tF l s)
 | [],s=>rfl
 | a::r,s=>IR r (tY a s)
def SY:∀(l:List (cU×ab)) (s:BS),(l.all fun x=>decide (x.2.Kids.length<9223372036854775807))=true→fits (tF l s).2.length 1=true→jJ tG (fun x s=>some (tY x s)) l s
 | [],s,_,_=>trivial
 | a::r,s,b,c=>by
   simp only[List.all_cons,g6,ob]at b;exact⟨⟨b.1,Sk c (Mj r (tY a s))⟩,SY r (tY a s) b.2 c⟩
def ajv{K:Kn}{n:Nat}{f:ab}{r:ByteArray}(B:am K)(h:rm K n f=some r):aZ aT 32 [.agg (aC f)] (fun v _=>v=.str r):=by
 unfold rm at h;obtain⟨l,w,h⟩:=aw h;obtain⟨y,h⟩:=aB h;obtain⟨z,h⟩:=aB h;injection h with h;subst h
 refine OM (c:=cat Tryz.f32 (pn 1)) Tryz.func32 (by kernel_rfl) _ Tryz.ntmps32 (il (by kernel_rfl)) fun M q=>(bn ⟨[(0,.agg (aC f))],[],[],[]⟩ (av 6 7 3 (aj 0 (O2 450119 (T:=119) (d:=3) (cs:=[.nilp,.nils]) (ae (sC 440009 450119 1 5 1 (cj 4 5 3 2 (aj 1 (aR (SD f) (ae (bW (ks':=[.c (cat Tryz.f32 (pn 58)),.b 0,.c (cat Tryz.f32 (pn 15))]) 1 (GC 1 440004 [iI 0,iI 0,iI 0,iI 0] (GC 2 440005 [.bool false] ?_)))))))))))));refine Rn (α:=cU×ab) (gop:=.tmp 9) (p0:=10) (p1:=11) (assign:=cat TZ (pn 1)) (body:=cat zj (pn 1)) (xa0:=fun x=>.agg (ja x.1)) (xa1:=fun x=>.agg (aC x.2)) (G:=tG) (Y:=fun x s=>some (tY x s)) (Z:=fun _ _ _=>False) (gf:=121) (aV:=[.cptr (aC f)]) 440004 440005 3 1 2 (kt:=[(3,.ptr 450119 0)]) (r0:=(0,0,0,0)) (q0:=false) (b:=false) (L:=[]) (pl:=l)
   (o2:=fun b=>[(450119,c9 b),(440004,[iI 0,iI 0,iI 0,iI 0]),(440005,[.bool false])])
   (fun i j=>?_) (fun i j b'=>?_) (by intro _ _ _ _ fn I D g x t o;exact Qw g (fun M q=>by letI:FM:=lS YD.l;exact alw x t) (fun M q _=>by letI:FM:=lS YD.l;exact alq B o.1 o.2 rfl) (show 10<31 by decide) (show 11<31 by decide) (by decide)) (by intro _ _ H k C;exact LQ k C n f (false,[]) l w (SY l _ y z)) (fun _ _ _ _ h _=>h) (fun s' a F b' D u=>?_) (fun x p=>?_)
 · unfold yO yA yB;rw[i,j];kernel_rfl
 · unfold yO yA yB;rw[i,j];cases b'<;>kernel_rfl
 · rw[IR]at a;injection a with a
   subst a;have e:=L7 l (false,[]) (fun n m=>by cases m);obtain⟨⟨b,L⟩,A⟩:∃E,tF l (false,[])=E:=⟨_,rfl⟩;rw[A]at e⊢
   letI:FM:=po D
   refine bW (ks':=[.c (cat Tryz.f32 (pn 30)),.c (cat Tryz.f32 (pn 31))]) 2 (aj 0 ?_);cases L with
   | nil =>
     exact agq 450119 440009 (ae (aM 1 (Cj u (l:=[.str _]) (by kernel_rfl) rfl)))
   | cons x L =>
     exact FE 450119 440009 (L:=x::L) (by unfold pj;simpa using⟨e x (pe ..),fun n m=>e n (nw _ m)⟩) (ae (aM 1 (Cj u (l:=[.str _]) (by kernel_rfl) rfl)))
 · rw[IR]at p;cases p
end
section
variable[GS]
abbrev SR:Func:=Cv Tryz.f31 (UW (cat Tryz.f31 (pn 26)))
abbrev PH:Func:=Cv Tryz.f31 (MF (cat Tryz.f31 (pn 26)))
section
variable[YD][Yk]
def F8(b:Int)(a:cU×ab)(s:BS):AS:=⟨[(6,.ptr 6 0),(7,.ptr 7 0),(3,.cptr [iI b]),(4,.ptr 440004 0),(5,.ptr 440005 0)],(7,aC a.2)::(6,ja a.1)::yO (c9 s.1),[(440009,dQ s.2)],7::6::YU⟩
def afZ[FM]{M:Nat→Prop}{f:az}(c:Int)(a:cU×ab)(s:BS):
   VE ⟨aT,27,M,f⟩ (fun e d w=>e=.normal∧∃ι,aI ⟨aT,27,M,f⟩ (F8 c a s) d w ι) [.c (cat SR (pn 1))] .normal ⟨[(10,.agg (ja a.1)),(11,.agg (aC a.2)),(3,.cptr [iI c]),(4,.ptr 440004 0),(5,.ptr 440005 0)],yO (c9 s.1),[(440009,dQ s.2)],YU⟩:=by
 refine av 2 3 1 (aj 2 (ae (aj 2 (ae ?_))));obtain⟨b,l⟩:=s;cases b<;>exact ah (ks':=[]) (e':=.normal) (s':=F8 c a (_,l)) 0 (fun d w ι g=>⟨rfl,ι,g⟩)
section
variable[FM](M:Nat→Prop)(f:az)(c:Int)(a:cU×ab)(d:Obj)(s:BS)
abbrev OB(n:Nat):aq:=.c (cat PH (pn n))
abbrev zL(o:Obj)(a:cU×ab)(w:World):Prop:=zY (ja a.1) [.bool true] o w
variable{M f c a d s}
def aaR(g:YB f)(h:lY c a s=none):VE ⟨aT,27,M,f⟩ (bQ (dj (lY c) [a] s) (zL d) d M f) [OB 10,.b 1] .normal ⟨[(6,.ptr 6 0),(4,.ptr 440004 0),(5,.ptr 440005 0)],(6,ja a.1)::yO (c9 s.1),[(440009,dQ s.2)],6::YU⟩:=by
 refine av 2 3 1 (aj 3 (ae (aM 2 ?_)));intro i w ι b;have e:dj (lY c) [a] s=.inr a:=by simp only[dj,h]
 refine⟨⟨ι,_,b.hs⟩,?_⟩;rw[e];exact ach g b (j4:=4) (j5:=5) (by kernel_rfl) (by kernel_rfl) (by kernel_rfl) (by kernel_rfl) (by kernel_rfl) (by kernel_rfl) d
def Gt(h:lY c a s=some s){Z:cU×ab→World→Prop}(b:Act)(w:World)(ι:Env)(g:aI ⟨aT,27,M,f⟩ ⟨[],yO (c9 s.1),[(440009,dQ s.2)],YU⟩ b w ι):bQ (dj (lY c) [a] s) Z d M f .normal b w:=by
 have e:dj (lY c) [a] s=.inl s:=by simp only[dj,h]
 rw[e];exact⟨trivial,ι,_,g.hs,⟨rfl,rfl,rfl,trivial⟩,rfl⟩
def aaA(k:YB f):VE ⟨aT,27,M,f⟩ (bQ (dj (lY c) [a] s) (zL d) d M f) [OB 1] .normal (F8 c a s):=by
 refine afr 4 5 1 2 (aj 3 ?_);obtain⟨b,l⟩:=s;cases e:(c != 0) with
 | false =>
   refine aF 14 e (ae ?_);cases b<;>exact ah (ks':=[]) (e':=.normal) (s':=⟨[],yO (c9 _),[(440009,dQ l)],YU⟩) 3 (fun g w ι i=>Gt (s:=(_,l)) (by unfold lY;rw[e];rfl) g w ι i)
 | true =>
   refine aF 14 e (aW 8 5 ?_);cases h:(a.2.Kind == 1) with
   | false =>
     refine aF 19 h (ae ?_);cases b<;>exact ah (ks':=[]) (e':=.normal) (s':=⟨[],yO (c9 _),[(440009,dQ l)],YU⟩) 3 (fun g w ι i=>Gt (s:=(_,l)) (by unfold lY;rw[e,h];rfl) g w ι i)
   | true =>
     refine aF 19 h (ae ?_);cases j:(a.2.Node == c) with
     | false =>
       refine ai 24 j ?_;cases b<;>exact ah (ks':=[]) (e':=.normal) (s':=⟨[],yO (c9 _),[(440009,dQ l)],YU⟩) 3 (fun g w ι i=>Gt (s:=(_,l)) (by unfold lY;rw[e,h,j];rfl) g w ι i)
     | true =>
       refine ai 24 j ?_;cases b<;>exact ah 1 (aaR (s:=(_,l)) k (by unfold lY;rw[e,h,j];rfl))
end
end
def LJ{α:Type}(Y:α→BS→Option BS):∀(l:List α) (s:BS),jJ (fun _ _=>True) Y l s
 | [],_=>trivial
 | a::r,s=>⟨trivial,by
   cases Y a s with
   | none=>trivial
   | some s'=>exact LJ Y r s'⟩
def aeu{K:Kn}{n:Nat}{f:ab}{d:Int}{r:cU×Bool}(J:am K)(h:qQ K n f d=some r):aZ aT 31 [.agg (aC f),iI d] (fun v _=>v=.tup [.agg (ja r.1),.bool r.2]):=by
 unfold qQ at h;obtain⟨l,u,h⟩:=aw h;injection h with h;subst h
 refine OM (c:=cat Tryz.f31 (pn 1)) Tryz.func31 (by kernel_rfl) _ Tryz.ntmps31 (il (by kernel_rfl)) fun M q=>(bn ⟨[(0,.agg (aC f)),(1,iI d)],[],[],[]⟩ (av 6 7 3 (av 2 3 1 (aj 1 (mK 3 3 [iI d] (aR (SD f) (ae (bW (ks':=[.c (cat Tryz.f31 (pn 26)),.b 0,.c (cat Tryz.f31 (pn 7))]) 1 (afx 440009 ⟨5,1,[]⟩ (GC 2 450119 [.nilp,.ref 440009] ?_))))))))));refine Rn (α:=cU×ab) (gop:=.tmp 9) (p0:=10) (p1:=11) (assign:=cat SR (pn 1)) (body:=cat PH (pn 1)) (xa0:=fun x=>.agg (ja x.1)) (xa1:=fun x=>.agg (aC x.2)) (G:=fun _ _=>True) (Y:=lY d) (Z:=fun o a w=>zL o a w) (gf:=121) (aV:=[.cptr (aC f)]) 4 5 2 4 5 (kt:=[(3,.cptr [iI d]),(4,.ptr 440004 0),(5,.ptr 440005 0)]) (r0:=(0,0,0,0)) (q0:=false) (b:=false) (L:=[]) (pl:=l)
   (o2:=fun b=>[(450119,c9 b),(4,[iI 0,iI 0,iI 0,iI 0]),(5,[.bool false])])
   (fun e i=>?_) (fun e i b'=>?_) (by intro _ _ _ _ fn N D g x t I;exact Qw g (fun M q=>by letI:FM:=lS YD.l;exact afZ d x t) (fun M q F=>by letI:FM:=lS YD.l;exact aaA F) (show 10<27 by decide) (show 11<27 by decide) (by decide)) (by intro _ _ H j y;exact LQ j y n f (false,[]) l u (LJ _ l _)) (fun o a w w' h z=>ajg h z) (fun s' k s b' D p=>?_) (fun x B a w ι A fn O C=>?_)
 · unfold yO yA yB;rw[e,i];kernel_rfl
 · unfold yO yA yB;rw[e,i];cases b'<;>kernel_rfl
 · rw[k]
   letI:FM:=po D
   exact bW (ks':=[.c (cat Tryz.f31 (pn 14)),.c (cat Tryz.f31 (pn 15))]) 2 (aj 3 (ae (aM 1 (Cj p (l:=[.agg (ja ⟨0,0,0,0⟩),.bool false]) (by kernel_rfl) rfl))))
 · rw[B];obtain⟨E,s,b',e,p,m⟩:=agl A (j4:=4) (j5:=5) (c4:=ja x.1) (c5:=[.bool true]) (by kernel_rfl) (by kernel_rfl) C (by kernel_rfl) (by kernel_rfl) (by decide) (by decide);refine⟨.ret,E,e,wpIn_ret ?_⟩;exact Cj p (fn:=Tryz.f31) (Q:=fun v _=>v=.tup [.agg (ja x.1),.bool true]) (l:=[.agg (ja x.1),.bool true]) (by kernel_rfl) rfl _ _ _ m
end
def Th[GS]{K:Kn}{n:Nat}{a:ab}{b:Int}{r:cU×Bool}(c:am K)(h:qQ K n a b=some r):aZ aT 31 [.agg (aC a),iI b] (fun v _=>v=.tup [.agg (ja r.1),.bool r.2]):=aeu c h
def Sp[GS]{K:Kn}{n:Nat}{a:ab}{r:ByteArray}(b:am K)(h:rm K n a=some r):aZ aT 32 [.agg (aC a)] (fun v _=>v=.str r):=ajv b h
section
variable(M:Nat→Prop)(d:az)(r:Bool)(y:eq)(l:List fi)(o:Int)(a:eq)(f g i:Int)(j:ab)(k:c6)(b:ab×Int×Int×c6)(c:ab)(e:Int)(q:Bool)(w t:Nat)(x:eq→Int→Int→Int→ab→c6→Option Bool)(u:Int→Option Bool)
abbrev Bi:Cx:=⟨aT,78,M,d⟩
abbrev q9:=bodyPost aT Tryz.f9 (bP M d (fun v _=>v=.bool r))
abbrev GR(a:ck)(s:AS):=VE (Bi M d) (q9 M d r) a .normal s
abbrev pB(n:Nat):aq:=.c (cat Tryz.f9 (pn n))
abbrev HX:ck:=[.b 2,pB 2047]
abbrev Jb:ck:=kl (Bi M d) (q9 M d r) HX (cat Tryz.f9 (pn 16372)) t::HX
abbrev Lw:ck:=[.b 0,pB 127]
abbrev SP:ck:=kl (Bi M d) (q9 M d r) Lw (cat Tryz.f9 (pn 1012)) w::Lw
def XI:AS:=⟨[(0,.sl (lm aH a)),(8,.ptr 8 0),(12,.ptr 12 0),(13,iI e),(72,.bool q)],[(8,aC b.1),(12,aC c)],[],[8,12]⟩
def RH:AS:=⟨[(0,.sl (lm aH a)),(8,.ptr 8 0),(12,.ptr 12 0),(13,iI e)],[(8,aC b.1),(12,aC c)],[],[8,12]⟩
def Pd:AS:=⟨[(0,.sl (lm aH a)),(2,iI o),(7,.ptr 7 0),(8,.ptr 8 0),(24,.sl (lm eF l)),(25,iI (l.length:Int)),(26,iI f)],[(7,List.set (bw (⟨[],g,i⟩:bv)) 0 (.ref 400007)),(8,aC j)],[(400007,(be k))],[7,8,400007]⟩
abbrev Tp:Prop:=∀{a:eq} {f:Int} {g:Int} {i:Int} {j:ab} {k:c6},x a f g i j k=some r→LP (Bi M d) (q9 M d r) Lw (cat Tryz.f9 (pn 1012)) w (Pd l o a f g i j k)
abbrev Kz:Prop:=∀{e:Int},u e=some r→LP (Bi M d) (q9 M d r) HX (cat Tryz.f9 (pn 16372)) t (RH a b c e)
variable{M d r y l o a f g i j k b c e q w t x u}{K:Kn}{n:Nat}
def MP(i:∀ [GS],am K)(g:Kz M d r a b c t u)(h:zG K n a b c e u q=some r):GR M d r (pB 1047847 :: .b 3::pB 65491::Jb M d r t) (XI a b c e q):=by
 letI:GS:=⟨0,true⟩;have j:=@i ⟨0,true⟩
 unfold zG at h;obtain⟨f,h⟩|⟨f,h⟩:=ao h
 ·refine ai 72 f (aM 9 ?_);cases h;exact bD
 ·exact ai 72 f (ah 4 (bu (g h)))
def ajL(v:∀ [GS],am K)(i:Kz M d r a b c t u)(h:B7 K n a b c u e=some r):GR M d r (pB 16372::Jb M d r t) (RH a b c e):=by
 letI:GS:=⟨0,true⟩;have l:=@v ⟨0,true⟩
 unfold B7 at h;refine cj 4 5 3 2 (aj 2 (au (bF aH a) (ae ?_)));obtain⟨w,m,h⟩:=cc h;refine bC (ks':=pB 65489::pB 32745::Jb M d r t) 0 ⟨[(0,.sl (lm aH a)),(8,.ptr 8 0),(12,.ptr 12 0),(13,iI e),(50,.bool w)],[(8,aC b.1),(12,aC c)],[],[8,12]⟩ ?_ (by subst m;kernel_rfl);obtain⟨f,h⟩|⟨f,h⟩:=ao h
 ·refine ai 50 f (cX 8 9 3 3 5 (aj 2 ?_));obtain⟨x,o,h⟩:=aw h;refine aR (Th l o) (ae (av 2 3 1 (aj 2 ?_)));obtain⟨y,p,h⟩:=aw h;refine aR (Th l p) (ae (av 2 3 1 (aj 4 ?_)));obtain⟨g,h⟩|⟨g,h⟩:=ao h
  ·exact aF 68 g (ae (ah 0 (MP v i h)))
  ·exact aF 68 g (ae (ah 0 (MP v i h)))
 ·refine ai 50 f (gV 2 3 6 (bV [8,12] [8,12] [] ?_));obtain⟨j,q,h⟩:=aw h;obtain⟨k,s,h⟩:=aw h;refine ci 1 (nu 73 [.agg (aC b.1),.str j,.agg (aC c),.str k,.bool (j.toList == k.toList)]) [] [] [cF aT 78 Tryz.f9 (pn 4094) 5] (aE [.v 0 1] (ax (cR 0 1 74 (Sp l q)) (aE [.v 0 1] (ax (cR 0 1 76 (Sp l s)) (aE [.v 0 1] (ax (cE 0) cg)))))) (aM 1 ?_);cases h;exact bD
def aeN(e:∀ [GS],am K)(m:Nat):Kz M d r a b c m (xb K n a b c m):=by
 letI:GS:=⟨0,true⟩;have g:=@e ⟨0,true⟩
 induction m with
 | zero=>exact fun h=>nomatch h
 | succ m f=>exact fun h=>bq (ajL e f h)
def ZK(m:∀ [GS],am K)(B:Tp M d r l o w x)(h:DU K n l o x a f g i j k=some r):GR M d r (pB 1012::SP M d r w) (Pd l o a f g i j k):=by
 letI:GS:=⟨0,true⟩;have q:=@m ⟨0,true⟩
 unfold DU at h;refine av 6 7 3 ?_;obtain⟨e,h⟩|⟨e,h⟩:=ao h
 ·refine ai 27 e (cX 8 9 1 3 5 (aj 0 ?_));obtain⟨s,h⟩:=aB h;refine au (bX eF eF s (Og) ap) (ae (av 2 3 1 (aj 1 ?_)));obtain⟨C,t,h⟩:=aw h;refine aR (TX q t) (aW 3 1 ?_);obtain⟨D,u,h⟩:=aw h;refine Cf 7 400007 (fun [GS] [RG]=>(BZ m u)) (ae (aj 2 ?_));obtain⟨E,v,h⟩:=aw h;exact fc 1036 (ag3 q v) (fk 7) (ae (bW (ks':=SP M d r w) 2 (jz 1036 (ah 0 (bu (B h))))))
 ·refine ai 27 e (gV 2 3 6 (aj 1 ?_));obtain⟨F,y,h⟩:=aw h;refine aR (TX q y) (ae (av 2 3 1 (aj 2 ?_)));obtain⟨b,z,h⟩:=aw h;refine Cf 7 400007 (fun [GS] [RG]=>(BZ m z)) (ae (av 2 3 1 (aj 2 ?_)));obtain⟨c,A,h⟩:=aw h;exact aR (afe q A) (ae (ah 4 (cf (p:=pn 8186) n (aeN m n h))))
def akQ(a:∀ [GS],am K)(m:Nat):Tp M d r l o m (y9 K n l o m):=by
 letI:GS:=⟨0,true⟩;have c:=@a ⟨0,true⟩
 induction m with
 | zero=>exact fun h=>nomatch h
 | succ m b=>exact fun h=>bq (ZK a b h)
def ail(c:∀ [GS],am K)(h:BQ K n y l o=some r):aZ aT 9 [.sl (lm aH y),.sl (lm eF l),iI o] (fun v _=>v=.bool r):=by
 letI:GS:=⟨0,true⟩;have g:=@c ⟨0,true⟩
 refine bK (cat Tryz.f9 (pn 1)) Tryz.func9 Tryz.ntmps9 fun M d=>(bn ⟨[(0,.sl (lm aH y)),(1,.sl (lm eF l)),(2,iI o)],[],[],[]⟩ ?_);unfold BQ at h;refine cj 12 13 7 4 (aj 0 ?_);obtain⟨v4,e,h⟩:=aw h;refine aR (YP c e) (ae ?_);obtain⟨a,h⟩|⟨a,h⟩:=ao h
 ·refine ai 19 a (aM 5 ?_);cases h;exact bD
 ·refine ai 19 a (n9 4 5 3 4 (aj 2 ?_));obtain⟨v5,f,h⟩:=aw h;refine aR (abB g f) (ae ?_);obtain⟨b,h⟩|⟨b,h⟩:=ao h
  ·refine ai 23 b (aM 5 ?_);cases h;exact bD
  ·exact ai 23 b (n9 28 29 15 8 (aj 1 (au (bF eF l) (ae (ic 2 0 1 (bV [0,2,7,8,24,25,26] [7,8] [] (sC 400007 7 0 64 127 (va 8 (ah 0 (cf (p:=pn 506) n (akQ c n h)))))))))))
end
end
end Go.Proofs.YtocgkfoifehcbaaGreat
