/- The runs of the functions that RelayoutEquals reaches do what their plain forms say, part 0. Made by a program. -/
import Derived.Test.YtocgkfoifehcbaaGreatReGk
namespace Go.Proofs.YtocgkfoifehcbaaGreat
noncomputable section
open Go.RowKit
set_option maxRecDepth 20000
set_option linter.all false
section
abbrev g7:=c6×Int×Int×Int×dt
variable[GS](M:Nat→Prop)(c:aC)(r:Bool)(a v2:dO)(b:Fv)(v5:Int)(d:Nat)(e:Int→Option Bool)
abbrev J6:Cx:=⟨bb,32,M,c⟩
abbrev GF:=bodyPost bb Tryz.f63 (bR M c (fun v _=>v=.bool r))
abbrev ab6(a:dn)(s:AS):=VE (J6 M c) (GF M c r) a .normal s
abbrev O0(n:Nat):aq:=.c (cat Tryz.f63 (pn n))
abbrev Jj:dn:=[.b 0,O0 15]
abbrev alE:dn:=kl (J6 M c) (GF M c r) Jj (cat Tryz.f63 (pn 116)) d::Jj
def UY:AS:=⟨[(1,.sl (lm aM v2)),(2,.fn b.id b.aV),(15,.sl (lm aM a)),(16,iI (a.length:Int)),(17,iI v5)],[],[],[]⟩
abbrev LR:Prop:=∀{v5:Int},e v5=some r→LP (J6 M c) (GF M c r) Jj (cat Tryz.f63 (pn 116)) d (UY a v2 b v5)
variable{M c r a v2 b v5 d e}{K:Kn}{n:Nat}
def aaQ(m:ao K)(j:LR M c r a v2 b d e)(h:B7 K n a v2 b e v5=some r):ab6 M c r (O0 116::alE M c r d) (UY a v2 b v5):=by
 unfold B7 at h;refine ay 6 7 3 ?_;obtain⟨i,h⟩|⟨i,h⟩:=am h
 ·refine ah 18 i (cQ 8 9 1 3 5 (ai 1 ?_));obtain⟨k,h⟩:=aD h;refine au (bD aM az k (fE) (dV)) (ac (ay 2 3 1 (ai 2 ?_)));obtain⟨l,h⟩:=aD h;refine au (bD aM az l (fE) (dV)) (ac (ay 2 3 1 (ai 3 ?_)));obtain⟨v6,g,h⟩:=aw h;refine lS (m.qZ g) (ac ?_);obtain⟨f,h⟩|⟨f,h⟩:=am h
  ·refine ah 30 f (aL 9 ?_);cases h;exact bA
  ·exact ah 30 f (ag 4 (bu (j h)))
 ·refine ah 18 i (aL 8 ?_);cases h;exact bA
def ak2(d:ao K)(m:Nat):LR M c r a v2 b m (xK K n a v2 b m):=by
 induction m with
 | zero=>exact fun h=>nomatch h
 | succ m e=>exact fun h=>bp (aaQ d e h)
def aam(e:ao K)(h:yn K n a v2 b=some r):ba bb 63 [.sl (lm aM a),.sl (lm aM v2),.fn b.id b.aV] (fun v _=>v=.bool r):=by
 refine bI (cat Tryz.f63 (pn 1)) Tryz.func63 Tryz.ntmps63 fun M c=>(bn ⟨[(0,.sl (lm aM a)),(1,.sl (lm aM v2)),(2,.fn b.id b.aV)],[],[],[]⟩ ?_);unfold yn at h;refine bX 12 13 7 4 (ai 1 (au (bz aM a) (aP 3 1 (au (bz aM v2) (ac ?_)))));obtain⟨d,h⟩|⟨d,h⟩:=am h
 ·refine ah 14 d (aL 5 ?_);cases h;exact bA
 ·exact ah 14 d (oL 4 5 3 4 (ai 1 (au (bz aM a) (ac (ag 1 (cc (p:=pn 58) n (ak2 e n h)))))))
end
section
variable[GS](M:Nat→Prop)(a:aC)(r:Bool)(b v2:ab)(v4:Bool)  
abbrev adh(n:Nat):aq:=.c (cat Tryz.f27 (pn n))
abbrev ako:Cx:=⟨bb,52,M,a⟩
abbrev q27:=bodyPost bb Tryz.f27 (bR M a (fun v _=>v=.bool r))
abbrev ZF(b:dn)(s:AS):=VE (ako M a) (q27 M a r) b .normal s
def aae:AS:=⟨[(4,.bool v4)],[],[],[]⟩
variable{M a r b v2 v4}{K:Kn}{n:Nat}
def rc(b:ao K)(h:lu K n v4=some r):ZF M a r [adh 7] (aae v4):=by
 unfold lu at h;refine aL 1 ?_;cases h;exact bA
def D4(c:ao K)(h:ow K n b v2=some r):ba bb 27 [.agg (az b),.agg (az v2)] (fun v _=>v=.bool r):=by
 refine bI (cat Tryz.f27 (pn 1)) Tryz.func27 Tryz.ntmps27 fun M a=>(bn ⟨[(0,.agg (az b)),(1,.agg (az v2))],[],[],[]⟩ ?_);unfold ow at h;refine ay 6 7 3 (ai 6 ?_);obtain⟨d,h⟩|⟨d,h⟩:=am h
 ·refine aG 10 d (aP 13 7 ?_);obtain⟨e,h⟩|⟨e,h⟩:=am h
  ·refine aG 17 e (aP 20 7 ?_);obtain⟨f,h⟩|⟨f,h⟩:=am h
   ·refine aG 24 f (aP 27 7 ?_);obtain⟨g,h⟩|⟨g,h⟩:=am h
    ·refine aG 31 g (aP 34 7 ?_);obtain⟨i,h⟩|⟨i,h⟩:=am h
     ·refine aG 38 i (aP 41 7 ?_);obtain⟨j,h⟩|⟨j,h⟩:=am h
      ·refine aG 45 j (aP 45 4 ?_);obtain⟨l,k,h⟩:=aw h;exact aS (aam c k) (ac (ag 0 (rc c h)))
      ·exact aG 45 j (ac (ag 0 (rc c h)))
     ·exact aG 38 i (ac (ag 0 (rc c h)))
    ·exact aG 31 g (ac (ag 0 (rc c h)))
   ·exact aG 24 f (ac (ag 0 (rc c h)))
  ·exact aG 17 e (ac (ag 0 (rc c h)))
 ·exact aG 10 d (ac (ag 0 (rc c h)))
end
section
variable[GS](M:Nat→Prop)(b:aC)(r a:c6)  
variable{M b r a}{K:Kn}{n:Nat}
def GT(f:ao K)(h:rd K n a=some r):ba bb 78 [.sl (lm aQ a)] (fun v s=>v=.ref 5∧look 5 s.r=some (bt r)):=by
 refine bI (cat Tryz.f78 (pn 1)) Tryz.func78 Tryz.ntmps78 fun M b=>(bn ⟨[(0,.sl (lm aQ a))],[],[],[]⟩ ?_);unfold rd at h;refine bX 12 13 7 4 (ai 1 ?_);refine MS (aY Tryz.f78 (pn 12) 1) (.eql) 42 42 (.tmp 3) (.const (.slice none 0 0)) 4 (lm aQ a) (r:=aW Tryz.f78 (pn 12) 2) (e:=44) (by kernel_rfl) (by kernel_rfl) (by kernel_rfl) (by kernel_rfl) (by kernel_rfl) (by kernel_rfl) (by kernel_rfl) (by kernel_rfl) (fun d=>?_) ?_
 ·have h:=Oh (by simpa using d) h;refine ac (aL 5 (fb 5 2 44 67 ?_));cases h;exact eO
 ·have h:=VD h;refine ac (fO 2 3 3 (ai 0 (BU 42 5 (e:=44) (sz:=67) (aP 2 1 ?_))));obtain⟨c,h⟩:=aD h;refine au (cA 7 5 44 67 aQ (rfl) (jZ) c) (ac (aL 1 ?_));cases h;exact eO
end
section
variable[GS](M:Nat→Prop)(a:aC)(r b:ae)(v2:c6)(v4:Int)(v5:c6)(c:Nat)(d:Int→c6→Option ae)
abbrev IR:Cx:=⟨bb,25,M,a⟩
abbrev Fg:=bodyPost bb Tryz.f40 (bR M a (fun v s=>v=.agg (List.set (aH ({ r with Kids:=[] }:ae)) 66 (.ref 1007))∧look 1007 s.r=some (bt r.Kids)))
abbrev acA(b:dn)(s:AS):=VE (IR M a) (Fg M a r) b .normal s
abbrev Ul(n:Nat):aq:=.c (cat Tryz.f40 (pn n))
abbrev JG:dn:=[.b 0,Ul 15]
abbrev ahq:dn:=kl (IR M a) (Fg M a r) JG (cat Tryz.f40 (pn 116)) c::JG
def NM:AS:=⟨[(1,.ptr 1 0),(2,.ptr 2 0),(10,.ref 1007),(11,iI (v2.length:Int)),(12,iI v4)],[(1,List.set (aH ({ b with Kids:=[] }:ae)) 66 (.ref 1007)),(2,List.set (aH bV) 66 (.nils))],[(1007,(bt v5))],[1,2,1007]⟩
abbrev OK:Prop:=∀{v4:Int} {v5:c6},d v4 v5=some r→LP (IR M a) (Fg M a r) JG (cat Tryz.f40 (pn 116)) c (NM b v2 v4 v5)
variable{M a r b v2 v4 v5 c d}{K:Kn}{n:Nat}
def agM(k:ao K)(f:OK M a r b v2 c d)(h:Cw K n b v2 d v4 v5=some r):acA M a r (Ul 116::ahq M a r c) (NM b v2 v4 v5):=by
 unfold Cw at h;refine ay 6 7 3 ?_;obtain⟨e,h⟩|⟨e,h⟩:=am h
 ·refine ah 13 e (cQ 8 9 1 3 5 (ai 1 ?_));obtain⟨g,h⟩:=aD h;refine au (cp 1007 67 aQ g) (au (bK 44 0 aQ aH (bE g).2 (dP)) (ac (bJ [1,2,3,4,10,11,12] [1,2,4] [1007] ?_)));obtain⟨v6,j,h⟩:=aw h;obtain⟨i,h⟩:=aD h;exact bQ 1 (nu 17 [.ptr 1 66,.ref 1007,iI v4,.agg (aH (gD v5 v4)),.agg (aH v6),.eptr 1007 67 (v4.toNat) 0]) [] [] [eC 1007 ⟨44,67,lm aQ (List.set v5 v4.toNat v6)⟩] (av (vz 4) (aj (cj 0 1 21 (k.zL j)) (bi (cF 1007 67 aQ (L:=v5) i) (aj (dm (m:=0) (dF 1007 44 67 0 aQ aH v6 (bE i).2 (dP))) bS)))) (ag 2 (bu (f h)))
 ·refine ah 13 e (aL 8 ?_);cases h;exact eO
def aja(c:ao K)(m:Nat):OK M a r b v2 m (xd K n b v2 m):=by
 induction m with
 | zero=>exact fun h=>nomatch h
 | succ m d=>exact fun h=>bp (agM c d h)
def CQ(c:ao K)(h:oJ K n b=some r):ba bb 40 [.agg (aH b)] (fun v s=>v=.agg (List.set (aH ({ r with Kids:=[] }:ae)) 66 (.ref 1007))∧look 1007 s.r=some (bt r.Kids)):=by
 refine bI (cat Tryz.f40 (pn 1)) Tryz.func40 Tryz.ntmps40 fun M a=>(bn ⟨[(0,.agg (aH b))],[],[],[]⟩ ?_);unfold oJ at h;refine ay 6 7 3 (ai 2 ?_);obtain⟨v2,d,h⟩:=aw h;exact eZ 1007 (GT c d) (fa 5) (ac (bX 4 5 3 2 (ai 2 (au (bz aQ v2) (ac (ag 1 (cc (p:=pn 58) n (aja c n h))))))))
end
section
variable[GS](M:Nat→Prop)(a:aC)(r:ae×Bool×Int×Int×dt)(b:ab)(v2 d v4:Int)(v5:dt)(e:Int)(f:Bool)(g:Nat)(j:Int→Option (ae×Bool×Int×Int×dt))
abbrev Hr:Cx:=⟨bb,34,M,a⟩
abbrev HK:=bodyPost bb Tryz.f19 (bR M a (fun v s=>v=.tup [.agg (aH r.1),.bool r.2.1]∧cw s.o [(af r.2.2.1 r.2.2.2.1)]∧look 440009 s.r=some (bk r.2.2.2.2)))
abbrev NK(b:dn)(s:AS):=VE (Hr M a) (HK M a r) b .normal s
abbrev qt(n:Nat):aq:=.c (cat Tryz.f19 (pn n))
abbrev IG:dn:=[.b 0,qt 7]
abbrev UI:dn:=kl (Hr M a) (HK M a r) IG (cat Tryz.f19 (pn 52)) g::IG
def Zm:AS:=⟨[(2,iI v2),(4,.ptr 4 0),(6,.ptr 6 0),(9,.ptr 9 0),(13,.ref 440009),(14,iI (v5.length:Int)),(15,iI e),(28,.bool f)],[(4,az b),(6,List.set (aH bV) 66 (.nils)),(9,aU (gD v5 e)),(af d v4)],[(440009,(bk v5))],[4,6,9,440001,440009,1440001,440001]⟩
def V8:AS:=⟨[(2,iI v2),(4,.ptr 4 0),(6,.ptr 6 0),(13,.ref 440009),(14,iI (v5.length:Int)),(15,iI e)],[(4,az b),(6,List.set (aH bV) 66 (.nils)),(af d v4)],[(440009,(bk v5))],[4,6,440001,440009,1440001,440001]⟩
abbrev IQ:Prop:=∀{e:Int},j e=some r→LP (Hr M a) (HK M a r) IG (cat Tryz.f19 (pn 52)) g (V8 b v2 d v4 v5 e)
variable{M a r b v2 d v4 v5 e f g j}{K:Kn}{n:Nat}[SG a][RG]
def PI(m:ao K)(l:IQ M a r b v2 d v4 v5 g j)(h:wz K n b v2 d v4 v5 e j f=some r):NK M a r (qt 3379 :: .b 1::qt 423::UI M a r g) (Zm b v2 d v4 v5 e f):=by
 unfold wz at h;obtain⟨c,h⟩|⟨c,h⟩:=am h
 ·refine ah 28 c (ay 4 5 2 (ai 2 ?_));obtain⟨o,k,h⟩:=aw h;refine eZ 1031 (CQ m k) (Ex (i:=66) (by kernel_rfl)) (ac (aL 6 (gG 1031 ?_)));cases h;exact pM
 ·exact ah 28 c (ag 4 (bu (l h)))
def af9(l:ao K)(c:IQ M a r b v2 d v4 v5 g j)(h:Bk K n b v2 d v4 v5 j e=some r):NK M a r (qt 52::UI M a r g) (V8 b v2 d v4 v5 e):=by
 unfold Bk at h;refine ay 6 7 3 ?_;obtain⟨i,h⟩|⟨i,h⟩:=am h
 ·refine ah 16 i (cQ 8 9 1 3 5 (ai 0 ?_));obtain⟨m,h⟩:=aD h;refine au (cp 440009 127 aU m) (au (bK 64 0 aU aU (bE m).2 aT) (ac (ay 2 3 1 (ai 5 ?_))));obtain⟨k,h⟩|⟨k,h⟩:=am h
  ·refine aG 23 k (aP 8 3 ?_);obtain⟨o,f,h⟩:=aw h;exact aS (D4 l f) (ac (ag 0 (PI l c h)))
  ·exact aG 23 k (ac (ag 0 (PI l c h)))
 ·refine ah 16 i (aL 8 (mP 6 ?_));cases h;exact pM
def aeX(c:ao K)(m:Nat):IQ M a r b v2 d v4 v5 m (yh K n b v2 d v4 v5 m):=by
 induction m with
 | zero=>exact fun h=>nomatch h
 | succ m e=>exact fun h=>bp (af9 c e h)
def YB(e:ao K)(h:xw K n b v2 d v4 v5=some r):d8 bb 19 [.ptr 440001 0,.agg (az b),iI v2] [(af d v4)] (bk v5) (fun v s=>v=.tup [.agg (aH r.1),.bool r.2.1]∧cw s.o [(af r.2.2.1 r.2.2.2.1)]∧look 440009 s.r=some (bk r.2.2.2.2)):=by
 refine kn (c:=cat Tryz.f19 []) Tryz.func19 (by kernel_rfl) _ Tryz.ntmps19 (jt (by kernel_rfl)) fun M a=>(bn ⟨[(0,.ptr 440001 0),(1,.agg (az b)),(2,iI v2)],[(af d v4)],[(440009,(bk v5))],[440009,440001,1440001]⟩ ?_);unfold xw at h;exact cd (ks':=[qt 12,qt 13,qt 7]) 4 (ai 4 (au (bz aU v5) (ac (ag 1 (cc (p:=pn 26) n (aeX e n h))))))
end
section
variable[GS](M:Nat→Prop)(a:aC)(r:ae×Bool×Int×Int×dt)(b:ab)(v2 d v4:Int)(v5:dt)(v6:ae×Bool×Int×Int×dt)(e:Int)  
abbrev JN(n:Nat):aq:=.c (cat Tryz.f36 (pn n))
abbrev ah3:Cx:=⟨bb,27,M,a⟩
abbrev XJ:=bodyPost bb Tryz.f36 (bR M a (fun v s=>v=.tup [.agg (aH r.1),.bool r.2.1]∧cw s.o [(af r.2.2.1 r.2.2.2.1)]∧look 440009 s.r=some (bk r.2.2.2.2)))
abbrev ali(b:dn)(s:AS):=VE (ah3 M a) (XJ M a r) b .normal s
def W1:AS:=⟨[(6,.ptr 6 0),(8,.ptr 8 0),(9,.bool v6.2.1)],[(6,List.set (aH bV) 66 (.nils)),(8,aH v6.1),(af v6.2.2.1 e)],[(440009,(bk v6.2.2.2.2))],[6,8,440001,440009,1440001,440001]⟩
variable{M a r b v2 d v4 v5 v6 e}{K:Kn}{n:Nat}[SG a][RG]
def Sq(b:ao K)(h:B1 K n v6 e=some r):ali M a r [JN 15] (W1 v6 e):=by
 unfold B1 at h;refine aL 3 ?_;cases h;exact pM
def als(f:ao K)(h:z4 K n b v2 d v4 v5=some r):d8 bb 36 [.ptr 440001 0,.agg (az b),iI v2] [(af d v4)] (bk v5) (fun v s=>v=.tup [.agg (aH r.1),.bool r.2.1]∧cw s.o [(af r.2.2.1 r.2.2.2.1)]∧look 440009 s.r=some (bk r.2.2.2.2)):=by
 refine kn (c:=cat Tryz.f36 []) Tryz.func36 (by kernel_rfl) _ Tryz.ntmps36 (jt (by kernel_rfl)) fun M a=>(bn ⟨[(0,.ptr 440001 0),(1,.agg (az b)),(2,iI v2)],[(af d v4)],[(440009,(bk v5))],[440009,440001,1440001]⟩ ?_);unfold z4 at h;refine cd (ks':=[JN 6,JN 7]) 3 (ai 3 ?_);obtain⟨v6,g,h⟩:=aw h;refine pG (YB f g) (ac (ay 5 3 3 ?_));obtain⟨e,h⟩|⟨e,h⟩:=am h
 ·exact ah 17 e (ag 2 (Sq f h))
 ·exact ah 17 e (ag 2 (Sq f h))
end
section
variable[GS](M:Nat→Prop)(d:aC)(r:Int×Int×dt)(a:ab)(v2:Int)(b:ae)(v4 v5:Int)(v6:dt)  
abbrev ai9(n:Nat):aq:=.c (cat Tryz.f37 (pn n))
variable{M d r a v2 b v4 v5 v6}{K:Kn}{n:Nat}[SG d][RG]
def aaX(i:ao K)(h:yV K n a v2 b v4 v5 v6=some r):d8 bb 37 [.ptr 440001 0,.agg (az a),iI v2,.agg (aH b)] [(af v4 v5)] (bk v6) (fun v s=>v=be∧cw s.o [(af r.1 r.2.1)]∧look 440009 s.r=some (bk r.2.2)):=by
 refine kn (c:=cat Tryz.f37 []) Tryz.func37 (by kernel_rfl) _ Tryz.ntmps37 (jt (by kernel_rfl)) fun M d=>(bn ⟨[(0,.ptr 440001 0),(1,.agg (az a)),(2,iI v2),(3,.agg (aH b))],[(af v4 v5)],[(440009,(bk v6))],[440009,440001,1440001]⟩ ?_);unfold yV at h;refine cd (ks':=[ai9 7]) 4 (bJ [0,2,5,7] [5,7,440001] [440009] ?_);obtain⟨e,f,h⟩:=aw h;obtain⟨g,h⟩:=aD h;refine bQ 2 (nu 15 [.ptr 440001 0,.ptr 440001 0,.ptr 440001 0,.ptr 440001 0,.ref 440009,.agg (az a),iI v2,.agg (aH b),.agg (aH e),.agg (aU (⟨a,v2,e⟩:aA)),.sl (lm aU [(⟨a,v2,e⟩:aA)])]++nu 27 [.ptr 440001 0,.ptr 440001 0]) [] [] [f9 26 440009 ⟨64,127,lm aU (v6++[(⟨a,v2,e⟩:aA)])⟩,ci bb 29 Tryz.f37 (pn 7) 14] (av [.v 0 2,.v 0 2,.v 0 2,.v 0 2,.v 0 1,.v 0 2,.v 0 2,.v 0 2] (aj (cj 0 1 23 (ba.cE (CQ i f) (V':=.agg (aH e)) (by kernel_rfl))) (av [.v 0 2,.v 0 1] (aj (dm (m:=0) (cA 26 440009 64 127 aU (rfl) (Du) g)) (av [.v 1 2,.v 1 1] (aj (cg 1) bS)))))) (uh ?_)
 cases h;exact pM
end
section
variable[GS](M:Nat→Prop)(b:aC)(r a:Int)  
variable{M b r a}{K:Kn}{n:Nat}
def j0(c:ao K)(h:ic K n a=some r):ba bb 124 [iI a] (fun v _=>v=iI r):=by
 refine bI (cat Tryz.f124 (pn 1)) Tryz.func124 Tryz.ntmps124 fun M b=>(bn ⟨[(0,iI a)],[],[],[]⟩ ?_);unfold ic at h;refine aL 5 ?_;cases h;exact bA
end
section
variable[GS](M:Nat→Prop)(a:aC)(r:Int×Bool)(b:cI)(v2 v4:Int)  
abbrev aar(n:Nat):aq:=.c (cat Tryz.f86 (pn n))
abbrev ade:Cx:=⟨bb,25,M,a⟩
abbrev q86:=bodyPost bb Tryz.f86 (bR M a (fun v _=>v=.tup [iI r.1,.bool r.2]))
abbrev acQ(b:dn)(s:AS):=VE (ade M a) (q86 M a r) b .normal s
def ajz:AS:=⟨[(6,iI v4)],[],[],[]⟩
variable{M a r b v2 v4}{K:Kn}{n:Nat}
def RE(b:ao K)(h:tQ K n v4=some r):acQ M a r [.b 0,aar 15] (ajz v4):=by
 unfold tQ at h;refine aL 4 ?_;cases h;exact jj
def eD(e:ao K)(h:dW K n b v2=some r):ba bb 86 [.agg (gg b),iI v2] (fun v _=>v=.tup [iI r.1,.bool r.2]):=by
 refine bI (cat Tryz.f86 (pn 1)) Tryz.func86 Tryz.ntmps86 fun M a=>(bn ⟨[(0,.agg (gg b)),(1,iI v2)],[],[],[]⟩ ?_);unfold dW at h;refine ir 117 0 15 10 ?_;obtain⟨c,h⟩|⟨c,h⟩:=am h
 ·exact ah 11 c (ag 2 (RE e h))
 ·refine ah 11 c (bv 7 3 ?_);obtain⟨d,h⟩|⟨d,h⟩:=am h
  ·refine ah 13 d (bv 2 1 (ai 1 ?_));obtain⟨g,f,h⟩:=aw h;exact aS (j0 e f) (ac (ag 0 (RE e h)))
  ·refine ah 13 d (aL 6 ?_);cases h;exact jj
end
section
variable[GS](M:Nat→Prop)(a:aC)(r:cf)(b:aR)(v2 d:Int)  
abbrev pF(n:Nat):aq:=.c (cat Tryz.f88 (pn n))
abbrev ai6:Cx:=⟨bb,52,M,a⟩
abbrev XG:=bodyPost bb Tryz.f88 (bR M a (fun v _=>v=.agg (cu r)))
abbrev yW(m:Nat):dn:=kl (ai6 M a) (XG M a r) [.b 0,pF 15] (cat Tryz.f88 (pn 116)) m::[.b 0,pF 15]
variable{M a r b v2 d}{K:Kn}{n:Nat}
def mZ(e:ao K)(h:jF K n b v2 d=some r):ba bb 88 [.agg (aI b),iI v2,iI d] (fun v _=>v=.agg (cu r)):=by
 refine bI (cat Tryz.f88 (pn 1)) Tryz.func88 Tryz.ntmps88 fun M a=>(bn ⟨[(0,.agg (aI b)),(1,iI v2),(2,iI d)],[],[],[]⟩ ?_);unfold jF at h;refine bC (ks':=[pF 58,.b 0,pF 15]) 8 ⟨[(1,iI v2),(3,.ptr 3 0),(6,.ptr 6 0),(7,.ptr 7 0),(13,iI 0)],[(3,aI b),(6,cu jW),(7,cu ({ jW with Content:=d }:cf))],[],[3,6,7]⟩ (ox 40 (c:=cat Tryz.f88 [1,1,0,1,0,0]) (by kernel_rfl) (bp (cd (ks':=pF 7474::pF 7475 :: .b 1::pF 935::yW M a r 39) 10 (ai 6 ?_))));obtain⟨v4,u,h⟩:=aw h;refine aS (eD e u) (ac (ay 2 3 1 (ai 5 ?_)));obtain⟨v5,w,h⟩:=aw h;refine aS (j0 e w) (ac (ay 2 3 1 (ai 5 ?_)));obtain⟨v6,x,h⟩:=aw h;refine aS (eD e x) (ac (bC (ks':=yW M a r 39) 3 ⟨[(1,iI v2),(3,.ptr 3 0),(6,.ptr 6 0),(7,.ptr 7 0),(13,iI 1)],[(3,aI b),(6,cu jW),(7,cu (⟨⟨v4.1,0,0,0⟩,⟨v5,0,0,0⟩,⟨(max v6.1 0),0,0,0⟩,d⟩:cf))],[],[3,6,7]⟩ (bu (bp (dI 114 115 1 15 10 (ai 6 ?_))))));obtain⟨q,y,h⟩:=aw h;refine aS (eD e y) (ac (ay 2 3 1 (ai 5 ?_)))
 obtain⟨s,z,h⟩:=aw h;refine aS (j0 e z) (ac (ay 2 3 1 (ai 5 ?_)));obtain⟨t,A,h⟩:=aw h;refine aS (eD e A) (ac (bC (ks':=yW M a r 38) 3 ⟨[(1,iI v2),(3,.ptr 3 0),(6,.ptr 6 0),(7,.ptr 7 0),(13,iI 2)],[(3,aI b),(6,cu jW),(7,cu (⟨⟨v4.1,q.1,0,0⟩,⟨v5,s,0,0⟩,⟨(max v6.1 0),(max t.1 0),0,0⟩,d⟩:cf))],[],[3,6,7]⟩ (bu (bp (dI 114 115 1 15 10 (ai 6 ?_))))));obtain⟨f,B,h⟩:=aw h;refine aS (eD e B) (ac (ay 2 3 1 (ai 5 ?_)));obtain⟨g,C,h⟩:=aw h;refine aS (j0 e C) (ac (ay 2 3 1 (ai 5 ?_)));obtain⟨i,D,h⟩:=aw h;refine aS (eD e D) (ac (bC (ks':=yW M a r 37) 3 ⟨[(1,iI v2),(3,.ptr 3 0),(6,.ptr 6 0),(7,.ptr 7 0),(13,iI 3)],[(3,aI b),(6,cu jW),(7,cu (⟨⟨v4.1,q.1,f.1,0⟩,⟨v5,s,g,0⟩,⟨(max v6.1 0),(max t.1 0),(max i.1 0),0⟩,d⟩:cf))],[],[3,6,7]⟩ (bu (bp (dI 114 115 1 15 10 (ai 6 ?_))))));obtain⟨m,j,h⟩:=aw h;refine aS (eD e j) (ac (ay 2 3 1 (ai 5 ?_)));obtain⟨o,k,h⟩:=aw h
 refine aS (j0 e k) (ac (ay 2 3 1 (ai 5 ?_)));obtain⟨p,l,h⟩:=aw h;refine aS (eD e l) (ac (bC (ks':=yW M a r 36) 3 ⟨[(1,iI v2),(3,.ptr 3 0),(6,.ptr 6 0),(7,.ptr 7 0),(13,iI 4)],[(3,aI b),(6,cu jW),(7,cu (⟨⟨v4.1,q.1,f.1,m.1⟩,⟨v5,s,g,o⟩,⟨(max v6.1 0),(max t.1 0),(max i.1 0),(max p.1 0)⟩,d⟩:cf))],[],[3,6,7]⟩ (bu (bp (aL 11 ?_)))));cases h;exact bA
end
section
variable[GS](M:Nat→Prop)(b:aC)(r:Int)(a:cf)  
variable{M b r a}{K:Kn}{n:Nat}
def oC(c:ao K)(h:kQ K n a=some r):ba bb 89 [.agg (cu a)] (fun v _=>v=iI r):=by
 refine bI (cat Tryz.f89 (pn 1)) Tryz.func89 Tryz.ntmps89 fun M b=>(bn ⟨[(0,.agg (cu a))],[],[],[]⟩ ?_);unfold kQ at h;refine aL 5 ?_;cases h;exact bA
end
section
variable[GS](M:Nat→Prop)(a:aC)(r:Int)(b:aR)(v2 c v5 d:Int)  
abbrev VB(n:Nat):aq:=.c (cat Tryz.f90 (pn n))
abbrev XC:Cx:=⟨bb,37,M,a⟩
abbrev q90:=bodyPost bb Tryz.f90 (bR M a (fun v _=>v=iI r))
abbrev Tn(b:dn)(s:AS):=VE (XC M a) (q90 M a r) b .normal s
def ahO:AS:=⟨[(2,iI d)],[],[],[]⟩
def ajJ:AS:=⟨[(1,iI v2),(2,iI v5),(3,.ptr 3 0)],[(3,aI b)],[],[3]⟩
variable{M a r b v2 c v5 d}{K:Kn}{n:Nat}
def S5(b:ao K)(h:vR K n d=some r):Tn M a r [VB 31] (ahO d):=by
 unfold vR at h;refine aL 3 ?_;cases h;exact bA
def M3(d:ao K)(h:AK K n b v2 v5=some r):Tn M a r [VB 15] (ajJ b v2 v5):=by
 unfold AK at h;refine bX 4 5 3 2 (ai 3 ?_);obtain⟨v6,e,h⟩:=aw h;refine aS (eD d e) (ac (bv 3 2 ?_));obtain⟨c,h⟩|⟨c,h⟩:=am h
 ·exact ah 32 c (ag 2 (S5 d h))
 ·exact ah 32 c (ag 2 (S5 d h))
def za(e:ao K)(h:nJ K n b v2 c=some r):ba bb 90 [.agg (aI b),iI v2,iI c] (fun v _=>v=iI r):=by
 refine bI (cat Tryz.f90 (pn 1)) Tryz.func90 Tryz.ntmps90 fun M a=>(bn ⟨[(0,.agg (aI b)),(1,iI v2),(2,iI c)],[],[],[]⟩ ?_);unfold nJ at h;refine bX 28 29 15 6 (ai 3 ?_);obtain⟨v4,f,h⟩:=aw h;refine aS (eD e f) (ac (bv 3 2 ?_));obtain⟨d,h⟩|⟨d,h⟩:=am h
 ·exact ah 20 d (ag 2 (M3 e h))
 ·exact ah 20 d (ag 2 (M3 e h))
end
section
variable[GS](M:Nat→Prop)(e:aC)(r:cf)(i:aR)(v2 f:Int)(v4:cf)(k g j:Int)(a b:(Int×Bool))(c:Bool)(d:V4 Int)  
abbrev Dq(n:Nat):aq:=.c (cat Tryz.f75 (pn n))
abbrev ahl:Cx:=⟨bb,89,M,e⟩
abbrev XK:=bodyPost bb Tryz.f75 (bR M e (fun v _=>v=.agg (cu r)))
abbrev HN(a:dn)(s:AS):=VE (ahl M e) (XK M e r) a .normal s
def adp:AS:=⟨[(4,.ptr 4 0),(5,.ptr 5 0)],[(4,cu jW),(5,cu ({ v4 with Margin:=d,Content:=g }:cf))],[],[4,5]⟩
def Zr:AS:=⟨[(4,.ptr 4 0),(5,.ptr 5 0),(8,iI (aa (f-j))),(10,.bool a.2),(12,.bool b.2),(59,.bool c)],[(4,cu jW),(5,cu ({ v4 with Content:=g }:cf))],[],[4,5]⟩
def ahF:AS:=⟨[(1,iI f),(2,.ptr 2 0),(4,.ptr 4 0),(5,.ptr 5 0),(6,iI k)],[(2,aI i),(4,cu jW),(5,cu v4)],[],[2,4,5]⟩
variable{M e r i v2 f v4 k g j a b c d}{K:Kn}{n:Nat}
def EB(a:ao K)(h:pr K n v4 g d=some r):HN M e r [.b 0,Dq 4095] (adp v4 g d):=by
 unfold pr at h;refine aL 4 ?_;cases h;exact bA
def SE(l:ao K)(h:xo K n f v4 g j a b c=some r):HN M e r [Dq 16377,.b 0,Dq 4095] (Zr f v4 g j a b c):=by
 unfold xo at h;obtain⟨d,h⟩|⟨d,h⟩:=am h
 ·exact ah 59 d (ag 4 (EB l h))
 ·refine ah 59 d (bv 7 3 ?_);obtain⟨i,h⟩|⟨i,h⟩:=am h
  ·exact ah 76 i (ag 2 (EB l h))
  ·refine ah 76 i (bv 7 3 ?_);obtain⟨k,h⟩|⟨k,h⟩:=am h
   ·exact ah 82 k (ag 2 (EB l h))
   ·exact ah 82 k (ag 2 (EB l h))
def LX(d:ao K)(h:rZ K n i f v4 k=some r):HN M e r [Dq 63] (ahF i f v4 k):=by
 unfold rZ at h;refine ay 2 3 1 (ai 3 ?_);obtain⟨g,o,h⟩:=aw h;refine aS (za d o) (ac (ay 2 3 1 (ai 2 ?_)));obtain⟨j,p,h⟩:=aw h;refine aS (oC d p) (ac (ay 5 3 3 ?_));obtain⟨m,h⟩|⟨m,h⟩:=am h
 ·refine ah 41 m (aL 5 ?_);cases h;exact bA
 ·refine ah 41 m (fO 2 3 3 (ai 4 ?_));obtain⟨a,q,h⟩:=aw h;refine aS (eD d q) (ac (ay 2 3 1 (ai 4 ?_)));obtain⟨b,l,h⟩:=aw h;refine aS (eD d l) (ac (dI 8 9 0 3 3 (ai 3 ?_)));obtain⟨c,h⟩|⟨c,h⟩:=am h
  ·exact aG 62 c (ac (ag 0 (SE d h)))
  ·exact aG 62 c (ac (ag 0 (SE d h)))
def Fh(a:ao K)(h:pS K n i v2=some r):ba bb 75 [.agg (aI i),iI v2] (fun v _=>v=.agg (cu r)):=by
 refine bI (cat Tryz.f75 (pn 1)) Tryz.func75 Tryz.ntmps75 fun M e=>(bn ⟨[(0,.agg (aI i)),(1,iI v2)],[],[],[]⟩ ?_);unfold pS at h;refine ay 6 7 3 (ai 1 ?_);obtain⟨f,c,h⟩:=aw h;refine aS (j0 a c) (ac (ay 2 3 1 (ai 2 ?_)));obtain⟨v4,d,h⟩:=aw h;refine aS (mZ a d) (ac (ay 2 3 1 (ai 3 ?_)));obtain⟨v5,g,h⟩:=aw h;refine aS (eD a g) (ac (ay 5 3 3 ?_));obtain⟨b,h⟩|⟨b,h⟩:=am h
 ·refine ah 26 b (bv 2 1 (ai 2 ?_));obtain⟨v6,j,h⟩:=aw h;exact aS (oC a j) (ac (ag 0 (LX a h)))
 ·exact ah 26 b (ag 2 (LX a h))
end
section
variable[GS](M:Nat→Prop)(b:aC)(r:bj)(a:Int)  
variable{M b r a}{K:Kn}{n:Nat}
def Dd(c:ao K)(h:mY K n a=some r):ba bb 79 [iI a] (fun v _=>v=.agg (cU r)):=by
 refine bI (cat Tryz.f79 (pn 1)) Tryz.func79 Tryz.ntmps79 fun M b=>(bn ⟨[(0,iI a)],[],[],[]⟩ ?_);unfold mY at h;refine aL 5 ?_;cases h;exact bA
end
section
variable[GS](M:Nat→Prop)(c:aC)(r:Int)(a:cI)(v2 b:Int)  
variable{M c r a v2 b}{K:Kn}{n:Nat}
def xv(f:ao K)(h:ng K n a v2 b=some r):ba bb 82 [.agg (gg a),iI v2,iI b] (fun v _=>v=iI r):=by
 refine bI (cat Tryz.f82 (pn 1)) Tryz.func82 Tryz.ntmps82 fun M c=>(bn ⟨[(0,.agg (gg a)),(1,iI v2),(2,iI b)],[],[],[]⟩ ?_);unfold ng at h;refine bX 12 13 7 4 (ai 2 ?_);obtain⟨v4,e,h⟩:=aw h;refine aS (eD f e) (ac (bv 3 2 ?_));obtain⟨d,h⟩|⟨d,h⟩:=am h
 ·refine ah 15 d (aL 5 ?_);cases h;exact bA
 ·refine ah 15 d (aL 5 ?_);cases h;exact bA
end
section
variable[GS](M:Nat→Prop)(g:aC)(r w:b7)(v2 i:Int)(v4:Fv)(f:Int)(l:b7)(a:Int)(d:b7)(q:Bool)(j t:Nat)(o u:Int→b7→Option b7)
abbrev AL:Cx:=⟨bb,53,M,g⟩
abbrev yK:=bodyPost bb Tryz.f189 (bR M g (fun v s=>v=nZ r∧look 0 s.r=some (bf r)))
abbrev GW(a:dn)(s:AS):=VE (AL M g) (yK M g r) a .normal s
abbrev xa(n:Nat):aq:=.c (cat Tryz.f189 (pn n))
abbrev Hy:dn:=[.b 0]
abbrev Sa:dn:=kl (AL M g) (yK M g r) Hy (cat Tryz.f189 (pn 12)) j::Hy
abbrev F5:dn:=.b 2 :: .b 1::xa 51::Sa M g r j
abbrev Ng:dn:=kl (AL M g) (yK M g r) (F5 M g r j) (cat Tryz.f189 (pn 804)) t::(F5 M g r j)
def acP:AS:=⟨[(0,.ref 0),(1,iI v2),(2,iI i),(3,.fn v4.id v4.aV),(8,iI f),(9,iI a),(34,.bool q)],[],[(0,(bf d))],[0,1000000,0]⟩
def Pk:AS:=⟨[(0,.ref 0),(1,iI v2),(2,iI i),(3,.fn v4.id v4.aV),(8,iI f),(9,iI a)],[],[(0,(bf d))],[0,1000000,0]⟩
def S4:AS:=⟨[(0,.ref 0),(1,iI v2),(2,iI i),(3,.fn v4.id v4.aV),(8,iI f)],[],[(0,(bf l))],[0,1000000,0]⟩
abbrev z6:Prop:=∀{f:Int} {l:b7},o f l=some r→LP (AL M g) (yK M g r) Hy (cat Tryz.f189 (pn 12)) j (S4 v2 i v4 f l)
abbrev IY:Prop:=∀{a:Int} {d:b7},u a d=some r→LP (AL M g) (yK M g r) (F5 M g r j) (cat Tryz.f189 (pn 804)) t (Pk v2 i v4 f a d)
variable{M g r w v2 i v4 f l a d q j t o u}{K:Kn}{n:Nat}
def NT(w:ao K)(s:z6 M g r v2 i v4 j o)(v:IY M g r v2 i v4 f j t u)(h:vJ K n v2 i v4 f a d o u q=some r):GW M g r (xa 3217::xa 1609::Ng M g r j t) (acP v2 i v4 f a d q):=by
 unfold vJ at h;obtain⟨b,h⟩|⟨b,h⟩:=am h
 ·refine ah 34 b (EK 4 3 3 4 (bJ [0,1,2,3,8,9] [] [0] ?_));obtain⟨e,h⟩:=aD h;obtain⟨l,h⟩:=aD h;obtain⟨c,h⟩:=aD h;obtain⟨p,h⟩:=aD h;exact bQ 2 (nu 37 [.ref 0,iI a,.ref 0,iI a,iI (aa (a-1)),.ref 0,iI a,iI (aa (a-1)),.eptr 0 1 (((aa (a-1))).toNat) 0,iI (gD d ((aa (a-1)))),.ref 0,iI a,.eptr 0 1 (a.toNat) 0,iI (gD d a),.eptr 0 1 (a.toNat) 0,.eptr 0 1 (((aa (a-1))).toNat) 0]) [] [] [eC 0 ⟨3,1,lm (ak .i64) (List.set d a.toNat (gD d ((aa (a-1)))))⟩,eC 0 ⟨3,1,lm (ak .i64) (List.set (List.set d a.toNat (gD d ((aa (a-1))))) ((aa (a-1))).toNat (gD d a))⟩] (av [.v 0 1,.v 0 1,.v 0 2,.v 0 2,.v 0 2,.v 0 1,.v 0 1,.v 0 1] (bi (cF 0 1 (ak .i64) (L:=d) e) (bi (bK 3 0 (ak .i64) (ak .i64) (bE e).2 aT) (av [.v 0 2,.v 0 2] (aj (fi (lo:=0) (k:=2) (db ⟨(by kernel_rfl),(de (cF 0 1 (ak .i64) (L:=d) l) (by kernel_rfl))⟩ (db ⟨(by kernel_rfl),(de (cF 0 1 (ak .i64) (L:=(List.set d a.toNat (gD d ((aa (a-1)))))) l) (by kernel_rfl))⟩ fI))) (bi (bK 3 0 (ak .i64) (ak .i64) (bE c).2 aT) (bi (cF 0 1 (ak .i64) (L:=d) c) (aj (dm (m:=0) (dF 0 3 1 0 (ak .i64) (ak .i64) (gD d ((aa (a-1)))) (bE c).2 aT)) (aj (Cn (lo:=1) (cF 0 1 (ak .i64) (L:=(List.set d a.toNat (gD d ((aa (a-1)))))) p)) (aj (dm (m:=1) (dF 0 3 1 0 (ak .i64) (ak .i64) (gD d a) (bE p).2 aT)) bS)))))))))) (ag 2 (bu (v h)))
 ·exact ah 34 b (ag 7 (bu (s h)))
def ahY(v:ao K)(q:z6 M g r v2 i v4 j o)(s:IY M g r v2 i v4 f j t u)(h:AY K n v2 i v4 f o u a d=some r):GW M g r (xa 804::Ng M g r j t) (Pk v2 i v4 f a d):=by
 unfold AY at h;refine bX 4 5 3 2 (bJ [0,1,2,3,8,9] [] [0] ?_);obtain⟨c,h⟩|⟨c,h⟩:=am h
 ·obtain⟨l,h⟩:=aD h;obtain⟨m,h⟩:=aD h;obtain⟨k,p,h⟩:=aw h;exact bQ 0 (nu 18 [iI a,iI v2,.bool (decide (a>v2)),.bool true,.fn v4.id v4.aV,.ref 0,iI a,.eptr 0 1 (a.toNat) 0,iI (gD d a),.ref 0,iI a,iI (aa (a-1)),.eptr 0 1 (((aa (a-1))).toNat) 0,iI (gD d ((aa (a-1)))),iI k,.bool (decide (k<0)),.bool (decide (k<0))]) [] [] [] (av (vz 3) (aj (cW 0 21 (e:=(decide (a>v2))) (b:=true) c) (av (vz 3) (bi (cF 0 1 (ak .i64) (L:=d) l) (bi (bK 3 0 (ak .i64) (ak .i64) (bE l).2 aT) (av (vz 3) (bi (cF 0 1 (ak .i64) (L:=d) m) (bi (bK 3 0 (ak .i64) (ak .i64) (bE m).2 aT) (aj (cj 0 1 32 (v.sE p).2 (v.sE p).1) (av (vz 2) bS)))))))))) (ag 0 (NT v q s h))
 ·exact bQ 0 (nu 18 [iI a,iI v2,.bool (decide (a>v2)),.bool false,be,be,be,be,be,be,be,be,be,be,be,be,.bool false]) [] [] [] (av (vz 3) (aj (cW 0 21 (e:=(decide (a>v2))) (b:=false) c) (aj (aF 0 1) (aj (aF 0 1) (aj (aF 0 1) (aj (aF 0 1) (aj (aF 0 1) (aj (aF 0 1) (aj (aF 0 1) (aj (aF 0 1) (aj (aF 0 1) (aj (aF 0 1) (aj (aF 0 1) (aj (aF 0 1) (av [.v 0 1] bS))))))))))))))) (ag 0 (NT v q s h))
def adj(b:ao K)(a:z6 M g r v2 i v4 j o)(m:Nat):IY M g r v2 i v4 f j m (zT K n v2 i v4 f o m):=by
 induction m with
 | zero=>exact fun h=>nomatch h
 | succ m c=>exact fun h=>bp (ahY b a c h)
def ahe(c:ao K)(b:z6 M g r v2 i v4 j o)(h:AW K n v2 i v4 o f l=some r):GW M g r (xa 12::Sa M g r j) (S4 v2 i v4 f l):=by
 unfold AW at h;refine ay 5 3 3 ?_;obtain⟨a,h⟩|⟨a,h⟩:=am h
 ·exact ah 14 a (ag 7 (cc (p:=pn 402) n (adj c b n h)))
 ·refine ah 14 a (cd (ks':=[]) 5 (uh ?_));cases h;exact qD
def ahT(a:ao K)(m:Nat):z6 M g r v2 i v4 m (rA K n v2 i v4 m):=by
 induction m with
 | zero=>exact fun h=>nomatch h
 | succ m b=>exact fun h=>bp (ahe a b h)
def M2(a:ao K)(h:uI K n w v2 i v4=some r):vw bb 189 [.ref 0,iI v2,iI i,.fn v4.id v4.aV] 0 (bf w) (fun v s=>v=nZ r∧look 0 s.r=some (bf r)):=by
 refine DD (c:=cat Tryz.f189 (pn 1)) Tryz.func189 (by kernel_rfl) _ Tryz.ntmps189 (jt (by kernel_rfl)) fun M g=>(bn ⟨[(0,.ref 0),(1,iI v2),(2,iI i),(3,.fn v4.id v4.aV)],[],[(0,(bf w))],[0,1000000]⟩ ?_);unfold uI at h;exact ag 3 (cc (p:=pn 6) n (ahT a n h))
end
section
variable[GS](M:Nat→Prop)(a:aC)(r q:b7)(v2:Int)(b:Fv)(v5 v6:Int)(i e:b7)(d:Int)(j f k:Nat)(l:Int→Int→b7→Option b7)(g:Int→Option b7)(o:Option b7)
abbrev pb:Cx:=⟨bb,63,M,a⟩
abbrev pu:=bodyPost bb Tryz.f182 (bR M a (fun v s=>v=nZ r∧look 0 s.r=some (bf r)))
abbrev Fq(b:dn)(s:AS):=VE (pb M a) (pu M a r) b .normal s
abbrev qI(n:Nat):aq:=.c (cat Tryz.f182 (pn n))
abbrev HY:dn:=[.b 2]
abbrev NU:dn:=kl (pb M a) (pu M a r) HY (cat Tryz.f182 (pn 124)) f::HY
abbrev Ib:dn:=[.b 0,qI 15]
abbrev PA:dn:=kl (pb M a) (pu M a r) Ib (cat Tryz.f182 (pn 56)) j::Ib
abbrev Jp:dn:=.b 4::qI 1995 :: .b 3::NU M a r f
abbrev aiV:dn:=kl (pb M a) (pu M a r) (Jp M a r f) (cat Tryz.f182 (pn 7976)) k::(Jp M a r f)
def OH:AS:=⟨[(0,.ref 0),(1,iI v2),(2,.fn b.id b.aV),(6,iI d),(7,iI 0),(8,iI (aa (2*d)))],[],[(0,(bf e))],[0,1000000,0]⟩
def Mt:AS:=⟨[(0,.ref 0),(1,iI v2),(2,.fn b.id b.aV),(6,iI d)],[],[(0,(bf e))],[0,1000000,0]⟩
def VG:AS:=⟨[(0,.ref 0),(1,iI v2),(2,.fn b.id b.aV),(6,iI 20),(7,iI v5),(8,iI v6)],[],[(0,(bf i))],[0,1000000,0]⟩
abbrev Oe:Prop:=∀{v5:Int} {v6:Int} {i:b7},l v5 v6 i=some r→LP (pb M a) (pu M a r) Ib (cat Tryz.f182 (pn 56)) j (VG v2 b v5 v6 i)
abbrev Bs:Prop:=∀{d:Int},g d=some r→LP (pb M a) (pu M a r) HY (cat Tryz.f182 (pn 124)) f (Mt v2 b e d)
abbrev Qt:Prop:=o=some r→LP (pb M a) (pu M a r) (Jp M a r f) (cat Tryz.f182 (pn 7976)) k (OH v2 b e d)
variable{M a r q v2 b v5 v6 i e d j f k l g o}{K:Kn}{n:Nat}
def abz(m:ao K)(j:Bs M a r v2 b e f g)(l:Qt M a r v2 b e d f k o)(h:Hm K n v2 b e d g o=some r):Fq M a r (qI 7976::aiV M a r f k) (OH v2 b e d):=by
 unfold Hm at h;refine ay 5 3 3 ?_;obtain⟨c,h⟩|⟨c,h⟩:=am h
 ·refine ah 35 c ?_;cases h
 ·refine ah 35 c (gB 11 3 10 ?_);obtain⟨i,h⟩|⟨i,h⟩:=am h
  ·refine ah 54 i ?_;cases h
  ·exact ah 54 i (ag 4 (bu (j h)))
def ajM(i:ao K)(c:Bs M a r v2 b e f g)(m:Nat):Qt M a r v2 b e d f m (GK K n v2 b e d g m):=by
 induction m with
 | zero=>exact fun h=>nomatch h
 | succ m j=>exact fun h=>bp (abz i c j h)
def WQ(j:ao K)(i:Bs M a r v2 b e f g)(h:Ek K n v2 b e g d=some r):Fq M a r (qI 124::NU M a r f) (Mt v2 b e d):=by
 unfold Ek at h;refine ay 5 3 3 ?_;obtain⟨c,h⟩|⟨c,h⟩:=am h
 ·exact ah 30 c (ag 7 (cc (p:=pn 3988) n (ajM j i n h)))
 ·refine ah 30 c (cd (ks':=[]) 5 (uh ?_));cases h;exact qD
def Yu(c:ao K)(m:Nat):Bs M a r v2 b e m (Dm K n v2 b e m):=by
 induction m with
 | zero=>exact fun h=>nomatch h
 | succ m d=>exact fun h=>bp (WQ c d h)
def ago(d:ao K)(f:Oe M a r v2 b j l)(h:EF K n v2 b l v5 v6 i=some r):Fq M a r (qI 56::PA M a r j) (VG v2 b v5 v6 i):=by
 unfold EF at h;refine ay 5 3 3 ?_;obtain⟨c,h⟩|⟨c,h⟩:=am h
 ·refine ah 13 c (cd (ks':=qI 452::qI 453 :: .b 1::PA M a r j) 4 (ai 4 ?_));obtain⟨m,g,h⟩:=aw h;exact sV 0 0 (M2 d g) (ac (ag 4 (bu (f h))))
 ·refine ah 13 c (gB 2 3 6 (ai 4 ?_));obtain⟨e,k,h⟩:=aw h;exact sV 0 0 (M2 d k) (ac (ag 1 (cc (p:=pn 62) n (Yu d n h))))
def adg(c:ao K)(m:Nat):Oe M a r v2 b m (CZ K n v2 b m):=by
 induction m with
 | zero=>exact fun h=>nomatch h
 | succ m d=>exact fun h=>bp (ago c d h)
def ab2(d:ao K)(h:CG K n q v2 b=some r):vw bb 182 [.ref 0,iI v2,.fn b.id b.aV] 0 (bf q) (fun v s=>v=nZ r∧look 0 s.r=some (bf r)):=by
 refine DD (c:=cat Tryz.f182 (pn 1)) Tryz.func182 (by kernel_rfl) _ Tryz.ntmps182 (jt (by kernel_rfl)) fun M a=>(bn ⟨[(0,.ref 0),(1,iI v2),(2,.fn b.id b.aV)],[],[(0,(bf q))],[0,1000000]⟩ ?_);unfold CG at h;exact ag 6 (cc (p:=pn 28) n (adg d n h))
end
section
variable[GS](M:Nat→Prop)(b:aC)(r a:b7)(v2:Fv)  
variable{M b r a v2}{K:Kn}{n:Nat}
def Wt(e:ao K)(h:lO K n a v2=some r):vw bb 164 [.ref 0,.fn v2.id v2.aV] 0 (bf a) (fun v s=>v=nZ r∧look 0 s.r=some (bf r)):=by
 refine DD (c:=cat Tryz.f164 (pn 1)) Tryz.func164 (by kernel_rfl) _ Tryz.ntmps164 (jt (by kernel_rfl)) fun M b=>(bn ⟨[(0,.ref 0),(1,.fn v2.id v2.aV)],[],[(0,(bf a))],[0,1000000]⟩ ?_);unfold lO at h;refine ai 2 (au (bz (ak .i64) a) (aP 4 1 ?_));obtain⟨f,d,h⟩:=aw h;refine sV 0 0 (ab2 e d) (ac (uh ?_));cases h;exact qD
end
section
variable[GS](M:Nat→Prop)(a:aC)(r:Bool)(b:ab)(v2:Bool)  
abbrev adn(n:Nat):aq:=.c (cat Tryz.f171 (pn n))
abbrev ZT:Cx:=⟨bb,12,M,a⟩
abbrev ahg:=bodyPost bb Tryz.f171 (bR M a (fun v _=>v=.bool r))
abbrev aeK(b:dn)(s:AS):=VE (ZT M a) (ahg M a r) b .normal s
def XL:AS:=⟨[(2,.bool v2)],[],[],[]⟩
variable{M a r b v2}{K:Kn}{n:Nat}
def To(b:ao K)(h:wJ K n v2=some r):aeK M a r [adn 7] (XL v2):=by
 unfold wJ at h;refine aL 1 ?_;cases h;exact bA
def H0(d:ao K)(h:kg K n b=some r):ba bb 171 [.agg (az b)] (fun v _=>v=.bool r):=by
 refine bI (cat Tryz.f171 (pn 1)) Tryz.func171 Tryz.ntmps171 fun M a=>(bn ⟨[(0,.agg (az b))],[],[],[]⟩ ?_);unfold kg at h;refine ay 6 7 3 (ai 4 ?_);obtain⟨c,h⟩|⟨c,h⟩:=am h
 ·exact aG 6 c (ac (ag 0 (To d h)))
 ·exact aG 6 c (ac (ag 0 (To d h)))
end
section
variable[GS](M:Nat→Prop)(b:aC)(r:Bool)(a:Int)  
variable{M b r a}{K:Kn}{n:Nat}
def RV(c:ao K)(h:rY K n a=some r):ba bb 183 [iI a] (fun v _=>v=.bool r):=by
 refine bI (cat Tryz.f183 (pn 1)) Tryz.func183 Tryz.ntmps183 fun M b=>(bn ⟨[(0,iI a)],[],[],[]⟩ ?_);unfold rY at h;refine aL 5 ?_;cases h;exact bA
end
section
variable[GS](M:Nat→Prop)(b:aC)(r:Int)(a v2:Int)  
variable{M b r a v2}{K:Kn}{n:Nat}
def QY(i:ao K)(h:sc K n a v2=some r):ba bb 166 [iI a,iI v2] (fun v _=>v=iI r):=by
 refine bI (cat Tryz.f166 (pn 1)) Tryz.func166 Tryz.ntmps166 fun M b=>(bn ⟨[(0,iI a),(1,iI v2)],[],[],[]⟩ ?_);unfold sc at h;refine ay 6 7 3 (ai 1 ?_);obtain⟨l,j,h⟩:=aw h;refine aS (RV i j) (ac (ay 2 3 1 (ai 1 ?_)));obtain⟨v4,k,h⟩:=aw h;refine aS (RV i k) (ac (ay 5 3 3 ?_));obtain⟨c,h⟩|⟨c,h⟩:=am h
 ·refine ah 11 c (ay 9 5 4 ?_);obtain⟨d,h⟩|⟨d,h⟩:=am h
  ·refine ah 12 d (aL 6 ?_);cases h;exact bA
  ·refine ah 12 d (aL 6 ?_);cases h;exact bA
 ·refine ah 11 c (fO 5 3 5 ?_);obtain⟨e,h⟩|⟨e,h⟩:=am h
  ·refine ah 13 e (aL 5 ?_);cases h;exact bA
  ·refine ah 13 e (fO 5 3 5 ?_);obtain⟨f,h⟩|⟨f,h⟩:=am h
   ·refine ah 16 f (aL 5 ?_);cases h;exact bA
   ·refine ah 16 f (fO 5 3 5 ?_);obtain⟨g,h⟩|⟨g,h⟩:=am h
    ·refine ah 19 g (aL 5 ?_);cases h;exact bA
    ·refine ah 19 g (aL 5 ?_);cases h;exact bA
end
section
variable[GS](M:Nat→Prop)(c:aC)(r:Int)(b v2:Int)(a:dO)  
variable{M c r b v2 a}{K:Kn}{n:Nat}
def agX(g:ao K)(h:vX K n b v2 a=some r):ba bb 172 [iI b,iI v2,.cptr ([.sl (lm aM a)])] (fun v _=>v=iI r):=by
 refine bI (cat Tryz.f172 (pn 1)) Tryz.func172 Tryz.ntmps172 fun M c=>(bn ⟨[(0,iI b),(1,iI v2),(2,.cptr ([.sl (lm aM a)]))],[],[],[]⟩ ?_);unfold vX at h;refine ay 6 7 3 (bJ [0,1,2] [] [] ?_);obtain⟨d,h⟩:=aD h;obtain⟨e,h⟩:=aD h;obtain⟨v4,f,h⟩:=aw h;refine bQ 1 (nu 6 [.sl (lm aM a),iI b,.cptr (az (gD a b)),.cptr (List.drop 2 (az (gD a b))),.cptr (List.drop 48 (List.drop 2 (az (gD a b)))),iI (((gD a b).Style).Order),.sl (lm aM a),iI v2,.cptr (az (gD a v2)),.cptr (List.drop 2 (az (gD a v2))),.cptr (List.drop 48 (List.drop 2 (az (gD a v2)))),iI (((gD a v2).Style).Order),iI v4]) [] [] [ci bb 19 Tryz.f172 (pn 6) 13] (av (vz 2) (bi (bD aM az d (fE) (dV)) (av (vz 5) (bi (bD aM az e (fE) (dV)) (av (vz 3) (aj (cj 0 1 18 (QY g f)) (aj (cg 0) bS))))))) (aL 1 ?_);cases h;exact bA
end
section
variable[GS](M:Nat→Prop)(b:aC)(r:b7)(a:dO)(v6:Int)(d f:b7)(c:Nat)(e:Int→b7→Option b7)
abbrev Gx:Cx:=⟨bb,24,M,b⟩
abbrev Gy:=bodyPost bb Tryz.f146 (bR M b (fun v s=>v=.ref 18∧look 18 s.r=some (bf r)))
abbrev Rc(a:dn)(s:AS):=VE (Gx M b) (Gy M b r) a .normal s
abbrev Hg(n:Nat):aq:=.c (cat Tryz.f146 (pn n))
abbrev GE:dn:=[.b 0,Hg 15]
abbrev LY:dn:=kl (Gx M b) (Gy M b r) GE (cat Tryz.f146 (pn 116)) c::GE
def ak0:AS:=⟨[(1,.ptr 1 0),(3,.ref 18),(6,.sl (lm aM a)),(7,iI (a.length:Int)),(8,iI v6)],[(1,[.sl (lm aM a)])],[(18,(bf f))],[1,18]⟩
def O6:AS:=⟨[(1,.ptr 1 0),(3,.ref 18),(6,.sl (lm aM a)),(7,iI (a.length:Int)),(8,iI v6)],[(1,[.sl (lm aM a)])],[(18,(bf d))],[1,18]⟩
abbrev HL:Prop:=∀{v6:Int} {d:b7},e v6 d=some r→LP (Gx M b) (Gy M b r) GE (cat Tryz.f146 (pn 116)) c (O6 a v6 d)
variable{M b r a v6 d f c e}{K:Kn}{n:Nat}
def QZ(g:ao K)(d:HL M b r a c e)(h:wL K n a v6 e f=some r):Rc M b r (.b 1::Hg 935::LY M b r c) (ak0 a v6 f):=by
 unfold wL at h;exact ag 2 (bu (d h))
def aaT(j:ao K)(i:HL M b r a c e)(h:Eu K n a e v6 d=some r):Rc M b r (Hg 116::LY M b r c) (O6 a v6 d):=by
 unfold Eu at h;refine ay 6 7 3 ?_;obtain⟨f,h⟩|⟨f,h⟩:=am h
 ·refine ah 9 f (cQ 8 9 1 3 5 (ai 1 ?_));obtain⟨k,h⟩:=aD h;refine au (bD aM az k (fE) (dV)) (ac (ay 2 3 1 (ai 1 ?_)));obtain⟨q,l,h⟩:=aw h;refine aS (H0 j l) (ac ?_);obtain⟨g,h⟩|⟨g,h⟩:=am h
  ·refine ah 14 g (bv 2 1 (ai 3 ?_));obtain⟨m,h⟩:=aD h;exact au (cA 18 18 3 1 (ak .i64) (rfl) aT m) (ac (ag 0 (QZ j i h)))
  ·exact ah 14 g (ag 2 (QZ j i h))
 ·refine ah 9 f (gB 2 3 6 (ai 1 (n6 1 1 ([.sl (lm aM a)]) (sg 172 #[(.tmp 1)] [.cptr ([.sl (lm aM a)])] ?_))));obtain⟨p,o,h⟩:=aw h;refine sV 18 0 (Wt j o) (ac (aL 3 ?_));cases h;exact eO
def XA(c:ao K)(m:Nat):HL M b r a m (wT K n a m):=by
 induction m with
 | zero=>exact fun h=>nomatch h
 | succ m d=>exact fun h=>bp (aaT c d h)
def aa5(c:ao K)(h:vj K n a=some r):ba bb 146 [.sl (lm aM a)] (fun v s=>v=.ref 18∧look 18 s.r=some (bf r)):=by
 refine bI (cat Tryz.f146 (pn 1)) Tryz.func146 Tryz.ntmps146 fun M b=>(bn ⟨[(0,.sl (lm aM a))],[],[],[]⟩ ?_);unfold vj at h;exact bX 28 29 15 6 (ai 1 (au (bz aM a) (ac (ig 2 0 1 (bJ [1,3,6,7,8] [1] [] (fb 18 3 3 1 (ag 0 (cc (p:=pn 58) n (XA c n h)))))))))
end
section
variable[GS](M:Nat→Prop)(a:aC)(r:dO)(b:ab)(v2:b7)(c:Int)(v4:dO)(d:Nat)(e:Int→dO→Option dO)
abbrev E2:Cx:=⟨bb,24,M,a⟩
abbrev G6:=bodyPost bb Tryz.f102 (bR M a (fun v s=>v=.ref 21∧look 21 s.r=some (bx r)))
abbrev akj(b:dn)(s:AS):=VE (E2 M a) (G6 M a r) b .normal s
abbrev Tx(n:Nat):aq:=.c (cat Tryz.f102 (pn n))
abbrev GC:dn:=[.b 0,Tx 15]
abbrev ah7:dn:=kl (E2 M a) (G6 M a r) GC (cat Tryz.f102 (pn 116)) d::GC
def Wu:AS:=⟨[(1,.ptr 1 0),(3,.ref 21),(8,.ref 1008),(9,iI (v2.length:Int)),(10,iI c)],[(1,az b)],[(21,(bx v4)),(1008,(bf v2))],[1,21,1008]⟩
abbrev Q4:Prop:=∀{c:Int} {v4:dO},e c v4=some r→LP (E2 M a) (G6 M a r) GC (cat Tryz.f102 (pn 116)) d (Wu b v2 c v4)
variable{M a r b v2 c v4 d e}{K:Kn}{n:Nat}
def alz(l:ao K)(k:Q4 M a r b v2 d e)(h:Ej K n b v2 e c v4=some r):akj M a r (Tx 116::ah7 M a r d) (Wu b v2 c v4):=by
 unfold Ej at h;refine ay 6 7 3 ?_;obtain⟨f,h⟩|⟨f,h⟩:=am h
 ·refine ah 11 f (cQ 8 9 1 3 5 (ai 0 ?_));obtain⟨g,h⟩:=aD h;refine au (cp 1008 1 (ak .i64) g) (au (bK 3 0 (ak .i64) (ak .i64) (bE g).2 aT) (ac (ai 4 ?_)));obtain⟨i,h⟩:=aD h;refine au (bD aM az i (fE) (dV)) (aP 6 1 (au (gz aM ([(gD b.Kids ((gD v2 c)))]:dO) (new:=[az (gD b.Kids ((gD v2 c)))]) (by simp only[rv,zt,dV])) ?_));obtain⟨j,h⟩:=aD h;exact au (cA 21 21 48 59 aM (rfl) (fE) j) (ac (ag 2 (bu (k h))))
 ·refine ah 11 f (aL 8 ?_);cases h;exact eO
def ake(c:ao K)(m:Nat):Q4 M a r b v2 m (zP K n b v2 m):=by
 induction m with
 | zero=>exact fun h=>nomatch h
 | succ m d=>exact fun h=>bp (alz c d h)
def H6(c:ao K)(h:k7 K n b=some r):ba bb 102 [.agg (az b)] (fun v s=>v=.ref 21∧look 21 s.r=some (bx r)):=by
 refine bI (cat Tryz.f102 (pn 1)) Tryz.func102 Tryz.ntmps102 fun M a=>(bn ⟨[(0,.agg (az b))],[],[],[]⟩ ?_);unfold k7 at h;refine bX 28 29 15 6 (ai 2 ?_);obtain⟨v2,d,h⟩:=aw h;exact eZ 1008 (aa5 c d) (fa 18) (au (bz (ak .i64) v2) (ac (ig 2 0 1 (bJ [1,3,8,9,10] [1] [1008] (fb 21 3 48 59 (ag 0 (cc (p:=pn 58) n (ake c n h))))))))
end
section
variable[GS](M:Nat→Prop)(b:aC)(r:Int)(a:bj)  
variable{M b r a}{K:Kn}{n:Nat}
def nc(c:ao K)(h:gC K n a=some r):ba bb 126 [.agg (cU a)] (fun v _=>v=iI r):=by
 refine bI (cat Tryz.f126 (pn 1)) Tryz.func126 Tryz.ntmps126 fun M b=>(bn ⟨[(0,.agg (cU a))],[],[],[]⟩ ?_);unfold gC at h;refine aL 5 ?_;cases h;exact bA
end
section
variable[GS](M:Nat→Prop)(b:aC)(r:Int)(a:ae)  
variable{M b r a}{K:Kn}{n:Nat}
def RF(e:ao K)(h:tK K n a=some r):ba bb 127 [.agg (aH a)] (fun v _=>v=iI r):=by
 refine bI (cat Tryz.f127 (pn 1)) Tryz.func127 Tryz.ntmps127 fun M b=>(bn ⟨[(0,.agg (aH a))],[],[],[]⟩ ?_);unfold tK at h;refine ay 13 7 5 ?_;obtain⟨c,h⟩|⟨c,h⟩:=am h
 ·refine ah 4 c (aL 5 ?_);cases h;exact bA
 ·refine ah 4 c (fO 2 3 3 (ai 2 ?_));obtain⟨v2,d,h⟩:=aw h;refine aS (nc e d) (ac (aL 1 ?_));cases h;exact bA
end
section
variable[GS](M:Nat→Prop)(b:aC)(r:Int)(a v2:Int)  
variable{M b r a v2}{K:Kn}{n:Nat}
def nI(c:ao K)(h:iy K n a v2=some r):ba bb 104 [iI a,iI v2] (fun v _=>v=iI r):=by
 refine bI (cat Tryz.f104 (pn 1)) Tryz.func104 Tryz.ntmps104 fun M b=>(bn ⟨[(0,iI a),(1,iI v2)],[],[],[]⟩ ?_);unfold iy at h;refine aL 5 ?_;cases h;exact bA
end
section
variable[GS](M:Nat→Prop)(b:aC)(r a:bH)  
variable{M b r a}{K:Kn}{n:Nat}
def PB(c:ao K)(h:yQ K n a=some r):ba bb 159 [.agg (co a)] (fun v _=>v=.agg (co r)):=by
 refine bI (cat Tryz.f159 (pn 1)) Tryz.func159 Tryz.ntmps159 fun M b=>(bn ⟨[(0,.agg (co a))],[],[],[]⟩ ?_);unfold yQ at h;refine ay 6 7 3 (ai 2 ?_);obtain⟨v2,d,h⟩:=aw h;refine aS (nI c d) (ac (ay 2 3 1 (ai 2 ?_)));obtain⟨j,e,h⟩:=aw h;refine aS (nI c e) (ac (ay 2 3 1 (ai 2 ?_)));obtain⟨v4,f,h⟩:=aw h;refine aS (nI c f) (ac (ay 2 3 1 (ai 2 ?_)));obtain⟨v5,g,h⟩:=aw h;refine aS (nI c g) (ac (ay 2 3 1 (bJ [1,2] [1,2] [] ?_)));obtain⟨v6,i,h⟩:=aw h;refine bQ 1 (nu 19 [.ptr 1 4,iI a.Max,iI v6,.ptr 1 3,iI v5,iI (max v6 v5),.ptr 1 4]) [] [] [ci bb 27 Tryz.f159 (pn 126) 7] (av (vz 2) (aj (cj 0 1 21 (nI c i)) (av (vz 4) (aj (cg 0) bS)))) (aL 3 ?_);cases h;exact bA
end
section
variable[GS](M:Nat→Prop)(b:aC)(r:Int)(a:bH)(v2:Int)  
variable{M b r a v2}{K:Kn}{n:Nat}
def Jm(c:ao K)(h:qh K n a v2=some r):ba bb 160 [.agg (co a),iI v2] (fun v _=>v=iI r):=by
 refine bI (cat Tryz.f160 (pn 1)) Tryz.func160 Tryz.ntmps160 fun M b=>(bn ⟨[(0,.agg (co a)),(1,iI v2)],[],[],[]⟩ ?_);unfold qh at h;refine aL 5 ?_;cases h;exact bA
end
section
variable[GS](M:Nat→Prop)(b:aC)(r:Int)(a:bH)  
variable{M b r a}{K:Kn}{n:Nat}
def Fc(c:ao K)(h:tA K n a=some r):ba bb 128 [.agg (co a)] (fun v _=>v=iI r):=by
 refine bI (cat Tryz.f128 (pn 1)) Tryz.func128 Tryz.ntmps128 fun M b=>(bn ⟨[(0,.agg (co a))],[],[],[]⟩ ?_);unfold tA at h;refine ay 6 7 3 (ai 1 ?_);obtain⟨v2,d,h⟩:=aw h;refine aS (PB c d) (ac (ay 2 3 1 (ai 3 ?_)));obtain⟨f,e,h⟩:=aw h;refine aS (Jm c e) (ac (aL 1 ?_));cases h;exact bA
end
section
variable[GS](M:Nat→Prop)(c:aC)(r:Int)(b v2:Int)(a:b7)  
variable{M c r b v2 a}{K:Kn}{n:Nat}
def ala(g:ao K)(h:xG K n b v2 a=some r):ba bb 165 [iI b,iI v2,.cptr ([.sl (lm (ak .i64) a)])] (fun v _=>v=iI r):=by
 refine bI (cat Tryz.f165 (pn 1)) Tryz.func165 Tryz.ntmps165 fun M c=>(bn ⟨[(0,iI b),(1,iI v2),(2,.cptr ([.sl (lm (ak .i64) a)]))],[],[],[]⟩ ?_);unfold xG at h;refine ay 6 7 3 (bJ [0,1,2] [] [] ?_);obtain⟨d,h⟩:=aD h;obtain⟨e,h⟩:=aD h;obtain⟨v4,f,h⟩:=aw h;refine bQ 1 (nu 6 [.sl (lm (ak .i64) a),iI v2,.cptr ([iI (gD a v2)]),iI (gD a v2),.sl (lm (ak .i64) a),iI b,.cptr ([iI (gD a b)]),iI (gD a b),iI v4]) [] [] [ci bb 15 Tryz.f165 (pn 6) 9] (av (vz 2) (bi (bD (ak .i64) (ak .i64) d aT aT) (av (vz 3) (bi (bD (ak .i64) (ak .i64) e aT aT) (av [.v 0 1] (aj (cj 0 1 14 (QY g f)) (aj (cg 0) bS))))))) (aL 1 ?_);cases h;exact bA
end
section
variable[GS](M:Nat→Prop)(c:aC)(r:b7)(C:Int)(v2:b7)(b:Int)(v4 v5 v6:b7)(f u g a:Int)(j d i l:b7)(t o:Int)(q:b7)(x w y:Nat)(z:Int→Int→Option b7)(A:Int→Int→b7→b7→b7→Option b7)(B:b7→Int→Int→b7→Option b7)
abbrev qJ:Cx:=⟨bb,96,M,c⟩
abbrev pB:=bodyPost bb Tryz.f136 (bR M c (fun v s=>v=.ref 21∧look 21 s.r=some (bf r)))
abbrev Ic(a:dn)(s:AS):=VE (qJ M c) (pB M c r) a .normal s
abbrev iM(n:Nat):aq:=.c (cat Tryz.f136 (pn n))
abbrev HR:dn:=[.b 4,iM 8191]
abbrev adQ:dn:=kl (qJ M c) (pB M c r) HR (cat Tryz.f136 (pn 65524)) y::HR
abbrev Gc:dn:=[.b 2,iM 2047]
abbrev S9:dn:=kl (qJ M c) (pB M c r) Gc (cat Tryz.f136 (pn 16372)) w::Gc
abbrev Fb:dn:=[.b 0,iM 255]
abbrev alu:dn:=kl (qJ M c) (pB M c r) Fb (cat Tryz.f136 (pn 2036)) x::Fb
def PZ:AS:=⟨[(5,.ref 21),(82,.sl (lm (ak .i64) l)),(83,iI t),(84,iI o)],[],[(21,(bf q))],[21]⟩
def QU:AS:=⟨[(0,iI b),(5,.ref 21),(6,.ptr 6 0),(7,.ref 27),(8,iI f),(11,iI g),(43,.sl (lm (ak .i64) v2)),(44,iI (v2.length:Int)),(45,iI a)],[(6,[.ref 24])],[(21,(bf j)),(24,(bf d)),(27,(bf i))],[6,21,24,27]⟩
def Wh:AS:=⟨[(0,iI b),(1,.sl (lm (ak .i64) v2)),(5,.ref 21),(6,.ptr 6 0),(7,.ref 27),(8,iI f),(28,.sl (lm (ak .i64) v2)),(29,iI (v2.length:Int)),(30,iI u)],[(6,[.ref 24])],[(21,(bf v4)),(24,(bf v5)),(27,(bf v6))],[6,21,24,27]⟩
abbrev OV:Prop:=∀{f:Int} {u:Int},z f u=some r→LP (qJ M c) (pB M c r) Fb (cat Tryz.f136 (pn 2036)) x (Wh v2 b v4 v5 v6 f u)
abbrev Qr:Prop:=∀{g:Int} {a:Int} {j:b7} {d:b7} {i:b7},A g a j d i=some r→LP (qJ M c) (pB M c r) Gc (cat Tryz.f136 (pn 16372)) w (QU v2 b f g a j d i)
abbrev Vb:Prop:=∀{l:b7} {t:Int} {o:Int} {q:b7},B l t o q=some r→LP (qJ M c) (pB M c r) HR (cat Tryz.f136 (pn 65524)) y (PZ l t o q)
variable{M c r C v2 b v4 v5 v6 f u g a j d i l t o q x w y z A B}{K:Kn}{n:Nat}
def ZY(g:ao K)(f:Vb M c r y B)(h:CL K n B l t o q=some r):Ic M c r (iM 65524::adQ M c r y) (PZ l t o q):=by
 unfold CL at h;refine ay 6 7 3 ?_;obtain⟨a,h⟩|⟨a,h⟩:=am h
 ·refine ah 85 a (cQ 8 9 5 3 5 (ai 0 ?_));obtain⟨e,h⟩:=aD h;refine au (bD (ak .i64) (ak .i64) e aT aT) (ac (ai 2 ?_));obtain⟨b,h⟩:=aD h;refine au (cp 21 1 (ak .i64) b) (au (bK 3 0 (ak .i64) (ak .i64) (bE b).2 aT) (aP 5 1 ?_));obtain⟨d,h⟩:=aD h;exact au (cp 21 1 (ak .i64) d) (au (dF 21 3 1 0 (ak .i64) (ak .i64) (aa ((gD q ((gD l o)))+1)) (bE d).2 aT) (ac (ag 2 (bu (f h)))))
 ·refine ah 85 a (aL 8 ?_);cases h;exact eO
def acT(a:ao K)(m:Nat):Vb M c r m (ui K n m):=by
 induction m with
 | zero=>exact fun h=>nomatch h
 | succ m b=>exact fun h=>bp (ZY a b h)
def Zx(G:ao K)(H:Qr M c r v2 b f w A)(h:Cv K n v2 b f A g a j d i=some r):Ic M c r (iM 16372::S9 M c r w) (QU v2 b f g a j d i):=by
 unfold Cv at h;refine ay 6 7 3 ?_;obtain⟨o,h⟩|⟨o,h⟩:=am h
 ·refine ah 46 o (cQ 8 9 3 3 5 (ai 1 ?_));obtain⟨y,h⟩:=aD h;refine au (bD (ak .i64) (ak .i64) y aT aT) (ac (ay 2 3 1 (ai 2 ?_)));obtain⟨l,z,h⟩:=aw h;refine aS (nI G z) (ac (ay 2 3 1 (bJ [0,5,6,7,8,11,12,14,43,44,45] [6] [21,24,27] ?_)));obtain⟨B,h⟩:=aD h;obtain⟨q,h⟩:=aD h;obtain⟨s,h⟩:=aD h;obtain⟨t,h⟩:=aD h;obtain⟨u,h⟩:=aD h;refine bQ 3 (nu 54 [.ref 21,iI a,.ref 24,iI a,.ref 27,iI a,iI (aa (b*l)),iI f,iI (aa (Int.tdiv (aa (b*l)) f)),iI (aa (b*l)),iI f,iI (Int.tmod (aa (b*l)) f),iI a,.eptr 21 1 (a.toNat) 0,.eptr 24 1 (a.toNat) 0,.eptr 27 1 (a.toNat) 0]) [] [] [eC 21 ⟨3,1,lm (ak .i64) (List.set j a.toNat (aa (Int.tdiv (aa (b*l)) f)))⟩,eC 24 ⟨3,1,lm (ak .i64) (List.set d a.toNat (Int.tmod (aa (b*l)) f))⟩,eC 27 ⟨3,1,lm (ak .i64) (List.set i a.toNat a)⟩] (av [.v 0 1,.v 0 1,.v 0 2,.v 0 2,.v 0 3,.v 0 3,.v 0 1,.v 0 1] (bi (aao .i64 (aa (b*l)) B) (av [.v 0 2,.v 0 2] (aj (fi (lo:=0) (k:=2) (db ⟨(by kernel_rfl),(de (IA .i64 (aa (b*l)) q) (by kernel_rfl))⟩ (db ⟨(by kernel_rfl),(de (IA .i64 (aa (b*l)) q) (by kernel_rfl))⟩ fI))) (av [.v 0 3] (bi (cF 21 1 (ak .i64) (L:=j) s) (aj (dm (m:=0) (dF 21 3 1 0 (ak .i64) (ak .i64) (aa (Int.tdiv (aa (b*l)) f)) (bE s).2 aT)) (aj (Cn (lo:=1) (cF 24 1 (ak .i64) (L:=d) t)) (aj (dm (m:=1) (dF 24 3 1 0 (ak .i64) (ak .i64) (Int.tmod (aa (b*l)) f) (bE t).2 aT)) (aj (Cn (lo:=2) (cF 27 1 (ak .i64) (L:=i) u)) (aj (dm (m:=2) (dF 27 3 1 0 (ak .i64) (ak .i64) a (bE u).2 aT)) bS))))))))))) ?_
  obtain⟨I,C,h⟩:=bU h;obtain⟨J,D,h⟩:=bU h;refine bC (ks':=iM 2095719 :: .b 3::iM 130983::S9 M c r w) 0 ⟨[(0,iI b),(5,.ref 21),(6,.ptr 6 0),(7,.ref 27),(8,iI f),(11,iI g),(12,iI a),(43,.sl (lm (ak .i64) v2)),(44,iI (v2.length:Int)),(45,iI a)],[(6,[.ref 24])],[(21,(bf I)),(24,(bf J)),(27,⟨3,1,lm (ak .i64) (List.set i a.toNat a)⟩)],[6,21,24,27]⟩ ?_ (by subst D;subst C;kernel_rfl);refine ai 3 ?_;obtain⟨v,h⟩:=aD h;exact au (cp 21 1 (ak .i64) v) (au (bK 3 0 (ak .i64) (ak .i64) (bE v).2 aT) (ac (ag 2 (bu (H h)))))
 ·refine ah 46 o (gB 2 3 6 (ai 1 (mz 24 (n6 6 6 ([.sl (lm (ak .i64) d)]) (sg 165 #[(.tmp 6)] [.cptr ([.sl (lm (ak .i64) d)])] ?_)))));obtain⟨x,E,h⟩:=aw h;refine sV 27 0 (Wt G E) (ac (bX 4 5 3 2 (ai 2 (mz 27 ?_))));obtain⟨F,h⟩:=aD h;exact au (jp (ak .i64) x (0:Int) g 72 (.tmp 80) none (some (.tmp 81)) 82 (e:=3) (sz:=1) (by kernel_rfl) (by kernel_rfl) (by kernel_rfl) (by kernel_rfl) (by kernel_rfl) (by kernel_rfl) aT (fun k N=>by subst N;kernel_rfl) F) (au (bz (ak .i64) (List.drop ((0:Int)).toNat (List.take g.toNat x))) (ac (ag 1 (cc (p:=pn 32762) n (acT G n h)))))
def adf(a:ao K)(m:Nat):Qr M c r v2 b f m (sy K n v2 b f m):=by
 induction m with
 | zero=>exact fun h=>nomatch h
 | succ m d=>exact fun h=>bp (Zx a d h)
def XQ(j:ao K)(i:OV M c r v2 b v4 v5 v6 x z)(h:C5 K n v2 b v4 v5 v6 z f u=some r):Ic M c r (iM 2036::alu M c r x) (Wh v2 b v4 v5 v6 f u):=by
 unfold C5 at h;refine ay 6 7 3 ?_;obtain⟨a,h⟩|⟨a,h⟩:=am h
 ·refine ah 31 a (cQ 8 9 1 3 5 (ai 0 ?_));obtain⟨e,h⟩:=aD h;refine au (bD (ak .i64) (ak .i64) e aT aT) (ac (ai 2 ?_));obtain⟨k,g,h⟩:=aw h;exact aS (nI j g) (ac (ag 2 (bu (i h))))
 ·refine ah 31 a (gB 5 3 8 ?_);obtain⟨d,h⟩|⟨d,h⟩:=am h
  ·refine ah 40 d (aL 5 ?_);cases h;exact eO
  ·exact ah 40 d (oL 12 13 7 6 (ai 1 (au (bz (ak .i64) v2) (ac (ag 1 (cc (p:=pn 8186) n (adf j n h)))))))
def aaK(a:ao K)(m:Nat):OV M c r v2 b v4 v5 v6 m (vY K n v2 b v4 v5 v6 m):=by
 induction m with
 | zero=>exact fun h=>nomatch h
 | succ m d=>exact fun h=>bp (XQ a d h)
def W3(a:ao K)(h:xA K n C v2=some r):ba bb 136 [iI C,.sl (lm (ak .i64) v2)] (fun v s=>v=.ref 21∧look 21 s.r=some (bf r)):=by
 refine bI (cat Tryz.f136 (pn 1)) Tryz.func136 Tryz.ntmps136 fun M c=>(bn ⟨[(0,iI C),(1,.sl (lm (ak .i64) v2))],[],[],[]⟩ ?_);unfold xA at h;refine ay 6 7 3 (ai 1 ?_);obtain⟨b,d,h⟩:=aw h;refine aS (nI a d) (ac (ay 2 3 1 (ai 1 (au (bz (ak .i64) v2) ?_))));obtain⟨f,h⟩:=aD h;refine o5 (ak .i64) (0:Int) 72 (.tmp 20) (.tmp 20) 21 (e:=3) (sz:=1) (zc:=[iI 0]) (kd:=.i64) (kd':=.i64) f (ac ?_);obtain⟨v4,g,h⟩:=bU h;refine bC (ks':=[iM 30,iM 31]) 1 ⟨[(0,iI b),(1,.sl (lm (ak .i64) v2)),(5,.ref 21)],[],[(21,(bf v4))],[21]⟩ ?_ (by subst g;kernel_rfl);refine ai 1 (au (bz (ak .i64) v2) ?_);obtain⟨i,h⟩:=aD h;refine o5 (ak .i64) (0:Int) 72 (.tmp 23) (.tmp 23) 24 (e:=3) (sz:=1) (zc:=[iI 0]) (kd:=.i64) (kd':=.i64) i (ac ?_);obtain⟨v5,j,h⟩:=bU h;refine bC (ks':=[iM 62,iM 63]) 1 ⟨[(0,iI b),(1,.sl (lm (ak .i64) v2)),(5,.ref 21),(6,.ptr 6 0)],[(6,[.ref 24])],[(21,(bf v4)),(24,(bf v5))],[6,21,24]⟩ ?_ (by subst j;kernel_rfl)
 refine ai 1 (au (bz (ak .i64) v2) ?_);obtain⟨k,h⟩:=aD h;refine o5 (ak .i64) (0:Int) 72 (.tmp 26) (.tmp 26) 27 (e:=3) (sz:=1) (zc:=[iI 0]) (kd:=.i64) (kd':=.i64) k (ac ?_);obtain⟨v6,l,h⟩:=bU h;refine bC (ks':=[iM 508,iM 509,iM 255]) 4 ⟨[(0,iI b),(1,.sl (lm (ak .i64) v2)),(5,.ref 21),(6,.ptr 6 0),(7,.ref 27),(8,iI 0)],[(6,[.ref 24])],[(21,(bf v4)),(24,(bf v5)),(27,(bf v6))],[6,21,24,27]⟩ ?_ (by subst l;kernel_rfl);exact ai 1 (au (bz (ak .i64) v2) (ac (ag 1 (cc (p:=pn 1018) n (aaK a n h)))))
end
section
variable[GS](M:Nat→Prop)(g:aC)(r:Bool×ed)(i:ed)(v2 l u w o:Int)(a q:b7)(y z:Int)(A B:b7)(C f b:Int)(d:b7)(e:Int)(k:ed)(t:Int)(D:Bool)(E:ed)(G I x:Nat)(H:Int→Int→Int→b7→b7→Option (Bool×ed))(J:Int→Int→b7→Option (Bool×ed))(F:Int→ed→Option (Bool×ed))
abbrev qc:Cx:=⟨bb,170,M,g⟩
abbrev qW:=bodyPost bb Tryz.f161 (bR M g (fun v s=>v=.bool r.1∧look 0 s.r=some (bY r.2)))
abbrev pJ(a:dn)(s:AS):=VE (qc M g) (qW M g r) a .normal s
abbrev gU(n:Nat):aq:=.c (cat Tryz.f161 (pn n))
abbrev Gv:dn:=[.b 4,gU 4095]
abbrev Ls:dn:=kl (qc M g) (qW M g r) Gv (cat Tryz.f161 (pn 32756)) x::Gv
abbrev K6:dn:=[.b 2,gU 2047]
abbrev RL:dn:=kl (qc M g) (qW M g r) K6 (cat Tryz.f161 (pn 16372)) I::K6
abbrev IC:dn:=[.b 0,gU 31]
abbrev KZ:dn:=kl (qc M g) (qW M g r) IC (cat Tryz.f161 (pn 244)) G::IC
def alp:AS:=⟨[(0,.ref 0),(2,iI l),(7,iI y),(8,iI z),(9,.ref 47),(10,.ref 52),(22,.ref 0),(23,iI (i.length:Int)),(24,iI o)],[],[(0,(bY i)),(47,(bf A)),(52,(bf B))],[0,47,52,1000000,0]⟩
def XI:AS:=⟨[(0,.ref 0),(13,iI f),(14,.ref 1075),(117,.ref 47),(118,iI (a.length:Int)),(119,iI e)],[],[(0,(bY E)),(47,(bf a)),(1075,(bf d))],[0,47,1075,1000000,0]⟩
def ZH:AS:=⟨[(0,.ref 0),(13,iI f),(14,.ref 1075),(19,.eptr 0 9 (((gD a e)).toNat) 0),(20,iI t),(117,.ref 47),(118,iI (a.length:Int)),(119,iI e),(161,.bool D)],[],[(0,(bY k)),(47,(bf a)),(1075,(bf d))],[0,47,1075,1000000,0]⟩
def R3:AS:=⟨[(0,.ref 0),(13,iI f),(14,.ref 1075),(117,.ref 47),(118,iI (a.length:Int)),(119,iI e)],[],[(0,(bY k)),(47,(bf a)),(1075,(bf d))],[0,47,1075,1000000,0]⟩
def Vl:AS:=⟨[(0,.ref 0),(2,iI l),(9,.ref 47),(13,iI f),(14,.ref 1075),(76,.ref 47),(77,iI (a.length:Int)),(78,iI b)],[],[(0,(bY i)),(47,(bf a)),(1075,(bf d))],[0,47,1075,1000000,0]⟩
def adt:AS:=⟨[(0,.ref 0),(2,iI l),(7,iI C),(9,.ref 47),(10,.ref 52)],[],[(0,(bY i)),(47,(bf a)),(52,(bf q))],[0,47,52,1000000,0]⟩
def ML:AS:=⟨[(0,.ref 0),(2,iI l),(7,iI u),(8,iI w),(9,.ref 47),(10,.ref 52),(22,.ref 0),(23,iI (i.length:Int)),(24,iI o)],[],[(0,(bY i)),(47,(bf a)),(52,(bf q))],[0,47,52,1000000,0]⟩
abbrev FU:Prop:=∀{u:Int} {w:Int} {o:Int} {a:b7} {q:b7},H u w o a q=some r→LP (qc M g) (qW M g r) IC (cat Tryz.f161 (pn 244)) G (ML i l u w o a q)
abbrev PK:Prop:=∀{f:Int} {b:Int} {d:b7},J f b d=some r→LP (qc M g) (qW M g r) K6 (cat Tryz.f161 (pn 16372)) I (Vl i l a f b d)
abbrev EN:Prop:=∀{e:Int} {k:ed},F e k=some r→LP (qc M g) (qW M g r) Gv (cat Tryz.f161 (pn 32756)) x (R3 a f d e k)
variable{M g r i v2 l u w o a q y z A B C f b d e k t D E G I x H J F}{K:Kn}{n:Nat}
def OD(b:ao K)(a:FU M g r i l G H)(h:AR K n i l o H y z A B=some r):pJ M g r (gU 1959::KZ M g r G) (alp i l o y z A B):=by
 unfold AR at h;exact ag 1 (bu (a h))
def Qc(c:ao K)(b:EN M g r a f d x F)(h:xO K n a f d e F E=some r):pJ M g r (.b 5::gU 262055::Ls M g r x) (XI a f d e E):=by
 unfold xO at h;exact ag 2 (bu (b h))
def ux(l:ao K)(i:EN M g r a f d x F)(h:ms K n a f d e k t F D=some r):pJ M g r (gU 8385743 :: .b 5::gU 262055::Ls M g r x) (ZH a f d e k t D):=by
 unfold ms at h;obtain⟨b,h⟩|⟨b,h⟩:=am h
 ·refine ah 161 b (bv 2 1 (ai 5 ?_));obtain⟨c,h⟩:=aD h;exact au (dF 0 220 9 7 bF bF ({ (gD k ((gD a e)))with size:=t }:bg) (jt c) aT) (aP 8 2 (au (dF 0 220 9 8 bF bF (L:=(List.set k ((gD a e)).toNat ({ (gD k ((gD a e)))with size:=t }:bg))) (j:=((gD a e)).toNat) ({ (gD (List.set k ((gD a e)).toNat ({ (gD k ((gD a e)))with size:=t }:bg)) ((gD a e)))with fixed:=true }:bg) (iQ (jt c)) aT) (ac (ag 0 (Qc l i h)))))
 ·exact ah 161 b (ag 2 (Qc l i h))
def aak(p:ao K)(b:EN M g r a f d x F)(h:B4 K n a f d F e k=some r):pJ M g r (gU 32756::Ls M g r x) (R3 a f d e k):=by
 unfold B4 at h;refine ay 6 7 3 ?_;obtain⟨c,h⟩|⟨c,h⟩:=am h
 ·refine ah 120 c (cQ 8 9 5 3 5 (ai 1 ?_));obtain⟨q,h⟩:=aD h;refine au (cp 47 1 (ak .i64) q) (au (bK 3 0 (ak .i64) (ak .i64) (bE q).2 aT) (ac (ay 2 3 1 (ai 2 ?_))));obtain⟨s,h⟩:=aD h;refine au (cp 0 9 bF s) (ac (ay 2 3 1 (bJ [0,13,14,17,19,117,118,119] [] [0,47,1075] ?_)));obtain⟨u,h⟩:=aD h;obtain⟨t,z,h⟩:=aw h;refine bQ 1 (nu 127 [.eptr 0 9 (((gD a e)).toNat) 0,.eptr 0 9 (((gD a e)).toNat) 0,.eptr 0 9 (((gD a e)).toNat) 0,.agg (co ((gD k ((gD a e))).Item)),.ref 1075,iI e,.eptr 1075 1 (e.toNat) 0,iI (gD d e),iI t]) [] [] [ci bb 170 Tryz.f161 (pn 4192870) 9] (av (vz 3) (bi (bK 176 0 bF bF (bE s).2 aT) (av (vz 2) (bi (cF 1075 1 (ak .i64) (L:=d) u) (bi (bK 3 0 (ak .i64) (ak .i64) (bE u).2 aT) (aj (cj 0 1 135 (Jm p z)) (aj (cg 0) bS))))))) (ay 2 3 1 (ai 3 ?_));obtain⟨i,h⟩|⟨i,h⟩:=am h
  ·exact aG 138 i (ac (ag 0 (ux p b h)))
  ·refine aG 138 i (aP 6 3 ?_);obtain⟨j,h⟩|⟨j,h⟩:=am h
   ·refine aG 141 j (aP 9 3 ?_);obtain⟨v,h⟩:=aD h;refine au (cp 1075 1 (ak .i64) v) (au (bK 3 0 (ak .i64) (ak .i64) (bE v).2 aT) (aP 15 4 ?_));obtain⟨l,h⟩|⟨l,h⟩:=am h
    ·exact aG 150 l (ac (ag 0 (ux p b h)))
    ·refine aG 150 l (aP 18 3 ?_);obtain⟨m,h⟩|⟨m,h⟩:=am h
     ·refine aG 153 m (aP 21 3 ?_);obtain⟨w,h⟩:=aD h;exact au (cp 1075 1 (ak .i64) w) (au (bK 3 0 (ak .i64) (ak .i64) (bE w).2 aT) (ac (ag 0 (ux p b h))))
     ·exact aG 153 m (ac (ag 0 (ux p b h)))
   ·refine aG 141 j (aP 18 12 ?_);obtain⟨o,h⟩|⟨o,h⟩:=am h
    ·refine aG 153 o (aP 21 3 ?_);obtain⟨y,h⟩:=aD h;exact au (cp 1075 1 (ak .i64) y) (au (bK 3 0 (ak .i64) (ak .i64) (bE y).2 aT) (ac (ag 0 (ux p b h))))
    ·exact aG 153 o (ac (ag 0 (ux p b h)))
 ·refine ah 120 c (aL 8 ?_);cases h;exact eO
def ahh(b:ao K)(m:Nat):EN M g r a f d m (rR K n a f d m):=by
 induction m with
 | zero=>exact fun h=>nomatch h
 | succ m c=>exact fun h=>bp (aak b c h)
def abf(z:ao K)(y:PK M g r i l a I J)(h:Cj K n i l a J f b d=some r):pJ M g r (gU 16372::RL M g r I) (Vl i l a f b d):=by
 unfold Cj at h;refine ay 6 7 3 ?_;obtain⟨e,h⟩|⟨e,h⟩:=am h
 ·refine ah 79 e (cQ 8 9 3 3 5 (ai 1 ?_));obtain⟨q,h⟩:=aD h;refine au (cp 47 1 (ak .i64) q) (au (bK 3 0 (ak .i64) (ak .i64) (bE q).2 aT) (ac (ay 2 3 1 (bJ [0,2,9,13,14,15,16,76,77,78] [] [0,47,1075] ?_))));obtain⟨s,h⟩:=aD h;obtain⟨u,h⟩:=aD h;obtain⟨j,h⟩:=aD h;refine bQ 1 (nu 83 [.ref 1075,iI b,.ref 0,iI (gD a b),.eptr 0 9 (((gD a b)).toNat) 0,.eptr 0 9 (((gD a b)).toNat) 0,.eptr 0 9 (((gD a b)).toNat) 0,iI (((gD i ((gD a b))).Item).aC),iI l,.ref 1075,iI b,.eptr 1075 1 (b.toNat) 0,iI (gD d b),iI (aa (l*(gD d b))),iI (aa ((((gD i ((gD a b))).Item).aC)+(aa (l*(gD d b))))),.eptr 1075 1 (b.toNat) 0]) [] [] [eC 1075 ⟨3,1,lm (ak .i64) (List.set d b.toNat (aa ((((gD i ((gD a b))).Item).aC)+(aa (l*(gD d b))))))⟩] (av (vz 4) (bi (cF 0 9 bF (L:=i) s) (av (vz 2) (bi (bK 3 0 bF bF (bE s).2 aT) (av (vz 3) (bi (cF 1075 1 (ak .i64) (L:=d) u) (bi (bK 3 0 (ak .i64) (ak .i64) (bE j).2 aT) (av (vz 2) (bi (cF 1075 1 (ak .i64) (L:=d) j) (aj (dm (m:=0) (dF 1075 3 1 0 (ak .i64) (ak .i64) (aa ((((gD i ((gD a b))).Item).aC)+(aa (l*(gD d b))))) (bE j).2 aT)) bS)))))))))) ?_
  obtain⟨c,v,h⟩:=bU h;refine bC (ks':=gU 1047859 :: .b 3::gU 130983::RL M g r I) 0 ⟨[(0,.ref 0),(2,iI l),(9,.ref 47),(13,iI f),(14,.ref 1075),(15,iI b),(16,iI (gD a b)),(76,.ref 47),(77,iI (a.length:Int)),(78,iI b)],[],[(0,(bY i)),(47,(bf a)),(1075,(bf c))],[0,47,1075,1000000,0]⟩ ?_ (by subst v;kernel_rfl);obtain⟨t,h⟩:=aD h;obtain⟨w,h⟩:=aD h;obtain⟨o,x,h⟩:=aw h;obtain⟨k,h⟩:=aD h;exact bQ 1 (nu 99 [iI f,.ref 0,iI (gD a b),.eptr 0 9 (((gD a b)).toNat) 0,.eptr 0 9 (((gD a b)).toNat) 0,.agg (co ((gD i ((gD a b))).Item)),.ref 1075,iI b,.eptr 1075 1 (b.toNat) 0,iI (gD c b),iI o,.ref 1075,iI b,.eptr 1075 1 (b.toNat) 0,iI (gD c b),iI (aa (o-(gD c b))),iI (aa (f+(aa (o-(gD c b)))))]) [] [] [ci bb 170 Tryz.f161 (pn 1047859) 17] (av (vz 3) (bi (cF 0 9 bF (L:=i) t) (av [.v 0 1] (bi (bK 176 0 bF bF (bE t).2 aT) (av (vz 2) (bi (cF 1075 1 (ak .i64) (L:=c) w) (bi (bK 3 0 (ak .i64) (ak .i64) (bE k).2 aT) (aj (cj 0 1 109 (Jm z x)) (av (vz 2) (bi (cF 1075 1 (ak .i64) (L:=c) k) (bi (bK 3 0 (ak .i64) (ak .i64) (bE k).2 aT) (av (vz 2) (aj (cg 0) bS))))))))))))) (ag 2 (bu (y h)))
 ·exact ah 79 e (xg 4 5 3 7 (ai 1 (au (bz (ak .i64) a) (ac (ag 1 (cc (p:=pn 16378) n (ahh z n h)))))))
def abc(b:ao K)(m:Nat):PK M g r i l a m (wy K n i l a m):=by
 induction m with
 | zero=>exact fun h=>nomatch h
 | succ m c=>exact fun h=>bp (abf b c h)
def Su(c:ao K)(h:sx K n i l a q C=some r):pJ M g r [gU 255] (adt i l a q C):=by
 unfold sx at h;refine ay 6 7 3 (ai 2 (mz 52 ?_));obtain⟨d,b,h⟩:=aw h;exact eZ 1075 (W3 c b) (fa 21) (ac (bX 4 5 3 2 (ai 1 (au (bz (ak .i64) a) (ac (ag 1 (cc (p:=pn 8186) n (abc c n h))))))))
def XH(k:ao K)(j:FU M g r i l G H)(h:BS K n i l H u w o a q=some r):pJ M g r (gU 244::KZ M g r G) (ML i l u w o a q):=by
 unfold BS at h;refine ay 6 7 3 ?_;obtain⟨b,h⟩|⟨b,h⟩:=am h
 ·refine ah 25 b (cQ 8 9 1 3 5 (ai 1 ?_));obtain⟨f,h⟩:=aD h;refine au (cp 0 9 bF f) (au (bK 220 0 bF bF (bE f).2 aT) (ac (ay 5 3 3 ?_)));obtain⟨c,h⟩|⟨c,h⟩:=am h
  ·exact ah 30 c (ag 6 (OD k j h))
  ·refine ah 30 c ?_;obtain⟨v,m,h⟩:=bU h;obtain⟨x,p,h⟩:=bU h;refine bC (ks':=gU 125342::gU 125343 :: .b 1::gU 1959::KZ M g r G) 7 ⟨[(0,.ref 0),(2,iI l),(7,iI v),(8,iI x),(9,.ref 47),(10,.ref 52),(11,iI o),(12,.ptr 12 0),(22,.ref 0),(23,iI (i.length:Int)),(24,iI o)],[(12,bF (gD i o))],[(0,(bY i)),(47,(bf a)),(52,(bf q))],[12,0,47,52,1000000,0]⟩ ?_ (by subst p;subst m;kernel_rfl);refine ai 3 ?_;obtain⟨s,h⟩:=aD h;refine au (cA 47 47 3 1 (ak .i64) (rfl) aT s) (ac (ai 4 ?_));obtain⟨t,h⟩:=aD h;exact au (cA 52 52 3 1 (ak .i64) (rfl) aT t) (ac (ag 1 (OD k j h)))
 ·refine ah 25 b (xg 4 5 3 7 (ai 1 (au (bz (ak .i64) a) (ac ?_))));obtain⟨d,h⟩|⟨d,h⟩:=am h
  ·refine ah 56 d (aL 5 ?_);cases h;exact eO
  ·refine ah 56 d (fO 13 7 7 ?_);obtain⟨e,h⟩|⟨e,h⟩:=am h
   ·exact ah 62 e (ag 2 (Su k h))
   ·exact ah 62 e (ag 2 (Su k h))
def aim(a:ao K)(m:Nat):FU M g r i l m (wo K n i l m):=by
 induction m with
 | zero=>exact fun h=>nomatch h
 | succ m b=>exact fun h=>bp (XH a b h)
def afo(a:ao K)(h:uc K n i v2 l=some r):vw bb 161 [.ref 0,iI v2,iI l] 0 (bY i) (fun v s=>v=.bool r.1∧look 0 s.r=some (bY r.2)):=by
 refine DD (c:=cat Tryz.f161 (pn 1)) Tryz.func161 (by kernel_rfl) _ Tryz.ntmps161 (jt (by kernel_rfl)) fun M g=>(bn ⟨[(0,.ref 0),(1,iI v2),(2,iI l)],[],[(0,(bY i))],[0,1000000]⟩ ?_);unfold uc at h;exact bX 60 61 31 8 (ai 1 (au (bz bF i) (ac (ig 2 0 1 (bJ [0,2,7,8,9,10,22,23,24] [] [0] (fb 47 9 3 1 (fb 52 10 3 1 (ag 0 (cc (p:=pn 122) n (aim a n h))))))))))
end
section
variable[GS](M:Nat→Prop)(f:aC)(r:b7)(k:ee)(v2 g z u:Int)(c:ed)(d a:Int)(b o x q:ed)(i:Bool×ed)(l:Int)(t:b7)(A w B C:Nat)(D:Int→Int→ed→Option b7)(y:Int→ed→Option b7)(E:ed→Option b7)(F:Int→b7→Option b7)
abbrev nr:Cx:=⟨bb,158,M,f⟩
abbrev mJ:=bodyPost bb Tryz.f129 (bR M f (fun v s=>v=.ref 143∧look 143 s.r=some (bf r)))
abbrev pg(a:dn)(s:AS):=VE (nr M f) (mJ M f r) a .normal s
abbrev d9(n:Nat):aq:=.c (cat Tryz.f129 (pn n))
abbrev JL:dn:=[.b 6,d9 4095]
abbrev ado:dn:=kl (nr M f) (mJ M f r) JL (cat Tryz.f129 (pn 32756)) C::JL
abbrev Jy:dn:=[.b 4,d9 1023]
abbrev ae7:dn:=kl (nr M f) (mJ M f r) Jy (cat Tryz.f129 (pn 4088)) B::Jy
abbrev Kl:dn:=[.b 2,d9 511]
abbrev y3:dn:=kl (nr M f) (mJ M f r) Kl (cat Tryz.f129 (pn 4084)) w::Kl
abbrev Jq:dn:=[.b 0,d9 63]
abbrev Vt:dn:=kl (nr M f) (mJ M f r) Jq (cat Tryz.f129 (pn 500)) A::Jq
def afn:AS:=⟨[(1,iI g),(5,.ref 20),(9,iI d),(48,iI (c.length:Int)),(49,iI a)],[],[(20,(bY x))],[20]⟩
def adI:AS:=⟨[(1,iI g),(5,.ref 20),(9,iI d),(11,.eptr 20 9 (a.toNat) 0),(48,iI (c.length:Int)),(49,iI a)],[],[(20,(bY o))],[20]⟩
def R7:AS:=⟨[(12,.ref 143),(144,.ref 20),(145,iI (i.2.length:Int)),(146,iI l)],[],[(20,(bY i.2)),(143,(bf t))],[20,143]⟩
def Nv:AS:=⟨[(1,iI g),(5,.ref 20),(9,iI d)],[],[(20,(bY q))],[20]⟩
def Sr:AS:=⟨[(1,iI g),(5,.ref 20),(9,iI d),(48,iI (c.length:Int)),(49,iI a)],[],[(20,(bY b))],[20]⟩
def agA:AS:=⟨[(1,iI g),(5,.ref 20),(9,iI d)],[],[(20,(bY c))],[20]⟩
def R5:AS:=⟨[(1,iI g),(5,.ref 20),(6,iI z),(21,.sl (lm co k)),(22,iI (k.length:Int)),(23,iI u)],[],[(20,(bY c))],[20]⟩
abbrev Pr:Prop:=∀{z:Int} {u:Int} {c:ed},D z u c=some r→LP (nr M f) (mJ M f r) Jq (cat Tryz.f129 (pn 500)) A (R5 k g z u c)
abbrev BD:Prop:=∀{a:Int} {b:ed},y a b=some r→LP (nr M f) (mJ M f r) Kl (cat Tryz.f129 (pn 4084)) w (Sr g c d a b)
abbrev Ub:Prop:=∀{q:ed},E q=some r→LP (nr M f) (mJ M f r) Jy (cat Tryz.f129 (pn 4088)) B (Nv g d q)
abbrev Vn:Prop:=∀{l:Int} {t:b7},F l t=some r→LP (nr M f) (mJ M f r) JL (cat Tryz.f129 (pn 32756)) C (R7 i l t)
variable{M f r k v2 g z u c d a b o x q i l t A w B C D y E F}{K:Kn}{n:Nat}
def Vf(e:ao K)(b:BD M f r g c d w y)(h:yb K n g c d a y x=some r):pg M f r (.b 3::d9 32679::y3 M f r w) (afn g c d a x):=by
 unfold yb at h;exact ag 2 (bu (b h))
def Qp(j:ao K)(i:BD M f r g c d w y)(h:zf K n g c d a y o=some r):pg M f r (d9 522855 :: .b 3::d9 32679::y3 M f r w) (adI g c d a o):=by
 unfold zf at h;refine ai 4 ?_;obtain⟨b,h⟩:=aD h;refine au (bK 4 8 bF bF (jt b) aT) (aP 6 1 ?_);obtain⟨e,h⟩|⟨e,h⟩:=am h
 ·exact aG 127 e (aP 14 8 (au (dF 20 220 9 8 bF bF ({ (gD o a)with fixed:=true }:bg) (jt b) aT) (ac (ag 0 (Vf j i h)))))
 ·exact aG 127 e (aP 9 3 (au (bK 3 5 bF bF (jt b) aT) (aP 14 4 (au (dF 20 220 9 8 bF bF ({ (gD o a)with fixed:=(((gD o a).factor) == 0) }:bg) (jt b) aT) (ac (ag 0 (Vf j i h)))))))
def ah6(e:ao K)(d:Vn M f r i C F)(h:Cl K n i F l t=some r):pg M f r (d9 32756::ado M f r C) (R7 i l t):=by
 unfold Cl at h;refine ay 6 7 3 ?_;obtain⟨a,h⟩|⟨a,h⟩:=am h
 ·refine ah 147 a (cQ 8 9 7 3 5 (ai 1 ?_));obtain⟨b,h⟩:=aD h;refine au (cp 20 9 bF b) (au (bK 220 0 bF bF (bE b).2 aT) (ac (ai 4 ?_)));obtain⟨c,h⟩:=aD h;exact au (cp 143 1 (ak .i64) c) (au (dF 143 3 1 0 (ak .i64) (ak .i64) ((gD i.2 l).size) (bE c).2 aT) (ac (ag 2 (bu (d h)))))
 ·refine ah 147 a (aL 8 ?_);cases h;exact eO
def X5(a:ao K)(m:Nat):Vn M f r i m (yL K n i m):=by
 induction m with
 | zero=>exact fun h=>nomatch h
 | succ m b=>exact fun h=>bp (ah6 a b h)
def aaC(m:ao K)(k:Ub M f r g d B E)(h:Bj K n g d E q=some r):pg M f r (d9 4088::ae7 M f r B) (Nv g d q):=by
 unfold Bj at h;refine bX 4 5 3 2 (ai 3 ?_);obtain⟨i,b,h⟩:=aw h;refine sV 20 0 (afo m b) (ac ?_);obtain⟨a,h⟩|⟨a,h⟩:=am h
 ·exact ah 140 a (ag 5 (bu (k h)))
 ·refine ah 140 a (gB 2 3 6 (ai 1 (au (bz bF i.2) ?_)));obtain⟨c,h⟩:=aD h;refine o5 (ak .i64) (0:Int) 72 (.tmp 142) (.tmp 142) 143 (e:=3) (sz:=1) (zc:=[iI 0]) (kd:=.i64) (kd':=.i64) c (ac ?_);obtain⟨l,j,h⟩:=bU h;refine bC (ks':=[d9 8188,d9 8189,d9 4095]) 2 ⟨[(5,.ref 20),(12,.ref 143)],[],[(20,(bY i.2)),(143,(bf l))],[20,143]⟩ ?_ (by subst j;kernel_rfl);exact ai 1 (au (bz bF i.2) (ac (ag 1 (cc (p:=pn 16378) n (X5 m n h)))))
def X9(a:ao K)(m:Nat):Ub M f r g d m (s9 K n g d m):=by
 induction m with
 | zero=>exact fun h=>nomatch h
 | succ m b=>exact fun h=>bp (aaC a b h)
def agw(u:ao K)(t:BD M f r g c d w y)(h:Cb K n g c d y a b=some r):pg M f r (d9 4084::y3 M f r w) (Sr g c d a b):=by
 unfold Cb at h;refine ay 6 7 3 ?_;obtain⟨q,h⟩|⟨q,h⟩:=am h
 ·refine ah 50 q (cQ 18 19 3 3 7 (ai 2 ?_));obtain⟨e,h⟩:=aD h;refine au (cp 20 9 bF e) (ac (ay 5 3 3 ?_));obtain⟨s,h⟩|⟨s,h⟩:=am h
  ·refine ah 56 s (ay 4 5 2 (bJ [1,5,9,11,48,49] [] [20] (bQ 2 (nu 57 [.eptr 20 9 (a.toNat) 0,.eptr 20 9 (a.toNat) 0,.eptr 20 9 (a.toNat) 0,.eptr 20 9 (a.toNat) 0,.eptr 20 9 (a.toNat) 0,.eptr 20 9 (a.toNat) 1,iI (((gD b a).Item).Grow),.eptr 20 9 (a.toNat) 0,.eptr 20 9 (a.toNat) 0,.eptr 20 9 (a.toNat) 0,.eptr 20 9 (a.toNat) 1,iI (((gD b a).Item).Grow),.eptr 20 9 (a.toNat) 0,.eptr 20 9 (a.toNat) 5,.eptr 20 9 (a.toNat) 0,.eptr 20 9 (a.toNat) 6]) [] [] [eC 20 ⟨220,9,lm bF (List.set b a.toNat ({ (gD b a)with factor:=((gD b a).Item).Grow }:bg))⟩,eC 20 ⟨220,9,lm bF (List.set (List.set b a.toNat ({ (gD b a)with factor:=((gD b a).Item).Grow }:bg)) a.toNat ({ (gD (List.set b a.toNat ({ (gD b a)with factor:=((gD b a).Item).Grow }:bg)) a)with weight:=((gD b a).Item).Grow }:bg))⟩] (av [.v 0 1,.v 0 2,.v 0 1,.v 0 1,.v 0 1,.v 0 1] (bi (bK 3 1 bF bF (bE e).2 aT) (av [.v 0 2,.v 0 2,.v 0 2,.v 0 2] (bi (bK 3 1 bF bF (bE e).2 aT) (av [.v 0 2,.v 0 1] (aj (dm (m:=0) (dF 20 220 9 5 bF bF ({ (gD b a)with factor:=((gD b a).Item).Grow }:bg) (bE e).2 aT)) (av [.v 1 2,.v 1 1] (aj (dm (m:=1) (dF 20 220 9 6 bF bF (L:=(List.set b a.toNat ({ (gD b a)with factor:=((gD b a).Item).Grow }:bg))) (j:=a.toNat) ({ (gD (List.set b a.toNat ({ (gD b a)with factor:=((gD b a).Item).Grow }:bg)) a)with weight:=((gD b a).Item).Grow }:bg) (iQ (bE e).2) aT)) bS)))))))) ?_)))
   obtain⟨i,l,h⟩:=bU h;refine bC (ks':=d9 4182837::d9 522855 :: .b 3::d9 32679::y3 M f r w) 0 ⟨[(1,iI g),(5,.ref 20),(9,iI d),(11,.eptr 20 9 (a.toNat) 0),(48,iI (c.length:Int)),(49,iI a)],[],[(20,(bY i))],[20]⟩ ?_ (by subst l;kernel_rfl);exact bQ 1 (nu 73 [.eptr 20 9 (a.toNat) 0,.eptr 20 9 (a.toNat) 0,.eptr 20 9 (a.toNat) 0,.eptr 20 9 (a.toNat) 0,.eptr 20 9 (a.toNat) 0,iI (((gD i a).Item).aC),.eptr 20 9 (a.toNat) 0,.eptr 20 9 (a.toNat) 0,.eptr 20 9 (a.toNat) 7,iI ((gD i a).size),.bool (decide ((((gD i a).Item).aC)>((gD i a).size))),.eptr 20 9 (a.toNat) 0,.eptr 20 9 (a.toNat) 8]) [] [] [eC 20 ⟨220,9,lm bF (List.set i a.toNat ({ (gD i a)with fixed:=(decide ((((gD i a).Item).aC)>((gD i a).size))) }:bg))⟩] (av (vz 5) (bi (bK 3 0 bF bF (L:=i) (j:=a.toNat) (by rw[←l];exact(iQ (iQ (bE e).2))) aT) (av (vz 3) (bi (bK 3 7 bF bF (L:=i) (j:=a.toNat) (by rw[←l];exact(iQ (iQ (bE e).2))) aT) (av [.v 0 1,.v 0 2,.v 0 1] (aj (dm (m:=0) (dF 20 220 9 8 bF bF (L:=i) (j:=a.toNat) ({ (gD i a)with fixed:=(decide ((((gD i a).Item).aC)>((gD i a).size))) }:bg) (by rw[←l];exact(iQ (iQ (bE e).2))) aT)) bS)))))) (ag 0 (Qp u t h))
  ·refine ah 56 s (ay 6 7 2 (bJ [1,5,9,11,48,49] [] [20] (bQ 2 (nu 86 [.eptr 20 9 (a.toNat) 0,.eptr 20 9 (a.toNat) 0,.eptr 20 9 (a.toNat) 0,.eptr 20 9 (a.toNat) 0,.eptr 20 9 (a.toNat) 0,.eptr 20 9 (a.toNat) 2,iI (((gD b a).Item).Shrink),.eptr 20 9 (a.toNat) 0,.eptr 20 9 (a.toNat) 0,.eptr 20 9 (a.toNat) 0,.eptr 20 9 (a.toNat) 0,iI (((gD b a).Item).aC),.eptr 20 9 (a.toNat) 0,.eptr 20 9 (a.toNat) 0,.eptr 20 9 (a.toNat) 0,.eptr 20 9 (a.toNat) 2,iI (((gD b a).Item).Shrink),iI (aa ((((gD b a).Item).aC)*(((gD b a).Item).Shrink))),iI (aa (Int.tdiv (aa ((((gD b a).Item).aC)*(((gD b a).Item).Shrink))) 1000)),.eptr 20 9 (a.toNat) 0,.eptr 20 9 (a.toNat) 5,.eptr 20 9 (a.toNat) 0,.eptr 20 9 (a.toNat) 6]) [] [] [eC 20 ⟨220,9,lm bF (List.set b a.toNat ({ (gD b a)with factor:=((gD b a).Item).Shrink }:bg))⟩,eC 20 ⟨220,9,lm bF (List.set (List.set b a.toNat ({ (gD b a)with factor:=((gD b a).Item).Shrink }:bg)) a.toNat ({ (gD (List.set b a.toNat ({ (gD b a)with factor:=((gD b a).Item).Shrink }:bg)) a)with weight:=(aa (Int.tdiv (aa ((((gD b a).Item).aC)*(((gD b a).Item).Shrink))) 1000)) }:bg))⟩] (av [.v 0 1,.v 0 2,.v 0 1,.v 0 1,.v 0 1,.v 0 1] (bi (bK 3 2 bF bF (bE e).2 aT) (av [.v 0 2,.v 0 2,.v 0 2,.v 0 2] (bi (bK 3 0 bF bF (bE e).2 aT) (av [.v 0 2,.v 0 2,.v 0 2,.v 0 2] (bi (bK 3 2 bF bF (bE e).2 aT) (av [.v 0 2,.v 0 2,.v 0 2,.v 0 1] (aj (dm (m:=0) (dF 20 220 9 5 bF bF ({ (gD b a)with factor:=((gD b a).Item).Shrink }:bg) (bE e).2 aT)) (av [.v 1 2,.v 1 1] (aj (dm (m:=1) (dF 20 220 9 6 bF bF (L:=(List.set b a.toNat ({ (gD b a)with factor:=((gD b a).Item).Shrink }:bg))) (j:=a.toNat) ({ (gD (List.set b a.toNat ({ (gD b a)with factor:=((gD b a).Item).Shrink }:bg)) a)with weight:=(aa (Int.tdiv (aa ((((gD b a).Item).aC)*(((gD b a).Item).Shrink))) 1000)) }:bg) (iQ (bE e).2) aT)) bS)))))))))) ?_)))
   obtain⟨k,o,h⟩:=bU h;refine bC (ks':=d9 4182839::d9 522855 :: .b 3::d9 32679::y3 M f r w) 0 ⟨[(1,iI g),(5,.ref 20),(9,iI d),(11,.eptr 20 9 (a.toNat) 0),(48,iI (c.length:Int)),(49,iI a)],[],[(20,(bY k))],[20]⟩ ?_ (by subst o;kernel_rfl);exact bQ 1 (nu 109 [.eptr 20 9 (a.toNat) 0,.eptr 20 9 (a.toNat) 0,.eptr 20 9 (a.toNat) 0,.eptr 20 9 (a.toNat) 0,.eptr 20 9 (a.toNat) 0,iI (((gD k a).Item).aC),.eptr 20 9 (a.toNat) 0,.eptr 20 9 (a.toNat) 0,.eptr 20 9 (a.toNat) 7,iI ((gD k a).size),.bool (decide ((((gD k a).Item).aC)<((gD k a).size))),.eptr 20 9 (a.toNat) 0,.eptr 20 9 (a.toNat) 8]) [] [] [eC 20 ⟨220,9,lm bF (List.set k a.toNat ({ (gD k a)with fixed:=(decide ((((gD k a).Item).aC)<((gD k a).size))) }:bg))⟩] (av (vz 5) (bi (bK 3 0 bF bF (L:=k) (j:=a.toNat) (by rw[←o];exact(iQ (iQ (bE e).2))) aT) (av (vz 3) (bi (bK 3 7 bF bF (L:=k) (j:=a.toNat) (by rw[←o];exact(iQ (iQ (bE e).2))) aT) (av [.v 0 1,.v 0 2,.v 0 1] (aj (dm (m:=0) (dF 20 220 9 8 bF bF (L:=k) (j:=a.toNat) ({ (gD k a)with fixed:=(decide ((((gD k a).Item).aC)<((gD k a).size))) }:bg) (by rw[←o];exact(iQ (iQ (bE e).2))) aT)) bS)))))) (ag 0 (Qp u t h))
 ·exact ah 50 q (ag 7 (cc (p:=pn 2044) n (X9 u n h)))
def WS(a:ao K)(m:Nat):BD M f r g c d m (y8 K n g c d m):=by
 induction m with
 | zero=>exact fun h=>nomatch h
 | succ m b=>exact fun h=>bp (agw a b h)
def Sd(a:ao K)(h:tD K n g c d=some r):pg M f r [d9 255] (agA g c d):=by
 unfold tD at h;exact bX 4 5 3 2 (ai 1 (au (bz bF c) (ac (ag 1 (cc (p:=pn 2042) n (WS a n h))))))
def aeQ(l:ao K)(t:Pr M f r k g A D)(h:BB K n k g D z u c=some r):pg M f r (d9 500::Vt M f r A) (R5 k g z u c):=by
 unfold BB at h;refine ay 6 7 3 ?_;obtain⟨d,h⟩|⟨d,h⟩:=am h
 ·refine ah 24 d (cQ 8 9 1 3 5 (ai 1 ?_));obtain⟨o,h⟩:=aD h;refine au (bD co co o (Gi) aT) (ac (ay 2 3 1 (bJ [1,5,6,7,8,21,22,23] [8] [20] ?_)));obtain⟨a,p,h⟩:=aw h;obtain⟨b,q,h⟩:=aw h;obtain⟨i,h⟩:=aD h;refine bQ 1 (nu 28 [.ref 20,iI u,.agg (co (gD k u)),.agg (co a),.agg (co (gD k u)),iI b,.agg (bF ({ iV with Item:=a,size:=b }:bg)),.eptr 20 9 (u.toNat) 0]) [] [] [eC 20 ⟨220,9,lm bF (List.set c u.toNat ({ iV with Item:=a,size:=b }:bg))⟩] (av (vz 3) (aj (cj 0 1 31 (PB l p)) (av [.v 0 1] (aj (cj 0 1 33 (Fc l q)) (av [.v 0 1] (bi (cF 20 9 bF (L:=c) i) (aj (dm (m:=0) (dF 20 220 9 0 bF bF ({ iV with Item:=a,size:=b }:bg) (bE i).2 aT)) bS))))))) ?_;obtain⟨v,s,h⟩:=bU h;refine bC (ks':=d9 32051 :: .b 1::d9 4007::Vt M f r A) 0 ⟨[(1,iI g),(5,.ref 20),(6,iI z),(7,iI u),(21,.sl (lm co k)),(22,iI (k.length:Int)),(23,iI u)],[],[(20,(bY v))],[20]⟩ ?_ (by subst s;kernel_rfl)
  refine ai 3 ?_;obtain⟨j,h⟩:=aD h;exact au (cp 20 9 bF j) (aP 5 1 (au (bK 3 7 bF bF (bE j).2 aT) (ac (ag 2 (bu (t h))))))
 ·refine ah 24 d (gB 13 7 10 ?_);obtain⟨e,h⟩|⟨e,h⟩:=am h
  ·exact ah 46 e (ag 2 (Sd l h))
  ·exact ah 46 e (ag 2 (Sd l h))
def ahp(a:ao K)(m:Nat):Pr M f r k g m (AG K n k g m):=by
 induction m with
 | zero=>exact fun h=>nomatch h
 | succ m b=>exact fun h=>bp (aeQ a b h)
def U4(d:ao K)(h:jy K n k v2=some r):ba bb 129 [.sl (lm co k),iI v2] (fun v s=>v=.ref 143∧look 143 s.r=some (bf r)):=by
 refine bI (cat Tryz.f129 (pn 1)) Tryz.func129 Tryz.ntmps129 fun M f=>(bn ⟨[(0,.sl (lm co k)),(1,iI v2)],[],[],[]⟩ ?_);unfold jy at h;obtain⟨g,a,h⟩:=bU h;refine bC (ks':=[d9 14,d9 15]) 5 ⟨[(0,.sl (lm co k)),(1,iI g)],[],[],[]⟩ ?_ (by subst a;kernel_rfl);refine ai 1 (au (bz co k) ?_);obtain⟨b,h⟩:=aD h;refine o5 bF (iV:bg) 218 (.tmp 19) (.tmp 19) 20 (e:=220) (sz:=9) (zc:=bF iV) (kd:=.i64) (kd':=.i64) b (ac ?_);obtain⟨v4,c,h⟩:=bU h;refine bC (ks':=[d9 124,d9 125,d9 63]) 4 ⟨[(0,.sl (lm co k)),(1,iI g),(5,.ref 20),(6,iI 0)],[],[(20,(bY v4))],[20]⟩ ?_ (by subst c;kernel_rfl);exact ai 1 (au (bz co k) (ac (ag 1 (cc (p:=pn 250) n (ahp d n h)))))
end
section
variable[GS](M:Nat→Prop)(q:aC)(r:c6×Int×Int×Int×dt)(D:ab)(v2:Int)(C:bB)(v4 v5:Int)(v6:dt)(B:dO)(y t:Int)(w:b7)(A:ee)(b d:b7)(f:c6)(j l:Int)(o:dt)(g:ae×Int×Int×dt)(u E F G:Int)(i:b7)(z a:Int)(x:c6)(I J:Nat)(N:Int→Int→b7→ee→b7→b7→c6→Int→Int→dt→Option g7)(O:Int→Int→c6→Option g7)
abbrev vV:Cx:=⟨bb,170,M,q⟩
abbrev xc:=bodyPost bb Tryz.f80 (bR M q (fun v s=>v=.tup [.ref 440010,iI r.2.1]∧cw s.o [(af r.2.2.1 r.2.2.2.1)]∧look 440009 s.r=some (bk r.2.2.2.2)∧look 440010 s.r=some (bt r.1)))
abbrev EX(a:dn)(s:AS):=VE (vV M q) (xc M q r) a .normal s
abbrev eS(n:Nat):aq:=.c (cat Tryz.f80 (pn n))
abbrev JF:dn:=[.b 2,eS 4095]
abbrev J5:dn:=kl (vV M q) (xc M q r) JF (cat Tryz.f80 (pn 32756)) J::JF
abbrev Gd:dn:=[.b 0,eS 511]
abbrev AB:dn:=kl (vV M q) (xc M q r) Gd (cat Tryz.f80 (pn 4084)) I::Gd
def Xg:AS:=⟨[(1,iI v2),(3,.ptr 3 0),(5,.ptr 5 0),(8,.ref 116),(9,.ref 84),(10,.ref 99),(11,.ref 88),(12,iI y),(13,.ref 28),(16,.ptr 16 0),(18,iI u),(19,.ptr 19 0),(30,.ref 1030),(31,iI (B.length:Int)),(32,iI t)],[(3,az D),(5,bP C),(16,aH g.1),(19,co (⟨G,E,F,0,1048576⟩:bH)),(af g.2.1 g.2.2.1)],[(28,(bf w)),(84,⟨176,5,lm co A⟩),(88,(bf b)),(99,(bf d)),(116,(bt f)),(1030,(bx B)),(440009,(bk g.2.2.2))],[3,5,16,19,440001,28,84,88,99,116,1030,440009,1440001,440001]⟩
def R9:AS:=⟨[(8,.ref 116),(10,.ref 99),(11,.ref 88),(13,.ref 1125),(20,iI z),(127,iI (f.length:Int)),(128,iI a)],[(af j l)],[(88,(bf b)),(99,(bf d)),(116,(bt x)),(1125,(bf i)),(440009,(bk o))],[440001,88,99,116,1125,440009,1440001,440001]⟩
def afq:AS:=⟨[(8,.ref 116),(10,.ref 99),(11,.ref 88),(13,.ref 1125)],[(af j l)],[(88,(bf b)),(99,(bf d)),(116,(bt f)),(1125,(bf i)),(440009,(bk o))],[440001,88,99,116,1125,440009,1440001,440001]⟩
def Oq:AS:=⟨[(1,iI v2),(3,.ptr 3 0),(5,.ptr 5 0),(8,.ref 116),(9,.ref 84),(10,.ref 99),(11,.ref 88),(12,iI y),(13,.ref 28),(30,.ref 1030),(31,iI (B.length:Int)),(32,iI t)],[(3,az D),(5,bP C),(af j l)],[(28,(bf w)),(84,⟨176,5,lm co A⟩),(88,(bf b)),(99,(bf d)),(116,(bt f)),(1030,(bx B)),(440009,(bk o))],[3,5,440001,28,84,88,99,116,1030,440009,1440001,440001]⟩
abbrev Hb:Prop:=∀{y:Int} {t:Int} {w:b7} {A:ee} {b:b7} {d:b7} {f:c6} {j:Int} {l:Int} {o:dt},N y t w A b d f j l o=some r→LP (vV M q) (xc M q r) Gd (cat Tryz.f80 (pn 4084)) I (Oq D v2 C B y t w A b d f j l o)
abbrev Vu:Prop:=∀{z:Int} {a:Int} {x:c6},O z a x=some r→LP (vV M q) (xc M q r) JF (cat Tryz.f80 (pn 32756)) J (R9 b d f j l o i z a x)
variable{M q r D v2 C v4 v5 v6 B y t w A b d f j l o g u E F G i z a x I J N O}{K:Kn}{n:Nat}[SG q][PF C.Layout]
def TF(J:ao K)(L:Hb M q r D v2 C B I N)(h:oA K n D v2 C B y t w A b d f g u E F N G=some r):EX M q r (eS 4182847 :: .b 1::eS 32679::AB M q r I) (Xg D v2 C B y t w A b d f g u E F G):=by
 unfold oA at h;refine ay 2 3 1 (ai 3 ?_);obtain⟨j,h⟩:=aD h;refine au (cA 84 84 176 5 co (rfl) (Gi) j) (ac ?_);obtain⟨i,k,h⟩:=bU h;refine bC (ks':=eS 16731390::eS 16731391 :: .b 1::eS 32679::AB M q r I) 1 ⟨[(1,iI v2),(3,.ptr 3 0),(5,.ptr 5 0),(8,.ref 116),(9,.ref 84),(10,.ref 99),(11,.ref 88),(12,iI y),(13,.ref 28),(16,.ptr 16 0),(18,iI u),(19,.ptr 19 0),(30,.ref 1030),(31,iI (B.length:Int)),(32,iI t)],[(3,az D),(5,bP C),(16,aH g.1),(19,co (⟨G,E,F,0,1048576⟩:bH)),(af g.2.1 g.2.2.1)],[(28,(bf w)),(84,⟨176,5,lm co i⟩),(88,(bf b)),(99,(bf d)),(116,(bt f)),(1030,(bx B)),(440009,(bk g.2.2.2))],[3,5,16,19,440001,28,84,88,99,116,1030,440009,1440001,440001]⟩ ?_ (by subst k;kernel_rfl);refine ai 3 ?_;obtain⟨l,h⟩:=aD h;refine au (cA 88 88 3 1 (ak .i64) (rfl) aT l) (ac (ay 2 3 1 (bJ [1,3,5,8,9,10,11,12,13,16,18,19,30,31,32] [3,5,16,19,440001] [28,84,88,99,116,1030,440009] ?_)))
 obtain⟨a,o,h⟩:=aw h;obtain⟨c,p,h⟩:=aw h;obtain⟨s,h⟩:=aD h;refine bQ 2 (nu 89 [.ref 99,.ptr 16 61,.agg (cU g.1.Before),iI a,.agg (aH g.1),iI c,iI (aa (a+c)),iI u,iI (aa ((aa (a+c))+u)),.sl (lm (ak .i64) [(aa ((aa (a+c))+u))])]) [] [] [f9 99 99 ⟨3,1,lm (ak .i64) (d++[(aa ((aa (a+c))+u))])⟩,ci bb 170 Tryz.f80 (pn 33462782) 11] (av [.v 0 1,.v 0 2,.v 0 2] (aj (cj 0 2 92 (nc J o)) (av [.v 0 2] (aj (cj 0 1 94 (RF J p)) (av [.v 0 2,.v 0 2,.v 0 2,.v 0 1] (aj (dm (m:=0) (cA 99 99 3 1 (ak .i64) (rfl) aT s)) (aj (cg 1) bS))))))) (ay 2 3 1 (ai 3 (au (bz (ak .i64) (d++[(aa ((aa (a+c))+u))])) (aP 5 1 ?_))));obtain⟨e,h⟩:=aD h;refine au (cp 99 1 (ak .i64) e) (au (bK 3 0 (ak .i64) (ak .i64) (bE e).2 aT) (ac ?_));obtain⟨O,v,h⟩:=bU h;refine bC (ks':=eS 133851134::eS 133851135 :: .b 1::eS 32679::AB M q r I) 1 ⟨[(1,iI v2),(3,.ptr 3 0),(5,.ptr 5 0),(8,.ref 116),(9,.ref 84),(10,.ref 99),(11,.ref 88),(12,iI O),(13,.ref 28),(16,.ptr 16 0),(19,.ptr 19 0),(30,.ref 1030),(31,iI (B.length:Int)),(32,iI t)],[(3,az D),(5,bP C),(16,aH g.1),(19,co (⟨G,E,F,0,1048576⟩:bH)),(af g.2.1 g.2.2.1)],[(28,(bf w)),(84,⟨176,5,lm co i⟩),(88,⟨3,1,lm (ak .i64) (b++[u])⟩),(99,⟨3,1,lm (ak .i64) (d++[(aa ((aa (a+c))+u))])⟩),(116,(bt f)),(1030,(bx B)),(440009,(bk g.2.2.2))],[3,5,16,19,440001,28,84,88,99,116,1030,440009,1440001,440001]⟩ ?_ (by subst v;kernel_rfl)
 refine ai 2 ?_;obtain⟨P,x,h⟩:=aw h;refine aS (Fc J x) (aP 4 1 ?_);obtain⟨z,h⟩:=aD h;refine au (cA 112 28 3 1 (ak .i64) (rfl) aT z) (ac (ai 2 (au (gz aQ ([g.1]:c6) (new:=[aH g.1]) (by simp only[rv,zt,dP])) ?_)));obtain⟨H,h⟩:=aD h;exact au (cA 116 116 44 67 aQ (rfl) (jZ) H) (ac (ag 2 (bu (L h))))
def aih(F:ao K)(C:Vu M q r b d f j l o i J O)(h:CT K n b d f j l o i O z a x=some r):EX M q r (eS 32756::J5 M q r J) (R9 b d f j l o i z a x):=by
 unfold CT at h;refine ay 6 7 3 ?_;obtain⟨c,h⟩|⟨c,h⟩:=am h
 ·refine ah 129 c (cQ 18 19 3 3 7 (bJ [8,10,11,13,20,21,127,128] [440001] [88,99,116,1125,440009] ?_));obtain⟨g,h⟩:=aD h;obtain⟨p,h⟩:=aD h;obtain⟨e,h⟩:=aD h;refine bQ 1 (nu 131 [.ref 116,iI a,.ref 1125,iI a,.eptr 1125 1 (a.toNat) 0,iI (gD i a),.ref 88,iI a,.eptr 88 1 (a.toNat) 0,iI (gD b a),iI (aa ((gD i a)+(gD b a))),.eptr 116 67 (a.toNat) 0,.eptr 116 67 (a.toNat) 5]) [] [] [eC 116 ⟨44,67,lm aQ (List.set x a.toNat ({ (gD x a)with H:=(aa ((gD i a)+(gD b a))) }:ae))⟩] (av (vz 4) (bi (cF 1125 1 (ak .i64) (L:=i) g) (bi (bK 3 0 (ak .i64) (ak .i64) (bE g).2 aT) (av (vz 2) (bi (cF 88 1 (ak .i64) (L:=b) p) (bi (bK 3 0 (ak .i64) (ak .i64) (bE p).2 aT) (av [.v 0 1] (aj (fi (lo:=0) (k:=2) (db ⟨(by kernel_rfl),(de (cF 116 67 aQ (L:=x) e) (by kernel_rfl))⟩ (db ⟨(by kernel_rfl),(de (cF 116 67 aQ (L:=(List.set x a.toNat ({ (gD x a)with H:=(aa ((gD i a)+(gD b a))) }:ae))) e) (by kernel_rfl))⟩ fI))) (av [.v 0 1] (aj (dm (m:=0) (dF 116 44 67 5 aQ aH ({ (gD x a)with H:=(aa ((gD i a)+(gD b a))) }:ae) (bE e).2 (dP))) bS)))))))))) ?_
  obtain⟨w,y,h⟩:=bU h;refine bC (ks':=eS 4192870::eS 4192871 :: .b 3::eS 262055::J5 M q r J) 1 ⟨[(8,.ref 116),(10,.ref 99),(11,.ref 88),(13,.ref 1125),(20,iI z),(21,iI a),(127,iI (f.length:Int)),(128,iI a)],[(af j l)],[(88,(bf b)),(99,(bf d)),(116,(bt w)),(1125,(bf i)),(440009,(bk o))],[440001,88,99,116,1125,440009,1440001,440001]⟩ ?_ (by subst y;kernel_rfl);refine ai 5 ?_;obtain⟨s,h⟩:=aD h;refine au (cp 116 67 aQ s) (aP 7 1 (au (bK 41 61 aQ aH (bE s).2 (dP)) ?_));obtain⟨D,A,h⟩:=aw h;refine aS (nc F A) (aP 10 1 ?_);obtain⟨t,h⟩:=aD h;refine au (cp 116 67 aQ t) (aP 12 1 (au (dF 116 44 67 3 aQ aH ({ (gD w a)with Y:=(aa (z+D)) }:ae) (bE t).2 (dP)) (ac ?_)));obtain⟨E,B,h⟩:=bU h;refine bC (ks':=eS 4192871 :: .b 3::eS 262055::J5 M q r J) 0 ⟨[(8,.ref 116),(10,.ref 99),(11,.ref 88),(13,.ref 1125),(20,iI z),(21,iI a),(127,iI (f.length:Int)),(128,iI a)],[(af j l)],[(88,(bf b)),(99,(bf d)),(116,(bt E)),(1125,(bf i)),(440009,(bk o))],[440001,88,99,116,1125,440009,1440001,440001]⟩ ?_ (by subst B;kernel_rfl)
  obtain⟨u,h⟩:=aD h;obtain⟨v,h⟩:=aD h;exact bQ 1 (nu 156 [iI z,.ref 1125,iI a,.eptr 1125 1 (a.toNat) 0,iI (gD i a),.ref 99,iI a,.eptr 99 1 (a.toNat) 0,iI (gD d a),iI (aa ((gD i a)+(gD d a))),iI (aa (z+(aa ((gD i a)+(gD d a)))))]) [] [] [ci bb 170 Tryz.f80 (pn 4192871) 11] (av (vz 3) (bi (cF 1125 1 (ak .i64) (L:=i) u) (bi (bK 3 0 (ak .i64) (ak .i64) (bE u).2 aT) (av (vz 2) (bi (cF 99 1 (ak .i64) (L:=d) v) (bi (bK 3 0 (ak .i64) (ak .i64) (bE v).2 aT) (av (vz 2) (aj (cg 0) bS)))))))) (ag 2 (bu (C h)))
 ·refine ah 129 c (aL 8 (qN 116 440010 ?_));cases h;exact Vv
def adN(a:ao K)(m:Nat):Vu M q r b d f j l o i m (wO K n b d f j l o i m):=by
 induction m with
 | zero=>exact fun h=>nomatch h
 | succ m c=>exact fun h=>bp (aih a c h)
def OC(a:ao K)(h:jY K n b d f j l o i=some r):EX M q r [eS 1023] (afq b d f j l o i):=by
 unfold jY at h;exact bX 12 13 7 4 (ai 1 (au (bz aQ f) (ac (ag 1 (cc (p:=pn 16378) n (adN a n h))))))
def XV(a:ao K)(p:Hb M q r D v2 C B I N)(h:DM K n D v2 C B N y t w A b d f j l o=some r):EX M q r (eS 4084::AB M q r I) (Oq D v2 C B y t w A b d f j l o):=by
 unfold DM at h;refine ay 6 7 3 ?_;obtain⟨c,h⟩|⟨c,h⟩:=am h
 ·refine ah 33 c (cQ 8 9 1 3 5 (ai 0 ?_));obtain⟨k,h⟩:=aD h;refine au (cp 1030 59 aM k) (au (bK 48 0 aM az (bE k).2 (dV)) (ac (ay 2 3 1 (ai 4 ?_))));obtain⟨g,m,h⟩:=aw h;refine pG (a.dp m).2 ?_ (a.dp m).1;refine ac (ay 2 3 1 (ai 3 ?_));obtain⟨Q,s,h⟩:=aw h;refine aS (mZ a s) (ac ?_);obtain⟨u,v,h⟩:=bU h;obtain⟨O,x,h⟩:=bU h;obtain⟨P,z,h⟩:=bU h;obtain⟨E,G,h⟩:=bU h;obtain⟨F,H,h⟩:=bU h;refine bC (ks':=eS 8365693::eS 4182847 :: .b 1::eS 32679::AB M q r I) 7 ⟨[(1,iI v2),(3,.ptr 3 0),(5,.ptr 5 0),(8,.ref 116),(9,.ref 84),(10,.ref 99),(11,.ref 88),(12,iI y),(13,.ref 28),(15,.ptr 15 0),(16,.ptr 16 0),(18,iI u),(19,.ptr 19 0),(30,.ref 1030),(31,iI (B.length:Int)),(32,iI t),(75,.bool O)],[(3,az D),(5,bP C),(15,az (gD B t)),(16,aH g.1),(19,co (⟨P,E,F,0,1048576⟩:bH)),(af g.2.1 g.2.2.1)],[(28,(bf w)),(84,⟨176,5,lm co A⟩),(88,(bf b)),(99,(bf d)),(116,(bt f)),(1030,(bx B)),(440009,(bk g.2.2.2))],[3,5,15,16,19,440001,28,84,88,99,116,1030,440009,1440001,440001]⟩ ?_ (by subst H;subst G;subst z;subst x;subst v;kernel_rfl)
  obtain⟨e,h⟩|⟨e,h⟩:=am h
  ·refine ah 75 e (bv 2 1 (ai 3 ?_));obtain⟨R,J,h⟩:=aw h;exact aS (xv a J) (ac (ag 0 (TF a p h)))
  ·exact ah 75 e (ag 2 (TF a p h))
 ·refine ah 33 c (gB 5 3 8 ?_);obtain⟨i,h⟩|⟨i,h⟩:=am h
  ·refine ah 122 i (bv 2 1 (ai 2 (mz 84 ?_)));obtain⟨S,L,h⟩:=aw h;exact eZ 1125 (U4 a L) (fa 143) (ac (ag 0 (OC a h)))
  ·exact ah 122 i (cd (ks':=[eS 1023]) 2 (bJ [8,10,11,13] [440001] [28,88,99,116,440009] (qN 28 1125 (ag 0 (OC a h)))))
def abS(a:ao K)(m:Nat):Hb M q r D v2 C B m (lB K n D v2 C B m):=by
 induction m with
 | zero=>exact fun h=>nomatch h
 | succ m b=>exact fun h=>bp (XV a b h)
def aeJ(a:ao K)(h:xp K n D v2 C v4 v5 v6=some r):d8 bb 80 [.agg (az D),iI v2,.agg (bP C)] [(af v4 v5)] (bk v6) (fun v s=>v=.tup [.ref 440010,iI r.2.1]∧cw s.o [(af r.2.2.1 r.2.2.2.1)]∧look 440009 s.r=some (bk r.2.2.2.2)∧look 440010 s.r=some (bt r.1)):=by
 refine kn (c:=cat Tryz.f80 []) Tryz.func80 (by kernel_rfl) _ Tryz.ntmps80 (jt (by kernel_rfl)) fun M q=>(bn ⟨[(0,.agg (az D)),(1,iI v2),(2,.agg (bP C))],[(af v4 v5)],[(440009,(bk v6))],[440009,440001,1440001]⟩ ?_);unfold xp at h;refine cd (ks':=[eS 62,eS 63]) 9 (ai 3 ?_);obtain⟨f,b,h⟩:=aw h;refine aS (xv a b) (ac (ay 6 7 3 (ai 0 (BU 72 28 (e:=3) (sz:=1) (ac (bX 4 5 3 2 (ai 1 ?_)))))));obtain⟨B,d,h⟩:=aw h;exact eZ 1030 (H6 a d) (fa 21) (au (bz aM B) (ac (ig 2 0 1 (bJ [1,3,5,8,9,10,11,12,13,30,31,32] [3,5,440001] [28,1030,440009] (fb 116 8 44 67 (fb 84 9 176 5 (fb 99 10 3 1 (fb 88 11 3 1 (ag 0 (cc (p:=pn 2042) n (abS a n h)))))))))))
end
section
variable[GS](M:Nat→Prop)(b:aC)(r a:b7)(v2 e v4:Int)(v5:b7)(v6:Int)(f:Bool)(g:Int)(i:b7)(c:Nat)(d:Int→Int→b7→Option b7)
abbrev GZ:Cx:=⟨bb,33,M,b⟩
abbrev JZ:=bodyPost bb Tryz.f130 (bR M b (fun v s=>v=.ref 29∧look 29 s.r=some (bf r)))
abbrev IE(a:dn)(s:AS):=VE (GZ M b) (JZ M b r) a .normal s
abbrev oY(n:Nat):aq:=.c (cat Tryz.f130 (pn n))
abbrev Lx:dn:=[.b 0,oY 31]
abbrev Bw:dn:=kl (GZ M b) (JZ M b r) Lx (cat Tryz.f130 (pn 244)) c::Lx
def aii:AS:=⟨[(1,iI v2),(5,.ref 29),(6,iI g),(9,.sl (lm (ak .i64) a)),(10,iI (a.length:Int)),(11,iI v4)],[],[(29,(bf i))],[29]⟩
def ahK:AS:=⟨[(1,iI v2),(5,.ref 29),(6,iI v6),(7,iI v4),(8,iI (gD a v4)),(9,.sl (lm (ak .i64) a)),(10,iI (a.length:Int)),(11,iI v4),(25,.bool f)],[],[(29,(bf v5))],[29]⟩
def QH:AS:=⟨[(1,iI v2),(5,.ref 29),(6,iI e),(9,.sl (lm (ak .i64) a)),(10,iI (a.length:Int)),(11,iI v4)],[],[(29,(bf v5))],[29]⟩
abbrev Bh:Prop:=∀{e:Int} {v4:Int} {v5:b7},d e v4 v5=some r→LP (GZ M b) (JZ M b r) Lx (cat Tryz.f130 (pn 244)) c (QH a v2 e v4 v5)
variable{M b r a v2 e v4 v5 v6 f g i c d}{K:Kn}{n:Nat}
def U5(f:ao K)(e:Bh M b r a v2 c d)(h:vx K n a v2 v4 d g i=some r):IE M b r (.b 1::oY 1959::Bw M b r c) (aii a v2 v4 g i):=by
 unfold vx at h;exact ag 2 (bu (e h))
def Pm(j:ao K)(g:Bh M b r a v2 c d)(h:sD K n a v2 v4 v5 v6 d f=some r):IE M b r (oY 31335 :: .b 1::oY 1959::Bw M b r c) (ahK a v2 v4 v5 v6 f):=by
 unfold sD at h;obtain⟨e,h⟩|⟨e,h⟩:=am h
 ·refine ah 25 e (ay 4 5 2 (ai 3 ?_));obtain⟨i,h⟩:=aD h;exact au (cA 29 29 3 1 (ak .i64) (rfl) aT i) (ac (ag 1 (U5 j g h)))
 ·exact ah 25 e (ag 2 (U5 j g h))
def af0(j:ao K)(g:Bh M b r a v2 c d)(h:wj K n a v2 d e v4 v5=some r):IE M b r (oY 244::Bw M b r c) (QH a v2 e v4 v5):=by
 unfold wj at h;refine ay 6 7 3 ?_;obtain⟨i,h⟩|⟨i,h⟩:=am h
 ·refine ah 12 i (cQ 8 9 1 3 5 (ai 1 ?_));obtain⟨k,h⟩:=aD h;refine au (bD (ak .i64) (ak .i64) k aT aT) (ac ?_);obtain⟨v6,l,h⟩:=bU h;refine bC (ks':=oY 31334::oY 31335 :: .b 1::oY 1959::Bw M b r c) 3 ⟨[(1,iI v2),(5,.ref 29),(6,iI v6),(7,iI v4),(8,iI (gD a v4)),(9,.sl (lm (ak .i64) a)),(10,iI (a.length:Int)),(11,iI v4)],[],[(29,(bf v5))],[29]⟩ ?_ (by subst l;kernel_rfl);refine ai 3 ?_;obtain⟨f,h⟩|⟨f,h⟩:=am h
  ·exact aG 21 f (ac (ag 0 (Pm j g h)))
  ·exact aG 21 f (ac (ag 0 (Pm j g h)))
 ·refine ah 12 i (aL 8 ?_);cases h;exact eO
def ack(c:ao K)(m:Nat):Bh M b r a v2 m (uq K n a v2 m):=by
 induction m with
 | zero=>exact fun h=>nomatch h
 | succ m d=>exact fun h=>bp (af0 c d h)
def ahz(c:ao K)(h:qo K n a v2=some r):ba bb 130 [.sl (lm (ak .i64) a),iI v2] (fun v s=>v=.ref 29∧look 29 s.r=some (bf r)):=by
 refine bI (cat Tryz.f130 (pn 1)) Tryz.func130 Tryz.ntmps130 fun M b=>(bn ⟨[(0,.sl (lm (ak .i64) a)),(1,iI v2)],[],[],[]⟩ ?_);unfold qo at h;exact bX 60 61 31 8 (ai 1 (au (bz (ak .i64) a) (ac (ig 2 0 1 (bJ [1,5,6,9,10,11] [] [] (fb 29 5 3 1 (ag 0 (cc (p:=pn 122) n (ack c n h)))))))))
end
section
variable[GS](M:Nat→Prop)(b:aC)(r a:ab)(v2:Int)(v4 v6 e d:(V4 cI))  
abbrev kG(n:Nat):aq:=.c (cat Tryz.f131 (pn n))
abbrev Vh:Cx:=⟨bb,40,M,b⟩
abbrev NL:=bodyPost bb Tryz.f131 (bR M b (fun v _=>v=.agg (az r)))
abbrev B5(a:dn)(s:AS):=VE (Vh M b) (NL M b r) a .normal s
def aj3:AS:=⟨[(2,.ptr 2 0),(4,.ptr 4 0),(21,.agg ((k8 gg) a.Style.Margin)),(22,iI 3)],[(2,az ({ a with Style:=({ a.Style with Width:=(⟨1,v2⟩:cI),MinWidth:=cm,MaxWidth:=cm,Margin:=d }:aR) }:ab)),(4,List.set (az dd) 58 (.nils))],[],[2,4]⟩
def adT:AS:=⟨[(2,.ptr 2 0),(4,.ptr 4 0),(21,.agg ((k8 gg) a.Style.Margin)),(22,iI 2)],[(2,az ({ a with Style:=({ a.Style with Width:=(⟨1,v2⟩:cI),MinWidth:=cm,MaxWidth:=cm,Margin:=e }:aR) }:ab)),(4,List.set (az dd) 58 (.nils))],[],[2,4]⟩
def Zu:AS:=⟨[(2,.ptr 2 0),(4,.ptr 4 0),(21,.agg ((k8 gg) a.Style.Margin)),(22,iI 1)],[(2,az ({ a with Style:=({ a.Style with Width:=(⟨1,v2⟩:cI),MinWidth:=cm,MaxWidth:=cm,Margin:=v6 }:aR) }:ab)),(4,List.set (az dd) 58 (.nils))],[],[2,4]⟩
def akO:AS:=⟨[(2,.ptr 2 0),(4,.ptr 4 0),(21,.agg ((k8 gg) a.Style.Margin)),(22,iI 0)],[(2,az ({ a with Style:=({ a.Style with Width:=(⟨1,v2⟩:cI),MinWidth:=cm,MaxWidth:=cm,Margin:=v4 }:aR) }:ab)),(4,List.set (az dd) 58 (.nils))],[],[2,4]⟩
abbrev mW(m:Nat):dn:=kl (Vh M b) (NL M b r) [.b 0,kG 31] (cat Tryz.f131 (pn 244)) m::[.b 0,kG 31]
variable{M b r a v2 v4 v6 e d}{K:Kn}{n:Nat}
def Vo(c:ao K)(h:ww K n a v2 d=some r):B5 M b r (.b 1::kG 1959::mW M b r 36) (aj3 a v2 d):=by
 unfold ww at h;refine bC (ks':=mW M b r 36) 2 ⟨[(2,.ptr 2 0),(4,.ptr 4 0),(21,.agg ((k8 gg) a.Style.Margin)),(22,iI 4)],[(2,az ({ a with Style:=({ a.Style with Width:=(⟨1,v2⟩:cI),MinWidth:=cm,MaxWidth:=cm,Margin:=d }:aR) }:ab)),(4,List.set (az dd) 58 (.nils))],[],[2,4]⟩ (bu (bp (aL 11 ?_)));cases h;exact bA
def Pw(d:ao K)(h:sf K n a v2 e=some r):B5 M b r (.b 1::kG 1959::mW M b r 37) (adT a v2 e):=by
 unfold sf at h;refine bC (ks':=mW M b r 37) 2 ⟨[(2,.ptr 2 0),(4,.ptr 4 0),(21,.agg ((k8 gg) a.Style.Margin)),(22,iI 3)],[(2,az ({ a with Style:=({ a.Style with Width:=(⟨1,v2⟩:cI),MinWidth:=cm,MaxWidth:=cm,Margin:=e }:aR) }:ab)),(4,List.set (az dd) 58 (.nils))],[],[2,4]⟩ (bu (bp (dI 114 115 1 15 10 (ai 1 ?_))));obtain⟨g,f,h⟩:=aw h;refine aS (eD d f) (ac (bv 3 2 ?_));obtain⟨c,h⟩|⟨c,h⟩:=am h
 ·exact ah 32 c (ag 2 (Vo d h))
 ·exact ah 32 c (ag 2 (Vo d h))
def Nx(d:ao K)(h:uz K n a v2 v6=some r):B5 M b r (.b 1::kG 1959::mW M b r 38) (Zu a v2 v6):=by
 unfold uz at h;refine bC (ks':=mW M b r 38) 2 ⟨[(2,.ptr 2 0),(4,.ptr 4 0),(21,.agg ((k8 gg) a.Style.Margin)),(22,iI 2)],[(2,az ({ a with Style:=({ a.Style with Width:=(⟨1,v2⟩:cI),MinWidth:=cm,MaxWidth:=cm,Margin:=v6 }:aR) }:ab)),(4,List.set (az dd) 58 (.nils))],[],[2,4]⟩ (bu (bp (dI 114 115 1 15 10 (ai 1 ?_))));obtain⟨f,e,h⟩:=aw h;refine aS (eD d e) (ac (bv 3 2 ?_));obtain⟨c,h⟩|⟨c,h⟩:=am h
 ·exact ah 32 c (ag 2 (Pw d h))
 ·exact ah 32 c (ag 2 (Pw d h))
def U1(d:ao K)(h:ve K n a v2 v4=some r):B5 M b r (.b 1::kG 1959::mW M b r 39) (akO a v2 v4):=by
 unfold ve at h;refine bC (ks':=mW M b r 39) 2 ⟨[(2,.ptr 2 0),(4,.ptr 4 0),(21,.agg ((k8 gg) a.Style.Margin)),(22,iI 1)],[(2,az ({ a with Style:=({ a.Style with Width:=(⟨1,v2⟩:cI),MinWidth:=cm,MaxWidth:=cm,Margin:=v4 }:aR) }:ab)),(4,List.set (az dd) 58 (.nils))],[],[2,4]⟩ (bu (bp (dI 114 115 1 15 10 (ai 1 ?_))));obtain⟨v5,e,h⟩:=aw h;refine aS (eD d e) (ac (bv 3 2 ?_));obtain⟨c,h⟩|⟨c,h⟩:=am h
 ·exact ah 32 c (ag 2 (Nx d h))
 ·exact ah 32 c (ag 2 (Nx d h))
def ajr(e:ao K)(h:wE K n a v2=some r):ba bb 131 [.agg (az a),iI v2] (fun v _=>v=.agg (az r)):=by
 refine bI (cat Tryz.f131 (pn 1)) Tryz.func131 Tryz.ntmps131 fun M b=>(bn ⟨[(0,.agg (az a)),(1,iI v2)],[],[],[]⟩ ?_);unfold wE at h;refine bC (ks':=[kG 122,.b 0,kG 31]) 10 ⟨[(2,.ptr 2 0),(4,.ptr 4 0),(21,.agg ((k8 gg) a.Style.Margin)),(22,iI 0)],[(2,az ({ a with Style:=({ a.Style with Width:=(⟨1,v2⟩:cI),MinWidth:=cm,MaxWidth:=cm }:aR) }:ab)),(4,List.set (az dd) 58 (.nils))],[],[2,4]⟩ (ox 40 (c:=cat Tryz.f131 [1,1,1,0,1,0,0]) (by kernel_rfl) (bp (cd (ks':=kG 15666::kG 15667 :: .b 1::kG 1959::mW M b r 39) 10 (ai 1 ?_))));obtain⟨g,f,h⟩:=aw h;refine aS (eD e f) (ac (bv 3 2 ?_));obtain⟨d,h⟩|⟨d,h⟩:=am h
 ·exact ah 32 d (ag 2 (U1 e h))
 ·exact ah 32 d (ag 2 (U1 e h))
end
end
end Go.Proofs.YtocgkfoifehcbaaGreat
