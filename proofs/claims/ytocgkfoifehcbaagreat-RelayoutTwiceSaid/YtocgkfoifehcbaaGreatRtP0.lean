/- The runs of the functions that RelayoutTwice reaches do what their plain forms say, part 0. Made by a program. -/
import Derived.Test.YtocgkfoifehcbaaGreatRtGk
namespace Go.Proofs.YtocgkfoifehcbaaGreat
open Go.RowKit
set_option maxRecDepth 20000
set_option linter.all false
noncomputable section
abbrev hH:=dn×Int×Int×Int×dO
variable[GS](M:Nat→Prop)(c:aC)(r:Bool)(a v2:d3)(b:Fv)(v5:Int)(d:Nat)(e:Int→Option Bool)
abbrev F6:Cx:=⟨bb,32,M,c⟩
abbrev E5:=bodyPost bb Tryz.f63 (bP M c (fun v _=>v=.bool r))
abbrev abD(a:dt)(s:AS):=VE (F6 M c) (E5 M c r) a .normal s
abbrev Sw(n:Nat):aq:=.c (cat Tryz.f63 (pn n))
abbrev HG:dt:=[.b 0,Sw 15]
abbrev ahm:dt:=kl (F6 M c) (E5 M c r) HG (cat Tryz.f63 (pn 116)) d::HG
def Mf:AS:=⟨[(1,.sl (lm aK v2)),(2,.fn b.id b.aS),(15,.sl (lm aK a)),(16,iI (a.length:Int)),(17,iI v5)],[],[],[]⟩
abbrev Qo:Prop:=∀{v5:Int},e v5=some r→LP (F6 M c) (E5 M c r) HG (cat Tryz.f63 (pn 116)) d (Mf a v2 b v5)
variable{M c r a v2 b v5 d e}{K:Kn}{n:Nat}
theorem ajb(m:ao K)(j:Qo M c r a v2 b d e)(h:xi K n a v2 b e v5=some r):abD M c r (Sw 116::ahm M c r d) (Mf a v2 b v5):=by
 unfold xi at h;refine ax 6 7 3 ?_;obtain⟨i,h⟩|⟨i,h⟩:=am h
 ·refine ah 18 i (cT 8 9 1 3 5 (aj 1 ?_));obtain⟨k,h⟩:=aD h;refine au (bB aK aB k (fu) (dR)) (ac (ax 2 3 1 (aj 2 ?_)));obtain⟨l,h⟩:=aD h;refine au (bB aK aB l (fu) (dR)) (ac (ax 2 3 1 (aj 3 ?_)));obtain⟨v6,g,h⟩:=bind_some h;refine lT (m.pw g) (ac ?_);obtain⟨f,h⟩|⟨f,h⟩:=am h
  ·refine ah 30 f (aN 9 ?_);cases h;exact bE
  ·exact ah 30 f (ag 4 (bq (j h)))
 ·refine ah 18 i (aN 8 ?_);cases h;exact bE
theorem ZT(d:ao K)(m:Nat):Qo M c r a v2 b m (vb K n a v2 b m):=by
 induction m with
 | zero=>intro v5 h;cases h
 | succ m e=>intro v5 h;have h:xi K n a v2 b (vb K n a v2 b m) v5=some r:=h;exact bn (ajb d e h)
theorem aeE(e:ao K)(h:Aw K n a v2 b=some r):bc bb 63 [.sl (lm aK a),.sl (lm aK v2),.fn b.id b.aS] (fun v _=>v=.bool r):=by
 refine bH (cat Tryz.f63 (pn 1)) Tryz.func63 Tryz.ntmps63 fun M c=>(bm ⟨[(0,.sl (lm aK a)),(1,.sl (lm aK v2)),(2,.fn b.id b.aS)],[],[],[]⟩ ?_);unfold Aw at h;refine cf 12 13 7 4 (aj 1 (au (bu aK a) (aQ 3 1 (au (bu aK v2) (ac ?_)))));obtain⟨d,h⟩|⟨d,h⟩:=am h
 ·refine ah 14 d (aN 5 ?_);cases h;exact bE
 ·exact ah 14 d (oI 4 5 3 4 (aj 1 (au (bu aK a) (ac (ag 1 (ce (p:=pn 58) n (ZT e n h)))))))
end
noncomputable section
variable[GS](M:Nat→Prop)(a:aC)(r:Bool)(b v2:ab)(v4:Bool)  
abbrev aiz(n:Nat):aq:=.c (cat Tryz.f27 (pn n))
abbrev ab6:Cx:=⟨bb,52,M,a⟩
abbrev q27:=bodyPost bb Tryz.f27 (bP M a (fun v _=>v=.bool r))
abbrev aaC(b:dt)(s:AS):=VE (ab6 M a) (q27 M a r) b .normal s
def ajx:AS:=⟨[(4,.bool v4)],[],[],[]⟩
variable{M a r b v2 v4}{K:Kn}{n:Nat}
theorem rF(b:ao K)(h:mb K n v4=some r):aaC M a r [aiz 7] (ajx v4):=by
 unfold mb at h;refine aN 1 ?_;cases h;exact bE
theorem B0(c:ao K)(h:om K n b v2=some r):bc bb 27 [.agg (aB b),.agg (aB v2)] (fun v _=>v=.bool r):=by
 refine bH (cat Tryz.f27 (pn 1)) Tryz.func27 Tryz.ntmps27 fun M a=>(bm ⟨[(0,.agg (aB b)),(1,.agg (aB v2))],[],[],[]⟩ ?_);unfold om at h;refine ax 6 7 3 (aj 6 ?_);obtain⟨d,h⟩|⟨d,h⟩:=am h
 ·refine aF 10 d (aQ 13 7 ?_);obtain⟨e,h⟩|⟨e,h⟩:=am h
  ·refine aF 17 e (aQ 20 7 ?_);obtain⟨f,h⟩|⟨f,h⟩:=am h
   ·refine aF 24 f (aQ 27 7 ?_);obtain⟨g,h⟩|⟨g,h⟩:=am h
    ·refine aF 31 g (aQ 34 7 ?_);obtain⟨i,h⟩|⟨i,h⟩:=am h
     ·refine aF 38 i (aQ 41 7 ?_);obtain⟨j,h⟩|⟨j,h⟩:=am h
      ·refine aF 45 j (aQ 45 4 ?_);obtain⟨l,k,h⟩:=bind_some h;exact aU (aeE c k) (ac (ag 0 (rF c h)))
      ·exact aF 45 j (ac (ag 0 (rF c h)))
     ·exact aF 38 i (ac (ag 0 (rF c h)))
    ·exact aF 31 g (ac (ag 0 (rF c h)))
   ·exact aF 24 f (ac (ag 0 (rF c h)))
  ·exact aF 17 e (ac (ag 0 (rF c h)))
 ·exact aF 10 d (ac (ag 0 (rF c h)))
end
noncomputable section
variable[GS](M:Nat→Prop)(b:aC)(r a:dn)  
variable{M b r a}{K:Kn}{n:Nat}
theorem Iz(f:ao K)(h:rb K n a=some r):bc bb 78 [.sl (lm aO a)] (fun v s=>v=.ref 5∧look 5 s.r=some (bx r)):=by
 refine bH (cat Tryz.f78 (pn 1)) Tryz.func78 Tryz.ntmps78 fun M b=>(bm ⟨[(0,.sl (lm aO a))],[],[],[]⟩ ?_);unfold rb at h;refine cf 12 13 7 4 (aj 1 ?_);refine Rj (aW Tryz.f78 (pn 12) 1) (.eql) 42 42 (.tmp 3) (.const (.slice none 0 0)) 4 (lm aO a) (r:=aR Tryz.f78 (pn 12) 2) (e:=44) (by kernel_rfl) (by kernel_rfl) (by kernel_rfl) (by kernel_rfl) (by kernel_rfl) (by kernel_rfl) (by kernel_rfl) (by kernel_rfl) (fun d=>?_) ?_
 ·have h:=UK (by simpa using d) h;refine ac (aN 5 (eQ 5 2 44 67 ?_));cases h;exact eB
 ·have h:=ML h;refine ac (fV 2 3 3 (aj 0 (Cf 42 5 (e:=44) (sz:=67) (aQ 2 1 ?_))));obtain⟨c,h⟩:=aD h;refine au (cw 7 5 44 67 aO (rfl) (j4) c) (ac (aN 1 ?_));cases h;exact eB
end
noncomputable section
variable[GS](M:Nat→Prop)(a:aC)(r b:ae)(v2:dn)(v4:Int)(v5:dn)(c:Nat)(d:Int→dn→Option ae)
abbrev HR:Cx:=⟨bb,25,M,a⟩
abbrev Iv:=bodyPost bb Tryz.f40 (bP M a (fun v s=>v=.agg (List.set (aG ({ r with Kids:=[] }:ae)) 66 (.ref 1007))∧look 1007 s.r=some (bx r.Kids)))
abbrev abJ(b:dt)(s:AS):=VE (HR M a) (Iv M a r) b .normal s
abbrev Na(n:Nat):aq:=.c (cat Tryz.f40 (pn n))
abbrev Hb:dt:=[.b 0,Na 15]
abbrev ac4:dt:=kl (HR M a) (Iv M a r) Hb (cat Tryz.f40 (pn 116)) c::Hb
def Uk:AS:=⟨[(1,.ptr 1 0),(2,.ptr 2 0),(10,.ref 1007),(11,iI (v2.length:Int)),(12,iI v4)],[(1,List.set (aG ({ b with Kids:=[] }:ae)) 66 (.ref 1007)),(2,List.set (aG bU) 66 (.nils))],[(1007,(bx v5))],[1,2,1007]⟩
abbrev QR:Prop:=∀{v4:Int} {v5:dn},d v4 v5=some r→LP (HR M a) (Iv M a r) Hb (cat Tryz.f40 (pn 116)) c (Uk b v2 v4 v5)
variable{M a r b v2 v4 v5 c d}{K:Kn}{n:Nat}
theorem adZ(k:ao K)(f:QR M a r b v2 c d)(h:xR K n b v2 d v4 v5=some r):abJ M a r (Na 116::ac4 M a r c) (Uk b v2 v4 v5):=by
 unfold xR at h;refine ax 6 7 3 ?_;obtain⟨e,h⟩|⟨e,h⟩:=am h
 ·refine ah 13 e (cT 8 9 1 3 5 (aj 1 ?_));obtain⟨g,h⟩:=aD h;refine au (cp 1007 67 aO g) (au (bI 44 0 aO aG (bD g).2 (dN)) (ac (bJ [1,2,3,4,10,11,12] [1,2,4] [1007] ?_)));obtain⟨v6,j,h⟩:=bind_some h;obtain⟨i,h⟩:=aD h;exact bN 1 (nu 17 [.ptr 1 66,.ref 1007,iI v4,.agg (aG (gD v5 v4)),.agg (aG v6),.eptr 1007 67 (v4.toNat) 0]) [] [] [ec 1007 ⟨44,67,lm aO (List.set v5 v4.toNat v6)⟩] (av (vz 4) (ai (co 0 1 21 (k.w5 j)) (bh (cD 1007 67 aO (L:=v5) i) (ai (dd (m:=0) (dz 1007 44 67 0 aO aG v6 (bD i).2 (dN))) bL)))) (ag 2 (bq (f h)))
 ·refine ah 13 e (aN 8 ?_);cases h;exact eB
theorem adg(c:ao K)(m:Nat):QR M a r b v2 m (t7 K n b v2 m):=by
 induction m with
 | zero=>intro v4 v5 h;cases h
 | succ m d=>intro v4 v5 h;have h:xR K n b v2 (t7 K n b v2 m) v4 v5=some r:=h;exact bn (adZ c d h)
theorem CM(c:ao K)(h:oZ K n b=some r):bc bb 40 [.agg (aG b)] (fun v s=>v=.agg (List.set (aG ({ r with Kids:=[] }:ae)) 66 (.ref 1007))∧look 1007 s.r=some (bx r.Kids)):=by
 refine bH (cat Tryz.f40 (pn 1)) Tryz.func40 Tryz.ntmps40 fun M a=>(bm ⟨[(0,.agg (aG b))],[],[],[]⟩ ?_);unfold oZ at h;refine ax 6 7 3 (aj 2 ?_);obtain⟨v2,d,h⟩:=bind_some h;exact eT 1007 (Iz c d) (eO 5) (ac (cf 4 5 3 2 (aj 2 (au (bu aO v2) (ac (ag 1 (ce (p:=pn 58) n (adg c n h))))))))
end
noncomputable section
variable[GS](M:Nat→Prop)(a:aC)(r:ae×Bool×Int×Int×dO)(b:ab)(v2 d v4:Int)(v5:dO)(e:Int)(f:Bool)(g:Nat)(j:Int→Option (ae×Bool×Int×Int×dO))
abbrev Hh:Cx:=⟨bb,34,M,a⟩
abbrev FH:=bodyPost bb Tryz.f19 (bP M a (fun v s=>v=.tup [.agg (aG r.1),.bool r.2.1]∧cB s.o [(af r.2.2.1 r.2.2.2.1)]∧look 440009 s.r=some (bt r.2.2.2.2)))
abbrev Ma(b:dt)(s:AS):=VE (Hh M a) (FH M a r) b .normal s
abbrev pU(n:Nat):aq:=.c (cat Tryz.f19 (pn n))
abbrev Gf:dt:=[.b 0,pU 7]
abbrev Pb:dt:=kl (Hh M a) (FH M a r) Gf (cat Tryz.f19 (pn 52)) g::Gf
def aiy:AS:=⟨[(2,iI v2),(4,.ptr 4 0),(6,.ptr 6 0),(9,.ptr 9 0),(13,.ref 440009),(14,iI (v5.length:Int)),(15,iI e),(28,.bool f)],[(4,aB b),(6,List.set (aG bU) 66 (.nils)),(9,aZ (gD v5 e)),(af d v4)],[(440009,(bt v5))],[4,6,9,440001,440009,1440001,440001]⟩
def Vd:AS:=⟨[(2,iI v2),(4,.ptr 4 0),(6,.ptr 6 0),(13,.ref 440009),(14,iI (v5.length:Int)),(15,iI e)],[(4,aB b),(6,List.set (aG bU) 66 (.nils)),(af d v4)],[(440009,(bt v5))],[4,6,440001,440009,1440001,440001]⟩
abbrev JT:Prop:=∀{e:Int},j e=some r→LP (Hh M a) (FH M a r) Gf (cat Tryz.f19 (pn 52)) g (Vd b v2 d v4 v5 e)
variable{M a r b v2 d v4 v5 e f g j}{K:Kn}{n:Nat}[SG a]
theorem N2(m:ao K)(l:JT M a r b v2 d v4 v5 g j)(h:xC K n b v2 d v4 v5 e j f=some r):Ma M a r (pU 3379 :: .b 1::pU 423::Pb M a r g) (aiy b v2 d v4 v5 e f):=by
 unfold xC at h;obtain⟨c,h⟩|⟨c,h⟩:=am h
 ·refine ah 28 c (ax 4 5 2 (aj 2 ?_));obtain⟨o,k,h⟩:=bind_some h;refine eT 1031 (CM m k) (D5 (i:=66) (by kernel_rfl)) (ac (aN 6 (gq 1031 ?_)));cases h;exact o8
 ·exact ah 28 c (ag 4 (bq (l h)))
theorem aeZ(l:ao K)(c:JT M a r b v2 d v4 v5 g j)(h:yN K n b v2 d v4 v5 j e=some r):Ma M a r (pU 52::Pb M a r g) (Vd b v2 d v4 v5 e):=by
 unfold yN at h;refine ax 6 7 3 ?_;obtain⟨i,h⟩|⟨i,h⟩:=am h
 ·refine ah 16 i (cT 8 9 1 3 5 (aj 0 ?_));obtain⟨m,h⟩:=aD h;refine au (cp 440009 127 aZ m) (au (bI 64 0 aZ aZ (bD m).2 aT) (ac (ax 2 3 1 (aj 5 ?_))));obtain⟨k,h⟩|⟨k,h⟩:=am h
  ·refine aF 23 k (aQ 8 3 ?_);obtain⟨o,f,h⟩:=bind_some h;exact aU (B0 l f) (ac (ag 0 (N2 l c h)))
  ·exact aF 23 k (ac (ag 0 (N2 l c h)))
 ·refine ah 16 i (aN 8 (mJ 6 ?_));cases h;exact o8
theorem ac6(c:ao K)(m:Nat):JT M a r b v2 d v4 v5 m (sT K n b v2 d v4 v5 m):=by
 induction m with
 | zero=>intro e h;cases h
 | succ m f=>intro e h;have h:yN K n b v2 d v4 v5 (sT K n b v2 d v4 v5 m) e=some r:=h;exact bn (aeZ c f h)
theorem aeA(e:ao K)(h:ye K n b v2 d v4 v5=some r):eP bb 19 [.ptr 440001 0,.agg (aB b),iI v2] [(af d v4)] (bt v5) (fun v s=>v=.tup [.agg (aG r.1),.bool r.2.1]∧cB s.o [(af r.2.2.1 r.2.2.2.1)]∧look 440009 s.r=some (bt r.2.2.2.2)):=by
 refine jK (c:=cat Tryz.f19 []) Tryz.func19 (by kernel_rfl) _ Tryz.ntmps19 (lp (by kernel_rfl)) fun M a=>(bm ⟨[(0,.ptr 440001 0),(1,.agg (aB b)),(2,iI v2)],[(af d v4)],[(440009,(bt v5))],[440009,440001,1440001]⟩ ?_);unfold ye at h;exact bX (ks':=[pU 12,pU 13,pU 7]) 4 (aj 4 (au (bu aZ v5) (ac (ag 1 (ce (p:=pn 26) n (ac6 e n h))))))
end
noncomputable section
variable[GS](M:Nat→Prop)(a:aC)(r:ae×Bool×Int×Int×dO)(b:ab)(v2 d v4:Int)(v5:dO)(v6:ae×Bool×Int×Int×dO)(e:Int)  
abbrev Kj(n:Nat):aq:=.c (cat Tryz.f36 (pn n))
abbrev afO:Cx:=⟨bb,27,M,a⟩
abbrev Ww:=bodyPost bb Tryz.f36 (bP M a (fun v s=>v=.tup [.agg (aG r.1),.bool r.2.1]∧cB s.o [(af r.2.2.1 r.2.2.2.1)]∧look 440009 s.r=some (bt r.2.2.2.2)))
abbrev aid(b:dt)(s:AS):=VE (afO M a) (Ww M a r) b .normal s
def abf:AS:=⟨[(6,.ptr 6 0),(8,.ptr 8 0),(9,.bool v6.2.1)],[(6,List.set (aG bU) 66 (.nils)),(8,aG v6.1),(af v6.2.2.1 e)],[(440009,(bt v6.2.2.2.2))],[6,8,440001,440009,1440001,440001]⟩
variable{M a r b v2 d v4 v5 v6 e}{K:Kn}{n:Nat}[SG a]
theorem Qi(b:ao K)(h:CH K n v6 e=some r):aid M a r [Kj 15] (abf v6 e):=by
 unfold CH at h;refine aN 3 ?_;cases h;exact o8
theorem XZ(f:ao K)(h:wE K n b v2 d v4 v5=some r):eP bb 36 [.ptr 440001 0,.agg (aB b),iI v2] [(af d v4)] (bt v5) (fun v s=>v=.tup [.agg (aG r.1),.bool r.2.1]∧cB s.o [(af r.2.2.1 r.2.2.2.1)]∧look 440009 s.r=some (bt r.2.2.2.2)):=by
 refine jK (c:=cat Tryz.f36 []) Tryz.func36 (by kernel_rfl) _ Tryz.ntmps36 (lp (by kernel_rfl)) fun M a=>(bm ⟨[(0,.ptr 440001 0),(1,.agg (aB b)),(2,iI v2)],[(af d v4)],[(440009,(bt v5))],[440009,440001,1440001]⟩ ?_);unfold wE at h;refine bX (ks':=[Kj 6,Kj 7]) 3 (aj 3 ?_);obtain⟨v6,g,h⟩:=bind_some h;refine qa (aeA f g) (ac (ax 5 3 3 ?_));obtain⟨e,h⟩|⟨e,h⟩:=am h
 ·exact ah 17 e (ag 2 (Qi f h))
 ·exact ah 17 e (ag 2 (Qi f h))
end
noncomputable section
variable[GS](M:Nat→Prop)(d:aC)(r:Int×Int×dO)(a:ab)(v2:Int)(b:ae)(v4 v5:Int)(v6:dO)  
abbrev aaT(n:Nat):aq:=.c (cat Tryz.f37 (pn n))
variable{M d r a v2 b v4 v5 v6}{K:Kn}{n:Nat}[SG d]
theorem acZ(i:ao K)(h:AR K n a v2 b v4 v5 v6=some r):eP bb 37 [.ptr 440001 0,.agg (aB a),iI v2,.agg (aG b)] [(af v4 v5)] (bt v6) (fun v s=>v=bf∧cB s.o [(af r.1 r.2.1)]∧look 440009 s.r=some (bt r.2.2)):=by
 refine jK (c:=cat Tryz.f37 []) Tryz.func37 (by kernel_rfl) _ Tryz.ntmps37 (lp (by kernel_rfl)) fun M d=>(bm ⟨[(0,.ptr 440001 0),(1,.agg (aB a)),(2,iI v2),(3,.agg (aG b))],[(af v4 v5)],[(440009,(bt v6))],[440009,440001,1440001]⟩ ?_);unfold AR at h;refine bX (ks':=[aaT 7]) 4 (bJ [0,2,5,7] [5,7,440001] [440009] ?_);obtain⟨e,f,h⟩:=bind_some h;obtain⟨g,h⟩:=aD h;refine bN 2 (nu 15 [.ptr 440001 0,.ptr 440001 0,.ptr 440001 0,.ptr 440001 0,.ref 440009,.agg (aB a),iI v2,.agg (aG b),.agg (aG e),.agg (aZ (⟨a,v2,e⟩:aA)),.sl (lm aZ [(⟨a,v2,e⟩:aA)])]++nu 27 [.ptr 440001 0,.ptr 440001 0]) [] [] [fS 26 440009 ⟨64,127,lm aZ (v6++[(⟨a,v2,e⟩:aA)])⟩,cd bb 29 Tryz.f37 (pn 7) 14] (av [.v 0 2,.v 0 2,.v 0 2,.v 0 2,.v 0 1,.v 0 2,.v 0 2,.v 0 2] (ai (co 0 1 23 (bc.cz (CM i f) (V':=.agg (aG e)) (by kernel_rfl))) (av [.v 0 2,.v 0 1] (ai (dd (m:=0) (cw 26 440009 64 127 aZ (rfl) (JK) g)) (av [.v 1 2,.v 1 1] (ai (cb 1) bL)))))) (uo ?_)
 cases h;exact o8
end
noncomputable section
variable[GS](M:Nat→Prop)(b:aC)(r a:Int)  
variable{M b r a}{K:Kn}{n:Nat}
theorem jZ(c:ao K)(h:gI K n a=some r):bc bb 124 [iI a] (fun v _=>v=iI r):=by
 refine bH (cat Tryz.f124 (pn 1)) Tryz.func124 Tryz.ntmps124 fun M b=>(bm ⟨[(0,iI a)],[],[],[]⟩ ?_);unfold gI at h;refine aN 5 ?_;cases h;exact bE
end
noncomputable section
variable[GS](M:Nat→Prop)(a:aC)(r:Int×Bool)(b:cF)(v2 v4:Int)  
abbrev aaS(n:Nat):aq:=.c (cat Tryz.f86 (pn n))
abbrev ZF:Cx:=⟨bb,25,M,a⟩
abbrev q86:=bodyPost bb Tryz.f86 (bP M a (fun v _=>v=.tup [iI r.1,.bool r.2]))
abbrev aiG(b:dt)(s:AS):=VE (ZF M a) (q86 M a r) b .normal s
def ajL:AS:=⟨[(6,iI v4)],[],[],[]⟩
variable{M a r b v2 v4}{K:Kn}{n:Nat}
theorem SY(b:ao K)(h:vB K n v4=some r):aiG M a r [.b 0,aaS 15] (ajL v4):=by
 unfold vB at h;refine aN 4 ?_;cases h;exact jk
theorem ep(e:ao K)(h:dS K n b v2=some r):bc bb 86 [.agg (fX b),iI v2] (fun v _=>v=.tup [iI r.1,.bool r.2]):=by
 refine bH (cat Tryz.f86 (pn 1)) Tryz.func86 Tryz.ntmps86 fun M a=>(bm ⟨[(0,.agg (fX b)),(1,iI v2)],[],[],[]⟩ ?_);unfold dS at h;refine gJ 117 0 15 10 ?_;obtain⟨c,h⟩|⟨c,h⟩:=am h
 ·exact ah 11 c (ag 2 (SY e h))
 ·refine ah 11 c (bp 7 3 ?_);obtain⟨d,h⟩|⟨d,h⟩:=am h
  ·refine ah 13 d (bp 2 1 (aj 1 ?_));obtain⟨g,f,h⟩:=bind_some h;exact aU (jZ e f) (ac (ag 0 (SY e h)))
  ·refine ah 13 d (aN 6 ?_);cases h;exact jk
end
noncomputable section
variable[GS](M:Nat→Prop)(a:aC)(r:bZ)(b:aP)(v2 d:Int)  
abbrev qA(n:Nat):aq:=.c (cat Tryz.f88 (pn n))
abbrev ZQ:Cx:=⟨bb,52,M,a⟩
abbrev q88:=bodyPost bb Tryz.f88 (bP M a (fun v _=>v=.agg (cr r)))
abbrev yG(m:Nat):dt:=kl (ZQ M a) (q88 M a r) [.b 0,qA 15] (cat Tryz.f88 (pn 116)) m::[.b 0,qA 15]
variable{M a r b v2 d}{K:Kn}{n:Nat}
theorem mC(e:ao K)(h:jC K n b v2 d=some r):bc bb 88 [.agg (aH b),iI v2,iI d] (fun v _=>v=.agg (cr r)):=by
 refine bH (cat Tryz.f88 (pn 1)) Tryz.func88 Tryz.ntmps88 fun M a=>(bm ⟨[(0,.agg (aH b)),(1,iI v2),(2,iI d)],[],[],[]⟩ ?_);unfold jC at h;refine bz (ks':=[qA 58,.b 0,qA 15]) 8 ⟨[(1,iI v2),(3,.ptr 3 0),(6,.ptr 6 0),(7,.ptr 7 0),(13,iI 0)],[(3,aH b),(6,cr kg),(7,cr ({ kg with Content:=d }:bZ))],[],[3,6,7]⟩ (oE 40 (c:=cat Tryz.f88 [1,1,0,1,0,0]) (by kernel_rfl) (bn (bX (ks':=qA 7474::qA 7475 :: .b 1::qA 935::yG M a r 39) 10 (aj 6 ?_))));obtain⟨v4,u,h⟩:=bind_some h;refine aU (ep e u) (ac (ax 2 3 1 (aj 5 ?_)));obtain⟨v5,w,h⟩:=bind_some h;refine aU (jZ e w) (ac (ax 2 3 1 (aj 5 ?_)));obtain⟨v6,x,h⟩:=bind_some h;refine aU (ep e x) (ac (bz (ks':=yG M a r 39) 3 ⟨[(1,iI v2),(3,.ptr 3 0),(6,.ptr 6 0),(7,.ptr 7 0),(13,iI 1)],[(3,aH b),(6,cr kg),(7,cr (⟨⟨v4.1,0,0,0⟩,⟨v5,0,0,0⟩,⟨(max v6.1 0),0,0,0⟩,d⟩:bZ))],[],[3,6,7]⟩ (bq (bn (dE 114 115 1 15 10 (aj 6 ?_))))));obtain⟨q,y,h⟩:=bind_some h
 refine aU (ep e y) (ac (ax 2 3 1 (aj 5 ?_)));obtain⟨s,z,h⟩:=bind_some h;refine aU (jZ e z) (ac (ax 2 3 1 (aj 5 ?_)));obtain⟨t,A,h⟩:=bind_some h;refine aU (ep e A) (ac (bz (ks':=yG M a r 38) 3 ⟨[(1,iI v2),(3,.ptr 3 0),(6,.ptr 6 0),(7,.ptr 7 0),(13,iI 2)],[(3,aH b),(6,cr kg),(7,cr (⟨⟨v4.1,q.1,0,0⟩,⟨v5,s,0,0⟩,⟨(max v6.1 0),(max t.1 0),0,0⟩,d⟩:bZ))],[],[3,6,7]⟩ (bq (bn (dE 114 115 1 15 10 (aj 6 ?_))))));obtain⟨f,B,h⟩:=bind_some h;refine aU (ep e B) (ac (ax 2 3 1 (aj 5 ?_)));obtain⟨g,C,h⟩:=bind_some h;refine aU (jZ e C) (ac (ax 2 3 1 (aj 5 ?_)));obtain⟨i,D,h⟩:=bind_some h;refine aU (ep e D) (ac (bz (ks':=yG M a r 37) 3 ⟨[(1,iI v2),(3,.ptr 3 0),(6,.ptr 6 0),(7,.ptr 7 0),(13,iI 3)],[(3,aH b),(6,cr kg),(7,cr (⟨⟨v4.1,q.1,f.1,0⟩,⟨v5,s,g,0⟩,⟨(max v6.1 0),(max t.1 0),(max i.1 0),0⟩,d⟩:bZ))],[],[3,6,7]⟩ (bq (bn (dE 114 115 1 15 10 (aj 6 ?_))))));obtain⟨m,j,h⟩:=bind_some h
 refine aU (ep e j) (ac (ax 2 3 1 (aj 5 ?_)));obtain⟨o,k,h⟩:=bind_some h;refine aU (jZ e k) (ac (ax 2 3 1 (aj 5 ?_)));obtain⟨p,l,h⟩:=bind_some h;refine aU (ep e l) (ac (bz (ks':=yG M a r 36) 3 ⟨[(1,iI v2),(3,.ptr 3 0),(6,.ptr 6 0),(7,.ptr 7 0),(13,iI 4)],[(3,aH b),(6,cr kg),(7,cr (⟨⟨v4.1,q.1,f.1,m.1⟩,⟨v5,s,g,o⟩,⟨(max v6.1 0),(max t.1 0),(max i.1 0),(max p.1 0)⟩,d⟩:bZ))],[],[3,6,7]⟩ (bq (bn (aN 11 ?_)))));cases h;exact bE
end
noncomputable section
variable[GS](M:Nat→Prop)(b:aC)(r:Int)(a:bZ)  
variable{M b r a}{K:Kn}{n:Nat}
theorem nG(c:ao K)(h:kH K n a=some r):bc bb 89 [.agg (cr a)] (fun v _=>v=iI r):=by
 refine bH (cat Tryz.f89 (pn 1)) Tryz.func89 Tryz.ntmps89 fun M b=>(bm ⟨[(0,.agg (cr a))],[],[],[]⟩ ?_);unfold kH at h;refine aN 5 ?_;cases h;exact bE
end
noncomputable section
variable[GS](M:Nat→Prop)(a:aC)(r:Int)(b:aP)(v2 c v5 d:Int)  
abbrev OX(n:Nat):aq:=.c (cat Tryz.f90 (pn n))
abbrev ads:Cx:=⟨bb,37,M,a⟩
abbrev q90:=bodyPost bb Tryz.f90 (bP M a (fun v _=>v=iI r))
abbrev Lo(b:dt)(s:AS):=VE (ads M a) (q90 M a r) b .normal s
def ahS:AS:=⟨[(2,iI d)],[],[],[]⟩
def Yv:AS:=⟨[(1,iI v2),(2,iI v5),(3,.ptr 3 0)],[(3,aH b)],[],[3]⟩
variable{M a r b v2 c v5 d}{K:Kn}{n:Nat}
theorem Nw(b:ao K)(h:Ai K n d=some r):Lo M a r [OX 31] (ahS d):=by
 unfold Ai at h;refine aN 3 ?_;cases h;exact bE
theorem U7(d:ao K)(h:y7 K n b v2 v5=some r):Lo M a r [OX 15] (Yv b v2 v5):=by
 unfold y7 at h;refine cf 4 5 3 2 (aj 3 ?_);obtain⟨v6,e,h⟩:=bind_some h;refine aU (ep d e) (ac (bp 3 2 ?_));obtain⟨c,h⟩|⟨c,h⟩:=am h
 ·exact ah 32 c (ag 2 (Nw d h))
 ·exact ah 32 c (ag 2 (Nw d h))
theorem wM(e:ao K)(h:mq K n b v2 c=some r):bc bb 90 [.agg (aH b),iI v2,iI c] (fun v _=>v=iI r):=by
 refine bH (cat Tryz.f90 (pn 1)) Tryz.func90 Tryz.ntmps90 fun M a=>(bm ⟨[(0,.agg (aH b)),(1,iI v2),(2,iI c)],[],[],[]⟩ ?_);unfold mq at h;refine cf 28 29 15 6 (aj 3 ?_);obtain⟨v4,f,h⟩:=bind_some h;refine aU (ep e f) (ac (bp 3 2 ?_));obtain⟨d,h⟩|⟨d,h⟩:=am h
 ·exact ah 20 d (ag 2 (U7 e h))
 ·exact ah 20 d (ag 2 (U7 e h))
end
noncomputable section
variable[GS](M:Nat→Prop)(e:aC)(r:bZ)(i:aP)(v2 f:Int)(v4:bZ)(k g j:Int)(a b:(Int×Bool))(c:Bool)(d:V4 Int)  
abbrev DS(n:Nat):aq:=.c (cat Tryz.f75 (pn n))
abbrev ajB:Cx:=⟨bb,89,M,e⟩
abbrev q75:=bodyPost bb Tryz.f75 (bP M e (fun v _=>v=.agg (cr r)))
abbrev FQ(a:dt)(s:AS):=VE (ajB M e) (q75 M e r) a .normal s
def aec:AS:=⟨[(4,.ptr 4 0),(5,.ptr 5 0)],[(4,cr kg),(5,cr ({ v4 with Margin:=d,Content:=g }:bZ))],[],[4,5]⟩
def ajU:AS:=⟨[(4,.ptr 4 0),(5,.ptr 5 0),(8,iI (aa (f-j))),(10,.bool a.2),(12,.bool b.2),(59,.bool c)],[(4,cr kg),(5,cr ({ v4 with Content:=g }:bZ))],[],[4,5]⟩
def abz:AS:=⟨[(1,iI f),(2,.ptr 2 0),(4,.ptr 4 0),(5,.ptr 5 0),(6,iI k)],[(2,aH i),(4,cr kg),(5,cr v4)],[],[2,4,5]⟩
variable{M e r i v2 f v4 k g j a b c d}{K:Kn}{n:Nat}
theorem BO(a:ao K)(h:qV K n v4 g d=some r):FQ M e r [.b 0,DS 4095] (aec v4 g d):=by
 unfold qV at h;refine aN 4 ?_;cases h;exact bE
theorem Qr(l:ao K)(h:zX K n f v4 g j a b c=some r):FQ M e r [DS 16377,.b 0,DS 4095] (ajU f v4 g j a b c):=by
 unfold zX at h;obtain⟨d,h⟩|⟨d,h⟩:=am h
 ·exact ah 59 d (ag 4 (BO l h))
 ·refine ah 59 d (bp 7 3 ?_);obtain⟨i,h⟩|⟨i,h⟩:=am h
  ·exact ah 76 i (ag 2 (BO l h))
  ·refine ah 76 i (bp 7 3 ?_);obtain⟨k,h⟩|⟨k,h⟩:=am h
   ·exact ah 82 k (ag 2 (BO l h))
   ·exact ah 82 k (ag 2 (BO l h))
theorem NF(d:ao K)(h:sG K n i f v4 k=some r):FQ M e r [DS 63] (abz i f v4 k):=by
 unfold sG at h;refine ax 2 3 1 (aj 3 ?_);obtain⟨g,o,h⟩:=bind_some h;refine aU (wM d o) (ac (ax 2 3 1 (aj 2 ?_)));obtain⟨j,p,h⟩:=bind_some h;refine aU (nG d p) (ac (ax 5 3 3 ?_));obtain⟨m,h⟩|⟨m,h⟩:=am h
 ·refine ah 41 m (aN 5 ?_);cases h;exact bE
 ·refine ah 41 m (fV 2 3 3 (aj 4 ?_));obtain⟨a,q,h⟩:=bind_some h;refine aU (ep d q) (ac (ax 2 3 1 (aj 4 ?_)));obtain⟨b,l,h⟩:=bind_some h;refine aU (ep d l) (ac (dE 8 9 0 3 3 (aj 3 ?_)));obtain⟨c,h⟩|⟨c,h⟩:=am h
  ·exact aF 62 c (ac (ag 0 (Qr d h)))
  ·exact aF 62 c (ac (ag 0 (Qr d h)))
theorem JS(a:ao K)(h:rD K n i v2=some r):bc bb 75 [.agg (aH i),iI v2] (fun v _=>v=.agg (cr r)):=by
 refine bH (cat Tryz.f75 (pn 1)) Tryz.func75 Tryz.ntmps75 fun M e=>(bm ⟨[(0,.agg (aH i)),(1,iI v2)],[],[],[]⟩ ?_);unfold rD at h;refine ax 6 7 3 (aj 1 ?_);obtain⟨f,c,h⟩:=bind_some h;refine aU (jZ a c) (ac (ax 2 3 1 (aj 2 ?_)));obtain⟨v4,d,h⟩:=bind_some h;refine aU (mC a d) (ac (ax 2 3 1 (aj 3 ?_)));obtain⟨v5,g,h⟩:=bind_some h;refine aU (ep a g) (ac (ax 5 3 3 ?_));obtain⟨b,h⟩|⟨b,h⟩:=am h
 ·refine ah 26 b (bp 2 1 (aj 2 ?_));obtain⟨v6,j,h⟩:=bind_some h;exact aU (nG a j) (ac (ag 0 (NF a h)))
 ·exact ah 26 b (ag 2 (NF a h))
end
noncomputable section
variable[GS](M:Nat→Prop)(b:aC)(r:bg)(a:Int)  
variable{M b r a}{K:Kn}{n:Nat}
theorem Cc(c:ao K)(h:nr K n a=some r):bc bb 79 [iI a] (fun v _=>v=.agg (cX r)):=by
 refine bH (cat Tryz.f79 (pn 1)) Tryz.func79 Tryz.ntmps79 fun M b=>(bm ⟨[(0,iI a)],[],[],[]⟩ ?_);unfold nr at h;refine aN 5 ?_;cases h;exact bE
end
noncomputable section
variable[GS](M:Nat→Prop)(c:aC)(r:Int)(a:cF)(v2 b:Int)  
variable{M c r a v2 b}{K:Kn}{n:Nat}
theorem xS(f:ao K)(h:mc K n a v2 b=some r):bc bb 82 [.agg (fX a),iI v2,iI b] (fun v _=>v=iI r):=by
 refine bH (cat Tryz.f82 (pn 1)) Tryz.func82 Tryz.ntmps82 fun M c=>(bm ⟨[(0,.agg (fX a)),(1,iI v2),(2,iI b)],[],[],[]⟩ ?_);unfold mc at h;refine cf 12 13 7 4 (aj 2 ?_);obtain⟨v4,e,h⟩:=bind_some h;refine aU (ep f e) (ac (bp 3 2 ?_));obtain⟨d,h⟩|⟨d,h⟩:=am h
 ·refine ah 15 d (aN 5 ?_);cases h;exact bE
 ·refine ah 15 d (aN 5 ?_);cases h;exact bE
end
noncomputable section
variable[GS](M:Nat→Prop)(g:aC)(r w:ck)(v2 i:Int)(v4:Fv)(f:Int)(j:ck)(a:Int)(d:ck)(q:Bool)(l t:Nat)(o u:Int→ck→Option ck)
abbrev yL:Cx:=⟨bb,53,M,g⟩
abbrev zW:=bodyPost bb Tryz.f189 (bP M g (fun v s=>v=nX r∧look 0 s.r=some (bk r)))
abbrev Iq(a:dt)(s:AS):=VE (yL M g) (zW M g r) a .normal s
abbrev wX(n:Nat):aq:=.c (cat Tryz.f189 (pn n))
abbrev Ga:dt:=[.b 0]
abbrev Rw:dt:=kl (yL M g) (zW M g r) Ga (cat Tryz.f189 (pn 12)) l::Ga
abbrev Ka:dt:=.b 2 :: .b 1::wX 51::Rw M g r l
abbrev PN:dt:=kl (yL M g) (zW M g r) (Ka M g r l) (cat Tryz.f189 (pn 804)) t::(Ka M g r l)
def aci:AS:=⟨[(0,.ref 0),(1,iI v2),(2,iI i),(3,.fn v4.id v4.aS),(8,iI f),(9,iI a),(34,.bool q)],[],[(0,(bk d))],[0,1000000,0]⟩
def Pn:AS:=⟨[(0,.ref 0),(1,iI v2),(2,iI i),(3,.fn v4.id v4.aS),(8,iI f),(9,iI a)],[],[(0,(bk d))],[0,1000000,0]⟩
def NA:AS:=⟨[(0,.ref 0),(1,iI v2),(2,iI i),(3,.fn v4.id v4.aS),(8,iI f)],[],[(0,(bk j))],[0,1000000,0]⟩
abbrev z7:Prop:=∀{f:Int} {j:ck},o f j=some r→LP (yL M g) (zW M g r) Ga (cat Tryz.f189 (pn 12)) l (NA v2 i v4 f j)
abbrev Ki:Prop:=∀{a:Int} {d:ck},u a d=some r→LP (yL M g) (zW M g r) (Ka M g r l) (cat Tryz.f189 (pn 804)) t (Pn v2 i v4 f a d)
variable{M g r w v2 i v4 f j a d q l t o u}{K:Kn}{n:Nat}
theorem Tx(w:ao K)(s:z7 M g r v2 i v4 l o)(v:Ki M g r v2 i v4 f l t u)(h:tD K n v2 i v4 f a d o u q=some r):Iq M g r (wX 3217::wX 1609::PN M g r l t) (aci v2 i v4 f a d q):=by
 unfold tD at h;obtain⟨b,h⟩|⟨b,h⟩:=am h
 ·refine ah 34 b (GM 4 3 3 4 (bJ [0,1,2,3,8,9] [] [0] ?_));obtain⟨e,h⟩:=aD h;obtain⟨j,h⟩:=aD h;obtain⟨c,h⟩:=aD h;obtain⟨p,h⟩:=aD h;exact bN 2 (nu 37 [.ref 0,iI a,.ref 0,iI a,iI (aa (a-1)),.ref 0,iI a,iI (aa (a-1)),.eptr 0 1 (((aa (a-1))).toNat) 0,iI (gD d ((aa (a-1)))),.ref 0,iI a,.eptr 0 1 (a.toNat) 0,iI (gD d a),.eptr 0 1 (a.toNat) 0,.eptr 0 1 (((aa (a-1))).toNat) 0]) [] [] [ec 0 ⟨3,1,lm (ak .i64) (List.set d a.toNat (gD d ((aa (a-1)))))⟩,ec 0 ⟨3,1,lm (ak .i64) (List.set (List.set d a.toNat (gD d ((aa (a-1))))) ((aa (a-1))).toNat (gD d a))⟩] (av [.v 0 1,.v 0 1,.v 0 2,.v 0 2,.v 0 2,.v 0 1,.v 0 1,.v 0 1] (bh (cD 0 1 (ak .i64) (L:=d) e) (bh (bI 3 0 (ak .i64) (ak .i64) (bD e).2 aT) (av [.v 0 2,.v 0 2] (ai (fh (lo:=0) (k:=2) (da ⟨(by kernel_rfl),(dc (cD 0 1 (ak .i64) (L:=d) j) (by kernel_rfl))⟩ (da ⟨(by kernel_rfl),(dc (cD 0 1 (ak .i64) (L:=(List.set d a.toNat (gD d ((aa (a-1)))))) j) (by kernel_rfl))⟩ ft))) (bh (bI 3 0 (ak .i64) (ak .i64) (bD c).2 aT) (bh (cD 0 1 (ak .i64) (L:=d) c) (ai (dd (m:=0) (dz 0 3 1 0 (ak .i64) (ak .i64) (gD d ((aa (a-1)))) (bD c).2 aT)) (ai (DQ (lo:=1) (cD 0 1 (ak .i64) (L:=(List.set d a.toNat (gD d ((aa (a-1)))))) p)) (ai (dd (m:=1) (dz 0 3 1 0 (ak .i64) (ak .i64) (gD d a) (bD p).2 aT)) bL)))))))))) (ag 2 (bq (v h)))
 ·exact ah 34 b (ag 7 (bq (s h)))
theorem abd(v:ao K)(q:z7 M g r v2 i v4 l o)(s:Ki M g r v2 i v4 f l t u)(h:zS K n v2 i v4 f o u a d=some r):Iq M g r (wX 804::PN M g r l t) (Pn v2 i v4 f a d):=by
 unfold zS at h;refine cf 4 5 3 2 (bJ [0,1,2,3,8,9] [] [0] ?_);obtain⟨c,h⟩|⟨c,h⟩:=am h
 ·obtain⟨k,h⟩:=aD h;obtain⟨m,h⟩:=aD h;obtain⟨j,p,h⟩:=bind_some h;exact bN 0 (nu 18 [iI a,iI v2,.bool (decide (a>v2)),.bool true,.fn v4.id v4.aS,.ref 0,iI a,.eptr 0 1 (a.toNat) 0,iI (gD d a),.ref 0,iI a,iI (aa (a-1)),.eptr 0 1 (((aa (a-1))).toNat) 0,iI (gD d ((aa (a-1)))),iI j,.bool (decide (j<0)),.bool (decide (j<0))]) [] [] [] (av (vz 3) (ai (cH 0 21 (e:=(decide (a>v2))) (b:=true) c) (av (vz 3) (bh (cD 0 1 (ak .i64) (L:=d) k) (bh (bI 3 0 (ak .i64) (ak .i64) (bD k).2 aT) (av (vz 3) (bh (cD 0 1 (ak .i64) (L:=d) m) (bh (bI 3 0 (ak .i64) (ak .i64) (bD m).2 aT) (ai (co 0 1 32 (v.tM p).2 (v.tM p).1) (av (vz 2) bL)))))))))) (ag 0 (Tx v q s h))
 ·exact bN 0 (nu 18 [iI a,iI v2,.bool (decide (a>v2)),.bool false,bf,bf,bf,bf,bf,bf,bf,bf,bf,bf,bf,bf,.bool false]) [] [] [] (av (vz 3) (ai (cH 0 21 (e:=(decide (a>v2))) (b:=false) c) (ai (az 0 1) (ai (az 0 1) (ai (az 0 1) (ai (az 0 1) (ai (az 0 1) (ai (az 0 1) (ai (az 0 1) (ai (az 0 1) (ai (az 0 1) (ai (az 0 1) (ai (az 0 1) (ai (az 0 1) (av [.v 0 1] bL))))))))))))))) (ag 0 (Tx v q s h))
theorem acy(c:ao K)(b:z7 M g r v2 i v4 l o)(m:Nat):Ki M g r v2 i v4 f l m (sV K n v2 i v4 f o m):=by
 induction m with
 | zero=>intro a d h;cases h
 | succ m e=>intro a d h;have h:zS K n v2 i v4 f o (sV K n v2 i v4 f o m) a d=some r:=h;exact bn (abd c b e h)
theorem XW(c:ao K)(b:z7 M g r v2 i v4 l o)(h:uU K n v2 i v4 o f j=some r):Iq M g r (wX 12::Rw M g r l) (NA v2 i v4 f j):=by
 unfold uU at h;refine ax 5 3 3 ?_;obtain⟨a,h⟩|⟨a,h⟩:=am h
 ·exact ah 14 a (ag 7 (ce (p:=pn 402) n (acy c b n h)))
 ·refine ah 14 a (bX (ks':=[]) 5 (uo ?_));cases h;exact qt
theorem acB(a:ao K)(m:Nat):z7 M g r v2 i v4 m (nD K n v2 i v4 m):=by
 induction m with
 | zero=>intro f j h;cases h
 | succ m b=>intro f j h;have h:uU K n v2 i v4 (nD K n v2 i v4 m) f j=some r:=h;exact bn (XW a b h)
theorem U8(a:ao K)(h:sf K n w v2 i v4=some r):wa bb 189 [.ref 0,iI v2,iI i,.fn v4.id v4.aS] 0 (bk w) (fun v s=>v=nX r∧look 0 s.r=some (bk r)):=by
 refine DZ (c:=cat Tryz.f189 (pn 1)) Tryz.func189 (by kernel_rfl) _ Tryz.ntmps189 (lp (by kernel_rfl)) fun M g=>(bm ⟨[(0,.ref 0),(1,iI v2),(2,iI i),(3,.fn v4.id v4.aS)],[],[(0,(bk w))],[0,1000000]⟩ ?_);unfold sf at h;exact ag 3 (ce (p:=pn 6) n (acB a n h))
end
noncomputable section
variable[GS](M:Nat→Prop)(d:aC)(r q:ck)(v2:Int)(b:Fv)(v5 v6:Int)(i e:ck)(a:Int)(j f k:Nat)(l:Int→Int→ck→Option ck)(g:Int→Option ck)(o:Option ck)
abbrev rG:Cx:=⟨bb,63,M,d⟩
abbrev qj:=bodyPost bb Tryz.f182 (bP M d (fun v s=>v=nX r∧look 0 s.r=some (bk r)))
abbrev HJ(a:dt)(s:AS):=VE (rG M d) (qj M d r) a .normal s
abbrev qK(n:Nat):aq:=.c (cat Tryz.f182 (pn n))
abbrev G7:dt:=[.b 2]
abbrev SL:dt:=kl (rG M d) (qj M d r) G7 (cat Tryz.f182 (pn 124)) f::G7
abbrev GL:dt:=[.b 0,qK 15]
abbrev Mo:dt:=kl (rG M d) (qj M d r) GL (cat Tryz.f182 (pn 56)) j::GL
abbrev Jw:dt:=.b 4::qK 1995 :: .b 3::SL M d r f
abbrev aiH:dt:=kl (rG M d) (qj M d r) (Jw M d r f) (cat Tryz.f182 (pn 7976)) k::(Jw M d r f)
def QN:AS:=⟨[(0,.ref 0),(1,iI v2),(2,.fn b.id b.aS),(6,iI a),(7,iI 0),(8,iI (aa (2*a)))],[],[(0,(bk e))],[0,1000000,0]⟩
def L0:AS:=⟨[(0,.ref 0),(1,iI v2),(2,.fn b.id b.aS),(6,iI a)],[],[(0,(bk e))],[0,1000000,0]⟩
def Rt:AS:=⟨[(0,.ref 0),(1,iI v2),(2,.fn b.id b.aS),(6,iI 20),(7,iI v5),(8,iI v6)],[],[(0,(bk i))],[0,1000000,0]⟩
abbrev QI:Prop:=∀{v5:Int} {v6:Int} {i:ck},l v5 v6 i=some r→LP (rG M d) (qj M d r) GL (cat Tryz.f182 (pn 56)) j (Rt v2 b v5 v6 i)
abbrev CJ:Prop:=∀{a:Int},g a=some r→LP (rG M d) (qj M d r) G7 (cat Tryz.f182 (pn 124)) f (L0 v2 b e a)
abbrev Ve:Prop:=o=some r→LP (rG M d) (qj M d r) (Jw M d r f) (cat Tryz.f182 (pn 7976)) k (QN v2 b e a)
variable{M d r q v2 b v5 v6 i e a j f k l g o}{K:Kn}{n:Nat}
theorem ahF(m:ao K)(j:CJ M d r v2 b e f g)(l:Ve M d r v2 b e a f k o)(h:DV K n v2 b e a g o=some r):HJ M d r (qK 7976::aiH M d r f k) (QN v2 b e a):=by
 unfold DV at h;refine ax 5 3 3 ?_;obtain⟨c,h⟩|⟨c,h⟩:=am h
 ·refine ah 35 c ?_;cases h
 ·refine ah 35 c (gB 11 3 10 ?_);obtain⟨i,h⟩|⟨i,h⟩:=am h
  ·refine ah 54 i ?_;cases h
  ·exact ah 54 i (ag 4 (bq (j h)))
theorem adk(i:ao K)(c:CJ M d r v2 b e f g)(m:Nat):Ve M d r v2 b e a f m (DP K n v2 b e a g m):=by
 induction m with
 | zero=>intro h;cases h
 | succ m j=>intro h;have h:DV K n v2 b e a g (DP K n v2 b e a g m)=some r:=h;exact bn (ahF i c j h)
theorem afN(j:ao K)(i:CJ M d r v2 b e f g)(h:wO K n v2 b e g a=some r):HJ M d r (qK 124::SL M d r f) (L0 v2 b e a):=by
 unfold wO at h;refine ax 5 3 3 ?_;obtain⟨c,h⟩|⟨c,h⟩:=am h
 ·exact ah 30 c (ag 7 (ce (p:=pn 3988) n (adk j i n h)))
 ·refine ah 30 c (bX (ks':=[]) 5 (uo ?_));cases h;exact qt
theorem Xj(c:ao K)(m:Nat):CJ M d r v2 b e m (ze K n v2 b e m):=by
 induction m with
 | zero=>intro a h;cases h
 | succ m f=>intro a h;have h:wO K n v2 b e (ze K n v2 b e m) a=some r:=h;exact bn (afN c f h)
theorem act(c:ao K)(f:QI M d r v2 b j l)(h:y8 K n v2 b l v5 v6 i=some r):HJ M d r (qK 56::Mo M d r j) (Rt v2 b v5 v6 i):=by
 unfold y8 at h;refine ax 5 3 3 ?_;obtain⟨a,h⟩|⟨a,h⟩:=am h
 ·refine ah 13 a (bX (ks':=qK 452::qK 453 :: .b 1::Mo M d r j) 4 (aj 4 ?_));obtain⟨m,g,h⟩:=bind_some h;exact wy 0 0 (U8 c g) (ac (ag 4 (bq (f h))))
 ·refine ah 13 a (gB 2 3 6 (aj 4 ?_));obtain⟨e,k,h⟩:=bind_some h;exact wy 0 0 (U8 c k) (ac (ag 1 (ce (p:=pn 62) n (Xj c n h))))
theorem Y2(a:ao K)(m:Nat):QI M d r v2 b m (xc K n v2 b m):=by
 induction m with
 | zero=>intro v5 v6 i h;cases h
 | succ m c=>intro v5 v6 i h;have h:y8 K n v2 b (xc K n v2 b m) v5 v6 i=some r:=h;exact bn (act a c h)
theorem aa3(a:ao K)(h:DC K n q v2 b=some r):wa bb 182 [.ref 0,iI v2,.fn b.id b.aS] 0 (bk q) (fun v s=>v=nX r∧look 0 s.r=some (bk r)):=by
 refine DZ (c:=cat Tryz.f182 (pn 1)) Tryz.func182 (by kernel_rfl) _ Tryz.ntmps182 (lp (by kernel_rfl)) fun M d=>(bm ⟨[(0,.ref 0),(1,iI v2),(2,.fn b.id b.aS)],[],[(0,(bk q))],[0,1000000]⟩ ?_);unfold DC at h;exact ag 6 (ce (p:=pn 28) n (Y2 a n h))
end
noncomputable section
variable[GS](M:Nat→Prop)(b:aC)(r a:ck)(v2:Fv)  
variable{M b r a v2}{K:Kn}{n:Nat}
theorem So(e:ao K)(h:lZ K n a v2=some r):wa bb 164 [.ref 0,.fn v2.id v2.aS] 0 (bk a) (fun v s=>v=nX r∧look 0 s.r=some (bk r)):=by
 refine DZ (c:=cat Tryz.f164 (pn 1)) Tryz.func164 (by kernel_rfl) _ Tryz.ntmps164 (lp (by kernel_rfl)) fun M b=>(bm ⟨[(0,.ref 0),(1,.fn v2.id v2.aS)],[],[(0,(bk a))],[0,1000000]⟩ ?_);unfold lZ at h;refine aj 2 (au (bu (ak .i64) a) (aQ 4 1 ?_));obtain⟨f,d,h⟩:=bind_some h;refine wy 0 0 (aa3 e d) (ac (uo ?_));cases h;exact qt
end
noncomputable section
variable[GS](M:Nat→Prop)(a:aC)(r:Bool)(b:ab)(v2:Bool)  
abbrev agZ(n:Nat):aq:=.c (cat Tryz.f171 (pn n))
abbrev acJ:Cx:=⟨bb,12,M,a⟩
abbrev afu:=bodyPost bb Tryz.f171 (bP M a (fun v _=>v=.bool r))
abbrev ahV(b:dt)(s:AS):=VE (acJ M a) (afu M a r) b .normal s
def adI:AS:=⟨[(2,.bool v2)],[],[],[]⟩
variable{M a r b v2}{K:Kn}{n:Nat}
theorem Lp(b:ao K)(h:xt K n v2=some r):ahV M a r [agZ 7] (adI v2):=by
 unfold xt at h;refine aN 1 ?_;cases h;exact bE
theorem IQ(d:ao K)(h:jN K n b=some r):bc bb 171 [.agg (aB b)] (fun v _=>v=.bool r):=by
 refine bH (cat Tryz.f171 (pn 1)) Tryz.func171 Tryz.ntmps171 fun M a=>(bm ⟨[(0,.agg (aB b))],[],[],[]⟩ ?_);unfold jN at h;refine ax 6 7 3 (aj 4 ?_);obtain⟨c,h⟩|⟨c,h⟩:=am h
 ·exact aF 6 c (ac (ag 0 (Lp d h)))
 ·exact aF 6 c (ac (ag 0 (Lp d h)))
end
noncomputable section
variable[GS](M:Nat→Prop)(b:aC)(r:Bool)(a:Int)  
variable{M b r a}{K:Kn}{n:Nat}
theorem QX(c:ao K)(h:wb K n a=some r):bc bb 183 [iI a] (fun v _=>v=.bool r):=by
 refine bH (cat Tryz.f183 (pn 1)) Tryz.func183 Tryz.ntmps183 fun M b=>(bm ⟨[(0,iI a)],[],[],[]⟩ ?_);unfold wb at h;refine aN 5 ?_;cases h;exact bE
end
noncomputable section
variable[GS](M:Nat→Prop)(b:aC)(r:Int)(a v2:Int)  
variable{M b r a v2}{K:Kn}{n:Nat}
theorem Uq(i:ao K)(h:uu K n a v2=some r):bc bb 166 [iI a,iI v2] (fun v _=>v=iI r):=by
 refine bH (cat Tryz.f166 (pn 1)) Tryz.func166 Tryz.ntmps166 fun M b=>(bm ⟨[(0,iI a),(1,iI v2)],[],[],[]⟩ ?_);unfold uu at h;refine ax 6 7 3 (aj 1 ?_);obtain⟨l,j,h⟩:=bind_some h;refine aU (QX i j) (ac (ax 2 3 1 (aj 1 ?_)));obtain⟨v4,k,h⟩:=bind_some h;refine aU (QX i k) (ac (ax 5 3 3 ?_));obtain⟨c,h⟩|⟨c,h⟩:=am h
 ·refine ah 11 c (ax 9 5 4 ?_);obtain⟨d,h⟩|⟨d,h⟩:=am h
  ·refine ah 12 d (aN 6 ?_);cases h;exact bE
  ·refine ah 12 d (aN 6 ?_);cases h;exact bE
 ·refine ah 11 c (fV 5 3 5 ?_);obtain⟨e,h⟩|⟨e,h⟩:=am h
  ·refine ah 13 e (aN 5 ?_);cases h;exact bE
  ·refine ah 13 e (fV 5 3 5 ?_);obtain⟨f,h⟩|⟨f,h⟩:=am h
   ·refine ah 16 f (aN 5 ?_);cases h;exact bE
   ·refine ah 16 f (fV 5 3 5 ?_);obtain⟨g,h⟩|⟨g,h⟩:=am h
    ·refine ah 19 g (aN 5 ?_);cases h;exact bE
    ·refine ah 19 g (aN 5 ?_);cases h;exact bE
end
noncomputable section
variable[GS](M:Nat→Prop)(c:aC)(r:Int)(b v2:Int)(a:d3)  
variable{M c r b v2 a}{K:Kn}{n:Nat}
theorem ahL(g:ao K)(h:zb K n b v2 a=some r):bc bb 172 [iI b,iI v2,.cptr ([.sl (lm aK a)])] (fun v _=>v=iI r):=by
 refine bH (cat Tryz.f172 (pn 1)) Tryz.func172 Tryz.ntmps172 fun M c=>(bm ⟨[(0,iI b),(1,iI v2),(2,.cptr ([.sl (lm aK a)]))],[],[],[]⟩ ?_);unfold zb at h;refine ax 6 7 3 (bJ [0,1,2] [] [] ?_);obtain⟨d,h⟩:=aD h;obtain⟨e,h⟩:=aD h;obtain⟨v4,f,h⟩:=bind_some h;refine bN 1 (nu 6 [.sl (lm aK a),iI b,.cptr (aB (gD a b)),.cptr (List.drop 2 (aB (gD a b))),.cptr (List.drop 48 (List.drop 2 (aB (gD a b)))),iI (((gD a b).Style).Order),.sl (lm aK a),iI v2,.cptr (aB (gD a v2)),.cptr (List.drop 2 (aB (gD a v2))),.cptr (List.drop 48 (List.drop 2 (aB (gD a v2)))),iI (((gD a v2).Style).Order),iI v4]) [] [] [cd bb 19 Tryz.f172 (pn 6) 13] (av (vz 2) (bh (bB aK aB d (fu) (dR)) (av (vz 5) (bh (bB aK aB e (fu) (dR)) (av (vz 3) (ai (co 0 1 18 (Uq g f)) (ai (cb 0) bL))))))) (aN 1 ?_);cases h;exact bE
end
noncomputable section
variable[GS](M:Nat→Prop)(b:aC)(r:ck)(a:d3)(v6:Int)(c f:ck)(d:Nat)(e:Int→ck→Option ck)
abbrev Ha:Cx:=⟨bb,24,M,b⟩
abbrev Gx:=bodyPost bb Tryz.f146 (bP M b (fun v s=>v=.ref 18∧look 18 s.r=some (bk r)))
abbrev SP(a:dt)(s:AS):=VE (Ha M b) (Gx M b r) a .normal s
abbrev EF(n:Nat):aq:=.c (cat Tryz.f146 (pn n))
abbrev Gd:dt:=[.b 0,EF 15]
abbrev O0:dt:=kl (Ha M b) (Gx M b r) Gd (cat Tryz.f146 (pn 116)) d::Gd
def abC:AS:=⟨[(1,.ptr 1 0),(3,.ref 18),(6,.sl (lm aK a)),(7,iI (a.length:Int)),(8,iI v6)],[(1,[.sl (lm aK a)])],[(18,(bk f))],[1,18]⟩
def PQ:AS:=⟨[(1,.ptr 1 0),(3,.ref 18),(6,.sl (lm aK a)),(7,iI (a.length:Int)),(8,iI v6)],[(1,[.sl (lm aK a)])],[(18,(bk c))],[1,18]⟩
abbrev Ex:Prop:=∀{v6:Int} {c:ck},e v6 c=some r→LP (Ha M b) (Gx M b r) Gd (cat Tryz.f146 (pn 116)) d (PQ a v6 c)
variable{M b r a v6 c f d e}{K:Kn}{n:Nat}
theorem PH(g:ao K)(c:Ex M b r a d e)(h:xP K n a v6 e f=some r):SP M b r (.b 1::EF 935::O0 M b r d) (abC a v6 f):=by
 unfold xP at h;exact ag 2 (bq (c h))
theorem Yy(j:ao K)(i:Ex M b r a d e)(h:AP K n a e v6 c=some r):SP M b r (EF 116::O0 M b r d) (PQ a v6 c):=by
 unfold AP at h;refine ax 6 7 3 ?_;obtain⟨f,h⟩|⟨f,h⟩:=am h
 ·refine ah 9 f (cT 8 9 1 3 5 (aj 1 ?_));obtain⟨k,h⟩:=aD h;refine au (bB aK aB k (fu) (dR)) (ac (ax 2 3 1 (aj 1 ?_)));obtain⟨q,l,h⟩:=bind_some h;refine aU (IQ j l) (ac ?_);obtain⟨g,h⟩|⟨g,h⟩:=am h
  ·refine ah 14 g (bp 2 1 (aj 3 ?_));obtain⟨m,h⟩:=aD h;exact au (cw 18 18 3 1 (ak .i64) (rfl) aT m) (ac (ag 0 (PH j i h)))
  ·exact ah 14 g (ag 2 (PH j i h))
 ·refine ah 9 f (gB 2 3 6 (aj 1 (nO 1 1 ([.sl (lm aK a)]) (sd 172 #[(.tmp 1)] [.cptr ([.sl (lm aK a)])] ?_))));obtain⟨p,o,h⟩:=bind_some h;refine wy 18 0 (So j o) (ac (aN 3 ?_));cases h;exact eB
theorem acz(d:ao K)(m:Nat):Ex M b r a m (tx K n a m):=by
 induction m with
 | zero=>intro v6 c h;cases h
 | succ m e=>intro v6 c h;have h:AP K n a (tx K n a m) v6 c=some r:=h;exact bn (Yy d e h)
theorem agf(c:ao K)(h:uy K n a=some r):bc bb 146 [.sl (lm aK a)] (fun v s=>v=.ref 18∧look 18 s.r=some (bk r)):=by
 refine bH (cat Tryz.f146 (pn 1)) Tryz.func146 Tryz.ntmps146 fun M b=>(bm ⟨[(0,.sl (lm aK a))],[],[],[]⟩ ?_);unfold uy at h;exact cf 28 29 15 6 (aj 1 (au (bu aK a) (ac (gC 2 0 1 (bJ [1,3,6,7,8] [1] [] (eQ 18 3 3 1 (ag 0 (ce (p:=pn 58) n (acz c n h)))))))))
end
noncomputable section
variable[GS](M:Nat→Prop)(b:aC)(r:d3)(a:ab)(v2:ck)(c:Int)(v4:d3)(d:Nat)(e:Int→d3→Option d3)
abbrev EW:Cx:=⟨bb,24,M,b⟩
abbrev Ho:=bodyPost bb Tryz.f102 (bP M b (fun v s=>v=.ref 21∧look 21 s.r=some (bY r)))
abbrev afe(a:dt)(s:AS):=VE (EW M b) (Ho M b r) a .normal s
abbrev OY(n:Nat):aq:=.c (cat Tryz.f102 (pn n))
abbrev Gs:dt:=[.b 0,OY 15]
abbrev Xs:dt:=kl (EW M b) (Ho M b r) Gs (cat Tryz.f102 (pn 116)) d::Gs
def Oa:AS:=⟨[(1,.ptr 1 0),(3,.ref 21),(8,.ref 1008),(9,iI (v2.length:Int)),(10,iI c)],[(1,aB a)],[(21,(bY v4)),(1008,(bk v2))],[1,21,1008]⟩
abbrev Ru:Prop:=∀{c:Int} {v4:d3},e c v4=some r→LP (EW M b) (Ho M b r) Gs (cat Tryz.f102 (pn 116)) d (Oa a v2 c v4)
variable{M b r a v2 c v4 d e}{K:Kn}{n:Nat}
theorem af6(l:ao K)(k:Ru M b r a v2 d e)(h:y9 K n a v2 e c v4=some r):afe M b r (OY 116::Xs M b r d) (Oa a v2 c v4):=by
 unfold y9 at h;refine ax 6 7 3 ?_;obtain⟨f,h⟩|⟨f,h⟩:=am h
 ·refine ah 11 f (cT 8 9 1 3 5 (aj 0 ?_));obtain⟨g,h⟩:=aD h;refine au (cp 1008 1 (ak .i64) g) (au (bI 3 0 (ak .i64) (ak .i64) (bD g).2 aT) (ac (aj 4 ?_)));obtain⟨i,h⟩:=aD h;refine au (bB aK aB i (fu) (dR)) (aQ 6 1 (au (gu aK ([(gD a.Kids ((gD v2 c)))]:d3) (new:=[aB (gD a.Kids ((gD v2 c)))]) (by simp only[th,By,dR])) ?_));obtain⟨j,h⟩:=aD h;exact au (cw 21 21 48 59 aK (rfl) (fu) j) (ac (ag 2 (bq (k h))))
 ·refine ah 11 f (aN 8 ?_);cases h;exact eB
theorem Xb(d:ao K)(m:Nat):Ru M b r a v2 m (vt K n a v2 m):=by
 induction m with
 | zero=>intro c v4 h;cases h
 | succ m e=>intro c v4 h;have h:y9 K n a v2 (vt K n a v2 m) c v4=some r:=h;exact bn (af6 d e h)
theorem H1(c:ao K)(h:kB K n a=some r):bc bb 102 [.agg (aB a)] (fun v s=>v=.ref 21∧look 21 s.r=some (bY r)):=by
 refine bH (cat Tryz.f102 (pn 1)) Tryz.func102 Tryz.ntmps102 fun M b=>(bm ⟨[(0,.agg (aB a))],[],[],[]⟩ ?_);unfold kB at h;refine cf 28 29 15 6 (aj 2 ?_);obtain⟨v2,d,h⟩:=bind_some h;exact eT 1008 (agf c d) (eO 18) (au (bu (ak .i64) v2) (ac (gC 2 0 1 (bJ [1,3,8,9,10] [1] [1008] (eQ 21 3 48 59 (ag 0 (ce (p:=pn 58) n (Xb c n h))))))))
end
noncomputable section
variable[GS](M:Nat→Prop)(b:aC)(r:Int)(a:bg)  
variable{M b r a}{K:Kn}{n:Nat}
theorem md(c:ao K)(h:gy K n a=some r):bc bb 126 [.agg (cX a)] (fun v _=>v=iI r):=by
 refine bH (cat Tryz.f126 (pn 1)) Tryz.func126 Tryz.ntmps126 fun M b=>(bm ⟨[(0,.agg (cX a))],[],[],[]⟩ ?_);unfold gy at h;refine aN 5 ?_;cases h;exact bE
end
noncomputable section
variable[GS](M:Nat→Prop)(b:aC)(r:Int)(a:ae)  
variable{M b r a}{K:Kn}{n:Nat}
theorem LK(e:ao K)(h:t6 K n a=some r):bc bb 127 [.agg (aG a)] (fun v _=>v=iI r):=by
 refine bH (cat Tryz.f127 (pn 1)) Tryz.func127 Tryz.ntmps127 fun M b=>(bm ⟨[(0,.agg (aG a))],[],[],[]⟩ ?_);unfold t6 at h;refine ax 13 7 5 ?_;obtain⟨c,h⟩|⟨c,h⟩:=am h
 ·refine ah 4 c (aN 5 ?_);cases h;exact bE
 ·refine ah 4 c (fV 2 3 3 (aj 2 ?_));obtain⟨v2,d,h⟩:=bind_some h;refine aU (md e d) (ac (aN 1 ?_));cases h;exact bE
end
noncomputable section
variable[GS](M:Nat→Prop)(b:aC)(r:Int)(a v2:Int)  
variable{M b r a v2}{K:Kn}{n:Nat}
theorem mS(c:ao K)(h:iA K n a v2=some r):bc bb 104 [iI a,iI v2] (fun v _=>v=iI r):=by
 refine bH (cat Tryz.f104 (pn 1)) Tryz.func104 Tryz.ntmps104 fun M b=>(bm ⟨[(0,iI a),(1,iI v2)],[],[],[]⟩ ?_);unfold iA at h;refine aN 5 ?_;cases h;exact bE
end
noncomputable section
variable[GS](M:Nat→Prop)(b:aC)(r a:bF)  
variable{M b r a}{K:Kn}{n:Nat}
theorem K4(c:ao K)(h:zm K n a=some r):bc bb 159 [.agg (cm a)] (fun v _=>v=.agg (cm r)):=by
 refine bH (cat Tryz.f159 (pn 1)) Tryz.func159 Tryz.ntmps159 fun M b=>(bm ⟨[(0,.agg (cm a))],[],[],[]⟩ ?_);unfold zm at h;refine ax 6 7 3 (aj 2 ?_);obtain⟨v2,d,h⟩:=bind_some h;refine aU (mS c d) (ac (ax 2 3 1 (aj 2 ?_)));obtain⟨j,e,h⟩:=bind_some h;refine aU (mS c e) (ac (ax 2 3 1 (aj 2 ?_)));obtain⟨v4,f,h⟩:=bind_some h;refine aU (mS c f) (ac (ax 2 3 1 (aj 2 ?_)));obtain⟨v5,g,h⟩:=bind_some h;refine aU (mS c g) (ac (ax 2 3 1 (bJ [1,2] [1,2] [] ?_)));obtain⟨v6,i,h⟩:=bind_some h;refine bN 1 (nu 19 [.ptr 1 4,iI a.Max,iI v6,.ptr 1 3,iI v5,iI (max v6 v5),.ptr 1 4]) [] [] [cd bb 27 Tryz.f159 (pn 126) 7] (av (vz 2) (ai (co 0 1 21 (mS c i)) (av (vz 4) (ai (cb 0) bL)))) (aN 3 ?_);cases h;exact bE
end
noncomputable section
variable[GS](M:Nat→Prop)(b:aC)(r:Int)(a:bF)(v2:Int)  
variable{M b r a v2}{K:Kn}{n:Nat}
theorem IX(c:ao K)(h:qx K n a v2=some r):bc bb 160 [.agg (cm a),iI v2] (fun v _=>v=iI r):=by
 refine bH (cat Tryz.f160 (pn 1)) Tryz.func160 Tryz.ntmps160 fun M b=>(bm ⟨[(0,.agg (cm a)),(1,iI v2)],[],[],[]⟩ ?_);unfold qx at h;refine aN 5 ?_;cases h;exact bE
end
noncomputable section
variable[GS](M:Nat→Prop)(b:aC)(r:Int)(a:bF)  
variable{M b r a}{K:Kn}{n:Nat}
theorem F0(c:ao K)(h:vO K n a=some r):bc bb 128 [.agg (cm a)] (fun v _=>v=iI r):=by
 refine bH (cat Tryz.f128 (pn 1)) Tryz.func128 Tryz.ntmps128 fun M b=>(bm ⟨[(0,.agg (cm a))],[],[],[]⟩ ?_);unfold vO at h;refine ax 6 7 3 (aj 1 ?_);obtain⟨v2,d,h⟩:=bind_some h;refine aU (K4 c d) (ac (ax 2 3 1 (aj 3 ?_)));obtain⟨f,e,h⟩:=bind_some h;refine aU (IX c e) (ac (aN 1 ?_));cases h;exact bE
end
noncomputable section
variable[GS](M:Nat→Prop)(c:aC)(r:Int)(b v2:Int)(a:ck)  
variable{M c r b v2 a}{K:Kn}{n:Nat}
theorem Yu(g:ao K)(h:Ak K n b v2 a=some r):bc bb 165 [iI b,iI v2,.cptr ([.sl (lm (ak .i64) a)])] (fun v _=>v=iI r):=by
 refine bH (cat Tryz.f165 (pn 1)) Tryz.func165 Tryz.ntmps165 fun M c=>(bm ⟨[(0,iI b),(1,iI v2),(2,.cptr ([.sl (lm (ak .i64) a)]))],[],[],[]⟩ ?_);unfold Ak at h;refine ax 6 7 3 (bJ [0,1,2] [] [] ?_);obtain⟨d,h⟩:=aD h;obtain⟨e,h⟩:=aD h;obtain⟨v4,f,h⟩:=bind_some h;refine bN 1 (nu 6 [.sl (lm (ak .i64) a),iI v2,.cptr ([iI (gD a v2)]),iI (gD a v2),.sl (lm (ak .i64) a),iI b,.cptr ([iI (gD a b)]),iI (gD a b),iI v4]) [] [] [cd bb 15 Tryz.f165 (pn 6) 9] (av (vz 2) (bh (bB (ak .i64) (ak .i64) d aT aT) (av (vz 3) (bh (bB (ak .i64) (ak .i64) e aT aT) (av [.v 0 1] (ai (co 0 1 14 (Uq g f)) (ai (cb 0) bL))))))) (aN 1 ?_);cases h;exact bE
end
noncomputable section
variable[GS](M:Nat→Prop)(c:aC)(r:ck)(C:Int)(v2:ck)(b:Int)(v4 v5 v6:ck)(f u g a:Int)(j d i l:ck)(t o:Int)(q:ck)(x w y:Nat)(z:Int→Int→Option ck)(A:Int→Int→ck→ck→ck→Option ck)(B:ck→Int→Int→ck→Option ck)
abbrev qB:Cx:=⟨bb,96,M,c⟩
abbrev pZ:=bodyPost bb Tryz.f136 (bP M c (fun v s=>v=.ref 21∧look 21 s.r=some (bk r)))
abbrev KC(a:dt)(s:AS):=VE (qB M c) (pZ M c r) a .normal s
abbrev iC(n:Nat):aq:=.c (cat Tryz.f136 (pn n))
abbrev Iw:dt:=[.b 4,iC 8191]
abbrev aay:dt:=kl (qB M c) (pZ M c r) Iw (cat Tryz.f136 (pn 65524)) y::Iw
abbrev EO:dt:=[.b 2,iC 2047]
abbrev S6:dt:=kl (qB M c) (pZ M c r) EO (cat Tryz.f136 (pn 16372)) w::EO
abbrev E6:dt:=[.b 0,iC 255]
abbrev Zw:dt:=kl (qB M c) (pZ M c r) E6 (cat Tryz.f136 (pn 2036)) x::E6
def MD:AS:=⟨[(5,.ref 21),(82,.sl (lm (ak .i64) l)),(83,iI t),(84,iI o)],[],[(21,(bk q))],[21]⟩
def Q7:AS:=⟨[(0,iI b),(5,.ref 21),(6,.ptr 6 0),(7,.ref 27),(8,iI f),(11,iI g),(43,.sl (lm (ak .i64) v2)),(44,iI (v2.length:Int)),(45,iI a)],[(6,[.ref 24])],[(21,(bk j)),(24,(bk d)),(27,(bk i))],[6,21,24,27]⟩
def LB:AS:=⟨[(0,iI b),(1,.sl (lm (ak .i64) v2)),(5,.ref 21),(6,.ptr 6 0),(7,.ref 27),(8,iI f),(28,.sl (lm (ak .i64) v2)),(29,iI (v2.length:Int)),(30,iI u)],[(6,[.ref 24])],[(21,(bk v4)),(24,(bk v5)),(27,(bk v6))],[6,21,24,27]⟩
abbrev Sc:Prop:=∀{f:Int} {u:Int},z f u=some r→LP (qB M c) (pZ M c r) E6 (cat Tryz.f136 (pn 2036)) x (LB v2 b v4 v5 v6 f u)
abbrev Lm:Prop:=∀{g:Int} {a:Int} {j:ck} {d:ck} {i:ck},A g a j d i=some r→LP (qB M c) (pZ M c r) EO (cat Tryz.f136 (pn 16372)) w (Q7 v2 b f g a j d i)
abbrev QV:Prop:=∀{l:ck} {t:Int} {o:Int} {q:ck},B l t o q=some r→LP (qB M c) (pZ M c r) Iw (cat Tryz.f136 (pn 65524)) y (MD l t o q)
variable{M c r C v2 b v4 v5 v6 f u g a j d i l t o q x w y z A B}{K:Kn}{n:Nat}
theorem ZI(g:ao K)(f:QV M c r y B)(h:xx K n B l t o q=some r):KC M c r (iC 65524::aay M c r y) (MD l t o q):=by
 unfold xx at h;refine ax 6 7 3 ?_;obtain⟨a,h⟩|⟨a,h⟩:=am h
 ·refine ah 85 a (cT 8 9 5 3 5 (aj 0 ?_));obtain⟨e,h⟩:=aD h;refine au (bB (ak .i64) (ak .i64) e aT aT) (ac (aj 2 ?_));obtain⟨b,h⟩:=aD h;refine au (cp 21 1 (ak .i64) b) (au (bI 3 0 (ak .i64) (ak .i64) (bD b).2 aT) (aQ 5 1 ?_));obtain⟨d,h⟩:=aD h;exact au (cp 21 1 (ak .i64) d) (au (dz 21 3 1 0 (ak .i64) (ak .i64) (aa ((gD q ((gD l o)))+1)) (bD d).2 aT) (ac (ag 2 (bq (f h)))))
 ·refine ah 85 a (aN 8 ?_);cases h;exact eB
theorem ajF(a:ao K)(m:Nat):QV M c r m (pX K n m):=by
 induction m with
 | zero=>intro l t o q h;cases h
 | succ m b=>intro l t o q h;have h:xx K n (pX K n m) l t o q=some r:=h;exact bn (ZI a b h)
theorem adF(G:ao K)(H:Lm M c r v2 b f w A)(h:xl K n v2 b f A g a j d i=some r):KC M c r (iC 16372::S6 M c r w) (Q7 v2 b f g a j d i):=by
 unfold xl at h;refine ax 6 7 3 ?_;obtain⟨o,h⟩|⟨o,h⟩:=am h
 ·refine ah 46 o (cT 8 9 3 3 5 (aj 1 ?_));obtain⟨y,h⟩:=aD h;refine au (bB (ak .i64) (ak .i64) y aT aT) (ac (ax 2 3 1 (aj 2 ?_)));obtain⟨l,z,h⟩:=bind_some h;refine aU (mS G z) (ac (ax 2 3 1 (bJ [0,5,6,7,8,11,12,14,43,44,45] [6] [21,24,27] ?_)));obtain⟨B,h⟩:=aD h;obtain⟨q,h⟩:=aD h;obtain⟨s,h⟩:=aD h;obtain⟨t,h⟩:=aD h;obtain⟨u,h⟩:=aD h;refine bN 3 (nu 54 [.ref 21,iI a,.ref 24,iI a,.ref 27,iI a,iI (aa (b*l)),iI f,iI (aa (Int.tdiv (aa (b*l)) f)),iI (aa (b*l)),iI f,iI (Int.tmod (aa (b*l)) f),iI a,.eptr 21 1 (a.toNat) 0,.eptr 24 1 (a.toNat) 0,.eptr 27 1 (a.toNat) 0]) [] [] [ec 21 ⟨3,1,lm (ak .i64) (List.set j a.toNat (aa (Int.tdiv (aa (b*l)) f)))⟩,ec 24 ⟨3,1,lm (ak .i64) (List.set d a.toNat (Int.tmod (aa (b*l)) f))⟩,ec 27 ⟨3,1,lm (ak .i64) (List.set i a.toNat a)⟩] (av [.v 0 1,.v 0 1,.v 0 2,.v 0 2,.v 0 3,.v 0 3,.v 0 1,.v 0 1] (bh (afw .i64 (aa (b*l)) B) (av [.v 0 2,.v 0 2] (ai (fh (lo:=0) (k:=2) (da ⟨(by kernel_rfl),(dc (Hn .i64 (aa (b*l)) q) (by kernel_rfl))⟩ (da ⟨(by kernel_rfl),(dc (Hn .i64 (aa (b*l)) q) (by kernel_rfl))⟩ ft))) (av [.v 0 3] (bh (cD 21 1 (ak .i64) (L:=j) s) (ai (dd (m:=0) (dz 21 3 1 0 (ak .i64) (ak .i64) (aa (Int.tdiv (aa (b*l)) f)) (bD s).2 aT)) (ai (DQ (lo:=1) (cD 24 1 (ak .i64) (L:=d) t)) (ai (dd (m:=1) (dz 24 3 1 0 (ak .i64) (ak .i64) (Int.tmod (aa (b*l)) f) (bD t).2 aT)) (ai (DQ (lo:=2) (cD 27 1 (ak .i64) (L:=i) u)) (ai (dd (m:=2) (dz 27 3 1 0 (ak .i64) (ak .i64) a (bD u).2 aT)) bL))))))))))) ?_
  obtain⟨I,C,h⟩:=bV h;obtain⟨J,D,h⟩:=bV h;refine bz (ks':=iC 2095719 :: .b 3::iC 130983::S6 M c r w) 0 ⟨[(0,iI b),(5,.ref 21),(6,.ptr 6 0),(7,.ref 27),(8,iI f),(11,iI g),(12,iI a),(43,.sl (lm (ak .i64) v2)),(44,iI (v2.length:Int)),(45,iI a)],[(6,[.ref 24])],[(21,(bk I)),(24,(bk J)),(27,⟨3,1,lm (ak .i64) (List.set i a.toNat a)⟩)],[6,21,24,27]⟩ ?_ (by subst D;subst C;kernel_rfl);refine aj 3 ?_;obtain⟨v,h⟩:=aD h;exact au (cp 21 1 (ak .i64) v) (au (bI 3 0 (ak .i64) (ak .i64) (bD v).2 aT) (ac (ag 2 (bq (H h)))))
 ·refine ah 46 o (gB 2 3 6 (aj 1 (m7 24 (nO 6 6 ([.sl (lm (ak .i64) d)]) (sd 165 #[(.tmp 6)] [.cptr ([.sl (lm (ak .i64) d)])] ?_)))));obtain⟨x,E,h⟩:=bind_some h;refine wy 27 0 (So G E) (ac (cf 4 5 3 2 (aj 2 (m7 27 ?_))));obtain⟨F,h⟩:=aD h;exact au (i7 (ak .i64) x (0:Int) g 72 (.tmp 80) none (some (.tmp 81)) 82 (e:=3) (sz:=1) (by kernel_rfl) (by kernel_rfl) (by kernel_rfl) (by kernel_rfl) (by kernel_rfl) (by kernel_rfl) aT (fun k N=>by subst N;kernel_rfl) F) (au (bu (ak .i64) (List.drop ((0:Int)).toNat (List.take g.toNat x))) (ac (ag 1 (ce (p:=pn 32762) n (ajF G n h)))))
theorem aiJ(e:ao K)(m:Nat):Lm M c r v2 b f m (qp K n v2 b f m):=by
 induction m with
 | zero=>intro g a j d i h;cases h
 | succ m k=>intro g a j d i h;have h:xl K n v2 b f (qp K n v2 b f m) g a j d i=some r:=h;exact bn (adF e k h)
theorem aa1(j:ao K)(i:Sc M c r v2 b v4 v5 v6 x z)(h:yU K n v2 b v4 v5 v6 z f u=some r):KC M c r (iC 2036::Zw M c r x) (LB v2 b v4 v5 v6 f u):=by
 unfold yU at h;refine ax 6 7 3 ?_;obtain⟨a,h⟩|⟨a,h⟩:=am h
 ·refine ah 31 a (cT 8 9 1 3 5 (aj 0 ?_));obtain⟨e,h⟩:=aD h;refine au (bB (ak .i64) (ak .i64) e aT aT) (ac (aj 2 ?_));obtain⟨k,g,h⟩:=bind_some h;exact aU (mS j g) (ac (ag 2 (bq (i h))))
 ·refine ah 31 a (gB 5 3 8 ?_);obtain⟨d,h⟩|⟨d,h⟩:=am h
  ·refine ah 40 d (aN 5 ?_);cases h;exact eB
  ·exact ah 40 d (oI 12 13 7 6 (aj 1 (au (bu (ak .i64) v2) (ac (ag 1 (ce (p:=pn 8186) n (aiJ j n h)))))))
theorem ZG(a:ao K)(m:Nat):Sc M c r v2 b v4 v5 v6 m (vk K n v2 b v4 v5 v6 m):=by
 induction m with
 | zero=>intro f u h;cases h
 | succ m d=>intro f u h;have h:yU K n v2 b v4 v5 v6 (vk K n v2 b v4 v5 v6 m) f u=some r:=h;exact bn (aa1 a d h)
theorem afs(a:ao K)(h:ya K n C v2=some r):bc bb 136 [iI C,.sl (lm (ak .i64) v2)] (fun v s=>v=.ref 21∧look 21 s.r=some (bk r)):=by
 refine bH (cat Tryz.f136 (pn 1)) Tryz.func136 Tryz.ntmps136 fun M c=>(bm ⟨[(0,iI C),(1,.sl (lm (ak .i64) v2))],[],[],[]⟩ ?_);unfold ya at h;refine ax 6 7 3 (aj 1 ?_);obtain⟨b,d,h⟩:=bind_some h;refine aU (mS a d) (ac (ax 2 3 1 (aj 1 (au (bu (ak .i64) v2) ?_))));obtain⟨f,h⟩:=aD h;refine oh (ak .i64) (0:Int) 72 (.tmp 20) (.tmp 20) 21 (e:=3) (sz:=1) (zc:=[iI 0]) (kd:=.i64) (kd':=.i64) f (ac ?_);obtain⟨v4,g,h⟩:=bV h;refine bz (ks':=[iC 30,iC 31]) 1 ⟨[(0,iI b),(1,.sl (lm (ak .i64) v2)),(5,.ref 21)],[],[(21,(bk v4))],[21]⟩ ?_ (by subst g;kernel_rfl);refine aj 1 (au (bu (ak .i64) v2) ?_);obtain⟨i,h⟩:=aD h;refine oh (ak .i64) (0:Int) 72 (.tmp 23) (.tmp 23) 24 (e:=3) (sz:=1) (zc:=[iI 0]) (kd:=.i64) (kd':=.i64) i (ac ?_);obtain⟨v5,j,h⟩:=bV h;refine bz (ks':=[iC 62,iC 63]) 1 ⟨[(0,iI b),(1,.sl (lm (ak .i64) v2)),(5,.ref 21),(6,.ptr 6 0)],[(6,[.ref 24])],[(21,(bk v4)),(24,(bk v5))],[6,21,24]⟩ ?_ (by subst j;kernel_rfl)
 refine aj 1 (au (bu (ak .i64) v2) ?_);obtain⟨k,h⟩:=aD h;refine oh (ak .i64) (0:Int) 72 (.tmp 26) (.tmp 26) 27 (e:=3) (sz:=1) (zc:=[iI 0]) (kd:=.i64) (kd':=.i64) k (ac ?_);obtain⟨v6,l,h⟩:=bV h;refine bz (ks':=[iC 508,iC 509,iC 255]) 4 ⟨[(0,iI b),(1,.sl (lm (ak .i64) v2)),(5,.ref 21),(6,.ptr 6 0),(7,.ref 27),(8,iI 0)],[(6,[.ref 24])],[(21,(bk v4)),(24,(bk v5)),(27,(bk v6))],[6,21,24,27]⟩ ?_ (by subst l;kernel_rfl);exact aj 1 (au (bu (ak .i64) v2) (ac (ag 1 (ce (p:=pn 1018) n (ZG a n h)))))
end
noncomputable section
variable[GS](M:Nat→Prop)(i:aC)(r:Bool×eg)(g:eg)(v2 l t u o:Int)(a q:ck)(y z:Int)(A B:ck)(C f b:Int)(d:ck)(e:Int)(k:eg)(w:Int)(D:Bool)(E:eg)(G I x:Nat)(H:Int→Int→Int→ck→ck→Option (Bool×eg))(J:Int→Int→ck→Option (Bool×eg))(F:Int→eg→Option (Bool×eg))
abbrev ry:Cx:=⟨bb,170,M,i⟩
abbrev qq:=bodyPost bb Tryz.f161 (bP M i (fun v s=>v=.bool r.1∧look 0 s.r=some (b5 r.2)))
abbrev qu(a:dt)(s:AS):=VE (ry M i) (qq M i r) a .normal s
abbrev gV(n:Nat):aq:=.c (cat Tryz.f161 (pn n))
abbrev FY:dt:=[.b 4,gV 4095]
abbrev HI:dt:=kl (ry M i) (qq M i r) FY (cat Tryz.f161 (pn 32756)) x::FY
abbrev Kv:dt:=[.b 2,gV 2047]
abbrev TC:dt:=kl (ry M i) (qq M i r) Kv (cat Tryz.f161 (pn 16372)) I::Kv
abbrev KQ:dt:=[.b 0,gV 31]
abbrev GE:dt:=kl (ry M i) (qq M i r) KQ (cat Tryz.f161 (pn 244)) G::KQ
def WW:AS:=⟨[(0,.ref 0),(2,iI l),(7,iI y),(8,iI z),(9,.ref 47),(10,.ref 52),(22,.ref 0),(23,iI (g.length:Int)),(24,iI o)],[],[(0,(b5 g)),(47,(bk A)),(52,(bk B))],[0,47,52,1000000,0]⟩
def aiR:AS:=⟨[(0,.ref 0),(13,iI f),(14,.ref 1075),(117,.ref 47),(118,iI (a.length:Int)),(119,iI e)],[],[(0,(b5 E)),(47,(bk a)),(1075,(bk d))],[0,47,1075,1000000,0]⟩
def ajW:AS:=⟨[(0,.ref 0),(13,iI f),(14,.ref 1075),(19,.eptr 0 9 (((gD a e)).toNat) 0),(20,iI w),(117,.ref 47),(118,iI (a.length:Int)),(119,iI e),(161,.bool D)],[],[(0,(b5 k)),(47,(bk a)),(1075,(bk d))],[0,47,1075,1000000,0]⟩
def Lz:AS:=⟨[(0,.ref 0),(13,iI f),(14,.ref 1075),(117,.ref 47),(118,iI (a.length:Int)),(119,iI e)],[],[(0,(b5 k)),(47,(bk a)),(1075,(bk d))],[0,47,1075,1000000,0]⟩
def Ux:AS:=⟨[(0,.ref 0),(2,iI l),(9,.ref 47),(13,iI f),(14,.ref 1075),(76,.ref 47),(77,iI (a.length:Int)),(78,iI b)],[],[(0,(b5 g)),(47,(bk a)),(1075,(bk d))],[0,47,1075,1000000,0]⟩
def agt:AS:=⟨[(0,.ref 0),(2,iI l),(7,iI C),(9,.ref 47),(10,.ref 52)],[],[(0,(b5 g)),(47,(bk a)),(52,(bk q))],[0,47,52,1000000,0]⟩
def UX:AS:=⟨[(0,.ref 0),(2,iI l),(7,iI t),(8,iI u),(9,.ref 47),(10,.ref 52),(22,.ref 0),(23,iI (g.length:Int)),(24,iI o)],[],[(0,(b5 g)),(47,(bk a)),(52,(bk q))],[0,47,52,1000000,0]⟩
abbrev Ji:Prop:=∀{t:Int} {u:Int} {o:Int} {a:ck} {q:ck},H t u o a q=some r→LP (ry M i) (qq M i r) KQ (cat Tryz.f161 (pn 244)) G (UX g l t u o a q)
abbrev UE:Prop:=∀{f:Int} {b:Int} {d:ck},J f b d=some r→LP (ry M i) (qq M i r) Kv (cat Tryz.f161 (pn 16372)) I (Ux g l a f b d)
abbrev CL:Prop:=∀{e:Int} {k:eg},F e k=some r→LP (ry M i) (qq M i r) FY (cat Tryz.f161 (pn 32756)) x (Lz a f d e k)
variable{M i r g v2 l t u o a q y z A B C f b d e k w D E G I x H J F}{K:Kn}{n:Nat}
theorem NS(b:ao K)(a:Ji M i r g l G H)(h:y4 K n g l o H y z A B=some r):qu M i r (gV 1959::GE M i r G) (WW g l o y z A B):=by
 unfold y4 at h;exact ag 1 (bq (a h))
theorem Nm(c:ao K)(b:CL M i r a f d x F)(h:yr K n a f d e F E=some r):qu M i r (.b 5::gV 262055::HI M i r x) (aiR a f d e E):=by
 unfold yr at h;exact ag 2 (bq (b h))
theorem tk(l:ao K)(g:CL M i r a f d x F)(h:mI K n a f d e k w F D=some r):qu M i r (gV 8385743 :: .b 5::gV 262055::HI M i r x) (ajW a f d e k w D):=by
 unfold mI at h;obtain⟨b,h⟩|⟨b,h⟩:=am h
 ·refine ah 161 b (bp 2 1 (aj 5 ?_));obtain⟨c,h⟩:=aD h;exact au (dz 0 220 9 7 bC bC ({ (gD k ((gD a e)))with size:=w }:bd) (lp c) aT) (aQ 8 2 (au (dz 0 220 9 8 bC bC (L:=(List.set k ((gD a e)).toNat ({ (gD k ((gD a e)))with size:=w }:bd))) (j:=((gD a e)).toNat) ({ (gD (List.set k ((gD a e)).toNat ({ (gD k ((gD a e)))with size:=w }:bd)) ((gD a e)))with fixed:=true }:bd) (iK (lp c)) aT) (ac (ag 0 (Nm l g h)))))
 ·exact ah 161 b (ag 2 (Nm l g h))
theorem afE(p:ao K)(b:CL M i r a f d x F)(h:yO K n a f d F e k=some r):qu M i r (gV 32756::HI M i r x) (Lz a f d e k):=by
 unfold yO at h;refine ax 6 7 3 ?_;obtain⟨c,h⟩|⟨c,h⟩:=am h
 ·refine ah 120 c (cT 8 9 5 3 5 (aj 1 ?_));obtain⟨q,h⟩:=aD h;refine au (cp 47 1 (ak .i64) q) (au (bI 3 0 (ak .i64) (ak .i64) (bD q).2 aT) (ac (ax 2 3 1 (aj 2 ?_))));obtain⟨s,h⟩:=aD h;refine au (cp 0 9 bC s) (ac (ax 2 3 1 (bJ [0,13,14,17,19,117,118,119] [] [0,47,1075] ?_)));obtain⟨t,h⟩:=aD h;obtain⟨w,z,h⟩:=bind_some h;refine bN 1 (nu 127 [.eptr 0 9 (((gD a e)).toNat) 0,.eptr 0 9 (((gD a e)).toNat) 0,.eptr 0 9 (((gD a e)).toNat) 0,.agg (cm ((gD k ((gD a e))).Item)),.ref 1075,iI e,.eptr 1075 1 (e.toNat) 0,iI (gD d e),iI w]) [] [] [cd bb 170 Tryz.f161 (pn 4192870) 9] (av (vz 3) (bh (bI 176 0 bC bC (bD s).2 aT) (av (vz 2) (bh (cD 1075 1 (ak .i64) (L:=d) t) (bh (bI 3 0 (ak .i64) (ak .i64) (bD t).2 aT) (ai (co 0 1 135 (IX p z)) (ai (cb 0) bL))))))) (ax 2 3 1 (aj 3 ?_));obtain⟨g,h⟩|⟨g,h⟩:=am h
  ·exact aF 138 g (ac (ag 0 (tk p b h)))
  ·refine aF 138 g (aQ 6 3 ?_);obtain⟨j,h⟩|⟨j,h⟩:=am h
   ·refine aF 141 j (aQ 9 3 ?_);obtain⟨u,h⟩:=aD h;refine au (cp 1075 1 (ak .i64) u) (au (bI 3 0 (ak .i64) (ak .i64) (bD u).2 aT) (aQ 15 4 ?_));obtain⟨l,h⟩|⟨l,h⟩:=am h
    ·exact aF 150 l (ac (ag 0 (tk p b h)))
    ·refine aF 150 l (aQ 18 3 ?_);obtain⟨m,h⟩|⟨m,h⟩:=am h
     ·refine aF 153 m (aQ 21 3 ?_);obtain⟨v,h⟩:=aD h;exact au (cp 1075 1 (ak .i64) v) (au (bI 3 0 (ak .i64) (ak .i64) (bD v).2 aT) (ac (ag 0 (tk p b h))))
     ·exact aF 153 m (ac (ag 0 (tk p b h)))
   ·refine aF 141 j (aQ 18 12 ?_);obtain⟨o,h⟩|⟨o,h⟩:=am h
    ·refine aF 153 o (aQ 21 3 ?_);obtain⟨y,h⟩:=aD h;exact au (cp 1075 1 (ak .i64) y) (au (bI 3 0 (ak .i64) (ak .i64) (bD y).2 aT) (ac (ag 0 (tk p b h))))
    ·exact aF 153 o (ac (ag 0 (tk p b h)))
 ·refine ah 120 c (aN 8 ?_);cases h;exact eB
theorem WI(b:ao K)(m:Nat):CL M i r a f d m (rf K n a f d m):=by
 induction m with
 | zero=>intro e k h;cases h
 | succ m c=>intro e k h;have h:yO K n a f d (rf K n a f d m) e k=some r:=h;exact bn (afE b c h)
theorem YF(z:ao K)(y:UE M i r g l a I J)(h:A3 K n g l a J f b d=some r):qu M i r (gV 16372::TC M i r I) (Ux g l a f b d):=by
 unfold A3 at h;refine ax 6 7 3 ?_;obtain⟨e,h⟩|⟨e,h⟩:=am h
 ·refine ah 79 e (cT 8 9 3 3 5 (aj 1 ?_));obtain⟨q,h⟩:=aD h;refine au (cp 47 1 (ak .i64) q) (au (bI 3 0 (ak .i64) (ak .i64) (bD q).2 aT) (ac (ax 2 3 1 (bJ [0,2,9,13,14,15,16,76,77,78] [] [0,47,1075] ?_))));obtain⟨s,h⟩:=aD h;obtain⟨u,h⟩:=aD h;obtain⟨j,h⟩:=aD h;refine bN 1 (nu 83 [.ref 1075,iI b,.ref 0,iI (gD a b),.eptr 0 9 (((gD a b)).toNat) 0,.eptr 0 9 (((gD a b)).toNat) 0,.eptr 0 9 (((gD a b)).toNat) 0,iI (((gD g ((gD a b))).Item).aC),iI l,.ref 1075,iI b,.eptr 1075 1 (b.toNat) 0,iI (gD d b),iI (aa (l*(gD d b))),iI (aa ((((gD g ((gD a b))).Item).aC)+(aa (l*(gD d b))))),.eptr 1075 1 (b.toNat) 0]) [] [] [ec 1075 ⟨3,1,lm (ak .i64) (List.set d b.toNat (aa ((((gD g ((gD a b))).Item).aC)+(aa (l*(gD d b))))))⟩] (av (vz 4) (bh (cD 0 9 bC (L:=g) s) (av (vz 2) (bh (bI 3 0 bC bC (bD s).2 aT) (av (vz 3) (bh (cD 1075 1 (ak .i64) (L:=d) u) (bh (bI 3 0 (ak .i64) (ak .i64) (bD j).2 aT) (av (vz 2) (bh (cD 1075 1 (ak .i64) (L:=d) j) (ai (dd (m:=0) (dz 1075 3 1 0 (ak .i64) (ak .i64) (aa ((((gD g ((gD a b))).Item).aC)+(aa (l*(gD d b))))) (bD j).2 aT)) bL)))))))))) ?_
  obtain⟨c,v,h⟩:=bV h;refine bz (ks':=gV 1047859 :: .b 3::gV 130983::TC M i r I) 0 ⟨[(0,.ref 0),(2,iI l),(9,.ref 47),(13,iI f),(14,.ref 1075),(15,iI b),(16,iI (gD a b)),(76,.ref 47),(77,iI (a.length:Int)),(78,iI b)],[],[(0,(b5 g)),(47,(bk a)),(1075,(bk c))],[0,47,1075,1000000,0]⟩ ?_ (by subst v;kernel_rfl);obtain⟨t,h⟩:=aD h;obtain⟨w,h⟩:=aD h;obtain⟨o,x,h⟩:=bind_some h;obtain⟨k,h⟩:=aD h;exact bN 1 (nu 99 [iI f,.ref 0,iI (gD a b),.eptr 0 9 (((gD a b)).toNat) 0,.eptr 0 9 (((gD a b)).toNat) 0,.agg (cm ((gD g ((gD a b))).Item)),.ref 1075,iI b,.eptr 1075 1 (b.toNat) 0,iI (gD c b),iI o,.ref 1075,iI b,.eptr 1075 1 (b.toNat) 0,iI (gD c b),iI (aa (o-(gD c b))),iI (aa (f+(aa (o-(gD c b)))))]) [] [] [cd bb 170 Tryz.f161 (pn 1047859) 17] (av (vz 3) (bh (cD 0 9 bC (L:=g) t) (av [.v 0 1] (bh (bI 176 0 bC bC (bD t).2 aT) (av (vz 2) (bh (cD 1075 1 (ak .i64) (L:=c) w) (bh (bI 3 0 (ak .i64) (ak .i64) (bD k).2 aT) (ai (co 0 1 109 (IX z x)) (av (vz 2) (bh (cD 1075 1 (ak .i64) (L:=c) k) (bh (bI 3 0 (ak .i64) (ak .i64) (bD k).2 aT) (av (vz 2) (ai (cb 0) bL))))))))))))) (ag 2 (bq (y h)))
 ·exact ah 79 e (yx 4 5 3 7 (aj 1 (au (bu (ak .i64) a) (ac (ag 1 (ce (p:=pn 16378) n (WI z n h)))))))
theorem aic(c:ao K)(m:Nat):UE M i r g l a m (rS K n g l a m):=by
 induction m with
 | zero=>intro f b d h;cases h
 | succ m e=>intro f b d h;have h:A3 K n g l a (rS K n g l a m) f b d=some r:=h;exact bn (YF c e h)
theorem TB(c:ao K)(h:uO K n g l a q C=some r):qu M i r [gV 255] (agt g l a q C):=by
 unfold uO at h;refine ax 6 7 3 (aj 2 (m7 52 ?_));obtain⟨d,b,h⟩:=bind_some h;exact eT 1075 (afs c b) (eO 21) (ac (cf 4 5 3 2 (aj 1 (au (bu (ak .i64) a) (ac (ag 1 (ce (p:=pn 8186) n (aic c n h))))))))
theorem afW(k:ao K)(j:Ji M i r g l G H)(h:zR K n g l H t u o a q=some r):qu M i r (gV 244::GE M i r G) (UX g l t u o a q):=by
 unfold zR at h;refine ax 6 7 3 ?_;obtain⟨b,h⟩|⟨b,h⟩:=am h
 ·refine ah 25 b (cT 8 9 1 3 5 (aj 1 ?_));obtain⟨f,h⟩:=aD h;refine au (cp 0 9 bC f) (au (bI 220 0 bC bC (bD f).2 aT) (ac (ax 5 3 3 ?_)));obtain⟨c,h⟩|⟨c,h⟩:=am h
  ·exact ah 30 c (ag 6 (NS k j h))
  ·refine ah 30 c ?_;obtain⟨w,m,h⟩:=bV h;obtain⟨x,p,h⟩:=bV h;refine bz (ks':=gV 125342::gV 125343 :: .b 1::gV 1959::GE M i r G) 7 ⟨[(0,.ref 0),(2,iI l),(7,iI w),(8,iI x),(9,.ref 47),(10,.ref 52),(11,iI o),(12,.ptr 12 0),(22,.ref 0),(23,iI (g.length:Int)),(24,iI o)],[(12,bC (gD g o))],[(0,(b5 g)),(47,(bk a)),(52,(bk q))],[12,0,47,52,1000000,0]⟩ ?_ (by subst p;subst m;kernel_rfl);refine aj 3 ?_;obtain⟨s,h⟩:=aD h;refine au (cw 47 47 3 1 (ak .i64) (rfl) aT s) (ac (aj 4 ?_));obtain⟨v,h⟩:=aD h;exact au (cw 52 52 3 1 (ak .i64) (rfl) aT v) (ac (ag 1 (NS k j h)))
 ·refine ah 25 b (yx 4 5 3 7 (aj 1 (au (bu (ak .i64) a) (ac ?_))));obtain⟨d,h⟩|⟨d,h⟩:=am h
  ·refine ah 56 d (aN 5 ?_);cases h;exact eB
  ·refine ah 56 d (fV 13 7 7 ?_);obtain⟨e,h⟩|⟨e,h⟩:=am h
   ·exact ah 62 e (ag 2 (TB k h))
   ·exact ah 62 e (ag 2 (TB k h))
theorem aaR(b:ao K)(m:Nat):Ji M i r g l m (sk K n g l m):=by
 induction m with
 | zero=>intro t u o a q h;cases h
 | succ m c=>intro t u o a q h;have h:zR K n g l (sk K n g l m) t u o a q=some r:=h;exact bn (afW b c h)
theorem adO(a:ao K)(h:uw K n g v2 l=some r):wa bb 161 [.ref 0,iI v2,iI l] 0 (b5 g) (fun v s=>v=.bool r.1∧look 0 s.r=some (b5 r.2)):=by
 refine DZ (c:=cat Tryz.f161 (pn 1)) Tryz.func161 (by kernel_rfl) _ Tryz.ntmps161 (lp (by kernel_rfl)) fun M i=>(bm ⟨[(0,.ref 0),(1,iI v2),(2,iI l)],[],[(0,(b5 g))],[0,1000000]⟩ ?_);unfold uw at h;exact cf 60 61 31 8 (aj 1 (au (bu bC g) (ac (gC 2 0 1 (bJ [0,2,7,8,9,10,22,23,24] [] [0] (eQ 47 9 3 1 (eQ 52 10 3 1 (ag 0 (ce (p:=pn 122) n (aaR a n h))))))))))
end
noncomputable section
variable[GS](M:Nat→Prop)(f:aC)(r:ck)(l:ek)(v2 g x t:Int)(c:eg)(d a:Int)(b u y o:eg)(i:Bool×eg)(k:Int)(q:ck)(A w B C:Nat)(D:Int→Int→eg→Option ck)(z:Int→eg→Option ck)(E:eg→Option ck)(F:Int→ck→Option ck)
abbrev mj:Cx:=⟨bb,158,M,f⟩
abbrev m6:=bodyPost bb Tryz.f129 (bP M f (fun v s=>v=.ref 143∧look 143 s.r=some (bk r)))
abbrev qg(a:dt)(s:AS):=VE (mj M f) (m6 M f r) a .normal s
abbrev dY(n:Nat):aq:=.c (cat Tryz.f129 (pn n))
abbrev J0:dt:=[.b 6,dY 4095]
abbrev WN:dt:=kl (mj M f) (m6 M f r) J0 (cat Tryz.f129 (pn 32756)) C::J0
abbrev J2:dt:=[.b 4,dY 1023]
abbrev ahT:dt:=kl (mj M f) (m6 M f r) J2 (cat Tryz.f129 (pn 4088)) B::J2
abbrev FM:dt:=[.b 2,dY 511]
abbrev yl:dt:=kl (mj M f) (m6 M f r) FM (cat Tryz.f129 (pn 4084)) w::FM
abbrev H9:dt:=[.b 0,dY 63]
abbrev K7:dt:=kl (mj M f) (m6 M f r) H9 (cat Tryz.f129 (pn 500)) A::H9
def Wu:AS:=⟨[(1,iI g),(5,.ref 20),(9,iI d),(48,iI (c.length:Int)),(49,iI a)],[],[(20,(b5 y))],[20]⟩
def agh:AS:=⟨[(1,iI g),(5,.ref 20),(9,iI d),(11,.eptr 20 9 (a.toNat) 0),(48,iI (c.length:Int)),(49,iI a)],[],[(20,(b5 u))],[20]⟩
def M7:AS:=⟨[(12,.ref 143),(144,.ref 20),(145,iI (i.2.length:Int)),(146,iI k)],[],[(20,(b5 i.2)),(143,(bk q))],[20,143]⟩
def Ug:AS:=⟨[(1,iI g),(5,.ref 20),(9,iI d)],[],[(20,(b5 o))],[20]⟩
def UD:AS:=⟨[(1,iI g),(5,.ref 20),(9,iI d),(48,iI (c.length:Int)),(49,iI a)],[],[(20,(b5 b))],[20]⟩
def VL:AS:=⟨[(1,iI g),(5,.ref 20),(9,iI d)],[],[(20,(b5 c))],[20]⟩
def RZ:AS:=⟨[(1,iI g),(5,.ref 20),(6,iI x),(21,.sl (lm cm l)),(22,iI (l.length:Int)),(23,iI t)],[],[(20,(b5 c))],[20]⟩
abbrev TX:Prop:=∀{x:Int} {t:Int} {c:eg},D x t c=some r→LP (mj M f) (m6 M f r) H9 (cat Tryz.f129 (pn 500)) A (RZ l g x t c)
abbrev Dm:Prop:=∀{a:Int} {b:eg},z a b=some r→LP (mj M f) (m6 M f r) FM (cat Tryz.f129 (pn 4084)) w (UD g c d a b)
abbrev Mn:Prop:=∀{o:eg},E o=some r→LP (mj M f) (m6 M f r) J2 (cat Tryz.f129 (pn 4088)) B (Ug g d o)
abbrev Py:Prop:=∀{k:Int} {q:ck},F k q=some r→LP (mj M f) (m6 M f r) J0 (cat Tryz.f129 (pn 32756)) C (M7 i k q)
variable{M f r l v2 g x t c d a b u y o i k q A w B C D z E F}{K:Kn}{n:Nat}
theorem ND(e:ao K)(b:Dm M f r g c d w z)(h:zY K n g c d a z y=some r):qg M f r (.b 3::dY 32679::yl M f r w) (Wu g c d a y):=by
 unfold zY at h;exact ag 2 (bq (b h))
theorem Nd(j:ao K)(i:Dm M f r g c d w z)(h:yT K n g c d a z u=some r):qg M f r (dY 522855 :: .b 3::dY 32679::yl M f r w) (agh g c d a u):=by
 unfold yT at h;refine aj 4 ?_;obtain⟨b,h⟩:=aD h;refine au (bI 4 8 bC bC (lp b) aT) (aQ 6 1 ?_);obtain⟨e,h⟩|⟨e,h⟩:=am h
 ·exact aF 127 e (aQ 14 8 (au (dz 20 220 9 8 bC bC ({ (gD u a)with fixed:=true }:bd) (lp b) aT) (ac (ag 0 (ND j i h)))))
 ·exact aF 127 e (aQ 9 3 (au (bI 3 5 bC bC (lp b) aT) (aQ 14 4 (au (dz 20 220 9 8 bC bC ({ (gD u a)with fixed:=(((gD u a).factor) == 0) }:bd) (lp b) aT) (ac (ag 0 (ND j i h)))))))
theorem aaz(e:ao K)(d:Py M f r i C F)(h:Aj K n i F k q=some r):qg M f r (dY 32756::WN M f r C) (M7 i k q):=by
 unfold Aj at h;refine ax 6 7 3 ?_;obtain⟨a,h⟩|⟨a,h⟩:=am h
 ·refine ah 147 a (cT 8 9 7 3 5 (aj 1 ?_));obtain⟨b,h⟩:=aD h;refine au (cp 20 9 bC b) (au (bI 220 0 bC bC (bD b).2 aT) (ac (aj 4 ?_)));obtain⟨c,h⟩:=aD h;exact au (cp 143 1 (ak .i64) c) (au (dz 143 3 1 0 (ak .i64) (ak .i64) ((gD i.2 k).size) (bD c).2 aT) (ac (ag 2 (bq (d h)))))
 ·refine ah 147 a (aN 8 ?_);cases h;exact eB
theorem ajv(a:ao K)(m:Nat):Py M f r i m (sn K n i m):=by
 induction m with
 | zero=>intro k q h;cases h
 | succ m b=>intro k q h;have h:Aj K n i (sn K n i m) k q=some r:=h;exact bn (aaz a b h)
theorem WK(m:ao K)(k:Mn M f r g d B E)(h:xF K n g d E o=some r):qg M f r (dY 4088::ahT M f r B) (Ug g d o):=by
 unfold xF at h;refine cf 4 5 3 2 (aj 3 ?_);obtain⟨i,b,h⟩:=bind_some h;refine wy 20 0 (adO m b) (ac ?_);obtain⟨a,h⟩|⟨a,h⟩:=am h
 ·exact ah 140 a (ag 5 (bq (k h)))
 ·refine ah 140 a (gB 2 3 6 (aj 1 (au (bu bC i.2) ?_)));obtain⟨c,h⟩:=aD h;refine oh (ak .i64) (0:Int) 72 (.tmp 142) (.tmp 142) 143 (e:=3) (sz:=1) (zc:=[iI 0]) (kd:=.i64) (kd':=.i64) c (ac ?_);obtain⟨l,j,h⟩:=bV h;refine bz (ks':=[dY 8188,dY 8189,dY 4095]) 2 ⟨[(5,.ref 20),(12,.ref 143)],[],[(20,(b5 i.2)),(143,(bk l))],[20,143]⟩ ?_ (by subst j;kernel_rfl);exact aj 1 (au (bu bC i.2) (ac (ag 1 (ce (p:=pn 16378) n (ajv m n h)))))
theorem aeR(a:ao K)(m:Nat):Mn M f r g d m (ro K n g d m):=by
 induction m with
 | zero=>intro o h;cases h
 | succ m b=>intro o h;have h:xF K n g d (ro K n g d m) o=some r:=h;exact bn (WK a b h)
theorem acW(u:ao K)(t:Dm M f r g c d w z)(h:AW K n g c d z a b=some r):qg M f r (dY 4084::yl M f r w) (UD g c d a b):=by
 unfold AW at h;refine ax 6 7 3 ?_;obtain⟨q,h⟩|⟨q,h⟩:=am h
 ·refine ah 50 q (cT 18 19 3 3 7 (aj 2 ?_));obtain⟨e,h⟩:=aD h;refine au (cp 20 9 bC e) (ac (ax 5 3 3 ?_));obtain⟨s,h⟩|⟨s,h⟩:=am h
  ·refine ah 56 s (ax 4 5 2 (bJ [1,5,9,11,48,49] [] [20] (bN 2 (nu 57 [.eptr 20 9 (a.toNat) 0,.eptr 20 9 (a.toNat) 0,.eptr 20 9 (a.toNat) 0,.eptr 20 9 (a.toNat) 0,.eptr 20 9 (a.toNat) 0,.eptr 20 9 (a.toNat) 1,iI (((gD b a).Item).Grow),.eptr 20 9 (a.toNat) 0,.eptr 20 9 (a.toNat) 0,.eptr 20 9 (a.toNat) 0,.eptr 20 9 (a.toNat) 1,iI (((gD b a).Item).Grow),.eptr 20 9 (a.toNat) 0,.eptr 20 9 (a.toNat) 5,.eptr 20 9 (a.toNat) 0,.eptr 20 9 (a.toNat) 6]) [] [] [ec 20 ⟨220,9,lm bC (List.set b a.toNat ({ (gD b a)with factor:=((gD b a).Item).Grow }:bd))⟩,ec 20 ⟨220,9,lm bC (List.set (List.set b a.toNat ({ (gD b a)with factor:=((gD b a).Item).Grow }:bd)) a.toNat ({ (gD (List.set b a.toNat ({ (gD b a)with factor:=((gD b a).Item).Grow }:bd)) a)with weight:=((gD b a).Item).Grow }:bd))⟩] (av [.v 0 1,.v 0 2,.v 0 1,.v 0 1,.v 0 1,.v 0 1] (bh (bI 3 1 bC bC (bD e).2 aT) (av [.v 0 2,.v 0 2,.v 0 2,.v 0 2] (bh (bI 3 1 bC bC (bD e).2 aT) (av [.v 0 2,.v 0 1] (ai (dd (m:=0) (dz 20 220 9 5 bC bC ({ (gD b a)with factor:=((gD b a).Item).Grow }:bd) (bD e).2 aT)) (av [.v 1 2,.v 1 1] (ai (dd (m:=1) (dz 20 220 9 6 bC bC (L:=(List.set b a.toNat ({ (gD b a)with factor:=((gD b a).Item).Grow }:bd))) (j:=a.toNat) ({ (gD (List.set b a.toNat ({ (gD b a)with factor:=((gD b a).Item).Grow }:bd)) a)with weight:=((gD b a).Item).Grow }:bd) (iK (bD e).2) aT)) bL)))))))) ?_)))
   obtain⟨i,l,h⟩:=bV h;refine bz (ks':=dY 4182837::dY 522855 :: .b 3::dY 32679::yl M f r w) 0 ⟨[(1,iI g),(5,.ref 20),(9,iI d),(11,.eptr 20 9 (a.toNat) 0),(48,iI (c.length:Int)),(49,iI a)],[],[(20,(b5 i))],[20]⟩ ?_ (by subst l;kernel_rfl);exact bN 1 (nu 73 [.eptr 20 9 (a.toNat) 0,.eptr 20 9 (a.toNat) 0,.eptr 20 9 (a.toNat) 0,.eptr 20 9 (a.toNat) 0,.eptr 20 9 (a.toNat) 0,iI (((gD i a).Item).aC),.eptr 20 9 (a.toNat) 0,.eptr 20 9 (a.toNat) 0,.eptr 20 9 (a.toNat) 7,iI ((gD i a).size),.bool (decide ((((gD i a).Item).aC)>((gD i a).size))),.eptr 20 9 (a.toNat) 0,.eptr 20 9 (a.toNat) 8]) [] [] [ec 20 ⟨220,9,lm bC (List.set i a.toNat ({ (gD i a)with fixed:=(decide ((((gD i a).Item).aC)>((gD i a).size))) }:bd))⟩] (av (vz 5) (bh (bI 3 0 bC bC (L:=i) (j:=a.toNat) (by rw[←l];exact(iK (iK (bD e).2))) aT) (av (vz 3) (bh (bI 3 7 bC bC (L:=i) (j:=a.toNat) (by rw[←l];exact(iK (iK (bD e).2))) aT) (av [.v 0 1,.v 0 2,.v 0 1] (ai (dd (m:=0) (dz 20 220 9 8 bC bC (L:=i) (j:=a.toNat) ({ (gD i a)with fixed:=(decide ((((gD i a).Item).aC)>((gD i a).size))) }:bd) (by rw[←l];exact(iK (iK (bD e).2))) aT)) bL)))))) (ag 0 (Nd u t h))
  ·refine ah 56 s (ax 6 7 2 (bJ [1,5,9,11,48,49] [] [20] (bN 2 (nu 86 [.eptr 20 9 (a.toNat) 0,.eptr 20 9 (a.toNat) 0,.eptr 20 9 (a.toNat) 0,.eptr 20 9 (a.toNat) 0,.eptr 20 9 (a.toNat) 0,.eptr 20 9 (a.toNat) 2,iI (((gD b a).Item).Shrink),.eptr 20 9 (a.toNat) 0,.eptr 20 9 (a.toNat) 0,.eptr 20 9 (a.toNat) 0,.eptr 20 9 (a.toNat) 0,iI (((gD b a).Item).aC),.eptr 20 9 (a.toNat) 0,.eptr 20 9 (a.toNat) 0,.eptr 20 9 (a.toNat) 0,.eptr 20 9 (a.toNat) 2,iI (((gD b a).Item).Shrink),iI (aa ((((gD b a).Item).aC)*(((gD b a).Item).Shrink))),iI (aa (Int.tdiv (aa ((((gD b a).Item).aC)*(((gD b a).Item).Shrink))) 1000)),.eptr 20 9 (a.toNat) 0,.eptr 20 9 (a.toNat) 5,.eptr 20 9 (a.toNat) 0,.eptr 20 9 (a.toNat) 6]) [] [] [ec 20 ⟨220,9,lm bC (List.set b a.toNat ({ (gD b a)with factor:=((gD b a).Item).Shrink }:bd))⟩,ec 20 ⟨220,9,lm bC (List.set (List.set b a.toNat ({ (gD b a)with factor:=((gD b a).Item).Shrink }:bd)) a.toNat ({ (gD (List.set b a.toNat ({ (gD b a)with factor:=((gD b a).Item).Shrink }:bd)) a)with weight:=(aa (Int.tdiv (aa ((((gD b a).Item).aC)*(((gD b a).Item).Shrink))) 1000)) }:bd))⟩] (av [.v 0 1,.v 0 2,.v 0 1,.v 0 1,.v 0 1,.v 0 1] (bh (bI 3 2 bC bC (bD e).2 aT) (av [.v 0 2,.v 0 2,.v 0 2,.v 0 2] (bh (bI 3 0 bC bC (bD e).2 aT) (av [.v 0 2,.v 0 2,.v 0 2,.v 0 2] (bh (bI 3 2 bC bC (bD e).2 aT) (av [.v 0 2,.v 0 2,.v 0 2,.v 0 1] (ai (dd (m:=0) (dz 20 220 9 5 bC bC ({ (gD b a)with factor:=((gD b a).Item).Shrink }:bd) (bD e).2 aT)) (av [.v 1 2,.v 1 1] (ai (dd (m:=1) (dz 20 220 9 6 bC bC (L:=(List.set b a.toNat ({ (gD b a)with factor:=((gD b a).Item).Shrink }:bd))) (j:=a.toNat) ({ (gD (List.set b a.toNat ({ (gD b a)with factor:=((gD b a).Item).Shrink }:bd)) a)with weight:=(aa (Int.tdiv (aa ((((gD b a).Item).aC)*(((gD b a).Item).Shrink))) 1000)) }:bd) (iK (bD e).2) aT)) bL)))))))))) ?_)))
   obtain⟨k,o,h⟩:=bV h;refine bz (ks':=dY 4182839::dY 522855 :: .b 3::dY 32679::yl M f r w) 0 ⟨[(1,iI g),(5,.ref 20),(9,iI d),(11,.eptr 20 9 (a.toNat) 0),(48,iI (c.length:Int)),(49,iI a)],[],[(20,(b5 k))],[20]⟩ ?_ (by subst o;kernel_rfl);exact bN 1 (nu 109 [.eptr 20 9 (a.toNat) 0,.eptr 20 9 (a.toNat) 0,.eptr 20 9 (a.toNat) 0,.eptr 20 9 (a.toNat) 0,.eptr 20 9 (a.toNat) 0,iI (((gD k a).Item).aC),.eptr 20 9 (a.toNat) 0,.eptr 20 9 (a.toNat) 0,.eptr 20 9 (a.toNat) 7,iI ((gD k a).size),.bool (decide ((((gD k a).Item).aC)<((gD k a).size))),.eptr 20 9 (a.toNat) 0,.eptr 20 9 (a.toNat) 8]) [] [] [ec 20 ⟨220,9,lm bC (List.set k a.toNat ({ (gD k a)with fixed:=(decide ((((gD k a).Item).aC)<((gD k a).size))) }:bd))⟩] (av (vz 5) (bh (bI 3 0 bC bC (L:=k) (j:=a.toNat) (by rw[←o];exact(iK (iK (bD e).2))) aT) (av (vz 3) (bh (bI 3 7 bC bC (L:=k) (j:=a.toNat) (by rw[←o];exact(iK (iK (bD e).2))) aT) (av [.v 0 1,.v 0 2,.v 0 1] (ai (dd (m:=0) (dz 20 220 9 8 bC bC (L:=k) (j:=a.toNat) ({ (gD k a)with fixed:=(decide ((((gD k a).Item).aC)<((gD k a).size))) }:bd) (by rw[←o];exact(iK (iK (bD e).2))) aT)) bL)))))) (ag 0 (Nd u t h))
 ·exact ah 50 q (ag 7 (ce (p:=pn 2044) n (aeR u n h)))
theorem VG(e:ao K)(m:Nat):Dm M f r g c d m (uj K n g c d m):=by
 induction m with
 | zero=>intro a b h;cases h
 | succ m i=>intro a b h;have h:AW K n g c d (uj K n g c d m) a b=some r:=h;exact bn (acW e i h)
theorem L9(a:ao K)(h:uC K n g c d=some r):qg M f r [dY 255] (VL g c d):=by
 unfold uC at h;exact cf 4 5 3 2 (aj 1 (au (bu bC c) (ac (ag 1 (ce (p:=pn 2042) n (VG a n h))))))
theorem Xl(k:ao K)(u:TX M f r l g A D)(h:xH K n l g D x t c=some r):qg M f r (dY 500::K7 M f r A) (RZ l g x t c):=by
 unfold xH at h;refine ax 6 7 3 ?_;obtain⟨d,h⟩|⟨d,h⟩:=am h
 ·refine ah 24 d (cT 8 9 1 3 5 (aj 1 ?_));obtain⟨o,h⟩:=aD h;refine au (bB cm cm o (KT) aT) (ac (ax 2 3 1 (bJ [1,5,6,7,8,21,22,23] [8] [20] ?_)));obtain⟨a,p,h⟩:=bind_some h;obtain⟨b,q,h⟩:=bind_some h;obtain⟨i,h⟩:=aD h;refine bN 1 (nu 28 [.ref 20,iI t,.agg (cm (gD l t)),.agg (cm a),.agg (cm (gD l t)),iI b,.agg (bC ({ iU with Item:=a,size:=b }:bd)),.eptr 20 9 (t.toNat) 0]) [] [] [ec 20 ⟨220,9,lm bC (List.set c t.toNat ({ iU with Item:=a,size:=b }:bd))⟩] (av (vz 3) (ai (co 0 1 31 (K4 k p)) (av [.v 0 1] (ai (co 0 1 33 (F0 k q)) (av [.v 0 1] (bh (cD 20 9 bC (L:=c) i) (ai (dd (m:=0) (dz 20 220 9 0 bC bC ({ iU with Item:=a,size:=b }:bd) (bD i).2 aT)) bL))))))) ?_;obtain⟨v,s,h⟩:=bV h;refine bz (ks':=dY 32051 :: .b 1::dY 4007::K7 M f r A) 0 ⟨[(1,iI g),(5,.ref 20),(6,iI x),(7,iI t),(21,.sl (lm cm l)),(22,iI (l.length:Int)),(23,iI t)],[],[(20,(b5 v))],[20]⟩ ?_ (by subst s;kernel_rfl)
  refine aj 3 ?_;obtain⟨j,h⟩:=aD h;exact au (cp 20 9 bC j) (aQ 5 1 (au (bI 3 7 bC bC (bD j).2 aT) (ac (ag 2 (bq (u h))))))
 ·refine ah 24 d (gB 13 7 10 ?_);obtain⟨e,h⟩|⟨e,h⟩:=am h
  ·exact ah 46 e (ag 2 (L9 k h))
  ·exact ah 46 e (ag 2 (L9 k h))
theorem ag5(a:ao K)(m:Nat):TX M f r l g m (vE K n l g m):=by
 induction m with
 | zero=>intro x t c h;cases h
 | succ m b=>intro x t c h;have h:xH K n l g (vE K n l g m) x t c=some r:=h;exact bn (Xl a b h)
theorem Ta(d:ao K)(h:jx K n l v2=some r):bc bb 129 [.sl (lm cm l),iI v2] (fun v s=>v=.ref 143∧look 143 s.r=some (bk r)):=by
 refine bH (cat Tryz.f129 (pn 1)) Tryz.func129 Tryz.ntmps129 fun M f=>(bm ⟨[(0,.sl (lm cm l)),(1,iI v2)],[],[],[]⟩ ?_);unfold jx at h;obtain⟨g,a,h⟩:=bV h;refine bz (ks':=[dY 14,dY 15]) 5 ⟨[(0,.sl (lm cm l)),(1,iI g)],[],[],[]⟩ ?_ (by subst a;kernel_rfl);refine aj 1 (au (bu cm l) ?_);obtain⟨b,h⟩:=aD h;refine oh bC (iU:bd) 218 (.tmp 19) (.tmp 19) 20 (e:=220) (sz:=9) (zc:=bC iU) (kd:=.i64) (kd':=.i64) b (ac ?_);obtain⟨v4,c,h⟩:=bV h;refine bz (ks':=[dY 124,dY 125,dY 63]) 4 ⟨[(0,.sl (lm cm l)),(1,iI g),(5,.ref 20),(6,iI 0)],[],[(20,(b5 v4))],[20]⟩ ?_ (by subst c;kernel_rfl);exact aj 1 (au (bu cm l) (ac (ag 1 (ce (p:=pn 250) n (ag5 d n h)))))
end
noncomputable section
variable[GS](M:Nat→Prop)(w:aC)(r:dn×Int×Int×Int×dO)(C:ab)(v2:Int)(D:bw)(v4 v5:Int)(v6:dO)(B:d3)(x q:Int)(t:ck)(z:ek)(b d:ck)(f:dn)(i j:Int)(l:dO)(o:ae×Int×Int×dO)(A E F G:Int)(g:ck)(y a:Int)(u:dn)(I J:Nat)(N:Int→Int→ck→ek→ck→ck→dn→Int→Int→dO→Option hH)(O:Int→Int→dn→Option hH)
abbrev AY:Cx:=⟨bb,170,M,w⟩
abbrev xO:=bodyPost bb Tryz.f80 (bP M w (fun v s=>v=.tup [.ref 440010,iI r.2.1]∧cB s.o [(af r.2.2.1 r.2.2.2.1)]∧look 440009 s.r=some (bt r.2.2.2.2)∧look 440010 s.r=some (bx r.1)))
abbrev CR(a:dt)(s:AS):=VE (AY M w) (xO M w r) a .normal s
abbrev eG(n:Nat):aq:=.c (cat Tryz.f80 (pn n))
abbrev Ih:dt:=[.b 2,eG 4095]
abbrev ET:dt:=kl (AY M w) (xO M w r) Ih (cat Tryz.f80 (pn 32756)) J::Ih
abbrev Eu:dt:=[.b 0,eG 511]
abbrev zd:dt:=kl (AY M w) (xO M w r) Eu (cat Tryz.f80 (pn 4084)) I::Eu
def aei:AS:=⟨[(1,iI v2),(3,.ptr 3 0),(5,.ptr 5 0),(8,.ref 116),(9,.ref 84),(10,.ref 99),(11,.ref 88),(12,iI x),(13,.ref 28),(16,.ptr 16 0),(18,iI A),(19,.ptr 19 0),(30,.ref 1030),(31,iI (B.length:Int)),(32,iI q)],[(3,aB C),(5,bO D),(16,aG o.1),(19,cm (⟨G,E,F,0,1048576⟩:bF)),(af o.2.1 o.2.2.1)],[(28,(bk t)),(84,⟨176,5,lm cm z⟩),(88,(bk b)),(99,(bk d)),(116,(bx f)),(1030,(bY B)),(440009,(bt o.2.2.2))],[3,5,16,19,440001,28,84,88,99,116,1030,440009,1440001,440001]⟩
def O3:AS:=⟨[(8,.ref 116),(10,.ref 99),(11,.ref 88),(13,.ref 1125),(20,iI y),(127,iI (f.length:Int)),(128,iI a)],[(af i j)],[(88,(bk b)),(99,(bk d)),(116,(bx u)),(1125,(bk g)),(440009,(bt l))],[440001,88,99,116,1125,440009,1440001,440001]⟩
def afT:AS:=⟨[(8,.ref 116),(10,.ref 99),(11,.ref 88),(13,.ref 1125)],[(af i j)],[(88,(bk b)),(99,(bk d)),(116,(bx f)),(1125,(bk g)),(440009,(bt l))],[440001,88,99,116,1125,440009,1440001,440001]⟩
def Qt:AS:=⟨[(1,iI v2),(3,.ptr 3 0),(5,.ptr 5 0),(8,.ref 116),(9,.ref 84),(10,.ref 99),(11,.ref 88),(12,iI x),(13,.ref 28),(30,.ref 1030),(31,iI (B.length:Int)),(32,iI q)],[(3,aB C),(5,bO D),(af i j)],[(28,(bk t)),(84,⟨176,5,lm cm z⟩),(88,(bk b)),(99,(bk d)),(116,(bx f)),(1030,(bY B)),(440009,(bt l))],[3,5,440001,28,84,88,99,116,1030,440009,1440001,440001]⟩
abbrev H4:Prop:=∀{x:Int} {q:Int} {t:ck} {z:ek} {b:ck} {d:ck} {f:dn} {i:Int} {j:Int} {l:dO},N x q t z b d f i j l=some r→LP (AY M w) (xO M w r) Eu (cat Tryz.f80 (pn 4084)) I (Qt C v2 D B x q t z b d f i j l)
abbrev NL:Prop:=∀{y:Int} {a:Int} {u:dn},O y a u=some r→LP (AY M w) (xO M w r) Ih (cat Tryz.f80 (pn 32756)) J (O3 b d f i j l g y a u)
variable{M w r C v2 D v4 v5 v6 B x q t z b d f i j l o A E F G g y a u I J N O}{K:Kn}{n:Nat}[SG w]
theorem U4(J:ao K)(L:H4 M w r C v2 D B I N)(h:oM K n C v2 D B x q t z b d f o A E F N G=some r):CR M w r (eG 4182847 :: .b 1::eG 32679::zd M w r I) (aei C v2 D B x q t z b d f o A E F G):=by
 unfold oM at h;refine ax 2 3 1 (aj 3 ?_);obtain⟨i,h⟩:=aD h;refine au (cw 84 84 176 5 cm (rfl) (KT) i) (ac ?_);obtain⟨g,j,h⟩:=bV h;refine bz (ks':=eG 16731390::eG 16731391 :: .b 1::eG 32679::zd M w r I) 1 ⟨[(1,iI v2),(3,.ptr 3 0),(5,.ptr 5 0),(8,.ref 116),(9,.ref 84),(10,.ref 99),(11,.ref 88),(12,iI x),(13,.ref 28),(16,.ptr 16 0),(18,iI A),(19,.ptr 19 0),(30,.ref 1030),(31,iI (B.length:Int)),(32,iI q)],[(3,aB C),(5,bO D),(16,aG o.1),(19,cm (⟨G,E,F,0,1048576⟩:bF)),(af o.2.1 o.2.2.1)],[(28,(bk t)),(84,⟨176,5,lm cm g⟩),(88,(bk b)),(99,(bk d)),(116,(bx f)),(1030,(bY B)),(440009,(bt o.2.2.2))],[3,5,16,19,440001,28,84,88,99,116,1030,440009,1440001,440001]⟩ ?_ (by subst j;kernel_rfl);refine aj 3 ?_;obtain⟨k,h⟩:=aD h;refine au (cw 88 88 3 1 (ak .i64) (rfl) aT k) (ac (ax 2 3 1 (bJ [1,3,5,8,9,10,11,12,13,16,18,19,30,31,32] [3,5,16,19,440001] [28,84,88,99,116,1030,440009] ?_)))
 obtain⟨a,l,h⟩:=bind_some h;obtain⟨c,p,h⟩:=bind_some h;obtain⟨s,h⟩:=aD h;refine bN 2 (nu 89 [.ref 99,.ptr 16 61,.agg (cX o.1.Before),iI a,.agg (aG o.1),iI c,iI (aa (a+c)),iI A,iI (aa ((aa (a+c))+A)),.sl (lm (ak .i64) [(aa ((aa (a+c))+A))])]) [] [] [fS 99 99 ⟨3,1,lm (ak .i64) (d++[(aa ((aa (a+c))+A))])⟩,cd bb 170 Tryz.f80 (pn 33462782) 11] (av [.v 0 1,.v 0 2,.v 0 2] (ai (co 0 2 92 (md J l)) (av [.v 0 2] (ai (co 0 1 94 (LK J p)) (av [.v 0 2,.v 0 2,.v 0 2,.v 0 1] (ai (dd (m:=0) (cw 99 99 3 1 (ak .i64) (rfl) aT s)) (ai (cb 1) bL))))))) (ax 2 3 1 (aj 3 (au (bu (ak .i64) (d++[(aa ((aa (a+c))+A))])) (aQ 5 1 ?_))));obtain⟨e,h⟩:=aD h;refine au (cp 99 1 (ak .i64) e) (au (bI 3 0 (ak .i64) (ak .i64) (bD e).2 aT) (ac ?_));obtain⟨O,u,h⟩:=bV h;refine bz (ks':=eG 133851134::eG 133851135 :: .b 1::eG 32679::zd M w r I) 1 ⟨[(1,iI v2),(3,.ptr 3 0),(5,.ptr 5 0),(8,.ref 116),(9,.ref 84),(10,.ref 99),(11,.ref 88),(12,iI O),(13,.ref 28),(16,.ptr 16 0),(19,.ptr 19 0),(30,.ref 1030),(31,iI (B.length:Int)),(32,iI q)],[(3,aB C),(5,bO D),(16,aG o.1),(19,cm (⟨G,E,F,0,1048576⟩:bF)),(af o.2.1 o.2.2.1)],[(28,(bk t)),(84,⟨176,5,lm cm g⟩),(88,⟨3,1,lm (ak .i64) (b++[A])⟩),(99,⟨3,1,lm (ak .i64) (d++[(aa ((aa (a+c))+A))])⟩),(116,(bx f)),(1030,(bY B)),(440009,(bt o.2.2.2))],[3,5,16,19,440001,28,84,88,99,116,1030,440009,1440001,440001]⟩ ?_ (by subst u;kernel_rfl)
 refine aj 2 ?_;obtain⟨P,v,h⟩:=bind_some h;refine aU (F0 J v) (aQ 4 1 ?_);obtain⟨y,h⟩:=aD h;refine au (cw 112 28 3 1 (ak .i64) (rfl) aT y) (ac (aj 2 (au (gu aO ([o.1]:dn) (new:=[aG o.1]) (by simp only[th,By,dN])) ?_)));obtain⟨H,h⟩:=aD h;exact au (cw 116 116 44 67 aO (rfl) (j4) H) (ac (ag 2 (bq (L h))))
theorem ae8(F:ao K)(C:NL M w r b d f i j l g J O)(h:zr K n b d f i j l g O y a u=some r):CR M w r (eG 32756::ET M w r J) (O3 b d f i j l g y a u):=by
 unfold zr at h;refine ax 6 7 3 ?_;obtain⟨c,h⟩|⟨c,h⟩:=am h
 ·refine ah 129 c (cT 18 19 3 3 7 (bJ [8,10,11,13,20,21,127,128] [440001] [88,99,116,1125,440009] ?_));obtain⟨o,h⟩:=aD h;obtain⟨p,h⟩:=aD h;obtain⟨e,h⟩:=aD h;refine bN 1 (nu 131 [.ref 116,iI a,.ref 1125,iI a,.eptr 1125 1 (a.toNat) 0,iI (gD g a),.ref 88,iI a,.eptr 88 1 (a.toNat) 0,iI (gD b a),iI (aa ((gD g a)+(gD b a))),.eptr 116 67 (a.toNat) 0,.eptr 116 67 (a.toNat) 5]) [] [] [ec 116 ⟨44,67,lm aO (List.set u a.toNat ({ (gD u a)with H:=(aa ((gD g a)+(gD b a))) }:ae))⟩] (av (vz 4) (bh (cD 1125 1 (ak .i64) (L:=g) o) (bh (bI 3 0 (ak .i64) (ak .i64) (bD o).2 aT) (av (vz 2) (bh (cD 88 1 (ak .i64) (L:=b) p) (bh (bI 3 0 (ak .i64) (ak .i64) (bD p).2 aT) (av [.v 0 1] (ai (fh (lo:=0) (k:=2) (da ⟨(by kernel_rfl),(dc (cD 116 67 aO (L:=u) e) (by kernel_rfl))⟩ (da ⟨(by kernel_rfl),(dc (cD 116 67 aO (L:=(List.set u a.toNat ({ (gD u a)with H:=(aa ((gD g a)+(gD b a))) }:ae))) e) (by kernel_rfl))⟩ ft))) (av [.v 0 1] (ai (dd (m:=0) (dz 116 44 67 5 aO aG ({ (gD u a)with H:=(aa ((gD g a)+(gD b a))) }:ae) (bD e).2 (dN))) bL)))))))))) ?_
  obtain⟨x,z,h⟩:=bV h;refine bz (ks':=eG 4192870::eG 4192871 :: .b 3::eG 262055::ET M w r J) 1 ⟨[(8,.ref 116),(10,.ref 99),(11,.ref 88),(13,.ref 1125),(20,iI y),(21,iI a),(127,iI (f.length:Int)),(128,iI a)],[(af i j)],[(88,(bk b)),(99,(bk d)),(116,(bx x)),(1125,(bk g)),(440009,(bt l))],[440001,88,99,116,1125,440009,1440001,440001]⟩ ?_ (by subst z;kernel_rfl);refine aj 5 ?_;obtain⟨q,h⟩:=aD h;refine au (cp 116 67 aO q) (aQ 7 1 (au (bI 41 61 aO aG (bD q).2 (dN)) ?_));obtain⟨D,A,h⟩:=bind_some h;refine aU (md F A) (aQ 10 1 ?_);obtain⟨s,h⟩:=aD h;refine au (cp 116 67 aO s) (aQ 12 1 (au (dz 116 44 67 3 aO aG ({ (gD x a)with Y:=(aa (y+D)) }:ae) (bD s).2 (dN)) (ac ?_)));obtain⟨E,B,h⟩:=bV h;refine bz (ks':=eG 4192871 :: .b 3::eG 262055::ET M w r J) 0 ⟨[(8,.ref 116),(10,.ref 99),(11,.ref 88),(13,.ref 1125),(20,iI y),(21,iI a),(127,iI (f.length:Int)),(128,iI a)],[(af i j)],[(88,(bk b)),(99,(bk d)),(116,(bx E)),(1125,(bk g)),(440009,(bt l))],[440001,88,99,116,1125,440009,1440001,440001]⟩ ?_ (by subst B;kernel_rfl)
  obtain⟨t,h⟩:=aD h;obtain⟨v,h⟩:=aD h;exact bN 1 (nu 156 [iI y,.ref 1125,iI a,.eptr 1125 1 (a.toNat) 0,iI (gD g a),.ref 99,iI a,.eptr 99 1 (a.toNat) 0,iI (gD d a),iI (aa ((gD g a)+(gD d a))),iI (aa (y+(aa ((gD g a)+(gD d a)))))]) [] [] [cd bb 170 Tryz.f80 (pn 4192871) 11] (av (vz 3) (bh (cD 1125 1 (ak .i64) (L:=g) t) (bh (bI 3 0 (ak .i64) (ak .i64) (bD t).2 aT) (av (vz 2) (bh (cD 99 1 (ak .i64) (L:=d) v) (bh (bI 3 0 (ak .i64) (ak .i64) (bD v).2 aT) (av (vz 2) (ai (cb 0) bL)))))))) (ag 2 (bq (C h)))
 ·refine ah 129 c (aN 8 (pG 116 440010 ?_));cases h;exact NH
theorem aiM(c:ao K)(m:Nat):NL M w r b d f i j l g m (wz K n b d f i j l g m):=by
 induction m with
 | zero=>intro y a u h;cases h
 | succ m e=>intro y a u h;have h:zr K n b d f i j l g (wz K n b d f i j l g m) y a u=some r:=h;exact bn (ae8 c e h)
theorem MI(a:ao K)(h:jQ K n b d f i j l g=some r):CR M w r [eG 1023] (afT b d f i j l g):=by
 unfold jQ at h;exact cf 12 13 7 4 (aj 1 (au (bu aO f) (ac (ag 1 (ce (p:=pn 16378) n (aiM a n h))))))
theorem adm(a:ao K)(p:H4 M w r C v2 D B I N)(h:A8 K n C v2 D B N x q t z b d f i j l=some r):CR M w r (eG 4084::zd M w r I) (Qt C v2 D B x q t z b d f i j l):=by
 unfold A8 at h;refine ax 6 7 3 ?_;obtain⟨c,h⟩|⟨c,h⟩:=am h
 ·refine ah 33 c (cT 8 9 1 3 5 (aj 0 ?_));obtain⟨k,h⟩:=aD h;refine au (cp 1030 59 aK k) (au (bI 48 0 aK aB (bD k).2 (dR)) (ac (ax 2 3 1 (aj 4 ?_))));obtain⟨o,m,h⟩:=bind_some h;refine qa (a.dw m).2 ?_ (a.dw m).1;refine ac (ax 2 3 1 (aj 3 ?_));obtain⟨Q,s,h⟩:=bind_some h;refine aU (mC a s) (ac ?_);obtain⟨A,u,h⟩:=bV h;obtain⟨O,v,h⟩:=bV h;obtain⟨P,y,h⟩:=bV h;obtain⟨E,G,h⟩:=bV h;obtain⟨F,H,h⟩:=bV h;refine bz (ks':=eG 8365693::eG 4182847 :: .b 1::eG 32679::zd M w r I) 7 ⟨[(1,iI v2),(3,.ptr 3 0),(5,.ptr 5 0),(8,.ref 116),(9,.ref 84),(10,.ref 99),(11,.ref 88),(12,iI x),(13,.ref 28),(15,.ptr 15 0),(16,.ptr 16 0),(18,iI A),(19,.ptr 19 0),(30,.ref 1030),(31,iI (B.length:Int)),(32,iI q),(75,.bool O)],[(3,aB C),(5,bO D),(15,aB (gD B q)),(16,aG o.1),(19,cm (⟨P,E,F,0,1048576⟩:bF)),(af o.2.1 o.2.2.1)],[(28,(bk t)),(84,⟨176,5,lm cm z⟩),(88,(bk b)),(99,(bk d)),(116,(bx f)),(1030,(bY B)),(440009,(bt o.2.2.2))],[3,5,15,16,19,440001,28,84,88,99,116,1030,440009,1440001,440001]⟩ ?_ (by subst H;subst G;subst y;subst v;subst u;kernel_rfl)
  obtain⟨e,h⟩|⟨e,h⟩:=am h
  ·refine ah 75 e (bp 2 1 (aj 3 ?_));obtain⟨R,J,h⟩:=bind_some h;exact aU (xS a J) (ac (ag 0 (U4 a p h)))
  ·exact ah 75 e (ag 2 (U4 a p h))
 ·refine ah 33 c (gB 5 3 8 ?_);obtain⟨g,h⟩|⟨g,h⟩:=am h
  ·refine ah 122 g (bp 2 1 (aj 2 (m7 84 ?_)));obtain⟨S,L,h⟩:=bind_some h;exact eT 1125 (Ta a L) (eO 143) (ac (ag 0 (MI a h)))
  ·exact ah 122 g (bX (ks':=[eG 1023]) 2 (bJ [8,10,11,13] [440001] [28,88,99,116,440009] (pG 28 1125 (ag 0 (MI a h)))))
theorem aag(a:ao K)(m:Nat):H4 M w r C v2 D B m (kG K n C v2 D B m):=by
 induction m with
 | zero=>intro x q t z b d f i j l h;cases h
 | succ m c=>intro x q t z b d f i j l h;have h:A8 K n C v2 D B (kG K n C v2 D B m) x q t z b d f i j l=some r:=h;exact bn (adm a c h)
theorem abK(a:ao K)(h:AE K n C v2 D v4 v5 v6=some r):eP bb 80 [.agg (aB C),iI v2,.agg (bO D)] [(af v4 v5)] (bt v6) (fun v s=>v=.tup [.ref 440010,iI r.2.1]∧cB s.o [(af r.2.2.1 r.2.2.2.1)]∧look 440009 s.r=some (bt r.2.2.2.2)∧look 440010 s.r=some (bx r.1)):=by
 refine jK (c:=cat Tryz.f80 []) Tryz.func80 (by kernel_rfl) _ Tryz.ntmps80 (lp (by kernel_rfl)) fun M w=>(bm ⟨[(0,.agg (aB C)),(1,iI v2),(2,.agg (bO D))],[(af v4 v5)],[(440009,(bt v6))],[440009,440001,1440001]⟩ ?_);unfold AE at h;refine bX (ks':=[eG 62,eG 63]) 9 (aj 3 ?_);obtain⟨f,b,h⟩:=bind_some h;refine aU (xS a b) (ac (ax 6 7 3 (aj 0 (Cf 72 28 (e:=3) (sz:=1) (ac (cf 4 5 3 2 (aj 1 ?_)))))));obtain⟨B,d,h⟩:=bind_some h;exact eT 1030 (H1 a d) (eO 21) (au (bu aK B) (ac (gC 2 0 1 (bJ [1,3,5,8,9,10,11,12,13,30,31,32] [3,5,440001] [28,1030,440009] (eQ 116 8 44 67 (eQ 84 9 176 5 (eQ 99 10 3 1 (eQ 88 11 3 1 (ag 0 (ce (p:=pn 2042) n (aag a n h)))))))))))
end
noncomputable section
variable[GS](M:Nat→Prop)(b:aC)(r a:ck)(v2 d v4:Int)(v5:ck)(v6:Int)(f:Bool)(g:Int)(i:ck)(c:Nat)(e:Int→Int→ck→Option ck)
abbrev ID:Cx:=⟨bb,33,M,b⟩
abbrev EQ:=bodyPost bb Tryz.f130 (bP M b (fun v s=>v=.ref 29∧look 29 s.r=some (bk r)))
abbrev EB(a:dt)(s:AS):=VE (ID M b) (EQ M b r) a .normal s
abbrev nE(n:Nat):aq:=.c (cat Tryz.f130 (pn n))
abbrev F8:dt:=[.b 0,nE 31]
abbrev Er:dt:=kl (ID M b) (EQ M b r) F8 (cat Tryz.f130 (pn 244)) c::F8
def VA:AS:=⟨[(1,iI v2),(5,.ref 29),(6,iI g),(9,.sl (lm (ak .i64) a)),(10,iI (a.length:Int)),(11,iI v4)],[],[(29,(bk i))],[29]⟩
def Xg:AS:=⟨[(1,iI v2),(5,.ref 29),(6,iI v6),(7,iI v4),(8,iI (gD a v4)),(9,.sl (lm (ak .i64) a)),(10,iI (a.length:Int)),(11,iI v4),(25,.bool f)],[],[(29,(bk v5))],[29]⟩
def Tw:AS:=⟨[(1,iI v2),(5,.ref 29),(6,iI d),(9,.sl (lm (ak .i64) a)),(10,iI (a.length:Int)),(11,iI v4)],[],[(29,(bk v5))],[29]⟩
abbrev C7:Prop:=∀{d:Int} {v4:Int} {v5:ck},e d v4 v5=some r→LP (ID M b) (EQ M b r) F8 (cat Tryz.f130 (pn 244)) c (Tw a v2 d v4 v5)
variable{M b r a v2 d v4 v5 v6 f g i c e}{K:Kn}{n:Nat}
theorem MB(f:ao K)(d:C7 M b r a v2 c e)(h:rR K n a v2 v4 e g i=some r):EB M b r (.b 1::nE 1959::Er M b r c) (VA a v2 v4 g i):=by
 unfold rR at h;exact ag 2 (bq (d h))
theorem Nh(j:ao K)(g:C7 M b r a v2 c e)(h:uF K n a v2 v4 v5 v6 e f=some r):EB M b r (nE 31335 :: .b 1::nE 1959::Er M b r c) (Xg a v2 v4 v5 v6 f):=by
 unfold uF at h;obtain⟨d,h⟩|⟨d,h⟩:=am h
 ·refine ah 25 d (ax 4 5 2 (aj 3 ?_));obtain⟨i,h⟩:=aD h;exact au (cw 29 29 3 1 (ak .i64) (rfl) aT i) (ac (ag 1 (MB j g h)))
 ·exact ah 25 d (ag 2 (MB j g h))
theorem aaV(j:ao K)(g:C7 M b r a v2 c e)(h:vZ K n a v2 e d v4 v5=some r):EB M b r (nE 244::Er M b r c) (Tw a v2 d v4 v5):=by
 unfold vZ at h;refine ax 6 7 3 ?_;obtain⟨i,h⟩|⟨i,h⟩:=am h
 ·refine ah 12 i (cT 8 9 1 3 5 (aj 1 ?_));obtain⟨k,h⟩:=aD h;refine au (bB (ak .i64) (ak .i64) k aT aT) (ac ?_);obtain⟨v6,l,h⟩:=bV h;refine bz (ks':=nE 31334::nE 31335 :: .b 1::nE 1959::Er M b r c) 3 ⟨[(1,iI v2),(5,.ref 29),(6,iI v6),(7,iI v4),(8,iI (gD a v4)),(9,.sl (lm (ak .i64) a)),(10,iI (a.length:Int)),(11,iI v4)],[],[(29,(bk v5))],[29]⟩ ?_ (by subst l;kernel_rfl);refine aj 3 ?_;obtain⟨f,h⟩|⟨f,h⟩:=am h
  ·exact aF 21 f (ac (ag 0 (Nh j g h)))
  ·exact aF 21 f (ac (ag 0 (Nh j g h)))
 ·refine ah 12 i (aN 8 ?_);cases h;exact eB
theorem agK(c:ao K)(m:Nat):C7 M b r a v2 m (qG K n a v2 m):=by
 induction m with
 | zero=>intro d v4 v5 h;cases h
 | succ m e=>intro d v4 v5 h;have h:vZ K n a v2 (qG K n a v2 m) d v4 v5=some r:=h;exact bn (aaV c e h)
theorem acp(c:ao K)(h:pL K n a v2=some r):bc bb 130 [.sl (lm (ak .i64) a),iI v2] (fun v s=>v=.ref 29∧look 29 s.r=some (bk r)):=by
 refine bH (cat Tryz.f130 (pn 1)) Tryz.func130 Tryz.ntmps130 fun M b=>(bm ⟨[(0,.sl (lm (ak .i64) a)),(1,iI v2)],[],[],[]⟩ ?_);unfold pL at h;exact cf 60 61 31 8 (aj 1 (au (bu (ak .i64) a) (ac (gC 2 0 1 (bJ [1,5,6,9,10,11] [] [] (eQ 29 5 3 1 (ag 0 (ce (p:=pn 122) n (agK c n h)))))))))
end
noncomputable section
variable[GS](M:Nat→Prop)(b:aC)(r a:ab)(v2:Int)(v4 v6 e d:(V4 cF))  
abbrev kw(n:Nat):aq:=.c (cat Tryz.f131 (pn n))
abbrev Qp:Cx:=⟨bb,40,M,b⟩
abbrev L5:=bodyPost bb Tryz.f131 (bP M b (fun v _=>v=.agg (aB r)))
abbrev BA(a:dt)(s:AS):=VE (Qp M b) (L5 M b r) a .normal s
def aiQ:AS:=⟨[(2,.ptr 2 0),(4,.ptr 4 0),(21,.agg ((kD fX) a.Style.Margin)),(22,iI 3)],[(2,aB ({ a with Style:=({ a.Style with Width:=(⟨1,v2⟩:cF),MinWidth:=cj,MaxWidth:=cj,Margin:=d }:aP) }:ab)),(4,List.set (aB c9) 58 (.nils))],[],[2,4]⟩
def X9:AS:=⟨[(2,.ptr 2 0),(4,.ptr 4 0),(21,.agg ((kD fX) a.Style.Margin)),(22,iI 2)],[(2,aB ({ a with Style:=({ a.Style with Width:=(⟨1,v2⟩:cF),MinWidth:=cj,MaxWidth:=cj,Margin:=e }:aP) }:ab)),(4,List.set (aB c9) 58 (.nils))],[],[2,4]⟩
def ab9:AS:=⟨[(2,.ptr 2 0),(4,.ptr 4 0),(21,.agg ((kD fX) a.Style.Margin)),(22,iI 1)],[(2,aB ({ a with Style:=({ a.Style with Width:=(⟨1,v2⟩:cF),MinWidth:=cj,MaxWidth:=cj,Margin:=v6 }:aP) }:ab)),(4,List.set (aB c9) 58 (.nils))],[],[2,4]⟩
def agp:AS:=⟨[(2,.ptr 2 0),(4,.ptr 4 0),(21,.agg ((kD fX) a.Style.Margin)),(22,iI 0)],[(2,aB ({ a with Style:=({ a.Style with Width:=(⟨1,v2⟩:cF),MinWidth:=cj,MaxWidth:=cj,Margin:=v4 }:aP) }:ab)),(4,List.set (aB c9) 58 (.nils))],[],[2,4]⟩
abbrev nf(m:Nat):dt:=kl (Qp M b) (L5 M b r) [.b 0,kw 31] (cat Tryz.f131 (pn 244)) m::[.b 0,kw 31]
variable{M b r a v2 v4 v6 e d}{K:Kn}{n:Nat}
theorem Lr(c:ao K)(h:z4 K n a v2 d=some r):BA M b r (.b 1::kw 1959::nf M b r 36) (aiQ a v2 d):=by
 unfold z4 at h;refine bz (ks':=nf M b r 36) 2 ⟨[(2,.ptr 2 0),(4,.ptr 4 0),(21,.agg ((kD fX) a.Style.Margin)),(22,iI 4)],[(2,aB ({ a with Style:=({ a.Style with Width:=(⟨1,v2⟩:cF),MinWidth:=cj,MaxWidth:=cj,Margin:=d }:aP) }:ab)),(4,List.set (aB c9) 58 (.nils))],[],[2,4]⟩ (bq (bn (aN 11 ?_)));cases h;exact bE
theorem Su(d:ao K)(h:we K n a v2 e=some r):BA M b r (.b 1::kw 1959::nf M b r 37) (X9 a v2 e):=by
 unfold we at h;refine bz (ks':=nf M b r 37) 2 ⟨[(2,.ptr 2 0),(4,.ptr 4 0),(21,.agg ((kD fX) a.Style.Margin)),(22,iI 3)],[(2,aB ({ a with Style:=({ a.Style with Width:=(⟨1,v2⟩:cF),MinWidth:=cj,MaxWidth:=cj,Margin:=e }:aP) }:ab)),(4,List.set (aB c9) 58 (.nils))],[],[2,4]⟩ (bq (bn (dE 114 115 1 15 10 (aj 1 ?_))));obtain⟨g,f,h⟩:=bind_some h;refine aU (ep d f) (ac (bp 3 2 ?_));obtain⟨c,h⟩|⟨c,h⟩:=am h
 ·exact ah 32 c (ag 2 (Lr d h))
 ·exact ah 32 c (ag 2 (Lr d h))
theorem NZ(d:ao K)(h:ua K n a v2 v6=some r):BA M b r (.b 1::kw 1959::nf M b r 38) (ab9 a v2 v6):=by
 unfold ua at h;refine bz (ks':=nf M b r 38) 2 ⟨[(2,.ptr 2 0),(4,.ptr 4 0),(21,.agg ((kD fX) a.Style.Margin)),(22,iI 2)],[(2,aB ({ a with Style:=({ a.Style with Width:=(⟨1,v2⟩:cF),MinWidth:=cj,MaxWidth:=cj,Margin:=v6 }:aP) }:ab)),(4,List.set (aB c9) 58 (.nils))],[],[2,4]⟩ (bq (bn (dE 114 115 1 15 10 (aj 1 ?_))));obtain⟨f,e,h⟩:=bind_some h;refine aU (ep d e) (ac (bp 3 2 ?_));obtain⟨c,h⟩|⟨c,h⟩:=am h
 ·exact ah 32 c (ag 2 (Su d h))
 ·exact ah 32 c (ag 2 (Su d h))
theorem K3(d:ao K)(h:uW K n a v2 v4=some r):BA M b r (.b 1::kw 1959::nf M b r 39) (agp a v2 v4):=by
 unfold uW at h;refine bz (ks':=nf M b r 39) 2 ⟨[(2,.ptr 2 0),(4,.ptr 4 0),(21,.agg ((kD fX) a.Style.Margin)),(22,iI 1)],[(2,aB ({ a with Style:=({ a.Style with Width:=(⟨1,v2⟩:cF),MinWidth:=cj,MaxWidth:=cj,Margin:=v4 }:aP) }:ab)),(4,List.set (aB c9) 58 (.nils))],[],[2,4]⟩ (bq (bn (dE 114 115 1 15 10 (aj 1 ?_))));obtain⟨v5,e,h⟩:=bind_some h;refine aU (ep d e) (ac (bp 3 2 ?_));obtain⟨c,h⟩|⟨c,h⟩:=am h
 ·exact ah 32 c (ag 2 (NZ d h))
 ·exact ah 32 c (ag 2 (NZ d h))
theorem adu(e:ao K)(h:z6 K n a v2=some r):bc bb 131 [.agg (aB a),iI v2] (fun v _=>v=.agg (aB r)):=by
 refine bH (cat Tryz.f131 (pn 1)) Tryz.func131 Tryz.ntmps131 fun M b=>(bm ⟨[(0,.agg (aB a)),(1,iI v2)],[],[],[]⟩ ?_);unfold z6 at h;refine bz (ks':=[kw 122,.b 0,kw 31]) 10 ⟨[(2,.ptr 2 0),(4,.ptr 4 0),(21,.agg ((kD fX) a.Style.Margin)),(22,iI 0)],[(2,aB ({ a with Style:=({ a.Style with Width:=(⟨1,v2⟩:cF),MinWidth:=cj,MaxWidth:=cj }:aP) }:ab)),(4,List.set (aB c9) 58 (.nils))],[],[2,4]⟩ (oE 40 (c:=cat Tryz.f131 [1,1,1,0,1,0,0]) (by kernel_rfl) (bn (bX (ks':=kw 15666::kw 15667 :: .b 1::kw 1959::nf M b r 39) 10 (aj 1 ?_))));obtain⟨g,f,h⟩:=bind_some h;refine aU (ep e f) (ac (bp 3 2 ?_));obtain⟨d,h⟩|⟨d,h⟩:=am h
 ·exact ah 32 d (ag 2 (K3 e h))
 ·exact ah 32 d (ag 2 (K3 e h))
end
end Go.Proofs.YtocgkfoifehcbaaGreat
