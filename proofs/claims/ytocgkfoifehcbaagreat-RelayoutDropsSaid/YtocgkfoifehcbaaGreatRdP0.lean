/- The runs of the functions that RelayoutDrops reaches do what their plain forms say, part 0. Made by a program. -/
import Derived.Test.YtocgkfoifehcbaaGreatRdGk
namespace Go.Proofs.YtocgkfoifehcbaaGreat
open Go.RowKit
set_option maxRecDepth 20000
set_option linter.all false
noncomputable section
abbrev hH:=dn×Int×Int×Int×dO
variable[GS](M:Nat→Prop)(c:aB)(r:Bool)(a v2:d6)(b:Fv)(v5:Int)(d:Nat)(e:Int→Option Bool)
abbrev ES:Cx:=⟨bb,32,M,c⟩
abbrev HR:=bodyPost bb Tryz.f63 (bI M c (fun v _=>v=.bool r))
abbrev aeZ(a:dt)(s:AS):=VE (ES M c) (HR M c r) a .normal s
abbrev Qt(n:Nat):aq:=.c (cat Tryz.f63 (pn n))
abbrev HC:dt:=[.b 0,Qt 15]
abbrev abG:dt:=kl (ES M c) (HR M c r) HC (cat Tryz.f63 (pn 116)) d::HC
def VG:AS:=⟨[(1,.sl (lm aL v2)),(2,.fn b.id b.aR),(15,.sl (lm aL a)),(16,iI (a.length:Int)),(17,iI v5)],[],[],[]⟩
abbrev NP:Prop:=∀{v5:Int},e v5=some r→LP (ES M c) (HR M c r) HC (cat Tryz.f63 (pn 116)) d (VG a v2 b v5)
variable{M c r a v2 b v5 d e}{K:Kn}{n:Nat}
theorem ahg(m:am K)(j:NP M c r a v2 b d e)(h:Ba K n a v2 b e v5=some r):aeZ M c r (Qt 116::abG M c r d) (VG a v2 b v5):=by
 unfold Ba at h;refine ax 6 7 3 ?_;obtain⟨i,h⟩|⟨i,h⟩:=ao h
 ·refine ah 18 i (cL 8 9 1 3 5 (ai 1 ?_));obtain⟨k,h⟩:=aF h;refine au (bD aL aA k (fV) (dW)) (ac (ax 2 3 1 (ai 2 ?_)));obtain⟨l,h⟩:=aF h;refine au (bD aL aA l (fV) (dW)) (ac (ax 2 3 1 (ai 3 ?_)));obtain⟨v6,g,h⟩:=bind_some h;refine kG (m.pP g) (ac ?_);obtain⟨f,h⟩|⟨f,h⟩:=ao h
  ·refine ah 30 f (aJ 9 ?_);cases h;exact bw
  ·exact ah 30 f (ag 4 (bn (j h)))
 ·refine ah 18 i (aJ 8 ?_);cases h;exact bw
theorem acg(d:am K)(m:Nat):NP M c r a v2 b m (sr K n a v2 b m):=by
 induction m with
 | zero=>intro v5 h;cases h
 | succ m e=>intro v5 h;have h:Ba K n a v2 b (sr K n a v2 b m) v5=some r:=h;exact bj (ahg d e h)
theorem Xv(e:am K)(h:zP K n a v2 b=some r):aY bb 63 [.sl (lm aL a),.sl (lm aL v2),.fn b.id b.aR] (fun v _=>v=.bool r):=by
 refine bG (cat Tryz.f63 (pn 1)) Tryz.func63 Tryz.ntmps63 fun M c=>(bg ⟨[(0,.sl (lm aL a)),(1,.sl (lm aL v2)),(2,.fn b.id b.aR)],[],[],[]⟩ ?_);unfold zP at h;refine cb 12 13 7 4 (ai 1 (au (bv aL a) (aQ 3 1 (au (bv aL v2) (ac ?_)))));obtain⟨d,h⟩|⟨d,h⟩:=ao h
 ·refine ah 14 d (aJ 5 ?_);cases h;exact bw
 ·exact ah 14 d (nR 4 5 3 4 (ai 1 (au (bv aL a) (ac (ag 1 (ca (p:=pn 58) n (acg e n h)))))))
end
noncomputable section
variable[GS](M:Nat→Prop)(a:aB)(r:Bool)(b v2:ab)(v4:Bool)  
abbrev ac0(n:Nat):aq:=.c (cat Tryz.f27 (pn n))
abbrev adC:Cx:=⟨bb,52,M,a⟩
abbrev ZU:=bodyPost bb Tryz.f27 (bI M a (fun v _=>v=.bool r))
abbrev aby(b:dt)(s:AS):=VE (adC M a) (ZU M a r) b .normal s
def ajI:AS:=⟨[(4,.bool v4)],[],[],[]⟩
variable{M a r b v2 v4}{K:Kn}{n:Nat}
theorem pG(b:am K)(h:lz K n v4=some r):aby M a r [ac0 7] (ajI v4):=by
 unfold lz at h;refine aJ 1 ?_;cases h;exact bw
theorem Ci(c:am K)(h:pi K n b v2=some r):aY bb 27 [.agg (aA b),.agg (aA v2)] (fun v _=>v=.bool r):=by
 refine bG (cat Tryz.f27 (pn 1)) Tryz.func27 Tryz.ntmps27 fun M a=>(bg ⟨[(0,.agg (aA b)),(1,.agg (aA v2))],[],[],[]⟩ ?_);unfold pi at h;refine ax 6 7 3 (ai 6 ?_);obtain⟨d,h⟩|⟨d,h⟩:=ao h
 ·refine aD 10 d (aQ 13 7 ?_);obtain⟨e,h⟩|⟨e,h⟩:=ao h
  ·refine aD 17 e (aQ 20 7 ?_);obtain⟨f,h⟩|⟨f,h⟩:=ao h
   ·refine aD 24 f (aQ 27 7 ?_);obtain⟨g,h⟩|⟨g,h⟩:=ao h
    ·refine aD 31 g (aQ 34 7 ?_);obtain⟨i,h⟩|⟨i,h⟩:=ao h
     ·refine aD 38 i (aQ 41 7 ?_);obtain⟨j,h⟩|⟨j,h⟩:=ao h
      ·refine aD 45 j (aQ 45 4 ?_);obtain⟨l,k,h⟩:=bind_some h;exact aP (Xv c k) (ac (ag 0 (pG c h)))
      ·exact aD 45 j (ac (ag 0 (pG c h)))
     ·exact aD 38 i (ac (ag 0 (pG c h)))
    ·exact aD 31 g (ac (ag 0 (pG c h)))
   ·exact aD 24 f (ac (ag 0 (pG c h)))
  ·exact aD 17 e (ac (ag 0 (pG c h)))
 ·exact aD 10 d (ac (ag 0 (pG c h)))
end
noncomputable section
variable[GS](M:Nat→Prop)(b:aB)(r a:dn)  
variable{M b r a}{K:Kn}{n:Nat}
theorem I6(f:am K)(h:qJ K n a=some r):aY bb 78 [.sl (lm aM a)] (fun v s=>v=.ref 5∧look 5 s.r=some (bx r)):=by
 refine bG (cat Tryz.f78 (pn 1)) Tryz.func78 Tryz.ntmps78 fun M b=>(bg ⟨[(0,.sl (lm aM a))],[],[],[]⟩ ?_);unfold qJ at h;refine cb 12 13 7 4 (ai 1 ?_);refine VV (aS Tryz.f78 (pn 12) 1) (.eql) 42 42 (.tmp 3) (.const (.slice none 0 0)) 4 (lm aM a) (r:=aU Tryz.f78 (pn 12) 2) (e:=44) (by kernel_rfl) (by kernel_rfl) (by kernel_rfl) (by kernel_rfl) (by kernel_rfl) (by kernel_rfl) (by kernel_rfl) (by kernel_rfl) (fun d=>?_) ?_
 ·have h:=Vs (by simpa using d) h;refine ac (aJ 5 (eW 5 2 44 67 ?_));cases h;exact fG
 ·have h:=Ms h;refine ac (fN 2 3 3 (ai 0 (Kg 42 5 (e:=44) (sz:=67) (aQ 2 1 ?_))));obtain⟨c,h⟩:=aF h;refine au (cG 7 5 44 67 aM (rfl) (ku) c) (ac (aJ 1 ?_));cases h;exact fG
end
noncomputable section
variable[GS](M:Nat→Prop)(a:aB)(r b:ae)(v2:dn)(v4:Int)(v5:dn)(c:Nat)(d:Int→dn→Option ae)
abbrev E2:Cx:=⟨bb,25,M,a⟩
abbrev Kd:=bodyPost bb Tryz.f40 (bI M a (fun v s=>v=.agg (List.set (aG ({ r with Kids:=[] }:ae)) 66 (.ref 1007))∧look 1007 s.r=some (bx r.Kids)))
abbrev ai7(b:dt)(s:AS):=VE (E2 M a) (Kd M a r) b .normal s
abbrev Oa(n:Nat):aq:=.c (cat Tryz.f40 (pn n))
abbrev GF:dt:=[.b 0,Oa 15]
abbrev aaq:dt:=kl (E2 M a) (Kd M a r) GF (cat Tryz.f40 (pn 116)) c::GF
def Q5:AS:=⟨[(1,.ptr 1 0),(2,.ptr 2 0),(10,.ref 1007),(11,iI (v2.length:Int)),(12,iI v4)],[(1,List.set (aG ({ b with Kids:=[] }:ae)) 66 (.ref 1007)),(2,List.set (aG bT) 66 (.nils))],[(1007,(bx v5))],[1,2,1007]⟩
abbrev Uh:Prop:=∀{v4:Int} {v5:dn},d v4 v5=some r→LP (E2 M a) (Kd M a r) GF (cat Tryz.f40 (pn 116)) c (Q5 b v2 v4 v5)
variable{M a r b v2 v4 v5 c d}{K:Kn}{n:Nat}
theorem agU(k:am K)(f:Uh M a r b v2 c d)(h:yX K n b v2 d v4 v5=some r):ai7 M a r (Oa 116::aaq M a r c) (Q5 b v2 v4 v5):=by
 unfold yX at h;refine ax 6 7 3 ?_;obtain⟨e,h⟩|⟨e,h⟩:=ao h
 ·refine ah 13 e (cL 8 9 1 3 5 (ai 1 ?_));obtain⟨g,h⟩:=aF h;refine au (cp 1007 67 aM g) (au (bJ 44 0 aM aG (bF g).2 (dH)) (ac (bP [1,2,3,4,10,11,12] [1,2,4] [1007] ?_)));obtain⟨v6,j,h⟩:=bind_some h;obtain⟨i,h⟩:=aF h;exact bQ 1 (nu 17 [.ptr 1 66,.ref 1007,iI v4,.agg (aG (gD v5 v4)),.agg (aG v6),.eptr 1007 67 (v4.toNat) 0]) [] [] [d8 1007 ⟨44,67,lm aM (List.set v5 v4.toNat v6)⟩] (ay (vz 4) (aj (cv 0 1 21 (k.xC j)) (bh (cN 1007 67 aM (L:=v5) i) (aj (dp (m:=0) (dD 1007 44 67 0 aM aG v6 (bF i).2 (dH))) bR)))) (ag 2 (bn (f h)))
 ·refine ah 13 e (aJ 8 ?_);cases h;exact fG
theorem X9(c:am K)(m:Nat):Uh M a r b v2 m (vx K n b v2 m):=by
 induction m with
 | zero=>intro v4 v5 h;cases h
 | succ m d=>intro v4 v5 h;have h:yX K n b v2 (vx K n b v2 m) v4 v5=some r:=h;exact bj (agU c d h)
theorem BD(c:am K)(h:oJ K n b=some r):aY bb 40 [.agg (aG b)] (fun v s=>v=.agg (List.set (aG ({ r with Kids:=[] }:ae)) 66 (.ref 1007))∧look 1007 s.r=some (bx r.Kids)):=by
 refine bG (cat Tryz.f40 (pn 1)) Tryz.func40 Tryz.ntmps40 fun M a=>(bg ⟨[(0,.agg (aG b))],[],[],[]⟩ ?_);unfold oJ at h;refine ax 6 7 3 (ai 2 ?_);obtain⟨v2,d,h⟩:=bind_some h;exact fg 1007 (I6 c d) (ff 5) (ac (cb 4 5 3 2 (ai 2 (au (bv aM v2) (ac (ag 1 (ca (p:=pn 58) n (X9 c n h))))))))
end
noncomputable section
variable[GS](M:Nat→Prop)(a:aB)(r:ae×Bool×Int×Int×dO)(b:ab)(v2 d v4:Int)(v5:dO)(e:Int)(f:Bool)(g:Nat)(j:Int→Option (ae×Bool×Int×Int×dO))
abbrev Gj:Cx:=⟨bb,34,M,a⟩
abbrev KB:=bodyPost bb Tryz.f19 (bI M a (fun v s=>v=.tup [.agg (aG r.1),.bool r.2.1]∧cq s.o [(af r.2.2.1 r.2.2.2.1)]∧look 440009 s.r=some (bt r.2.2.2.2)))
abbrev SW(b:dt)(s:AS):=VE (Gj M a) (KB M a r) b .normal s
abbrev qP(n:Nat):aq:=.c (cat Tryz.f19 (pn n))
abbrev GJ:dt:=[.b 0,qP 7]
abbrev Oi:dt:=kl (Gj M a) (KB M a r) GJ (cat Tryz.f19 (pn 52)) g::GJ
def ajq:AS:=⟨[(2,iI v2),(4,.ptr 4 0),(6,.ptr 6 0),(9,.ptr 9 0),(13,.ref 440009),(14,iI (v5.length:Int)),(15,iI e),(28,.bool f)],[(4,aA b),(6,List.set (aG bT) 66 (.nils)),(9,aK (gD v5 e)),(af d v4)],[(440009,(bt v5))],[4,6,9,440001,440009,1440001,440001]⟩
def Rf:AS:=⟨[(2,iI v2),(4,.ptr 4 0),(6,.ptr 6 0),(13,.ref 440009),(14,iI (v5.length:Int)),(15,iI e)],[(4,aA b),(6,List.set (aG bT) 66 (.nils)),(af d v4)],[(440009,(bt v5))],[4,6,440001,440009,1440001,440001]⟩
abbrev Ie:Prop:=∀{e:Int},j e=some r→LP (Gj M a) (KB M a r) GJ (cat Tryz.f19 (pn 52)) g (Rf b v2 d v4 v5 e)
variable{M a r b v2 d v4 v5 e f g j}{K:Kn}{n:Nat}[SG a]
theorem Rt(m:am K)(l:Ie M a r b v2 d v4 v5 g j)(h:w7 K n b v2 d v4 v5 e j f=some r):SW M a r (qP 3379 :: .b 1::qP 423::Oi M a r g) (ajq b v2 d v4 v5 e f):=by
 unfold w7 at h;obtain⟨c,h⟩|⟨c,h⟩:=ao h
 ·refine ah 28 c (ax 4 5 2 (ai 2 ?_));obtain⟨o,k,h⟩:=bind_some h;refine fg 1031 (BD m k) (Dw (i:=66) (by kernel_rfl)) (ac (aJ 6 (iz 1031 ?_)));cases h;exact rE
 ·exact ah 28 c (ag 4 (bn (l h)))
theorem agn(l:am K)(c:Ie M a r b v2 d v4 v5 g j)(h:zx K n b v2 d v4 v5 j e=some r):SW M a r (qP 52::Oi M a r g) (Rf b v2 d v4 v5 e):=by
 unfold zx at h;refine ax 6 7 3 ?_;obtain⟨i,h⟩|⟨i,h⟩:=ao h
 ·refine ah 16 i (cL 8 9 1 3 5 (ai 0 ?_));obtain⟨m,h⟩:=aF h;refine au (cp 440009 127 aK m) (au (bJ 64 0 aK aK (bF m).2 aT) (ac (ax 2 3 1 (ai 5 ?_))));obtain⟨k,h⟩|⟨k,h⟩:=ao h
  ·refine aD 23 k (aQ 8 3 ?_);obtain⟨o,f,h⟩:=bind_some h;exact aP (Ci l f) (ac (ag 0 (Rt l c h)))
  ·exact aD 23 k (ac (ag 0 (Rt l c h)))
 ·refine ah 16 i (aJ 8 (nL 6 ?_));cases h;exact rE
theorem adY(c:am K)(m:Nat):Ie M a r b v2 d v4 v5 m (sH K n b v2 d v4 v5 m):=by
 induction m with
 | zero=>intro e h;cases h
 | succ m f=>intro e h;have h:zx K n b v2 d v4 v5 (sH K n b v2 d v4 v5 m) e=some r:=h;exact bj (agn c f h)
theorem Xi(e:am K)(h:Bb K n b v2 d v4 v5=some r):eA bb 19 [.ptr 440001 0,.agg (aA b),iI v2] [(af d v4)] (bt v5) (fun v s=>v=.tup [.agg (aG r.1),.bool r.2.1]∧cq s.o [(af r.2.2.1 r.2.2.2.1)]∧look 440009 s.r=some (bt r.2.2.2.2)):=by
 refine jC (c:=cat Tryz.f19 []) Tryz.func19 (by kernel_rfl) _ Tryz.ntmps19 (lc (by kernel_rfl)) fun M a=>(bg ⟨[(0,.ptr 440001 0),(1,.agg (aA b)),(2,iI v2)],[(af d v4)],[(440009,(bt v5))],[440009,440001,1440001]⟩ ?_);unfold Bb at h;exact bX (ks':=[qP 12,qP 13,qP 7]) 4 (ai 4 (au (bv aK v5) (ac (ag 1 (ca (p:=pn 26) n (adY e n h))))))
end
noncomputable section
variable[GS](M:Nat→Prop)(a:aB)(r:ae×Bool×Int×Int×dO)(b:ab)(v2 d v4:Int)(v5:dO)(v6:ae×Bool×Int×Int×dO)(e:Int)  
abbrev G0(n:Nat):aq:=.c (cat Tryz.f36 (pn n))
abbrev ajF:Cx:=⟨bb,27,M,a⟩
abbrev q36:=bodyPost bb Tryz.f36 (bI M a (fun v s=>v=.tup [.agg (aG r.1),.bool r.2.1]∧cq s.o [(af r.2.2.1 r.2.2.2.1)]∧look 440009 s.r=some (bt r.2.2.2.2)))
abbrev adN(b:dt)(s:AS):=VE (ajF M a) (q36 M a r) b .normal s
def agD:AS:=⟨[(6,.ptr 6 0),(8,.ptr 8 0),(9,.bool v6.2.1)],[(6,List.set (aG bT) 66 (.nils)),(8,aG v6.1),(af v6.2.2.1 e)],[(440009,(bt v6.2.2.2.2))],[6,8,440001,440009,1440001,440001]⟩
variable{M a r b v2 d v4 v5 v6 e}{K:Kn}{n:Nat}[SG a]
theorem R2(b:am K)(h:B5 K n v6 e=some r):adN M a r [G0 15] (agD v6 e):=by
 unfold B5 at h;refine aJ 3 ?_;cases h;exact rE
theorem adl(f:am K)(h:zZ K n b v2 d v4 v5=some r):eA bb 36 [.ptr 440001 0,.agg (aA b),iI v2] [(af d v4)] (bt v5) (fun v s=>v=.tup [.agg (aG r.1),.bool r.2.1]∧cq s.o [(af r.2.2.1 r.2.2.2.1)]∧look 440009 s.r=some (bt r.2.2.2.2)):=by
 refine jC (c:=cat Tryz.f36 []) Tryz.func36 (by kernel_rfl) _ Tryz.ntmps36 (lc (by kernel_rfl)) fun M a=>(bg ⟨[(0,.ptr 440001 0),(1,.agg (aA b)),(2,iI v2)],[(af d v4)],[(440009,(bt v5))],[440009,440001,1440001]⟩ ?_);unfold zZ at h;refine bX (ks':=[G0 6,G0 7]) 3 (ai 3 ?_);obtain⟨v6,g,h⟩:=bind_some h;refine qG (Xi f g) (ac (ax 5 3 3 ?_));obtain⟨e,h⟩|⟨e,h⟩:=ao h
 ·exact ah 17 e (ag 2 (R2 f h))
 ·exact ah 17 e (ag 2 (R2 f h))
end
noncomputable section
variable[GS](M:Nat→Prop)(d:aB)(r:Int×Int×dO)(a:ab)(v2:Int)(b:ae)(v4 v5:Int)(v6:dO)  
abbrev ab7(n:Nat):aq:=.c (cat Tryz.f37 (pn n))
variable{M d r a v2 b v4 v5 v6}{K:Kn}{n:Nat}[SG d]
theorem Xo(i:am K)(h:yZ K n a v2 b v4 v5 v6=some r):eA bb 37 [.ptr 440001 0,.agg (aA a),iI v2,.agg (aG b)] [(af v4 v5)] (bt v6) (fun v s=>v=bf∧cq s.o [(af r.1 r.2.1)]∧look 440009 s.r=some (bt r.2.2)):=by
 refine jC (c:=cat Tryz.f37 []) Tryz.func37 (by kernel_rfl) _ Tryz.ntmps37 (lc (by kernel_rfl)) fun M d=>(bg ⟨[(0,.ptr 440001 0),(1,.agg (aA a)),(2,iI v2),(3,.agg (aG b))],[(af v4 v5)],[(440009,(bt v6))],[440009,440001,1440001]⟩ ?_);unfold yZ at h;refine bX (ks':=[ab7 7]) 4 (bP [0,2,5,7] [5,7,440001] [440009] ?_);obtain⟨e,f,h⟩:=bind_some h;obtain⟨g,h⟩:=aF h;refine bQ 2 (nu 15 [.ptr 440001 0,.ptr 440001 0,.ptr 440001 0,.ptr 440001 0,.ref 440009,.agg (aA a),iI v2,.agg (aG b),.agg (aG e),.agg (aK (⟨a,v2,e⟩:aw)),.sl (lm aK [(⟨a,v2,e⟩:aw)])]++nu 27 [.ptr 440001 0,.ptr 440001 0]) [] [] [g9 26 440009 ⟨64,127,lm aK (v6++[(⟨a,v2,e⟩:aw)])⟩,cf bb 29 Tryz.f37 (pn 7) 14] (ay [.v 0 2,.v 0 2,.v 0 2,.v 0 2,.v 0 1,.v 0 2,.v 0 2,.v 0 2] (aj (cv 0 1 23 (aY.cA (BD i f) (V':=.agg (aG e)) (by kernel_rfl))) (ay [.v 0 2,.v 0 1] (aj (dp (m:=0) (cG 26 440009 64 127 aK (rfl) (Gs) g)) (ay [.v 1 2,.v 1 1] (aj (cg 1) bR)))))) (vF ?_)
 cases h;exact rE
end
noncomputable section
variable[GS](M:Nat→Prop)(b:aB)(r a:Int)  
variable{M b r a}{K:Kn}{n:Nat}
theorem jQ(c:am K)(h:gO K n a=some r):aY bb 124 [iI a] (fun v _=>v=iI r):=by
 refine bG (cat Tryz.f124 (pn 1)) Tryz.func124 Tryz.ntmps124 fun M b=>(bg ⟨[(0,iI a)],[],[],[]⟩ ?_);unfold gO at h;refine aJ 5 ?_;cases h;exact bw
end
noncomputable section
variable[GS](M:Nat→Prop)(a:aB)(r:Int×Bool)(b:cB)(v2 v4:Int)  
abbrev aba(n:Nat):aq:=.c (cat Tryz.f86 (pn n))
abbrev akG:Cx:=⟨bb,25,M,a⟩
abbrev q86:=bodyPost bb Tryz.f86 (bI M a (fun v _=>v=.tup [iI r.1,.bool r.2]))
abbrev ae7(b:dt)(s:AS):=VE (akG M a) (q86 M a r) b .normal s
def ZG:AS:=⟨[(6,iI v4)],[],[],[]⟩
variable{M a r b v2 v4}{K:Kn}{n:Nat}
theorem N7(b:am K)(h:su K n v4=some r):ae7 M a r [.b 0,aba 15] (ZG v4):=by
 unfold su at h;refine aJ 4 ?_;cases h;exact jm
theorem eu(e:am K)(h:dN K n b v2=some r):aY bb 86 [.agg (fW b),iI v2] (fun v _=>v=.tup [iI r.1,.bool r.2]):=by
 refine bG (cat Tryz.f86 (pn 1)) Tryz.func86 Tryz.ntmps86 fun M a=>(bg ⟨[(0,.agg (fW b)),(1,iI v2)],[],[],[]⟩ ?_);unfold dN at h;refine gW 117 0 15 10 ?_;obtain⟨c,h⟩|⟨c,h⟩:=ao h
 ·exact ah 11 c (ag 2 (N7 e h))
 ·refine ah 11 c (br 7 3 ?_);obtain⟨d,h⟩|⟨d,h⟩:=ao h
  ·refine ah 13 d (br 2 1 (ai 1 ?_));obtain⟨g,f,h⟩:=bind_some h;exact aP (jQ e f) (ac (ag 0 (N7 e h)))
  ·refine ah 13 d (aJ 6 ?_);cases h;exact jm
end
noncomputable section
variable[GS](M:Nat→Prop)(a:aB)(r:bW)(b:aN)(v2 d:Int)  
abbrev qr(n:Nat):aq:=.c (cat Tryz.f88 (pn n))
abbrev aks:Cx:=⟨bb,52,M,a⟩
abbrev q88:=bodyPost bb Tryz.f88 (bI M a (fun v _=>v=.agg (ct r)))
abbrev y6(m:Nat):dt:=kl (aks M a) (q88 M a r) [.b 0,qr 15] (cat Tryz.f88 (pn 116)) m::[.b 0,qr 15]
variable{M a r b v2 d}{K:Kn}{n:Nat}
theorem mF(e:am K)(h:jA K n b v2 d=some r):aY bb 88 [.agg (aH b),iI v2,iI d] (fun v _=>v=.agg (ct r)):=by
 refine bG (cat Tryz.f88 (pn 1)) Tryz.func88 Tryz.ntmps88 fun M a=>(bg ⟨[(0,.agg (aH b)),(1,iI v2),(2,iI d)],[],[],[]⟩ ?_);unfold jA at h;refine bA (ks':=[qr 58,.b 0,qr 15]) 8 ⟨[(1,iI v2),(3,.ptr 3 0),(6,.ptr 6 0),(7,.ptr 7 0),(13,iI 0)],[(3,aH b),(6,ct ki),(7,ct ({ ki with Content:=d }:bW))],[],[3,6,7]⟩ (nT 40 (c:=cat Tryz.f88 [1,1,0,1,0,0]) (by kernel_rfl) (bj (bX (ks':=qr 7474::qr 7475 :: .b 1::qr 935::y6 M a r 39) 10 (ai 6 ?_))));obtain⟨v4,u,h⟩:=bind_some h;refine aP (eu e u) (ac (ax 2 3 1 (ai 5 ?_)));obtain⟨v5,w,h⟩:=bind_some h;refine aP (jQ e w) (ac (ax 2 3 1 (ai 5 ?_)));obtain⟨v6,x,h⟩:=bind_some h;refine aP (eu e x) (ac (bA (ks':=y6 M a r 39) 3 ⟨[(1,iI v2),(3,.ptr 3 0),(6,.ptr 6 0),(7,.ptr 7 0),(13,iI 1)],[(3,aH b),(6,ct ki),(7,ct (⟨⟨v4.1,0,0,0⟩,⟨v5,0,0,0⟩,⟨(max v6.1 0),0,0,0⟩,d⟩:bW))],[],[3,6,7]⟩ (bn (bj (dA 114 115 1 15 10 (ai 6 ?_))))));obtain⟨q,y,h⟩:=bind_some h
 refine aP (eu e y) (ac (ax 2 3 1 (ai 5 ?_)));obtain⟨s,z,h⟩:=bind_some h;refine aP (jQ e z) (ac (ax 2 3 1 (ai 5 ?_)));obtain⟨t,A,h⟩:=bind_some h;refine aP (eu e A) (ac (bA (ks':=y6 M a r 38) 3 ⟨[(1,iI v2),(3,.ptr 3 0),(6,.ptr 6 0),(7,.ptr 7 0),(13,iI 2)],[(3,aH b),(6,ct ki),(7,ct (⟨⟨v4.1,q.1,0,0⟩,⟨v5,s,0,0⟩,⟨(max v6.1 0),(max t.1 0),0,0⟩,d⟩:bW))],[],[3,6,7]⟩ (bn (bj (dA 114 115 1 15 10 (ai 6 ?_))))));obtain⟨f,B,h⟩:=bind_some h;refine aP (eu e B) (ac (ax 2 3 1 (ai 5 ?_)));obtain⟨g,C,h⟩:=bind_some h;refine aP (jQ e C) (ac (ax 2 3 1 (ai 5 ?_)));obtain⟨i,D,h⟩:=bind_some h;refine aP (eu e D) (ac (bA (ks':=y6 M a r 37) 3 ⟨[(1,iI v2),(3,.ptr 3 0),(6,.ptr 6 0),(7,.ptr 7 0),(13,iI 3)],[(3,aH b),(6,ct ki),(7,ct (⟨⟨v4.1,q.1,f.1,0⟩,⟨v5,s,g,0⟩,⟨(max v6.1 0),(max t.1 0),(max i.1 0),0⟩,d⟩:bW))],[],[3,6,7]⟩ (bn (bj (dA 114 115 1 15 10 (ai 6 ?_))))));obtain⟨m,j,h⟩:=bind_some h
 refine aP (eu e j) (ac (ax 2 3 1 (ai 5 ?_)));obtain⟨o,k,h⟩:=bind_some h;refine aP (jQ e k) (ac (ax 2 3 1 (ai 5 ?_)));obtain⟨p,l,h⟩:=bind_some h;refine aP (eu e l) (ac (bA (ks':=y6 M a r 36) 3 ⟨[(1,iI v2),(3,.ptr 3 0),(6,.ptr 6 0),(7,.ptr 7 0),(13,iI 4)],[(3,aH b),(6,ct ki),(7,ct (⟨⟨v4.1,q.1,f.1,m.1⟩,⟨v5,s,g,o⟩,⟨(max v6.1 0),(max t.1 0),(max i.1 0),(max p.1 0)⟩,d⟩:bW))],[],[3,6,7]⟩ (bn (bj (aJ 11 ?_)))));cases h;exact bw
end
noncomputable section
variable[GS](M:Nat→Prop)(b:aB)(r:Int)(a:bW)  
variable{M b r a}{K:Kn}{n:Nat}
theorem oS(c:am K)(h:kH K n a=some r):aY bb 89 [.agg (ct a)] (fun v _=>v=iI r):=by
 refine bG (cat Tryz.f89 (pn 1)) Tryz.func89 Tryz.ntmps89 fun M b=>(bg ⟨[(0,.agg (ct a))],[],[],[]⟩ ?_);unfold kH at h;refine aJ 5 ?_;cases h;exact bw
end
noncomputable section
variable[GS](M:Nat→Prop)(a:aB)(r:Int)(b:aN)(v2 c v5 d:Int)  
abbrev TZ(n:Nat):aq:=.c (cat Tryz.f90 (pn n))
abbrev akx:Cx:=⟨bb,37,M,a⟩
abbrev q90:=bodyPost bb Tryz.f90 (bI M a (fun v _=>v=iI r))
abbrev LC(b:dt)(s:AS):=VE (akx M a) (q90 M a r) b .normal s
def ahQ:AS:=⟨[(2,iI d)],[],[],[]⟩
def ad7:AS:=⟨[(1,iI v2),(2,iI v5),(3,.ptr 3 0)],[(3,aH b)],[],[3]⟩
variable{M a r b v2 c v5 d}{K:Kn}{n:Nat}
theorem NB(b:am K)(h:xV K n d=some r):LC M a r [TZ 31] (ahQ d):=by
 unfold xV at h;refine aJ 3 ?_;cases h;exact bw
theorem NG(d:am K)(h:Ao K n b v2 v5=some r):LC M a r [TZ 15] (ad7 b v2 v5):=by
 unfold Ao at h;refine cb 4 5 3 2 (ai 3 ?_);obtain⟨v6,e,h⟩:=bind_some h;refine aP (eu d e) (ac (br 3 2 ?_));obtain⟨c,h⟩|⟨c,h⟩:=ao h
 ·exact ah 32 c (ag 2 (NB d h))
 ·exact ah 32 c (ag 2 (NB d h))
theorem zN(e:am K)(h:mT K n b v2 c=some r):aY bb 90 [.agg (aH b),iI v2,iI c] (fun v _=>v=iI r):=by
 refine bG (cat Tryz.f90 (pn 1)) Tryz.func90 Tryz.ntmps90 fun M a=>(bg ⟨[(0,.agg (aH b)),(1,iI v2),(2,iI c)],[],[],[]⟩ ?_);unfold mT at h;refine cb 28 29 15 6 (ai 3 ?_);obtain⟨v4,f,h⟩:=bind_some h;refine aP (eu e f) (ac (br 3 2 ?_));obtain⟨d,h⟩|⟨d,h⟩:=ao h
 ·exact ah 20 d (ag 2 (NG e h))
 ·exact ah 20 d (ag 2 (NG e h))
end
noncomputable section
variable[GS](M:Nat→Prop)(e:aB)(r:bW)(i:aN)(v2 f:Int)(v4:bW)(k g j:Int)(a b:(Int×Bool))(c:Bool)(d:V4 Int)  
abbrev DS(n:Nat):aq:=.c (cat Tryz.f75 (pn n))
abbrev ads:Cx:=⟨bb,89,M,e⟩
abbrev Yu:=bodyPost bb Tryz.f75 (bI M e (fun v _=>v=.agg (ct r)))
abbrev EO(a:dt)(s:AS):=VE (ads M e) (Yu M e r) a .normal s
def XQ:AS:=⟨[(4,.ptr 4 0),(5,.ptr 5 0)],[(4,ct ki),(5,ct ({ v4 with Margin:=d,Content:=g }:bW))],[],[4,5]⟩
def akt:AS:=⟨[(4,.ptr 4 0),(5,.ptr 5 0),(8,iI (aa (f-j))),(10,.bool a.2),(12,.bool b.2),(59,.bool c)],[(4,ct ki),(5,ct ({ v4 with Content:=g }:bW))],[],[4,5]⟩
def ZB:AS:=⟨[(1,iI f),(2,.ptr 2 0),(4,.ptr 4 0),(5,.ptr 5 0),(6,iI k)],[(2,aH i),(4,ct ki),(5,ct v4)],[],[2,4,5]⟩
variable{M e r i v2 f v4 k g j a b c d}{K:Kn}{n:Nat}
theorem Em(a:am K)(h:px K n v4 g d=some r):EO M e r [.b 0,DS 4095] (XQ v4 g d):=by
 unfold px at h;refine aJ 4 ?_;cases h;exact bw
theorem TB(l:am K)(h:xE K n f v4 g j a b c=some r):EO M e r [DS 16377,.b 0,DS 4095] (akt f v4 g j a b c):=by
 unfold xE at h;obtain⟨d,h⟩|⟨d,h⟩:=ao h
 ·exact ah 59 d (ag 4 (Em l h))
 ·refine ah 59 d (br 7 3 ?_);obtain⟨i,h⟩|⟨i,h⟩:=ao h
  ·exact ah 76 i (ag 2 (Em l h))
  ·refine ah 76 i (br 7 3 ?_);obtain⟨k,h⟩|⟨k,h⟩:=ao h
   ·exact ah 82 k (ag 2 (Em l h))
   ·exact ah 82 k (ag 2 (Em l h))
theorem NH(d:am K)(h:tv K n i f v4 k=some r):EO M e r [DS 63] (ZB i f v4 k):=by
 unfold tv at h;refine ax 2 3 1 (ai 3 ?_);obtain⟨g,o,h⟩:=bind_some h;refine aP (zN d o) (ac (ax 2 3 1 (ai 2 ?_)));obtain⟨j,p,h⟩:=bind_some h;refine aP (oS d p) (ac (ax 5 3 3 ?_));obtain⟨m,h⟩|⟨m,h⟩:=ao h
 ·refine ah 41 m (aJ 5 ?_);cases h;exact bw
 ·refine ah 41 m (fN 2 3 3 (ai 4 ?_));obtain⟨a,q,h⟩:=bind_some h;refine aP (eu d q) (ac (ax 2 3 1 (ai 4 ?_)));obtain⟨b,l,h⟩:=bind_some h;refine aP (eu d l) (ac (dA 8 9 0 3 3 (ai 3 ?_)));obtain⟨c,h⟩|⟨c,h⟩:=ao h
  ·exact aD 62 c (ac (ag 0 (TB d h)))
  ·exact aD 62 c (ac (ag 0 (TB d h)))
theorem Fo(a:am K)(h:qe K n i v2=some r):aY bb 75 [.agg (aH i),iI v2] (fun v _=>v=.agg (ct r)):=by
 refine bG (cat Tryz.f75 (pn 1)) Tryz.func75 Tryz.ntmps75 fun M e=>(bg ⟨[(0,.agg (aH i)),(1,iI v2)],[],[],[]⟩ ?_);unfold qe at h;refine ax 6 7 3 (ai 1 ?_);obtain⟨f,c,h⟩:=bind_some h;refine aP (jQ a c) (ac (ax 2 3 1 (ai 2 ?_)));obtain⟨v4,d,h⟩:=bind_some h;refine aP (mF a d) (ac (ax 2 3 1 (ai 3 ?_)));obtain⟨v5,g,h⟩:=bind_some h;refine aP (eu a g) (ac (ax 5 3 3 ?_));obtain⟨b,h⟩|⟨b,h⟩:=ao h
 ·refine ah 26 b (br 2 1 (ai 2 ?_));obtain⟨v6,j,h⟩:=bind_some h;exact aP (oS a j) (ac (ag 0 (NH a h)))
 ·exact ah 26 b (ag 2 (NH a h))
end
noncomputable section
variable[GS](M:Nat→Prop)(b:aB)(r:bc)(a:Int)  
variable{M b r a}{K:Kn}{n:Nat}
theorem Dd(c:am K)(h:m5 K n a=some r):aY bb 79 [iI a] (fun v _=>v=.agg (cS r)):=by
 refine bG (cat Tryz.f79 (pn 1)) Tryz.func79 Tryz.ntmps79 fun M b=>(bg ⟨[(0,iI a)],[],[],[]⟩ ?_);unfold m5 at h;refine aJ 5 ?_;cases h;exact bw
end
noncomputable section
variable[GS](M:Nat→Prop)(c:aB)(r:Int)(a:cB)(v2 b:Int)  
variable{M c r a v2 b}{K:Kn}{n:Nat}
theorem zR(f:am K)(h:mA K n a v2 b=some r):aY bb 82 [.agg (fW a),iI v2,iI b] (fun v _=>v=iI r):=by
 refine bG (cat Tryz.f82 (pn 1)) Tryz.func82 Tryz.ntmps82 fun M c=>(bg ⟨[(0,.agg (fW a)),(1,iI v2),(2,iI b)],[],[],[]⟩ ?_);unfold mA at h;refine cb 12 13 7 4 (ai 2 ?_);obtain⟨v4,e,h⟩:=bind_some h;refine aP (eu f e) (ac (br 3 2 ?_));obtain⟨d,h⟩|⟨d,h⟩:=ao h
 ·refine ah 15 d (aJ 5 ?_);cases h;exact bw
 ·refine ah 15 d (aJ 5 ?_);cases h;exact bw
end
noncomputable section
variable[GS](M:Nat→Prop)(g:aB)(r w:ck)(v2 i:Int)(v4:Fv)(f:Int)(j:ck)(a:Int)(d:ck)(q:Bool)(l t:Nat)(o u:Int→ck→Option ck)
abbrev A7:Cx:=⟨bb,53,M,g⟩
abbrev AU:=bodyPost bb Tryz.f189 (bI M g (fun v s=>v=n6 r∧look 0 s.r=some (bk r)))
abbrev FQ(a:dt)(s:AS):=VE (A7 M g) (AU M g r) a .normal s
abbrev yL(n:Nat):aq:=.c (cat Tryz.f189 (pn n))
abbrev Ks:dt:=[.b 0]
abbrev Nv:dt:=kl (A7 M g) (AU M g r) Ks (cat Tryz.f189 (pn 12)) l::Ks
abbrev IC:dt:=.b 2 :: .b 1::yL 51::Nv M g r l
abbrev OL:dt:=kl (A7 M g) (AU M g r) (IC M g r l) (cat Tryz.f189 (pn 804)) t::(IC M g r l)
def Wi:AS:=⟨[(0,.ref 0),(1,iI v2),(2,iI i),(3,.fn v4.id v4.aR),(8,iI f),(9,iI a),(34,.bool q)],[],[(0,(bk d))],[0,1000000,0]⟩
def Ve:AS:=⟨[(0,.ref 0),(1,iI v2),(2,iI i),(3,.fn v4.id v4.aR),(8,iI f),(9,iI a)],[],[(0,(bk d))],[0,1000000,0]⟩
def SZ:AS:=⟨[(0,.ref 0),(1,iI v2),(2,iI i),(3,.fn v4.id v4.aR),(8,iI f)],[],[(0,(bk j))],[0,1000000,0]⟩
abbrev As:Prop:=∀{f:Int} {j:ck},o f j=some r→LP (A7 M g) (AU M g r) Ks (cat Tryz.f189 (pn 12)) l (SZ v2 i v4 f j)
abbrev J5:Prop:=∀{a:Int} {d:ck},u a d=some r→LP (A7 M g) (AU M g r) (IC M g r l) (cat Tryz.f189 (pn 804)) t (Ve v2 i v4 f a d)
variable{M g r w v2 i v4 f j a d q l t o u}{K:Kn}{n:Nat}
theorem Sd(w:am K)(s:As M g r v2 i v4 l o)(v:J5 M g r v2 i v4 f l t u)(h:uB K n v2 i v4 f a d o u q=some r):FQ M g r (yL 3217::yL 1609::OL M g r l t) (Wi v2 i v4 f a d q):=by
 unfold uB at h;obtain⟨b,h⟩|⟨b,h⟩:=ao h
 ·refine ah 34 b (FS 4 3 3 4 (bP [0,1,2,3,8,9] [] [0] ?_));obtain⟨e,h⟩:=aF h;obtain⟨j,h⟩:=aF h;obtain⟨c,h⟩:=aF h;obtain⟨p,h⟩:=aF h;exact bQ 2 (nu 37 [.ref 0,iI a,.ref 0,iI a,iI (aa (a-1)),.ref 0,iI a,iI (aa (a-1)),.eptr 0 1 (((aa (a-1))).toNat) 0,iI (gD d ((aa (a-1)))),.ref 0,iI a,.eptr 0 1 (a.toNat) 0,iI (gD d a),.eptr 0 1 (a.toNat) 0,.eptr 0 1 (((aa (a-1))).toNat) 0]) [] [] [d8 0 ⟨3,1,lm (ak .i64) (List.set d a.toNat (gD d ((aa (a-1)))))⟩,d8 0 ⟨3,1,lm (ak .i64) (List.set (List.set d a.toNat (gD d ((aa (a-1))))) ((aa (a-1))).toNat (gD d a))⟩] (ay [.v 0 1,.v 0 1,.v 0 2,.v 0 2,.v 0 2,.v 0 1,.v 0 1,.v 0 1] (bh (cN 0 1 (ak .i64) (L:=d) e) (bh (bJ 3 0 (ak .i64) (ak .i64) (bF e).2 aT) (ay [.v 0 2,.v 0 2] (aj (ii (lo:=0) (k:=2) (dR ⟨(by kernel_rfl),(ep (cN 0 1 (ak .i64) (L:=d) j) (by kernel_rfl))⟩ (dR ⟨(by kernel_rfl),(ep (cN 0 1 (ak .i64) (L:=(List.set d a.toNat (gD d ((aa (a-1)))))) j) (by kernel_rfl))⟩ iJ))) (bh (bJ 3 0 (ak .i64) (ak .i64) (bF c).2 aT) (bh (cN 0 1 (ak .i64) (L:=d) c) (aj (dp (m:=0) (dD 0 3 1 0 (ak .i64) (ak .i64) (gD d ((aa (a-1)))) (bF c).2 aT)) (aj (BJ (lo:=1) (cN 0 1 (ak .i64) (L:=(List.set d a.toNat (gD d ((aa (a-1)))))) p)) (aj (dp (m:=1) (dD 0 3 1 0 (ak .i64) (ak .i64) (gD d a) (bF p).2 aT)) bR)))))))))) (ag 2 (bn (v h)))
 ·exact ah 34 b (ag 7 (bn (s h)))
theorem ZH(v:am K)(q:As M g r v2 i v4 l o)(s:J5 M g r v2 i v4 f l t u)(h:yt K n v2 i v4 f o u a d=some r):FQ M g r (yL 804::OL M g r l t) (Ve v2 i v4 f a d):=by
 unfold yt at h;refine cb 4 5 3 2 (bP [0,1,2,3,8,9] [] [0] ?_);obtain⟨c,h⟩|⟨c,h⟩:=ao h
 ·obtain⟨k,h⟩:=aF h;obtain⟨m,h⟩:=aF h;obtain⟨j,p,h⟩:=bind_some h;exact bQ 0 (nu 18 [iI a,iI v2,.bool (decide (a>v2)),.bool true,.fn v4.id v4.aR,.ref 0,iI a,.eptr 0 1 (a.toNat) 0,iI (gD d a),.ref 0,iI a,iI (aa (a-1)),.eptr 0 1 (((aa (a-1))).toNat) 0,iI (gD d ((aa (a-1)))),iI j,.bool (decide (j<0)),.bool (decide (j<0))]) [] [] [] (ay (vz 3) (aj (cT 0 21 (e:=(decide (a>v2))) (b:=true) c) (ay (vz 3) (bh (cN 0 1 (ak .i64) (L:=d) k) (bh (bJ 3 0 (ak .i64) (ak .i64) (bF k).2 aT) (ay (vz 3) (bh (cN 0 1 (ak .i64) (L:=d) m) (bh (bJ 3 0 (ak .i64) (ak .i64) (bF m).2 aT) (aj (cv 0 1 32 (v.rX p).2 (v.rX p).1) (ay (vz 2) bR)))))))))) (ag 0 (Sd v q s h))
 ·exact bQ 0 (nu 18 [iI a,iI v2,.bool (decide (a>v2)),.bool false,bf,bf,bf,bf,bf,bf,bf,bf,bf,bf,bf,bf,.bool false]) [] [] [] (ay (vz 3) (aj (cT 0 21 (e:=(decide (a>v2))) (b:=false) c) (aj (aC 0 1) (aj (aC 0 1) (aj (aC 0 1) (aj (aC 0 1) (aj (aC 0 1) (aj (aC 0 1) (aj (aC 0 1) (aj (aC 0 1) (aj (aC 0 1) (aj (aC 0 1) (aj (aC 0 1) (aj (aC 0 1) (ay [.v 0 1] bR))))))))))))))) (ag 0 (Sd v q s h))
theorem ahl(c:am K)(b:As M g r v2 i v4 l o)(m:Nat):J5 M g r v2 i v4 f l m (uJ K n v2 i v4 f o m):=by
 induction m with
 | zero=>intro a d h;cases h
 | succ m e=>intro a d h;have h:yt K n v2 i v4 f o (uJ K n v2 i v4 f o m) a d=some r:=h;exact bj (ZH c b e h)
theorem Xg(c:am K)(b:As M g r v2 i v4 l o)(h:t6 K n v2 i v4 o f j=some r):FQ M g r (yL 12::Nv M g r l) (SZ v2 i v4 f j):=by
 unfold t6 at h;refine ax 5 3 3 ?_;obtain⟨a,h⟩|⟨a,h⟩:=ao h
 ·exact ah 14 a (ag 7 (ca (p:=pn 402) n (ahl c b n h)))
 ·refine ah 14 a (bX (ks':=[]) 5 (vF ?_));cases h;exact pE
theorem aeU(a:am K)(m:Nat):As M g r v2 i v4 m (ou K n v2 i v4 m):=by
 induction m with
 | zero=>intro f j h;cases h
 | succ m b=>intro f j h;have h:t6 K n v2 i v4 (ou K n v2 i v4 m) f j=some r:=h;exact bj (Xg a b h)
theorem Pu(a:am K)(h:sZ K n w v2 i v4=some r):wh bb 189 [.ref 0,iI v2,iI i,.fn v4.id v4.aR] 0 (bk w) (fun v s=>v=n6 r∧look 0 s.r=some (bk r)):=by
 refine BT (c:=cat Tryz.f189 (pn 1)) Tryz.func189 (by kernel_rfl) _ Tryz.ntmps189 (lc (by kernel_rfl)) fun M g=>(bg ⟨[(0,.ref 0),(1,iI v2),(2,iI i),(3,.fn v4.id v4.aR)],[],[(0,(bk w))],[0,1000000]⟩ ?_);unfold sZ at h;exact ag 3 (ca (p:=pn 6) n (aeU a n h))
end
noncomputable section
variable[GS](M:Nat→Prop)(d:aB)(r q:ck)(v2:Int)(b:Fv)(v5 v6:Int)(i e:ck)(a:Int)(j f k:Nat)(l:Int→Int→ck→Option ck)(g:Int→Option ck)(o:Option ck)
abbrev rO:Cx:=⟨bb,63,M,d⟩
abbrev rM:=bodyPost bb Tryz.f182 (bI M d (fun v s=>v=n6 r∧look 0 s.r=some (bk r)))
abbrev Jb(a:dt)(s:AS):=VE (rO M d) (rM M d r) a .normal s
abbrev pI(n:Nat):aq:=.c (cat Tryz.f182 (pn n))
abbrev EH:dt:=[.b 2]
abbrev Q2:dt:=kl (rO M d) (rM M d r) EH (cat Tryz.f182 (pn 124)) f::EH
abbrev EU:dt:=[.b 0,pI 15]
abbrev MF:dt:=kl (rO M d) (rM M d r) EU (cat Tryz.f182 (pn 56)) j::EU
abbrev JD:dt:=.b 4::pI 1995 :: .b 3::Q2 M d r f
abbrev aia:dt:=kl (rO M d) (rM M d r) (JD M d r f) (cat Tryz.f182 (pn 7976)) k::(JD M d r f)
def M0:AS:=⟨[(0,.ref 0),(1,iI v2),(2,.fn b.id b.aR),(6,iI a),(7,iI 0),(8,iI (aa (2*a)))],[],[(0,(bk e))],[0,1000000,0]⟩
def Pq:AS:=⟨[(0,.ref 0),(1,iI v2),(2,.fn b.id b.aR),(6,iI a)],[],[(0,(bk e))],[0,1000000,0]⟩
def L0:AS:=⟨[(0,.ref 0),(1,iI v2),(2,.fn b.id b.aR),(6,iI 20),(7,iI v5),(8,iI v6)],[],[(0,(bk i))],[0,1000000,0]⟩
abbrev Ln:Prop:=∀{v5:Int} {v6:Int} {i:ck},l v5 v6 i=some r→LP (rO M d) (rM M d r) EU (cat Tryz.f182 (pn 56)) j (L0 v2 b v5 v6 i)
abbrev D3:Prop:=∀{a:Int},g a=some r→LP (rO M d) (rM M d r) EH (cat Tryz.f182 (pn 124)) f (Pq v2 b e a)
abbrev O2:Prop:=o=some r→LP (rO M d) (rM M d r) (JD M d r f) (cat Tryz.f182 (pn 7976)) k (M0 v2 b e a)
variable{M d r q v2 b v5 v6 i e a j f k l g o}{K:Kn}{n:Nat}
theorem akq(m:am K)(j:D3 M d r v2 b e f g)(l:O2 M d r v2 b e a f k o)(h:Cg K n v2 b e a g o=some r):Jb M d r (pI 7976::aia M d r f k) (M0 v2 b e a):=by
 unfold Cg at h;refine ax 5 3 3 ?_;obtain⟨c,h⟩|⟨c,h⟩:=ao h
 ·refine ah 35 c ?_;cases h
 ·refine ah 35 c (gg 11 3 10 ?_);obtain⟨i,h⟩|⟨i,h⟩:=ao h
  ·refine ah 54 i ?_;cases h
  ·exact ah 54 i (ag 4 (bn (j h)))
theorem akd(i:am K)(c:D3 M d r v2 b e f g)(m:Nat):O2 M d r v2 b e a f m (De K n v2 b e a g m):=by
 induction m with
 | zero=>intro h;cases h
 | succ m j=>intro h;have h:Cg K n v2 b e a g (De K n v2 b e a g m)=some r:=h;exact bj (akq i c j h)
theorem ahf(j:am K)(i:D3 M d r v2 b e f g)(h:yA K n v2 b e g a=some r):Jb M d r (pI 124::Q2 M d r f) (Pq v2 b e a):=by
 unfold yA at h;refine ax 5 3 3 ?_;obtain⟨c,h⟩|⟨c,h⟩:=ao h
 ·exact ah 30 c (ag 7 (ca (p:=pn 3988) n (akd j i n h)))
 ·refine ah 30 c (bX (ks':=[]) 5 (vF ?_));cases h;exact pE
theorem abw(c:am K)(m:Nat):D3 M d r v2 b e m (xL K n v2 b e m):=by
 induction m with
 | zero=>intro a h;cases h
 | succ m f=>intro a h;have h:yA K n v2 b e (xL K n v2 b e m) a=some r:=h;exact bj (ahf c f h)
theorem adZ(c:am K)(f:Ln M d r v2 b j l)(h:Bf K n v2 b l v5 v6 i=some r):Jb M d r (pI 56::MF M d r j) (L0 v2 b v5 v6 i):=by
 unfold Bf at h;refine ax 5 3 3 ?_;obtain⟨a,h⟩|⟨a,h⟩:=ao h
 ·refine ah 13 a (bX (ks':=pI 452::pI 453 :: .b 1::MF M d r j) 4 (ai 4 ?_));obtain⟨m,g,h⟩:=bind_some h;exact tq 0 0 (Pu c g) (ac (ag 4 (bn (f h))))
 ·refine ah 13 a (gg 2 3 6 (ai 4 ?_));obtain⟨e,k,h⟩:=bind_some h;exact tq 0 0 (Pu c k) (ac (ag 1 (ca (p:=pn 62) n (abw c n h))))
theorem Ws(a:am K)(m:Nat):Ln M d r v2 b m (yd K n v2 b m):=by
 induction m with
 | zero=>intro v5 v6 i h;cases h
 | succ m c=>intro v5 v6 i h;have h:Bf K n v2 b (yd K n v2 b m) v5 v6 i=some r:=h;exact bj (adZ a c h)
theorem acI(a:am K)(h:DD K n q v2 b=some r):wh bb 182 [.ref 0,iI v2,.fn b.id b.aR] 0 (bk q) (fun v s=>v=n6 r∧look 0 s.r=some (bk r)):=by
 refine BT (c:=cat Tryz.f182 (pn 1)) Tryz.func182 (by kernel_rfl) _ Tryz.ntmps182 (lc (by kernel_rfl)) fun M d=>(bg ⟨[(0,.ref 0),(1,iI v2),(2,.fn b.id b.aR)],[],[(0,(bk q))],[0,1000000]⟩ ?_);unfold DD at h;exact ag 6 (ca (p:=pn 28) n (Ws a n h))
end
noncomputable section
variable[GS](M:Nat→Prop)(b:aB)(r a:ck)(v2:Fv)  
variable{M b r a v2}{K:Kn}{n:Nat}
theorem MM(e:am K)(h:lT K n a v2=some r):wh bb 164 [.ref 0,.fn v2.id v2.aR] 0 (bk a) (fun v s=>v=n6 r∧look 0 s.r=some (bk r)):=by
 refine BT (c:=cat Tryz.f164 (pn 1)) Tryz.func164 (by kernel_rfl) _ Tryz.ntmps164 (lc (by kernel_rfl)) fun M b=>(bg ⟨[(0,.ref 0),(1,.fn v2.id v2.aR)],[],[(0,(bk a))],[0,1000000]⟩ ?_);unfold lT at h;refine ai 2 (au (bv (ak .i64) a) (aQ 4 1 ?_));obtain⟨f,d,h⟩:=bind_some h;refine tq 0 0 (acI e d) (ac (vF ?_));cases h;exact pE
end
noncomputable section
variable[GS](M:Nat→Prop)(a:aB)(r:Bool)(b:ab)(v2:Bool)  
abbrev aey(n:Nat):aq:=.c (cat Tryz.f171 (pn n))
abbrev Y6:Cx:=⟨bb,12,M,a⟩
abbrev WO:=bodyPost bb Tryz.f171 (bI M a (fun v _=>v=.bool r))
abbrev Yb(b:dt)(s:AS):=VE (Y6 M a) (WO M a r) b .normal s
def ajB:AS:=⟨[(2,.bool v2)],[],[],[]⟩
variable{M a r b v2}{K:Kn}{n:Nat}
theorem PZ(b:am K)(h:zl K n v2=some r):Yb M a r [aey 7] (ajB v2):=by
 unfold zl at h;refine aJ 1 ?_;cases h;exact bw
theorem IQ(d:am K)(h:jU K n b=some r):aY bb 171 [.agg (aA b)] (fun v _=>v=.bool r):=by
 refine bG (cat Tryz.f171 (pn 1)) Tryz.func171 Tryz.ntmps171 fun M a=>(bg ⟨[(0,.agg (aA b))],[],[],[]⟩ ?_);unfold jU at h;refine ax 6 7 3 (ai 4 ?_);obtain⟨c,h⟩|⟨c,h⟩:=ao h
 ·exact aD 6 c (ac (ag 0 (PZ d h)))
 ·exact aD 6 c (ac (ag 0 (PZ d h)))
end
noncomputable section
variable[GS](M:Nat→Prop)(b:aB)(r:Bool)(a:Int)  
variable{M b r a}{K:Kn}{n:Nat}
theorem MW(c:am K)(h:wA K n a=some r):aY bb 183 [iI a] (fun v _=>v=.bool r):=by
 refine bG (cat Tryz.f183 (pn 1)) Tryz.func183 Tryz.ntmps183 fun M b=>(bg ⟨[(0,iI a)],[],[],[]⟩ ?_);unfold wA at h;refine aJ 5 ?_;cases h;exact bw
end
noncomputable section
variable[GS](M:Nat→Prop)(b:aB)(r:Int)(a v2:Int)  
variable{M b r a v2}{K:Kn}{n:Nat}
theorem Mt(i:am K)(h:tE K n a v2=some r):aY bb 166 [iI a,iI v2] (fun v _=>v=iI r):=by
 refine bG (cat Tryz.f166 (pn 1)) Tryz.func166 Tryz.ntmps166 fun M b=>(bg ⟨[(0,iI a),(1,iI v2)],[],[],[]⟩ ?_);unfold tE at h;refine ax 6 7 3 (ai 1 ?_);obtain⟨l,j,h⟩:=bind_some h;refine aP (MW i j) (ac (ax 2 3 1 (ai 1 ?_)));obtain⟨v4,k,h⟩:=bind_some h;refine aP (MW i k) (ac (ax 5 3 3 ?_));obtain⟨c,h⟩|⟨c,h⟩:=ao h
 ·refine ah 11 c (ax 9 5 4 ?_);obtain⟨d,h⟩|⟨d,h⟩:=ao h
  ·refine ah 12 d (aJ 6 ?_);cases h;exact bw
  ·refine ah 12 d (aJ 6 ?_);cases h;exact bw
 ·refine ah 11 c (fN 5 3 5 ?_);obtain⟨e,h⟩|⟨e,h⟩:=ao h
  ·refine ah 13 e (aJ 5 ?_);cases h;exact bw
  ·refine ah 13 e (fN 5 3 5 ?_);obtain⟨f,h⟩|⟨f,h⟩:=ao h
   ·refine ah 16 f (aJ 5 ?_);cases h;exact bw
   ·refine ah 16 f (fN 5 3 5 ?_);obtain⟨g,h⟩|⟨g,h⟩:=ao h
    ·refine ah 19 g (aJ 5 ?_);cases h;exact bw
    ·refine ah 19 g (aJ 5 ?_);cases h;exact bw
end
noncomputable section
variable[GS](M:Nat→Prop)(c:aB)(r:Int)(b v2:Int)(a:d6)  
variable{M c r b v2 a}{K:Kn}{n:Nat}
theorem YX(g:am K)(h:zA K n b v2 a=some r):aY bb 172 [iI b,iI v2,.cptr ([.sl (lm aL a)])] (fun v _=>v=iI r):=by
 refine bG (cat Tryz.f172 (pn 1)) Tryz.func172 Tryz.ntmps172 fun M c=>(bg ⟨[(0,iI b),(1,iI v2),(2,.cptr ([.sl (lm aL a)]))],[],[],[]⟩ ?_);unfold zA at h;refine ax 6 7 3 (bP [0,1,2] [] [] ?_);obtain⟨d,h⟩:=aF h;obtain⟨e,h⟩:=aF h;obtain⟨v4,f,h⟩:=bind_some h;refine bQ 1 (nu 6 [.sl (lm aL a),iI b,.cptr (aA (gD a b)),.cptr (List.drop 2 (aA (gD a b))),.cptr (List.drop 48 (List.drop 2 (aA (gD a b)))),iI (((gD a b).Style).Order),.sl (lm aL a),iI v2,.cptr (aA (gD a v2)),.cptr (List.drop 2 (aA (gD a v2))),.cptr (List.drop 48 (List.drop 2 (aA (gD a v2)))),iI (((gD a v2).Style).Order),iI v4]) [] [] [cf bb 19 Tryz.f172 (pn 6) 13] (ay (vz 2) (bh (bD aL aA d (fV) (dW)) (ay (vz 5) (bh (bD aL aA e (fV) (dW)) (ay (vz 3) (aj (cv 0 1 18 (Mt g f)) (aj (cg 0) bR))))))) (aJ 1 ?_);cases h;exact bw
end
noncomputable section
variable[GS](M:Nat→Prop)(b:aB)(r:ck)(a:d6)(v6:Int)(c f:ck)(d:Nat)(e:Int→ck→Option ck)
abbrev Kh:Cx:=⟨bb,24,M,b⟩
abbrev Kc:=bodyPost bb Tryz.f146 (bI M b (fun v s=>v=.ref 18∧look 18 s.r=some (bk r)))
abbrev RM(a:dt)(s:AS):=VE (Kh M b) (Kc M b r) a .normal s
abbrev K0(n:Nat):aq:=.c (cat Tryz.f146 (pn n))
abbrev EX:dt:=[.b 0,K0 15]
abbrev TN:dt:=kl (Kh M b) (Kc M b r) EX (cat Tryz.f146 (pn 116)) d::EX
def Wr:AS:=⟨[(1,.ptr 1 0),(3,.ref 18),(6,.sl (lm aL a)),(7,iI (a.length:Int)),(8,iI v6)],[(1,[.sl (lm aL a)])],[(18,(bk f))],[1,18]⟩
def RO:AS:=⟨[(1,.ptr 1 0),(3,.ref 18),(6,.sl (lm aL a)),(7,iI (a.length:Int)),(8,iI v6)],[(1,[.sl (lm aL a)])],[(18,(bk c))],[1,18]⟩
abbrev HH:Prop:=∀{v6:Int} {c:ck},e v6 c=some r→LP (Kh M b) (Kc M b r) EX (cat Tryz.f146 (pn 116)) d (RO a v6 c)
variable{M b r a v6 c f d e}{K:Kn}{n:Nat}
theorem Qc(g:am K)(c:HH M b r a d e)(h:zH K n a v6 e f=some r):RM M b r (.b 1::K0 935::TN M b r d) (Wr a v6 f):=by
 unfold zH at h;exact ag 2 (bn (c h))
theorem Z2(j:am K)(i:HH M b r a d e)(h:zT K n a e v6 c=some r):RM M b r (K0 116::TN M b r d) (RO a v6 c):=by
 unfold zT at h;refine ax 6 7 3 ?_;obtain⟨f,h⟩|⟨f,h⟩:=ao h
 ·refine ah 9 f (cL 8 9 1 3 5 (ai 1 ?_));obtain⟨k,h⟩:=aF h;refine au (bD aL aA k (fV) (dW)) (ac (ax 2 3 1 (ai 1 ?_)));obtain⟨q,l,h⟩:=bind_some h;refine aP (IQ j l) (ac ?_);obtain⟨g,h⟩|⟨g,h⟩:=ao h
  ·refine ah 14 g (br 2 1 (ai 3 ?_));obtain⟨m,h⟩:=aF h;exact au (cG 18 18 3 1 (ak .i64) (rfl) aT m) (ac (ag 0 (Qc j i h)))
  ·exact ah 14 g (ag 2 (Qc j i h))
 ·refine ah 9 f (gg 2 3 6 (ai 1 (ld 1 1 ([.sl (lm aL a)]) (nO 172 #[(.tmp 1)] [.cptr ([.sl (lm aL a)])] ?_))));obtain⟨p,o,h⟩:=bind_some h;refine tq 18 0 (MM j o) (ac (aJ 3 ?_));cases h;exact fG
theorem ahV(d:am K)(m:Nat):HH M b r a m (tY K n a m):=by
 induction m with
 | zero=>intro v6 c h;cases h
 | succ m e=>intro v6 c h;have h:zT K n a (tY K n a m) v6 c=some r:=h;exact bj (Z2 d e h)
theorem agc(c:am K)(h:rV K n a=some r):aY bb 146 [.sl (lm aL a)] (fun v s=>v=.ref 18∧look 18 s.r=some (bk r)):=by
 refine bG (cat Tryz.f146 (pn 1)) Tryz.func146 Tryz.ntmps146 fun M b=>(bg ⟨[(0,.sl (lm aL a))],[],[],[]⟩ ?_);unfold rV at h;exact cb 28 29 15 6 (ai 1 (au (bv aL a) (ac (gT 2 0 1 (bP [1,3,6,7,8] [1] [] (eW 18 3 3 1 (ag 0 (ca (p:=pn 58) n (ahV c n h)))))))))
end
noncomputable section
variable[GS](M:Nat→Prop)(b:aB)(r:d6)(a:ab)(v2:ck)(c:Int)(v4:d6)(d:Nat)(e:Int→d6→Option d6)
abbrev IS:Cx:=⟨bb,24,M,b⟩
abbrev IH:=bodyPost bb Tryz.f102 (bI M b (fun v s=>v=.ref 21∧look 21 s.r=some (bY r)))
abbrev W3(a:dt)(s:AS):=VE (IS M b) (IH M b r) a .normal s
abbrev NE(n:Nat):aq:=.c (cat Tryz.f102 (pn n))
abbrev Ka:dt:=[.b 0,NE 15]
abbrev aaL:dt:=kl (IS M b) (IH M b r) Ka (cat Tryz.f102 (pn 116)) d::Ka
def RN:AS:=⟨[(1,.ptr 1 0),(3,.ref 21),(8,.ref 1008),(9,iI (v2.length:Int)),(10,iI c)],[(1,aA a)],[(21,(bY v4)),(1008,(bk v2))],[1,21,1008]⟩
abbrev Me:Prop:=∀{c:Int} {v4:d6},e c v4=some r→LP (IS M b) (IH M b r) Ka (cat Tryz.f102 (pn 116)) d (RN a v2 c v4)
variable{M b r a v2 c v4 d e}{K:Kn}{n:Nat}
theorem ad1(l:am K)(k:Me M b r a v2 d e)(h:Ab K n a v2 e c v4=some r):W3 M b r (NE 116::aaL M b r d) (RN a v2 c v4):=by
 unfold Ab at h;refine ax 6 7 3 ?_;obtain⟨f,h⟩|⟨f,h⟩:=ao h
 ·refine ah 11 f (cL 8 9 1 3 5 (ai 0 ?_));obtain⟨g,h⟩:=aF h;refine au (cp 1008 1 (ak .i64) g) (au (bJ 3 0 (ak .i64) (ak .i64) (bF g).2 aT) (ac (ai 4 ?_)));obtain⟨i,h⟩:=aF h;refine au (bD aL aA i (fV) (dW)) (aQ 6 1 (au (gt aL ([(gD a.Kids ((gD v2 c)))]:d6) (new:=[aA (gD a.Kids ((gD v2 c)))]) (by simp only[rl,Db,dW])) ?_));obtain⟨j,h⟩:=aF h;exact au (cG 21 21 48 59 aL (rfl) (fV) j) (ac (ag 2 (bn (k h))))
 ·refine ah 11 f (aJ 8 ?_);cases h;exact fG
theorem aap(d:am K)(m:Nat):Me M b r a v2 m (uY K n a v2 m):=by
 induction m with
 | zero=>intro c v4 h;cases h
 | succ m e=>intro c v4 h;have h:Ab K n a v2 (uY K n a v2 m) c v4=some r:=h;exact bj (ad1 d e h)
theorem K4(c:am K)(h:kU K n a=some r):aY bb 102 [.agg (aA a)] (fun v s=>v=.ref 21∧look 21 s.r=some (bY r)):=by
 refine bG (cat Tryz.f102 (pn 1)) Tryz.func102 Tryz.ntmps102 fun M b=>(bg ⟨[(0,.agg (aA a))],[],[],[]⟩ ?_);unfold kU at h;refine cb 28 29 15 6 (ai 2 ?_);obtain⟨v2,d,h⟩:=bind_some h;exact fg 1008 (agc c d) (ff 18) (au (bv (ak .i64) v2) (ac (gT 2 0 1 (bP [1,3,8,9,10] [1] [1008] (eW 21 3 48 59 (ag 0 (ca (p:=pn 58) n (aap c n h))))))))
end
noncomputable section
variable[GS](M:Nat→Prop)(b:aB)(r:Int)(a:bc)  
variable{M b r a}{K:Kn}{n:Nat}
theorem mV(c:am K)(h:gz K n a=some r):aY bb 126 [.agg (cS a)] (fun v _=>v=iI r):=by
 refine bG (cat Tryz.f126 (pn 1)) Tryz.func126 Tryz.ntmps126 fun M b=>(bg ⟨[(0,.agg (cS a))],[],[],[]⟩ ?_);unfold gz at h;refine aJ 5 ?_;cases h;exact bw
end
noncomputable section
variable[GS](M:Nat→Prop)(b:aB)(r:Int)(a:ae)  
variable{M b r a}{K:Kn}{n:Nat}
theorem Tp(e:am K)(h:wt K n a=some r):aY bb 127 [.agg (aG a)] (fun v _=>v=iI r):=by
 refine bG (cat Tryz.f127 (pn 1)) Tryz.func127 Tryz.ntmps127 fun M b=>(bg ⟨[(0,.agg (aG a))],[],[],[]⟩ ?_);unfold wt at h;refine ax 13 7 5 ?_;obtain⟨c,h⟩|⟨c,h⟩:=ao h
 ·refine ah 4 c (aJ 5 ?_);cases h;exact bw
 ·refine ah 4 c (fN 2 3 3 (ai 2 ?_));obtain⟨v2,d,h⟩:=bind_some h;refine aP (mV e d) (ac (aJ 1 ?_));cases h;exact bw
end
noncomputable section
variable[GS](M:Nat→Prop)(b:aB)(r:Int)(a v2:Int)  
variable{M b r a v2}{K:Kn}{n:Nat}
theorem mU(c:am K)(h:iu K n a v2=some r):aY bb 104 [iI a,iI v2] (fun v _=>v=iI r):=by
 refine bG (cat Tryz.f104 (pn 1)) Tryz.func104 Tryz.ntmps104 fun M b=>(bg ⟨[(0,iI a),(1,iI v2)],[],[],[]⟩ ?_);unfold iu at h;refine aJ 5 ?_;cases h;exact bw
end
noncomputable section
variable[GS](M:Nat→Prop)(b:aB)(r a:bC)  
variable{M b r a}{K:Kn}{n:Nat}
theorem RU(c:am K)(h:AC K n a=some r):aY bb 159 [.agg (cm a)] (fun v _=>v=.agg (cm r)):=by
 refine bG (cat Tryz.f159 (pn 1)) Tryz.func159 Tryz.ntmps159 fun M b=>(bg ⟨[(0,.agg (cm a))],[],[],[]⟩ ?_);unfold AC at h;refine ax 6 7 3 (ai 2 ?_);obtain⟨v2,d,h⟩:=bind_some h;refine aP (mU c d) (ac (ax 2 3 1 (ai 2 ?_)));obtain⟨j,e,h⟩:=bind_some h;refine aP (mU c e) (ac (ax 2 3 1 (ai 2 ?_)));obtain⟨v4,f,h⟩:=bind_some h;refine aP (mU c f) (ac (ax 2 3 1 (ai 2 ?_)));obtain⟨v5,g,h⟩:=bind_some h;refine aP (mU c g) (ac (ax 2 3 1 (bP [1,2] [1,2] [] ?_)));obtain⟨v6,i,h⟩:=bind_some h;refine bQ 1 (nu 19 [.ptr 1 4,iI a.Max,iI v6,.ptr 1 3,iI v5,iI (max v6 v5),.ptr 1 4]) [] [] [cf bb 27 Tryz.f159 (pn 126) 7] (ay (vz 2) (aj (cv 0 1 21 (mU c i)) (ay (vz 4) (aj (cg 0) bR)))) (aJ 3 ?_);cases h;exact bw
end
noncomputable section
variable[GS](M:Nat→Prop)(b:aB)(r:Int)(a:bC)(v2:Int)  
variable{M b r a v2}{K:Kn}{n:Nat}
theorem GR(c:am K)(h:pN K n a v2=some r):aY bb 160 [.agg (cm a),iI v2] (fun v _=>v=iI r):=by
 refine bG (cat Tryz.f160 (pn 1)) Tryz.func160 Tryz.ntmps160 fun M b=>(bg ⟨[(0,.agg (cm a)),(1,iI v2)],[],[],[]⟩ ?_);unfold pN at h;refine aJ 5 ?_;cases h;exact bw
end
noncomputable section
variable[GS](M:Nat→Prop)(b:aB)(r:Int)(a:bC)  
variable{M b r a}{K:Kn}{n:Nat}
theorem KJ(c:am K)(h:wj K n a=some r):aY bb 128 [.agg (cm a)] (fun v _=>v=iI r):=by
 refine bG (cat Tryz.f128 (pn 1)) Tryz.func128 Tryz.ntmps128 fun M b=>(bg ⟨[(0,.agg (cm a))],[],[],[]⟩ ?_);unfold wj at h;refine ax 6 7 3 (ai 1 ?_);obtain⟨v2,d,h⟩:=bind_some h;refine aP (RU c d) (ac (ax 2 3 1 (ai 3 ?_)));obtain⟨f,e,h⟩:=bind_some h;refine aP (GR c e) (ac (aJ 1 ?_));cases h;exact bw
end
noncomputable section
variable[GS](M:Nat→Prop)(c:aB)(r:Int)(b v2:Int)(a:ck)  
variable{M c r b v2 a}{K:Kn}{n:Nat}
theorem WB(g:am K)(h:ye K n b v2 a=some r):aY bb 165 [iI b,iI v2,.cptr ([.sl (lm (ak .i64) a)])] (fun v _=>v=iI r):=by
 refine bG (cat Tryz.f165 (pn 1)) Tryz.func165 Tryz.ntmps165 fun M c=>(bg ⟨[(0,iI b),(1,iI v2),(2,.cptr ([.sl (lm (ak .i64) a)]))],[],[],[]⟩ ?_);unfold ye at h;refine ax 6 7 3 (bP [0,1,2] [] [] ?_);obtain⟨d,h⟩:=aF h;obtain⟨e,h⟩:=aF h;obtain⟨v4,f,h⟩:=bind_some h;refine bQ 1 (nu 6 [.sl (lm (ak .i64) a),iI v2,.cptr ([iI (gD a v2)]),iI (gD a v2),.sl (lm (ak .i64) a),iI b,.cptr ([iI (gD a b)]),iI (gD a b),iI v4]) [] [] [cf bb 15 Tryz.f165 (pn 6) 9] (ay (vz 2) (bh (bD (ak .i64) (ak .i64) d aT aT) (ay (vz 3) (bh (bD (ak .i64) (ak .i64) e aT aT) (ay [.v 0 1] (aj (cv 0 1 14 (Mt g f)) (aj (cg 0) bR))))))) (aJ 1 ?_);cases h;exact bw
end
noncomputable section
variable[GS](M:Nat→Prop)(c:aB)(r:ck)(C:Int)(v2:ck)(b:Int)(v4 v5 v6:ck)(f u g a:Int)(j d i l:ck)(t o:Int)(q:ck)(x w y:Nat)(z:Int→Int→Option ck)(A:Int→Int→ck→ck→ck→Option ck)(B:ck→Int→Int→ck→Option ck)
abbrev pW:Cx:=⟨bb,96,M,c⟩
abbrev pB:=bodyPost bb Tryz.f136 (bI M c (fun v s=>v=.ref 21∧look 21 s.r=some (bk r)))
abbrev K6(a:dt)(s:AS):=VE (pW M c) (pB M c r) a .normal s
abbrev iy(n:Nat):aq:=.c (cat Tryz.f136 (pn n))
abbrev Ih:dt:=[.b 4,iy 8191]
abbrev Zs:dt:=kl (pW M c) (pB M c r) Ih (cat Tryz.f136 (pn 65524)) y::Ih
abbrev Kx:dt:=[.b 2,iy 2047]
abbrev Lm:dt:=kl (pW M c) (pB M c r) Kx (cat Tryz.f136 (pn 16372)) w::Kx
abbrev H0:dt:=[.b 0,iy 255]
abbrev adh:dt:=kl (pW M c) (pB M c r) H0 (cat Tryz.f136 (pn 2036)) x::H0
def MJ:AS:=⟨[(5,.ref 21),(82,.sl (lm (ak .i64) l)),(83,iI t),(84,iI o)],[],[(21,(bk q))],[21]⟩
def M2:AS:=⟨[(0,iI b),(5,.ref 21),(6,.ptr 6 0),(7,.ref 27),(8,iI f),(11,iI g),(43,.sl (lm (ak .i64) v2)),(44,iI (v2.length:Int)),(45,iI a)],[(6,[.ref 24])],[(21,(bk j)),(24,(bk d)),(27,(bk i))],[6,21,24,27]⟩
def UN:AS:=⟨[(0,iI b),(1,.sl (lm (ak .i64) v2)),(5,.ref 21),(6,.ptr 6 0),(7,.ref 27),(8,iI f),(28,.sl (lm (ak .i64) v2)),(29,iI (v2.length:Int)),(30,iI u)],[(6,[.ref 24])],[(21,(bk v4)),(24,(bk v5)),(27,(bk v6))],[6,21,24,27]⟩
abbrev Mz:Prop:=∀{f:Int} {u:Int},z f u=some r→LP (pW M c) (pB M c r) H0 (cat Tryz.f136 (pn 2036)) x (UN v2 b v4 v5 v6 f u)
abbrev Oc:Prop:=∀{g:Int} {a:Int} {j:ck} {d:ck} {i:ck},A g a j d i=some r→LP (pW M c) (pB M c r) Kx (cat Tryz.f136 (pn 16372)) w (M2 v2 b f g a j d i)
abbrev Lz:Prop:=∀{l:ck} {t:Int} {o:Int} {q:ck},B l t o q=some r→LP (pW M c) (pB M c r) Ih (cat Tryz.f136 (pn 65524)) y (MJ l t o q)
variable{M c r C v2 b v4 v5 v6 f u g a j d i l t o q x w y z A B}{K:Kn}{n:Nat}
theorem air(g:am K)(f:Lz M c r y B)(h:Bg K n B l t o q=some r):K6 M c r (iy 65524::Zs M c r y) (MJ l t o q):=by
 unfold Bg at h;refine ax 6 7 3 ?_;obtain⟨a,h⟩|⟨a,h⟩:=ao h
 ·refine ah 85 a (cL 8 9 5 3 5 (ai 0 ?_));obtain⟨e,h⟩:=aF h;refine au (bD (ak .i64) (ak .i64) e aT aT) (ac (ai 2 ?_));obtain⟨b,h⟩:=aF h;refine au (cp 21 1 (ak .i64) b) (au (bJ 3 0 (ak .i64) (ak .i64) (bF b).2 aT) (aQ 5 1 ?_));obtain⟨d,h⟩:=aF h;exact au (cp 21 1 (ak .i64) d) (au (dD 21 3 1 0 (ak .i64) (ak .i64) (aa ((gD q ((gD l o)))+1)) (bF d).2 aT) (ac (ag 2 (bn (f h)))))
 ·refine ah 85 a (aJ 8 ?_);cases h;exact fG
theorem ade(a:am K)(m:Nat):Lz M c r m (ql K n m):=by
 induction m with
 | zero=>intro l t o q h;cases h
 | succ m b=>intro l t o q h;have h:Bg K n (ql K n m) l t o q=some r:=h;exact bj (air a b h)
theorem ab2(G:am K)(H:Oc M c r v2 b f w A)(h:xp K n v2 b f A g a j d i=some r):K6 M c r (iy 16372::Lm M c r w) (M2 v2 b f g a j d i):=by
 unfold xp at h;refine ax 6 7 3 ?_;obtain⟨o,h⟩|⟨o,h⟩:=ao h
 ·refine ah 46 o (cL 8 9 3 3 5 (ai 1 ?_));obtain⟨y,h⟩:=aF h;refine au (bD (ak .i64) (ak .i64) y aT aT) (ac (ax 2 3 1 (ai 2 ?_)));obtain⟨l,z,h⟩:=bind_some h;refine aP (mU G z) (ac (ax 2 3 1 (bP [0,5,6,7,8,11,12,14,43,44,45] [6] [21,24,27] ?_)));obtain⟨B,h⟩:=aF h;obtain⟨q,h⟩:=aF h;obtain⟨s,h⟩:=aF h;obtain⟨t,h⟩:=aF h;obtain⟨u,h⟩:=aF h;refine bQ 3 (nu 54 [.ref 21,iI a,.ref 24,iI a,.ref 27,iI a,iI (aa (b*l)),iI f,iI (aa (Int.tdiv (aa (b*l)) f)),iI (aa (b*l)),iI f,iI (Int.tmod (aa (b*l)) f),iI a,.eptr 21 1 (a.toNat) 0,.eptr 24 1 (a.toNat) 0,.eptr 27 1 (a.toNat) 0]) [] [] [d8 21 ⟨3,1,lm (ak .i64) (List.set j a.toNat (aa (Int.tdiv (aa (b*l)) f)))⟩,d8 24 ⟨3,1,lm (ak .i64) (List.set d a.toNat (Int.tmod (aa (b*l)) f))⟩,d8 27 ⟨3,1,lm (ak .i64) (List.set i a.toNat a)⟩] (ay [.v 0 1,.v 0 1,.v 0 2,.v 0 2,.v 0 3,.v 0 3,.v 0 1,.v 0 1] (bh (ZE .i64 (aa (b*l)) B) (ay [.v 0 2,.v 0 2] (aj (ii (lo:=0) (k:=2) (dR ⟨(by kernel_rfl),(ep (VK .i64 (aa (b*l)) q) (by kernel_rfl))⟩ (dR ⟨(by kernel_rfl),(ep (VK .i64 (aa (b*l)) q) (by kernel_rfl))⟩ iJ))) (ay [.v 0 3] (bh (cN 21 1 (ak .i64) (L:=j) s) (aj (dp (m:=0) (dD 21 3 1 0 (ak .i64) (ak .i64) (aa (Int.tdiv (aa (b*l)) f)) (bF s).2 aT)) (aj (BJ (lo:=1) (cN 24 1 (ak .i64) (L:=d) t)) (aj (dp (m:=1) (dD 24 3 1 0 (ak .i64) (ak .i64) (Int.tmod (aa (b*l)) f) (bF t).2 aT)) (aj (BJ (lo:=2) (cN 27 1 (ak .i64) (L:=i) u)) (aj (dp (m:=2) (dD 27 3 1 0 (ak .i64) (ak .i64) a (bF u).2 aT)) bR))))))))))) ?_
  obtain⟨I,C,h⟩:=bU h;obtain⟨J,D,h⟩:=bU h;refine bA (ks':=iy 2095719 :: .b 3::iy 130983::Lm M c r w) 0 ⟨[(0,iI b),(5,.ref 21),(6,.ptr 6 0),(7,.ref 27),(8,iI f),(11,iI g),(12,iI a),(43,.sl (lm (ak .i64) v2)),(44,iI (v2.length:Int)),(45,iI a)],[(6,[.ref 24])],[(21,(bk I)),(24,(bk J)),(27,⟨3,1,lm (ak .i64) (List.set i a.toNat a)⟩)],[6,21,24,27]⟩ ?_ (by subst D;subst C;kernel_rfl);refine ai 3 ?_;obtain⟨v,h⟩:=aF h;exact au (cp 21 1 (ak .i64) v) (au (bJ 3 0 (ak .i64) (ak .i64) (bF v).2 aT) (ac (ag 2 (bn (H h)))))
 ·refine ah 46 o (gg 2 3 6 (ai 1 (mM 24 (ld 6 6 ([.sl (lm (ak .i64) d)]) (nO 165 #[(.tmp 6)] [.cptr ([.sl (lm (ak .i64) d)])] ?_)))));obtain⟨x,E,h⟩:=bind_some h;refine tq 27 0 (MM G E) (ac (cb 4 5 3 2 (ai 2 (mM 27 ?_))));obtain⟨F,h⟩:=aF h;exact au (lx (ak .i64) x (0:Int) g 72 (.tmp 80) none (some (.tmp 81)) 82 (e:=3) (sz:=1) (by kernel_rfl) (by kernel_rfl) (by kernel_rfl) (by kernel_rfl) (by kernel_rfl) (by kernel_rfl) aT (fun k N=>by subst N;kernel_rfl) F) (au (bv (ak .i64) (List.drop ((0:Int)).toNat (List.take g.toNat x))) (ac (ag 1 (ca (p:=pn 32762) n (ade G n h)))))
theorem af7(e:am K)(m:Nat):Oc M c r v2 b f m (qE K n v2 b f m):=by
 induction m with
 | zero=>intro g a j d i h;cases h
 | succ m k=>intro g a j d i h;have h:xp K n v2 b f (qE K n v2 b f m) g a j d i=some r:=h;exact bj (ab2 e k h)
theorem aed(j:am K)(i:Mz M c r v2 b v4 v5 v6 x z)(h:A1 K n v2 b v4 v5 v6 z f u=some r):K6 M c r (iy 2036::adh M c r x) (UN v2 b v4 v5 v6 f u):=by
 unfold A1 at h;refine ax 6 7 3 ?_;obtain⟨a,h⟩|⟨a,h⟩:=ao h
 ·refine ah 31 a (cL 8 9 1 3 5 (ai 0 ?_));obtain⟨e,h⟩:=aF h;refine au (bD (ak .i64) (ak .i64) e aT aT) (ac (ai 2 ?_));obtain⟨k,g,h⟩:=bind_some h;exact aP (mU j g) (ac (ag 2 (bn (i h))))
 ·refine ah 31 a (gg 5 3 8 ?_);obtain⟨d,h⟩|⟨d,h⟩:=ao h
  ·refine ah 40 d (aJ 5 ?_);cases h;exact fG
  ·exact ah 40 d (nR 12 13 7 6 (ai 1 (au (bv (ak .i64) v2) (ac (ag 1 (ca (p:=pn 8186) n (af7 j n h)))))))
theorem af4(a:am K)(m:Nat):Mz M c r v2 b v4 v5 v6 m (s6 K n v2 b v4 v5 v6 m):=by
 induction m with
 | zero=>intro f u h;cases h
 | succ m d=>intro f u h;have h:A1 K n v2 b v4 v5 v6 (s6 K n v2 b v4 v5 v6 m) f u=some r:=h;exact bj (aed a d h)
theorem Zk(a:am K)(h:yi K n C v2=some r):aY bb 136 [iI C,.sl (lm (ak .i64) v2)] (fun v s=>v=.ref 21∧look 21 s.r=some (bk r)):=by
 refine bG (cat Tryz.f136 (pn 1)) Tryz.func136 Tryz.ntmps136 fun M c=>(bg ⟨[(0,iI C),(1,.sl (lm (ak .i64) v2))],[],[],[]⟩ ?_);unfold yi at h;refine ax 6 7 3 (ai 1 ?_);obtain⟨b,d,h⟩:=bind_some h;refine aP (mU a d) (ac (ax 2 3 1 (ai 1 (au (bv (ak .i64) v2) ?_))));obtain⟨f,h⟩:=aF h;refine n7 (ak .i64) (0:Int) 72 (.tmp 20) (.tmp 20) 21 (e:=3) (sz:=1) (zc:=[iI 0]) (kd:=.i64) (kd':=.i64) f (ac ?_);obtain⟨v4,g,h⟩:=bU h;refine bA (ks':=[iy 30,iy 31]) 1 ⟨[(0,iI b),(1,.sl (lm (ak .i64) v2)),(5,.ref 21)],[],[(21,(bk v4))],[21]⟩ ?_ (by subst g;kernel_rfl);refine ai 1 (au (bv (ak .i64) v2) ?_);obtain⟨i,h⟩:=aF h;refine n7 (ak .i64) (0:Int) 72 (.tmp 23) (.tmp 23) 24 (e:=3) (sz:=1) (zc:=[iI 0]) (kd:=.i64) (kd':=.i64) i (ac ?_);obtain⟨v5,j,h⟩:=bU h;refine bA (ks':=[iy 62,iy 63]) 1 ⟨[(0,iI b),(1,.sl (lm (ak .i64) v2)),(5,.ref 21),(6,.ptr 6 0)],[(6,[.ref 24])],[(21,(bk v4)),(24,(bk v5))],[6,21,24]⟩ ?_ (by subst j;kernel_rfl)
 refine ai 1 (au (bv (ak .i64) v2) ?_);obtain⟨k,h⟩:=aF h;refine n7 (ak .i64) (0:Int) 72 (.tmp 26) (.tmp 26) 27 (e:=3) (sz:=1) (zc:=[iI 0]) (kd:=.i64) (kd':=.i64) k (ac ?_);obtain⟨v6,l,h⟩:=bU h;refine bA (ks':=[iy 508,iy 509,iy 255]) 4 ⟨[(0,iI b),(1,.sl (lm (ak .i64) v2)),(5,.ref 21),(6,.ptr 6 0),(7,.ref 27),(8,iI 0)],[(6,[.ref 24])],[(21,(bk v4)),(24,(bk v5)),(27,(bk v6))],[6,21,24,27]⟩ ?_ (by subst l;kernel_rfl);exact ai 1 (au (bv (ak .i64) v2) (ac (ag 1 (ca (p:=pn 1018) n (af4 a n h)))))
end
noncomputable section
variable[GS](M:Nat→Prop)(i:aB)(r:Bool×ee)(g:ee)(v2 l t u o:Int)(a q:ck)(y z:Int)(A B:ck)(C f b:Int)(d:ck)(e:Int)(k:ee)(w:Int)(D:Bool)(E:ee)(G I x:Nat)(H:Int→Int→Int→ck→ck→Option (Bool×ee))(J:Int→Int→ck→Option (Bool×ee))(F:Int→ee→Option (Bool×ee))
abbrev qY:Cx:=⟨bb,170,M,i⟩
abbrev qX:=bodyPost bb Tryz.f161 (bI M i (fun v s=>v=.bool r.1∧look 0 s.r=some (b5 r.2)))
abbrev qN(a:dt)(s:AS):=VE (qY M i) (qX M i r) a .normal s
abbrev gK(n:Nat):aq:=.c (cat Tryz.f161 (pn n))
abbrev Gc:dt:=[.b 4,gK 4095]
abbrev IU:dt:=kl (qY M i) (qX M i r) Gc (cat Tryz.f161 (pn 32756)) x::Gc
abbrev G8:dt:=[.b 2,gK 2047]
abbrev UI:dt:=kl (qY M i) (qX M i r) G8 (cat Tryz.f161 (pn 16372)) I::G8
abbrev Jp:dt:=[.b 0,gK 31]
abbrev FF:dt:=kl (qY M i) (qX M i r) Jp (cat Tryz.f161 (pn 244)) G::Jp
def Yj:AS:=⟨[(0,.ref 0),(2,iI l),(7,iI y),(8,iI z),(9,.ref 47),(10,.ref 52),(22,.ref 0),(23,iI (g.length:Int)),(24,iI o)],[],[(0,(b5 g)),(47,(bk A)),(52,(bk B))],[0,47,52,1000000,0]⟩
def YF:AS:=⟨[(0,.ref 0),(13,iI f),(14,.ref 1075),(117,.ref 47),(118,iI (a.length:Int)),(119,iI e)],[],[(0,(b5 E)),(47,(bk a)),(1075,(bk d))],[0,47,1075,1000000,0]⟩
def aiS:AS:=⟨[(0,.ref 0),(13,iI f),(14,.ref 1075),(19,.eptr 0 9 (((gD a e)).toNat) 0),(20,iI w),(117,.ref 47),(118,iI (a.length:Int)),(119,iI e),(161,.bool D)],[],[(0,(b5 k)),(47,(bk a)),(1075,(bk d))],[0,47,1075,1000000,0]⟩
def RF:AS:=⟨[(0,.ref 0),(13,iI f),(14,.ref 1075),(117,.ref 47),(118,iI (a.length:Int)),(119,iI e)],[],[(0,(b5 k)),(47,(bk a)),(1075,(bk d))],[0,47,1075,1000000,0]⟩
def Nb:AS:=⟨[(0,.ref 0),(2,iI l),(9,.ref 47),(13,iI f),(14,.ref 1075),(76,.ref 47),(77,iI (a.length:Int)),(78,iI b)],[],[(0,(b5 g)),(47,(bk a)),(1075,(bk d))],[0,47,1075,1000000,0]⟩
def adK:AS:=⟨[(0,.ref 0),(2,iI l),(7,iI C),(9,.ref 47),(10,.ref 52)],[],[(0,(b5 g)),(47,(bk a)),(52,(bk q))],[0,47,52,1000000,0]⟩
def Qh:AS:=⟨[(0,.ref 0),(2,iI l),(7,iI t),(8,iI u),(9,.ref 47),(10,.ref 52),(22,.ref 0),(23,iI (g.length:Int)),(24,iI o)],[],[(0,(b5 g)),(47,(bk a)),(52,(bk q))],[0,47,52,1000000,0]⟩
abbrev Ki:Prop:=∀{t:Int} {u:Int} {o:Int} {a:ck} {q:ck},H t u o a q=some r→LP (qY M i) (qX M i r) Jp (cat Tryz.f161 (pn 244)) G (Qh g l t u o a q)
abbrev TQ:Prop:=∀{f:Int} {b:Int} {d:ck},J f b d=some r→LP (qY M i) (qX M i r) G8 (cat Tryz.f161 (pn 16372)) I (Nb g l a f b d)
abbrev C7:Prop:=∀{e:Int} {k:ee},F e k=some r→LP (qY M i) (qX M i r) Gc (cat Tryz.f161 (pn 32756)) x (RF a f d e k)
variable{M i r g v2 l t u o a q y z A B C f b d e k w D E G I x H J F}{K:Kn}{n:Nat}
theorem Mp(b:am K)(a:Ki M i r g l G H)(h:xQ K n g l o H y z A B=some r):qN M i r (gK 1959::FF M i r G) (Yj g l o y z A B):=by
 unfold xQ at h;exact ag 1 (bn (a h))
theorem Oo(c:am K)(b:C7 M i r a f d x F)(h:xz K n a f d e F E=some r):qN M i r (.b 5::gK 262055::IU M i r x) (YF a f d e E):=by
 unfold xz at h;exact ag 2 (bn (b h))
theorem uN(l:am K)(g:C7 M i r a f d x F)(h:nE K n a f d e k w F D=some r):qN M i r (gK 8385743 :: .b 5::gK 262055::IU M i r x) (aiS a f d e k w D):=by
 unfold nE at h;obtain⟨b,h⟩|⟨b,h⟩:=ao h
 ·refine ah 161 b (br 2 1 (ai 5 ?_));obtain⟨c,h⟩:=aF h;exact au (dD 0 220 9 7 bB bB ({ (gD k ((gD a e)))with size:=w }:aZ) (lc c) aT) (aQ 8 2 (au (dD 0 220 9 8 bB bB (L:=(List.set k ((gD a e)).toNat ({ (gD k ((gD a e)))with size:=w }:aZ))) (j:=((gD a e)).toNat) ({ (gD (List.set k ((gD a e)).toNat ({ (gD k ((gD a e)))with size:=w }:aZ)) ((gD a e)))with fixed:=true }:aZ) (iB (lc c)) aT) (ac (ag 0 (Oo l g h)))))
 ·exact ah 161 b (ag 2 (Oo l g h))
theorem agM(p:am K)(b:C7 M i r a f d x F)(h:AK K n a f d F e k=some r):qN M i r (gK 32756::IU M i r x) (RF a f d e k):=by
 unfold AK at h;refine ax 6 7 3 ?_;obtain⟨c,h⟩|⟨c,h⟩:=ao h
 ·refine ah 120 c (cL 8 9 5 3 5 (ai 1 ?_));obtain⟨q,h⟩:=aF h;refine au (cp 47 1 (ak .i64) q) (au (bJ 3 0 (ak .i64) (ak .i64) (bF q).2 aT) (ac (ax 2 3 1 (ai 2 ?_))));obtain⟨s,h⟩:=aF h;refine au (cp 0 9 bB s) (ac (ax 2 3 1 (bP [0,13,14,17,19,117,118,119] [] [0,47,1075] ?_)));obtain⟨t,h⟩:=aF h;obtain⟨w,z,h⟩:=bind_some h;refine bQ 1 (nu 127 [.eptr 0 9 (((gD a e)).toNat) 0,.eptr 0 9 (((gD a e)).toNat) 0,.eptr 0 9 (((gD a e)).toNat) 0,.agg (cm ((gD k ((gD a e))).Item)),.ref 1075,iI e,.eptr 1075 1 (e.toNat) 0,iI (gD d e),iI w]) [] [] [cf bb 170 Tryz.f161 (pn 4192870) 9] (ay (vz 3) (bh (bJ 176 0 bB bB (bF s).2 aT) (ay (vz 2) (bh (cN 1075 1 (ak .i64) (L:=d) t) (bh (bJ 3 0 (ak .i64) (ak .i64) (bF t).2 aT) (aj (cv 0 1 135 (GR p z)) (aj (cg 0) bR))))))) (ax 2 3 1 (ai 3 ?_));obtain⟨g,h⟩|⟨g,h⟩:=ao h
  ·exact aD 138 g (ac (ag 0 (uN p b h)))
  ·refine aD 138 g (aQ 6 3 ?_);obtain⟨j,h⟩|⟨j,h⟩:=ao h
   ·refine aD 141 j (aQ 9 3 ?_);obtain⟨u,h⟩:=aF h;refine au (cp 1075 1 (ak .i64) u) (au (bJ 3 0 (ak .i64) (ak .i64) (bF u).2 aT) (aQ 15 4 ?_));obtain⟨l,h⟩|⟨l,h⟩:=ao h
    ·exact aD 150 l (ac (ag 0 (uN p b h)))
    ·refine aD 150 l (aQ 18 3 ?_);obtain⟨m,h⟩|⟨m,h⟩:=ao h
     ·refine aD 153 m (aQ 21 3 ?_);obtain⟨v,h⟩:=aF h;exact au (cp 1075 1 (ak .i64) v) (au (bJ 3 0 (ak .i64) (ak .i64) (bF v).2 aT) (ac (ag 0 (uN p b h))))
     ·exact aD 153 m (ac (ag 0 (uN p b h)))
   ·refine aD 141 j (aQ 18 12 ?_);obtain⟨o,h⟩|⟨o,h⟩:=ao h
    ·refine aD 153 o (aQ 21 3 ?_);obtain⟨y,h⟩:=aF h;exact au (cp 1075 1 (ak .i64) y) (au (bJ 3 0 (ak .i64) (ak .i64) (bF y).2 aT) (ac (ag 0 (uN p b h))))
    ·exact aD 153 o (ac (ag 0 (uN p b h)))
 ·refine ah 120 c (aJ 8 ?_);cases h;exact fG
theorem ZS(b:am K)(m:Nat):C7 M i r a f d m (rd K n a f d m):=by
 induction m with
 | zero=>intro e k h;cases h
 | succ m c=>intro e k h;have h:AK K n a f d (rd K n a f d m) e k=some r:=h;exact bj (agM b c h)
theorem X3(z:am K)(y:TQ M i r g l a I J)(h:wY K n g l a J f b d=some r):qN M i r (gK 16372::UI M i r I) (Nb g l a f b d):=by
 unfold wY at h;refine ax 6 7 3 ?_;obtain⟨e,h⟩|⟨e,h⟩:=ao h
 ·refine ah 79 e (cL 8 9 3 3 5 (ai 1 ?_));obtain⟨q,h⟩:=aF h;refine au (cp 47 1 (ak .i64) q) (au (bJ 3 0 (ak .i64) (ak .i64) (bF q).2 aT) (ac (ax 2 3 1 (bP [0,2,9,13,14,15,16,76,77,78] [] [0,47,1075] ?_))));obtain⟨s,h⟩:=aF h;obtain⟨u,h⟩:=aF h;obtain⟨j,h⟩:=aF h;refine bQ 1 (nu 83 [.ref 1075,iI b,.ref 0,iI (gD a b),.eptr 0 9 (((gD a b)).toNat) 0,.eptr 0 9 (((gD a b)).toNat) 0,.eptr 0 9 (((gD a b)).toNat) 0,iI (((gD g ((gD a b))).Item).aB),iI l,.ref 1075,iI b,.eptr 1075 1 (b.toNat) 0,iI (gD d b),iI (aa (l*(gD d b))),iI (aa ((((gD g ((gD a b))).Item).aB)+(aa (l*(gD d b))))),.eptr 1075 1 (b.toNat) 0]) [] [] [d8 1075 ⟨3,1,lm (ak .i64) (List.set d b.toNat (aa ((((gD g ((gD a b))).Item).aB)+(aa (l*(gD d b))))))⟩] (ay (vz 4) (bh (cN 0 9 bB (L:=g) s) (ay (vz 2) (bh (bJ 3 0 bB bB (bF s).2 aT) (ay (vz 3) (bh (cN 1075 1 (ak .i64) (L:=d) u) (bh (bJ 3 0 (ak .i64) (ak .i64) (bF j).2 aT) (ay (vz 2) (bh (cN 1075 1 (ak .i64) (L:=d) j) (aj (dp (m:=0) (dD 1075 3 1 0 (ak .i64) (ak .i64) (aa ((((gD g ((gD a b))).Item).aB)+(aa (l*(gD d b))))) (bF j).2 aT)) bR)))))))))) ?_
  obtain⟨c,v,h⟩:=bU h;refine bA (ks':=gK 1047859 :: .b 3::gK 130983::UI M i r I) 0 ⟨[(0,.ref 0),(2,iI l),(9,.ref 47),(13,iI f),(14,.ref 1075),(15,iI b),(16,iI (gD a b)),(76,.ref 47),(77,iI (a.length:Int)),(78,iI b)],[],[(0,(b5 g)),(47,(bk a)),(1075,(bk c))],[0,47,1075,1000000,0]⟩ ?_ (by subst v;kernel_rfl);obtain⟨t,h⟩:=aF h;obtain⟨w,h⟩:=aF h;obtain⟨o,x,h⟩:=bind_some h;obtain⟨k,h⟩:=aF h;exact bQ 1 (nu 99 [iI f,.ref 0,iI (gD a b),.eptr 0 9 (((gD a b)).toNat) 0,.eptr 0 9 (((gD a b)).toNat) 0,.agg (cm ((gD g ((gD a b))).Item)),.ref 1075,iI b,.eptr 1075 1 (b.toNat) 0,iI (gD c b),iI o,.ref 1075,iI b,.eptr 1075 1 (b.toNat) 0,iI (gD c b),iI (aa (o-(gD c b))),iI (aa (f+(aa (o-(gD c b)))))]) [] [] [cf bb 170 Tryz.f161 (pn 1047859) 17] (ay (vz 3) (bh (cN 0 9 bB (L:=g) t) (ay [.v 0 1] (bh (bJ 176 0 bB bB (bF t).2 aT) (ay (vz 2) (bh (cN 1075 1 (ak .i64) (L:=c) w) (bh (bJ 3 0 (ak .i64) (ak .i64) (bF k).2 aT) (aj (cv 0 1 109 (GR z x)) (ay (vz 2) (bh (cN 1075 1 (ak .i64) (L:=c) k) (bh (bJ 3 0 (ak .i64) (ak .i64) (bF k).2 aT) (ay (vz 2) (aj (cg 0) bR))))))))))))) (ag 2 (bn (y h)))
 ·exact ah 79 e (sv 4 5 3 7 (ai 1 (au (bv (ak .i64) a) (ac (ag 1 (ca (p:=pn 16378) n (ZS z n h)))))))
theorem aaf(c:am K)(m:Nat):TQ M i r g l a m (tZ K n g l a m):=by
 induction m with
 | zero=>intro f b d h;cases h
 | succ m e=>intro f b d h;have h:wY K n g l a (tZ K n g l a m) f b d=some r:=h;exact bj (X3 c e h)
theorem Np(c:am K)(h:uu K n g l a q C=some r):qN M i r [gK 255] (adK g l a q C):=by
 unfold uu at h;refine ax 6 7 3 (ai 2 (mM 52 ?_));obtain⟨d,b,h⟩:=bind_some h;exact fg 1075 (Zk c b) (ff 21) (ac (cb 4 5 3 2 (ai 1 (au (bv (ak .i64) a) (ac (ag 1 (ca (p:=pn 8186) n (aaf c n h))))))))
theorem aay(k:am K)(j:Ki M i r g l G H)(h:zk K n g l H t u o a q=some r):qN M i r (gK 244::FF M i r G) (Qh g l t u o a q):=by
 unfold zk at h;refine ax 6 7 3 ?_;obtain⟨b,h⟩|⟨b,h⟩:=ao h
 ·refine ah 25 b (cL 8 9 1 3 5 (ai 1 ?_));obtain⟨f,h⟩:=aF h;refine au (cp 0 9 bB f) (au (bJ 220 0 bB bB (bF f).2 aT) (ac (ax 5 3 3 ?_)));obtain⟨c,h⟩|⟨c,h⟩:=ao h
  ·exact ah 30 c (ag 6 (Mp k j h))
  ·refine ah 30 c ?_;obtain⟨w,m,h⟩:=bU h;obtain⟨x,p,h⟩:=bU h;refine bA (ks':=gK 125342::gK 125343 :: .b 1::gK 1959::FF M i r G) 7 ⟨[(0,.ref 0),(2,iI l),(7,iI w),(8,iI x),(9,.ref 47),(10,.ref 52),(11,iI o),(12,.ptr 12 0),(22,.ref 0),(23,iI (g.length:Int)),(24,iI o)],[(12,bB (gD g o))],[(0,(b5 g)),(47,(bk a)),(52,(bk q))],[12,0,47,52,1000000,0]⟩ ?_ (by subst p;subst m;kernel_rfl);refine ai 3 ?_;obtain⟨s,h⟩:=aF h;refine au (cG 47 47 3 1 (ak .i64) (rfl) aT s) (ac (ai 4 ?_));obtain⟨v,h⟩:=aF h;exact au (cG 52 52 3 1 (ak .i64) (rfl) aT v) (ac (ag 1 (Mp k j h)))
 ·refine ah 25 b (sv 4 5 3 7 (ai 1 (au (bv (ak .i64) a) (ac ?_))));obtain⟨d,h⟩|⟨d,h⟩:=ao h
  ·refine ah 56 d (aJ 5 ?_);cases h;exact fG
  ·refine ah 56 d (fN 13 7 7 ?_);obtain⟨e,h⟩|⟨e,h⟩:=ao h
   ·exact ah 62 e (ag 2 (Np k h))
   ·exact ah 62 e (ag 2 (Np k h))
theorem ZN(b:am K)(m:Nat):Ki M i r g l m (sI K n g l m):=by
 induction m with
 | zero=>intro t u o a q h;cases h
 | succ m c=>intro t u o a q h;have h:zk K n g l (sI K n g l m) t u o a q=some r:=h;exact bj (aay b c h)
theorem abZ(a:am K)(h:tQ K n g v2 l=some r):wh bb 161 [.ref 0,iI v2,iI l] 0 (b5 g) (fun v s=>v=.bool r.1∧look 0 s.r=some (b5 r.2)):=by
 refine BT (c:=cat Tryz.f161 (pn 1)) Tryz.func161 (by kernel_rfl) _ Tryz.ntmps161 (lc (by kernel_rfl)) fun M i=>(bg ⟨[(0,.ref 0),(1,iI v2),(2,iI l)],[],[(0,(b5 g))],[0,1000000]⟩ ?_);unfold tQ at h;exact cb 60 61 31 8 (ai 1 (au (bv bB g) (ac (gT 2 0 1 (bP [0,2,7,8,9,10,22,23,24] [] [0] (eW 47 9 3 1 (eW 52 10 3 1 (ag 0 (ca (p:=pn 122) n (ZN a n h))))))))))
end
noncomputable section
variable[GS](M:Nat→Prop)(f:aB)(r:ck)(l:em)(v2 g x t:Int)(c:ee)(d a:Int)(b u y o:ee)(i:Bool×ee)(k:Int)(q:ck)(A w B C:Nat)(D:Int→Int→ee→Option ck)(z:Int→ee→Option ck)(E:ee→Option ck)(F:Int→ck→Option ck)
abbrev m8:Cx:=⟨bb,158,M,f⟩
abbrev nG:=bodyPost bb Tryz.f129 (bI M f (fun v s=>v=.ref 143∧look 143 s.r=some (bk r)))
abbrev qB(a:dt)(s:AS):=VE (m8 M f) (nG M f r) a .normal s
abbrev dY(n:Nat):aq:=.c (cat Tryz.f129 (pn n))
abbrev F6:dt:=[.b 6,dY 4095]
abbrev akB:dt:=kl (m8 M f) (nG M f r) F6 (cat Tryz.f129 (pn 32756)) C::F6
abbrev K7:dt:=[.b 4,dY 1023]
abbrev agt:dt:=kl (m8 M f) (nG M f r) K7 (cat Tryz.f129 (pn 4088)) B::K7
abbrev FY:dt:=[.b 2,dY 511]
abbrev yI:dt:=kl (m8 M f) (nG M f r) FY (cat Tryz.f129 (pn 4084)) w::FY
abbrev GZ:dt:=[.b 0,dY 63]
abbrev N6:dt:=kl (m8 M f) (nG M f r) GZ (cat Tryz.f129 (pn 500)) A::GZ
def afm:AS:=⟨[(1,iI g),(5,.ref 20),(9,iI d),(48,iI (c.length:Int)),(49,iI a)],[],[(20,(b5 y))],[20]⟩
def agf:AS:=⟨[(1,iI g),(5,.ref 20),(9,iI d),(11,.eptr 20 9 (a.toNat) 0),(48,iI (c.length:Int)),(49,iI a)],[],[(20,(b5 u))],[20]⟩
def Mn:AS:=⟨[(12,.ref 143),(144,.ref 20),(145,iI (i.2.length:Int)),(146,iI k)],[],[(20,(b5 i.2)),(143,(bk q))],[20,143]⟩
def Rg:AS:=⟨[(1,iI g),(5,.ref 20),(9,iI d)],[],[(20,(b5 o))],[20]⟩
def Qo:AS:=⟨[(1,iI g),(5,.ref 20),(9,iI d),(48,iI (c.length:Int)),(49,iI a)],[],[(20,(b5 b))],[20]⟩
def ajW:AS:=⟨[(1,iI g),(5,.ref 20),(9,iI d)],[],[(20,(b5 c))],[20]⟩
def TD:AS:=⟨[(1,iI g),(5,.ref 20),(6,iI x),(21,.sl (lm cm l)),(22,iI (l.length:Int)),(23,iI t)],[],[(20,(b5 c))],[20]⟩
abbrev OE:Prop:=∀{x:Int} {t:Int} {c:ee},D x t c=some r→LP (m8 M f) (nG M f r) GZ (cat Tryz.f129 (pn 500)) A (TD l g x t c)
abbrev Cw:Prop:=∀{a:Int} {b:ee},z a b=some r→LP (m8 M f) (nG M f r) FY (cat Tryz.f129 (pn 4084)) w (Qo g c d a b)
abbrev Nr:Prop:=∀{o:ee},E o=some r→LP (m8 M f) (nG M f r) K7 (cat Tryz.f129 (pn 4088)) B (Rg g d o)
abbrev TP:Prop:=∀{k:Int} {q:ck},F k q=some r→LP (m8 M f) (nG M f r) F6 (cat Tryz.f129 (pn 32756)) C (Mn i k q)
variable{M f r l v2 g x t c d a b u y o i k q A w B C D z E F}{K:Kn}{n:Nat}
theorem Nh(e:am K)(b:Cw M f r g c d w z)(h:xX K n g c d a z y=some r):qB M f r (.b 3::dY 32679::yI M f r w) (afm g c d a y):=by
 unfold xX at h;exact ag 2 (bn (b h))
theorem Uq(j:am K)(i:Cw M f r g c d w z)(h:Bj K n g c d a z u=some r):qB M f r (dY 522855 :: .b 3::dY 32679::yI M f r w) (agf g c d a u):=by
 unfold Bj at h;refine ai 4 ?_;obtain⟨b,h⟩:=aF h;refine au (bJ 4 8 bB bB (lc b) aT) (aQ 6 1 ?_);obtain⟨e,h⟩|⟨e,h⟩:=ao h
 ·exact aD 127 e (aQ 14 8 (au (dD 20 220 9 8 bB bB ({ (gD u a)with fixed:=true }:aZ) (lc b) aT) (ac (ag 0 (Nh j i h)))))
 ·exact aD 127 e (aQ 9 3 (au (bJ 3 5 bB bB (lc b) aT) (aQ 14 4 (au (dD 20 220 9 8 bB bB ({ (gD u a)with fixed:=(((gD u a).factor) == 0) }:aZ) (lc b) aT) (ac (ag 0 (Nh j i h)))))))
theorem X8(e:am K)(d:TP M f r i C F)(h:yl K n i F k q=some r):qB M f r (dY 32756::akB M f r C) (Mn i k q):=by
 unfold yl at h;refine ax 6 7 3 ?_;obtain⟨a,h⟩|⟨a,h⟩:=ao h
 ·refine ah 147 a (cL 8 9 7 3 5 (ai 1 ?_));obtain⟨b,h⟩:=aF h;refine au (cp 20 9 bB b) (au (bJ 220 0 bB bB (bF b).2 aT) (ac (ai 4 ?_)));obtain⟨c,h⟩:=aF h;exact au (cp 143 1 (ak .i64) c) (au (dD 143 3 1 0 (ak .i64) (ak .i64) ((gD i.2 k).size) (bF c).2 aT) (ac (ag 2 (bn (d h)))))
 ·refine ah 147 a (aJ 8 ?_);cases h;exact fG
theorem adA(a:am K)(m:Nat):TP M f r i m (ul K n i m):=by
 induction m with
 | zero=>intro k q h;cases h
 | succ m b=>intro k q h;have h:yl K n i (ul K n i m) k q=some r:=h;exact bj (X8 a b h)
theorem Yt(m:am K)(k:Nr M f r g d B E)(h:zg K n g d E o=some r):qB M f r (dY 4088::agt M f r B) (Rg g d o):=by
 unfold zg at h;refine cb 4 5 3 2 (ai 3 ?_);obtain⟨i,b,h⟩:=bind_some h;refine tq 20 0 (abZ m b) (ac ?_);obtain⟨a,h⟩|⟨a,h⟩:=ao h
 ·exact ah 140 a (ag 5 (bn (k h)))
 ·refine ah 140 a (gg 2 3 6 (ai 1 (au (bv bB i.2) ?_)));obtain⟨c,h⟩:=aF h;refine n7 (ak .i64) (0:Int) 72 (.tmp 142) (.tmp 142) 143 (e:=3) (sz:=1) (zc:=[iI 0]) (kd:=.i64) (kd':=.i64) c (ac ?_);obtain⟨l,j,h⟩:=bU h;refine bA (ks':=[dY 8188,dY 8189,dY 4095]) 2 ⟨[(5,.ref 20),(12,.ref 143)],[],[(20,(b5 i.2)),(143,(bk l))],[20,143]⟩ ?_ (by subst j;kernel_rfl);exact ai 1 (au (bv bB i.2) (ac (ag 1 (ca (p:=pn 16378) n (adA m n h)))))
theorem ajY(a:am K)(m:Nat):Nr M f r g d m (rf K n g d m):=by
 induction m with
 | zero=>intro o h;cases h
 | succ m b=>intro o h;have h:zg K n g d (rf K n g d m) o=some r:=h;exact bj (Yt a b h)
theorem aeF(u:am K)(t:Cw M f r g c d w z)(h:xc K n g c d z a b=some r):qB M f r (dY 4084::yI M f r w) (Qo g c d a b):=by
 unfold xc at h;refine ax 6 7 3 ?_;obtain⟨q,h⟩|⟨q,h⟩:=ao h
 ·refine ah 50 q (cL 18 19 3 3 7 (ai 2 ?_));obtain⟨e,h⟩:=aF h;refine au (cp 20 9 bB e) (ac (ax 5 3 3 ?_));obtain⟨s,h⟩|⟨s,h⟩:=ao h
  ·refine ah 56 s (ax 4 5 2 (bP [1,5,9,11,48,49] [] [20] (bQ 2 (nu 57 [.eptr 20 9 (a.toNat) 0,.eptr 20 9 (a.toNat) 0,.eptr 20 9 (a.toNat) 0,.eptr 20 9 (a.toNat) 0,.eptr 20 9 (a.toNat) 0,.eptr 20 9 (a.toNat) 1,iI (((gD b a).Item).Grow),.eptr 20 9 (a.toNat) 0,.eptr 20 9 (a.toNat) 0,.eptr 20 9 (a.toNat) 0,.eptr 20 9 (a.toNat) 1,iI (((gD b a).Item).Grow),.eptr 20 9 (a.toNat) 0,.eptr 20 9 (a.toNat) 5,.eptr 20 9 (a.toNat) 0,.eptr 20 9 (a.toNat) 6]) [] [] [d8 20 ⟨220,9,lm bB (List.set b a.toNat ({ (gD b a)with factor:=((gD b a).Item).Grow }:aZ))⟩,d8 20 ⟨220,9,lm bB (List.set (List.set b a.toNat ({ (gD b a)with factor:=((gD b a).Item).Grow }:aZ)) a.toNat ({ (gD (List.set b a.toNat ({ (gD b a)with factor:=((gD b a).Item).Grow }:aZ)) a)with weight:=((gD b a).Item).Grow }:aZ))⟩] (ay [.v 0 1,.v 0 2,.v 0 1,.v 0 1,.v 0 1,.v 0 1] (bh (bJ 3 1 bB bB (bF e).2 aT) (ay [.v 0 2,.v 0 2,.v 0 2,.v 0 2] (bh (bJ 3 1 bB bB (bF e).2 aT) (ay [.v 0 2,.v 0 1] (aj (dp (m:=0) (dD 20 220 9 5 bB bB ({ (gD b a)with factor:=((gD b a).Item).Grow }:aZ) (bF e).2 aT)) (ay [.v 1 2,.v 1 1] (aj (dp (m:=1) (dD 20 220 9 6 bB bB (L:=(List.set b a.toNat ({ (gD b a)with factor:=((gD b a).Item).Grow }:aZ))) (j:=a.toNat) ({ (gD (List.set b a.toNat ({ (gD b a)with factor:=((gD b a).Item).Grow }:aZ)) a)with weight:=((gD b a).Item).Grow }:aZ) (iB (bF e).2) aT)) bR)))))))) ?_)))
   obtain⟨i,l,h⟩:=bU h;refine bA (ks':=dY 4182837::dY 522855 :: .b 3::dY 32679::yI M f r w) 0 ⟨[(1,iI g),(5,.ref 20),(9,iI d),(11,.eptr 20 9 (a.toNat) 0),(48,iI (c.length:Int)),(49,iI a)],[],[(20,(b5 i))],[20]⟩ ?_ (by subst l;kernel_rfl);exact bQ 1 (nu 73 [.eptr 20 9 (a.toNat) 0,.eptr 20 9 (a.toNat) 0,.eptr 20 9 (a.toNat) 0,.eptr 20 9 (a.toNat) 0,.eptr 20 9 (a.toNat) 0,iI (((gD i a).Item).aB),.eptr 20 9 (a.toNat) 0,.eptr 20 9 (a.toNat) 0,.eptr 20 9 (a.toNat) 7,iI ((gD i a).size),.bool (decide ((((gD i a).Item).aB)>((gD i a).size))),.eptr 20 9 (a.toNat) 0,.eptr 20 9 (a.toNat) 8]) [] [] [d8 20 ⟨220,9,lm bB (List.set i a.toNat ({ (gD i a)with fixed:=(decide ((((gD i a).Item).aB)>((gD i a).size))) }:aZ))⟩] (ay (vz 5) (bh (bJ 3 0 bB bB (L:=i) (j:=a.toNat) (by rw[←l];exact(iB (iB (bF e).2))) aT) (ay (vz 3) (bh (bJ 3 7 bB bB (L:=i) (j:=a.toNat) (by rw[←l];exact(iB (iB (bF e).2))) aT) (ay [.v 0 1,.v 0 2,.v 0 1] (aj (dp (m:=0) (dD 20 220 9 8 bB bB (L:=i) (j:=a.toNat) ({ (gD i a)with fixed:=(decide ((((gD i a).Item).aB)>((gD i a).size))) }:aZ) (by rw[←l];exact(iB (iB (bF e).2))) aT)) bR)))))) (ag 0 (Uq u t h))
  ·refine ah 56 s (ax 6 7 2 (bP [1,5,9,11,48,49] [] [20] (bQ 2 (nu 86 [.eptr 20 9 (a.toNat) 0,.eptr 20 9 (a.toNat) 0,.eptr 20 9 (a.toNat) 0,.eptr 20 9 (a.toNat) 0,.eptr 20 9 (a.toNat) 0,.eptr 20 9 (a.toNat) 2,iI (((gD b a).Item).Shrink),.eptr 20 9 (a.toNat) 0,.eptr 20 9 (a.toNat) 0,.eptr 20 9 (a.toNat) 0,.eptr 20 9 (a.toNat) 0,iI (((gD b a).Item).aB),.eptr 20 9 (a.toNat) 0,.eptr 20 9 (a.toNat) 0,.eptr 20 9 (a.toNat) 0,.eptr 20 9 (a.toNat) 2,iI (((gD b a).Item).Shrink),iI (aa ((((gD b a).Item).aB)*(((gD b a).Item).Shrink))),iI (aa (Int.tdiv (aa ((((gD b a).Item).aB)*(((gD b a).Item).Shrink))) 1000)),.eptr 20 9 (a.toNat) 0,.eptr 20 9 (a.toNat) 5,.eptr 20 9 (a.toNat) 0,.eptr 20 9 (a.toNat) 6]) [] [] [d8 20 ⟨220,9,lm bB (List.set b a.toNat ({ (gD b a)with factor:=((gD b a).Item).Shrink }:aZ))⟩,d8 20 ⟨220,9,lm bB (List.set (List.set b a.toNat ({ (gD b a)with factor:=((gD b a).Item).Shrink }:aZ)) a.toNat ({ (gD (List.set b a.toNat ({ (gD b a)with factor:=((gD b a).Item).Shrink }:aZ)) a)with weight:=(aa (Int.tdiv (aa ((((gD b a).Item).aB)*(((gD b a).Item).Shrink))) 1000)) }:aZ))⟩] (ay [.v 0 1,.v 0 2,.v 0 1,.v 0 1,.v 0 1,.v 0 1] (bh (bJ 3 2 bB bB (bF e).2 aT) (ay [.v 0 2,.v 0 2,.v 0 2,.v 0 2] (bh (bJ 3 0 bB bB (bF e).2 aT) (ay [.v 0 2,.v 0 2,.v 0 2,.v 0 2] (bh (bJ 3 2 bB bB (bF e).2 aT) (ay [.v 0 2,.v 0 2,.v 0 2,.v 0 1] (aj (dp (m:=0) (dD 20 220 9 5 bB bB ({ (gD b a)with factor:=((gD b a).Item).Shrink }:aZ) (bF e).2 aT)) (ay [.v 1 2,.v 1 1] (aj (dp (m:=1) (dD 20 220 9 6 bB bB (L:=(List.set b a.toNat ({ (gD b a)with factor:=((gD b a).Item).Shrink }:aZ))) (j:=a.toNat) ({ (gD (List.set b a.toNat ({ (gD b a)with factor:=((gD b a).Item).Shrink }:aZ)) a)with weight:=(aa (Int.tdiv (aa ((((gD b a).Item).aB)*(((gD b a).Item).Shrink))) 1000)) }:aZ) (iB (bF e).2) aT)) bR)))))))))) ?_)))
   obtain⟨k,o,h⟩:=bU h;refine bA (ks':=dY 4182839::dY 522855 :: .b 3::dY 32679::yI M f r w) 0 ⟨[(1,iI g),(5,.ref 20),(9,iI d),(11,.eptr 20 9 (a.toNat) 0),(48,iI (c.length:Int)),(49,iI a)],[],[(20,(b5 k))],[20]⟩ ?_ (by subst o;kernel_rfl);exact bQ 1 (nu 109 [.eptr 20 9 (a.toNat) 0,.eptr 20 9 (a.toNat) 0,.eptr 20 9 (a.toNat) 0,.eptr 20 9 (a.toNat) 0,.eptr 20 9 (a.toNat) 0,iI (((gD k a).Item).aB),.eptr 20 9 (a.toNat) 0,.eptr 20 9 (a.toNat) 0,.eptr 20 9 (a.toNat) 7,iI ((gD k a).size),.bool (decide ((((gD k a).Item).aB)<((gD k a).size))),.eptr 20 9 (a.toNat) 0,.eptr 20 9 (a.toNat) 8]) [] [] [d8 20 ⟨220,9,lm bB (List.set k a.toNat ({ (gD k a)with fixed:=(decide ((((gD k a).Item).aB)<((gD k a).size))) }:aZ))⟩] (ay (vz 5) (bh (bJ 3 0 bB bB (L:=k) (j:=a.toNat) (by rw[←o];exact(iB (iB (bF e).2))) aT) (ay (vz 3) (bh (bJ 3 7 bB bB (L:=k) (j:=a.toNat) (by rw[←o];exact(iB (iB (bF e).2))) aT) (ay [.v 0 1,.v 0 2,.v 0 1] (aj (dp (m:=0) (dD 20 220 9 8 bB bB (L:=k) (j:=a.toNat) ({ (gD k a)with fixed:=(decide ((((gD k a).Item).aB)<((gD k a).size))) }:aZ) (by rw[←o];exact(iB (iB (bF e).2))) aT)) bR)))))) (ag 0 (Uq u t h))
 ·exact ah 50 q (ag 7 (ca (p:=pn 2044) n (ajY u n h)))
theorem afC(e:am K)(m:Nat):Cw M f r g c d m (vP K n g c d m):=by
 induction m with
 | zero=>intro a b h;cases h
 | succ m i=>intro a b h;have h:xc K n g c d (vP K n g c d m) a b=some r:=h;exact bj (aeF e i h)
theorem VM(a:am K)(h:uq K n g c d=some r):qB M f r [dY 255] (ajW g c d):=by
 unfold uq at h;exact cb 4 5 3 2 (ai 1 (au (bv bB c) (ac (ag 1 (ca (p:=pn 2042) n (afC a n h))))))
theorem af5(k:am K)(u:OE M f r l g A D)(h:yf K n l g D x t c=some r):qB M f r (dY 500::N6 M f r A) (TD l g x t c):=by
 unfold yf at h;refine ax 6 7 3 ?_;obtain⟨d,h⟩|⟨d,h⟩:=ao h
 ·refine ah 24 d (cL 8 9 1 3 5 (ai 1 ?_));obtain⟨o,h⟩:=aF h;refine au (bD cm cm o (Ju) aT) (ac (ax 2 3 1 (bP [1,5,6,7,8,21,22,23] [8] [20] ?_)));obtain⟨a,p,h⟩:=bind_some h;obtain⟨b,q,h⟩:=bind_some h;obtain⟨i,h⟩:=aF h;refine bQ 1 (nu 28 [.ref 20,iI t,.agg (cm (gD l t)),.agg (cm a),.agg (cm (gD l t)),iI b,.agg (bB ({ iL with Item:=a,size:=b }:aZ)),.eptr 20 9 (t.toNat) 0]) [] [] [d8 20 ⟨220,9,lm bB (List.set c t.toNat ({ iL with Item:=a,size:=b }:aZ))⟩] (ay (vz 3) (aj (cv 0 1 31 (RU k p)) (ay [.v 0 1] (aj (cv 0 1 33 (KJ k q)) (ay [.v 0 1] (bh (cN 20 9 bB (L:=c) i) (aj (dp (m:=0) (dD 20 220 9 0 bB bB ({ iL with Item:=a,size:=b }:aZ) (bF i).2 aT)) bR))))))) ?_;obtain⟨v,s,h⟩:=bU h;refine bA (ks':=dY 32051 :: .b 1::dY 4007::N6 M f r A) 0 ⟨[(1,iI g),(5,.ref 20),(6,iI x),(7,iI t),(21,.sl (lm cm l)),(22,iI (l.length:Int)),(23,iI t)],[],[(20,(b5 v))],[20]⟩ ?_ (by subst s;kernel_rfl)
  refine ai 3 ?_;obtain⟨j,h⟩:=aF h;exact au (cp 20 9 bB j) (aQ 5 1 (au (bJ 3 7 bB bB (bF j).2 aT) (ac (ag 2 (bn (u h))))))
 ·refine ah 24 d (gg 13 7 10 ?_);obtain⟨e,h⟩|⟨e,h⟩:=ao h
  ·exact ah 46 e (ag 2 (VM k h))
  ·exact ah 46 e (ag 2 (VM k h))
theorem agA(a:am K)(m:Nat):OE M f r l g m (sg K n l g m):=by
 induction m with
 | zero=>intro x t c h;cases h
 | succ m b=>intro x t c h;have h:yf K n l g (sg K n l g m) x t c=some r:=h;exact bj (af5 a b h)
theorem NY(d:am K)(h:jy K n l v2=some r):aY bb 129 [.sl (lm cm l),iI v2] (fun v s=>v=.ref 143∧look 143 s.r=some (bk r)):=by
 refine bG (cat Tryz.f129 (pn 1)) Tryz.func129 Tryz.ntmps129 fun M f=>(bg ⟨[(0,.sl (lm cm l)),(1,iI v2)],[],[],[]⟩ ?_);unfold jy at h;obtain⟨g,a,h⟩:=bU h;refine bA (ks':=[dY 14,dY 15]) 5 ⟨[(0,.sl (lm cm l)),(1,iI g)],[],[],[]⟩ ?_ (by subst a;kernel_rfl);refine ai 1 (au (bv cm l) ?_);obtain⟨b,h⟩:=aF h;refine n7 bB (iL:aZ) 218 (.tmp 19) (.tmp 19) 20 (e:=220) (sz:=9) (zc:=bB iL) (kd:=.i64) (kd':=.i64) b (ac ?_);obtain⟨v4,c,h⟩:=bU h;refine bA (ks':=[dY 124,dY 125,dY 63]) 4 ⟨[(0,.sl (lm cm l)),(1,iI g),(5,.ref 20),(6,iI 0)],[],[(20,(b5 v4))],[20]⟩ ?_ (by subst c;kernel_rfl);exact ai 1 (au (bv cm l) (ac (ag 1 (ca (p:=pn 250) n (agA d n h)))))
end
noncomputable section
variable[GS](M:Nat→Prop)(w:aB)(r:dn×Int×Int×Int×dO)(C:ab)(v2:Int)(D:bz)(v4 v5:Int)(v6:dO)(B:d6)(x q:Int)(t:ck)(z:em)(b d:ck)(f:dn)(i j:Int)(l:dO)(o:ae×Int×Int×dO)(A E F G:Int)(g:ck)(y a:Int)(u:dn)(I J:Nat)(N:Int→Int→ck→em→ck→ck→dn→Int→Int→dO→Option hH)(O:Int→Int→dn→Option hH)
abbrev zn:Cx:=⟨bb,170,M,w⟩
abbrev zy:=bodyPost bb Tryz.f80 (bI M w (fun v s=>v=.tup [.ref 440010,iI r.2.1]∧cq s.o [(af r.2.2.1 r.2.2.2.1)]∧look 440009 s.r=some (bt r.2.2.2.2)∧look 440010 s.r=some (bx r.1)))
abbrev Bn(a:dt)(s:AS):=VE (zn M w) (zy M w r) a .normal s
abbrev eI(n:Nat):aq:=.c (cat Tryz.f80 (pn n))
abbrev Jz:dt:=[.b 2,eI 4095]
abbrev Jt:dt:=kl (zn M w) (zy M w r) Jz (cat Tryz.f80 (pn 32756)) J::Jz
abbrev Ge:dt:=[.b 0,eI 511]
abbrev w5:dt:=kl (zn M w) (zy M w r) Ge (cat Tryz.f80 (pn 4084)) I::Ge
def ZL:AS:=⟨[(1,iI v2),(3,.ptr 3 0),(5,.ptr 5 0),(8,.ref 116),(9,.ref 84),(10,.ref 99),(11,.ref 88),(12,iI x),(13,.ref 28),(16,.ptr 16 0),(18,iI A),(19,.ptr 19 0),(30,.ref 1030),(31,iI (B.length:Int)),(32,iI q)],[(3,aA C),(5,bL D),(16,aG o.1),(19,cm (⟨G,E,F,0,1048576⟩:bC)),(af o.2.1 o.2.2.1)],[(28,(bk t)),(84,⟨176,5,lm cm z⟩),(88,(bk b)),(99,(bk d)),(116,(bx f)),(1030,(bY B)),(440009,(bt o.2.2.2))],[3,5,16,19,440001,28,84,88,99,116,1030,440009,1440001,440001]⟩
def Mc:AS:=⟨[(8,.ref 116),(10,.ref 99),(11,.ref 88),(13,.ref 1125),(20,iI y),(127,iI (f.length:Int)),(128,iI a)],[(af i j)],[(88,(bk b)),(99,(bk d)),(116,(bx u)),(1125,(bk g)),(440009,(bt l))],[440001,88,99,116,1125,440009,1440001,440001]⟩
def YY:AS:=⟨[(8,.ref 116),(10,.ref 99),(11,.ref 88),(13,.ref 1125)],[(af i j)],[(88,(bk b)),(99,(bk d)),(116,(bx f)),(1125,(bk g)),(440009,(bt l))],[440001,88,99,116,1125,440009,1440001,440001]⟩
def OF:AS:=⟨[(1,iI v2),(3,.ptr 3 0),(5,.ptr 5 0),(8,.ref 116),(9,.ref 84),(10,.ref 99),(11,.ref 88),(12,iI x),(13,.ref 28),(30,.ref 1030),(31,iI (B.length:Int)),(32,iI q)],[(3,aA C),(5,bL D),(af i j)],[(28,(bk t)),(84,⟨176,5,lm cm z⟩),(88,(bk b)),(99,(bk d)),(116,(bx f)),(1030,(bY B)),(440009,(bt l))],[3,5,440001,28,84,88,99,116,1030,440009,1440001,440001]⟩
abbrev G9:Prop:=∀{x:Int} {q:Int} {t:ck} {z:em} {b:ck} {d:ck} {f:dn} {i:Int} {j:Int} {l:dO},N x q t z b d f i j l=some r→LP (zn M w) (zy M w r) Ge (cat Tryz.f80 (pn 4084)) I (OF C v2 D B x q t z b d f i j l)
abbrev Tz:Prop:=∀{y:Int} {a:Int} {u:dn},O y a u=some r→LP (zn M w) (zy M w r) Jz (cat Tryz.f80 (pn 32756)) J (Mc b d f i j l g y a u)
variable{M w r C v2 D v4 v5 v6 B x q t z b d f i j l o A E F G g y a u I J N O}{K:Kn}{n:Nat}[SG w]
theorem OU(J:am K)(L:G9 M w r C v2 D B I N)(h:oC K n C v2 D B x q t z b d f o A E F N G=some r):Bn M w r (eI 4182847 :: .b 1::eI 32679::w5 M w r I) (ZL C v2 D B x q t z b d f o A E F G):=by
 unfold oC at h;refine ax 2 3 1 (ai 3 ?_);obtain⟨i,h⟩:=aF h;refine au (cG 84 84 176 5 cm (rfl) (Ju) i) (ac ?_);obtain⟨g,j,h⟩:=bU h;refine bA (ks':=eI 16731390::eI 16731391 :: .b 1::eI 32679::w5 M w r I) 1 ⟨[(1,iI v2),(3,.ptr 3 0),(5,.ptr 5 0),(8,.ref 116),(9,.ref 84),(10,.ref 99),(11,.ref 88),(12,iI x),(13,.ref 28),(16,.ptr 16 0),(18,iI A),(19,.ptr 19 0),(30,.ref 1030),(31,iI (B.length:Int)),(32,iI q)],[(3,aA C),(5,bL D),(16,aG o.1),(19,cm (⟨G,E,F,0,1048576⟩:bC)),(af o.2.1 o.2.2.1)],[(28,(bk t)),(84,⟨176,5,lm cm g⟩),(88,(bk b)),(99,(bk d)),(116,(bx f)),(1030,(bY B)),(440009,(bt o.2.2.2))],[3,5,16,19,440001,28,84,88,99,116,1030,440009,1440001,440001]⟩ ?_ (by subst j;kernel_rfl);refine ai 3 ?_;obtain⟨k,h⟩:=aF h;refine au (cG 88 88 3 1 (ak .i64) (rfl) aT k) (ac (ax 2 3 1 (bP [1,3,5,8,9,10,11,12,13,16,18,19,30,31,32] [3,5,16,19,440001] [28,84,88,99,116,1030,440009] ?_)))
 obtain⟨a,l,h⟩:=bind_some h;obtain⟨c,p,h⟩:=bind_some h;obtain⟨s,h⟩:=aF h;refine bQ 2 (nu 89 [.ref 99,.ptr 16 61,.agg (cS o.1.Before),iI a,.agg (aG o.1),iI c,iI (aa (a+c)),iI A,iI (aa ((aa (a+c))+A)),.sl (lm (ak .i64) [(aa ((aa (a+c))+A))])]) [] [] [g9 99 99 ⟨3,1,lm (ak .i64) (d++[(aa ((aa (a+c))+A))])⟩,cf bb 170 Tryz.f80 (pn 33462782) 11] (ay [.v 0 1,.v 0 2,.v 0 2] (aj (cv 0 2 92 (mV J l)) (ay [.v 0 2] (aj (cv 0 1 94 (Tp J p)) (ay [.v 0 2,.v 0 2,.v 0 2,.v 0 1] (aj (dp (m:=0) (cG 99 99 3 1 (ak .i64) (rfl) aT s)) (aj (cg 1) bR))))))) (ax 2 3 1 (ai 3 (au (bv (ak .i64) (d++[(aa ((aa (a+c))+A))])) (aQ 5 1 ?_))));obtain⟨e,h⟩:=aF h;refine au (cp 99 1 (ak .i64) e) (au (bJ 3 0 (ak .i64) (ak .i64) (bF e).2 aT) (ac ?_));obtain⟨O,u,h⟩:=bU h;refine bA (ks':=eI 133851134::eI 133851135 :: .b 1::eI 32679::w5 M w r I) 1 ⟨[(1,iI v2),(3,.ptr 3 0),(5,.ptr 5 0),(8,.ref 116),(9,.ref 84),(10,.ref 99),(11,.ref 88),(12,iI O),(13,.ref 28),(16,.ptr 16 0),(19,.ptr 19 0),(30,.ref 1030),(31,iI (B.length:Int)),(32,iI q)],[(3,aA C),(5,bL D),(16,aG o.1),(19,cm (⟨G,E,F,0,1048576⟩:bC)),(af o.2.1 o.2.2.1)],[(28,(bk t)),(84,⟨176,5,lm cm g⟩),(88,⟨3,1,lm (ak .i64) (b++[A])⟩),(99,⟨3,1,lm (ak .i64) (d++[(aa ((aa (a+c))+A))])⟩),(116,(bx f)),(1030,(bY B)),(440009,(bt o.2.2.2))],[3,5,16,19,440001,28,84,88,99,116,1030,440009,1440001,440001]⟩ ?_ (by subst u;kernel_rfl)
 refine ai 2 ?_;obtain⟨P,v,h⟩:=bind_some h;refine aP (KJ J v) (aQ 4 1 ?_);obtain⟨y,h⟩:=aF h;refine au (cG 112 28 3 1 (ak .i64) (rfl) aT y) (ac (ai 2 (au (gt aM ([o.1]:dn) (new:=[aG o.1]) (by simp only[rl,Db,dH])) ?_)));obtain⟨H,h⟩:=aF h;exact au (cG 116 116 44 67 aM (rfl) (ku) H) (ac (ag 2 (bn (L h))))
theorem aaT(F:am K)(C:Tz M w r b d f i j l g J O)(h:xG K n b d f i j l g O y a u=some r):Bn M w r (eI 32756::Jt M w r J) (Mc b d f i j l g y a u):=by
 unfold xG at h;refine ax 6 7 3 ?_;obtain⟨c,h⟩|⟨c,h⟩:=ao h
 ·refine ah 129 c (cL 18 19 3 3 7 (bP [8,10,11,13,20,21,127,128] [440001] [88,99,116,1125,440009] ?_));obtain⟨o,h⟩:=aF h;obtain⟨p,h⟩:=aF h;obtain⟨e,h⟩:=aF h;refine bQ 1 (nu 131 [.ref 116,iI a,.ref 1125,iI a,.eptr 1125 1 (a.toNat) 0,iI (gD g a),.ref 88,iI a,.eptr 88 1 (a.toNat) 0,iI (gD b a),iI (aa ((gD g a)+(gD b a))),.eptr 116 67 (a.toNat) 0,.eptr 116 67 (a.toNat) 5]) [] [] [d8 116 ⟨44,67,lm aM (List.set u a.toNat ({ (gD u a)with H:=(aa ((gD g a)+(gD b a))) }:ae))⟩] (ay (vz 4) (bh (cN 1125 1 (ak .i64) (L:=g) o) (bh (bJ 3 0 (ak .i64) (ak .i64) (bF o).2 aT) (ay (vz 2) (bh (cN 88 1 (ak .i64) (L:=b) p) (bh (bJ 3 0 (ak .i64) (ak .i64) (bF p).2 aT) (ay [.v 0 1] (aj (ii (lo:=0) (k:=2) (dR ⟨(by kernel_rfl),(ep (cN 116 67 aM (L:=u) e) (by kernel_rfl))⟩ (dR ⟨(by kernel_rfl),(ep (cN 116 67 aM (L:=(List.set u a.toNat ({ (gD u a)with H:=(aa ((gD g a)+(gD b a))) }:ae))) e) (by kernel_rfl))⟩ iJ))) (ay [.v 0 1] (aj (dp (m:=0) (dD 116 44 67 5 aM aG ({ (gD u a)with H:=(aa ((gD g a)+(gD b a))) }:ae) (bF e).2 (dH))) bR)))))))))) ?_
  obtain⟨x,z,h⟩:=bU h;refine bA (ks':=eI 4192870::eI 4192871 :: .b 3::eI 262055::Jt M w r J) 1 ⟨[(8,.ref 116),(10,.ref 99),(11,.ref 88),(13,.ref 1125),(20,iI y),(21,iI a),(127,iI (f.length:Int)),(128,iI a)],[(af i j)],[(88,(bk b)),(99,(bk d)),(116,(bx x)),(1125,(bk g)),(440009,(bt l))],[440001,88,99,116,1125,440009,1440001,440001]⟩ ?_ (by subst z;kernel_rfl);refine ai 5 ?_;obtain⟨q,h⟩:=aF h;refine au (cp 116 67 aM q) (aQ 7 1 (au (bJ 41 61 aM aG (bF q).2 (dH)) ?_));obtain⟨D,A,h⟩:=bind_some h;refine aP (mV F A) (aQ 10 1 ?_);obtain⟨s,h⟩:=aF h;refine au (cp 116 67 aM s) (aQ 12 1 (au (dD 116 44 67 3 aM aG ({ (gD x a)with Y:=(aa (y+D)) }:ae) (bF s).2 (dH)) (ac ?_)));obtain⟨E,B,h⟩:=bU h;refine bA (ks':=eI 4192871 :: .b 3::eI 262055::Jt M w r J) 0 ⟨[(8,.ref 116),(10,.ref 99),(11,.ref 88),(13,.ref 1125),(20,iI y),(21,iI a),(127,iI (f.length:Int)),(128,iI a)],[(af i j)],[(88,(bk b)),(99,(bk d)),(116,(bx E)),(1125,(bk g)),(440009,(bt l))],[440001,88,99,116,1125,440009,1440001,440001]⟩ ?_ (by subst B;kernel_rfl)
  obtain⟨t,h⟩:=aF h;obtain⟨v,h⟩:=aF h;exact bQ 1 (nu 156 [iI y,.ref 1125,iI a,.eptr 1125 1 (a.toNat) 0,iI (gD g a),.ref 99,iI a,.eptr 99 1 (a.toNat) 0,iI (gD d a),iI (aa ((gD g a)+(gD d a))),iI (aa (y+(aa ((gD g a)+(gD d a)))))]) [] [] [cf bb 170 Tryz.f80 (pn 4192871) 11] (ay (vz 3) (bh (cN 1125 1 (ak .i64) (L:=g) t) (bh (bJ 3 0 (ak .i64) (ak .i64) (bF t).2 aT) (ay (vz 2) (bh (cN 99 1 (ak .i64) (L:=d) v) (bh (bJ 3 0 (ak .i64) (ak .i64) (bF v).2 aT) (ay (vz 2) (aj (cg 0) bR)))))))) (ag 2 (bn (C h)))
 ·refine ah 129 c (aJ 8 (ta 116 440010 ?_));cases h;exact Nc
theorem aaR(c:am K)(m:Nat):Tz M w r b d f i j l g m (rU K n b d f i j l g m):=by
 induction m with
 | zero=>intro y a u h;cases h
 | succ m e=>intro y a u h;have h:xG K n b d f i j l g (rU K n b d f i j l g m) y a u=some r:=h;exact bj (aaT c e h)
theorem LB(a:am K)(h:kh K n b d f i j l g=some r):Bn M w r [eI 1023] (YY b d f i j l g):=by
 unfold kh at h;exact cb 12 13 7 4 (ai 1 (au (bv aM f) (ac (ag 1 (ca (p:=pn 16378) n (aaR a n h))))))
theorem aj2(a:am K)(p:G9 M w r C v2 D B I N)(h:yc K n C v2 D B N x q t z b d f i j l=some r):Bn M w r (eI 4084::w5 M w r I) (OF C v2 D B x q t z b d f i j l):=by
 unfold yc at h;refine ax 6 7 3 ?_;obtain⟨c,h⟩|⟨c,h⟩:=ao h
 ·refine ah 33 c (cL 8 9 1 3 5 (ai 0 ?_));obtain⟨k,h⟩:=aF h;refine au (cp 1030 59 aL k) (au (bJ 48 0 aL aA (bF k).2 (dW)) (ac (ax 2 3 1 (ai 4 ?_))));obtain⟨o,m,h⟩:=bind_some h;refine qG (a.dr m).2 ?_ (a.dr m).1;refine ac (ax 2 3 1 (ai 3 ?_));obtain⟨Q,s,h⟩:=bind_some h;refine aP (mF a s) (ac ?_);obtain⟨A,u,h⟩:=bU h;obtain⟨O,v,h⟩:=bU h;obtain⟨P,y,h⟩:=bU h;obtain⟨E,G,h⟩:=bU h;obtain⟨F,H,h⟩:=bU h;refine bA (ks':=eI 8365693::eI 4182847 :: .b 1::eI 32679::w5 M w r I) 7 ⟨[(1,iI v2),(3,.ptr 3 0),(5,.ptr 5 0),(8,.ref 116),(9,.ref 84),(10,.ref 99),(11,.ref 88),(12,iI x),(13,.ref 28),(15,.ptr 15 0),(16,.ptr 16 0),(18,iI A),(19,.ptr 19 0),(30,.ref 1030),(31,iI (B.length:Int)),(32,iI q),(75,.bool O)],[(3,aA C),(5,bL D),(15,aA (gD B q)),(16,aG o.1),(19,cm (⟨P,E,F,0,1048576⟩:bC)),(af o.2.1 o.2.2.1)],[(28,(bk t)),(84,⟨176,5,lm cm z⟩),(88,(bk b)),(99,(bk d)),(116,(bx f)),(1030,(bY B)),(440009,(bt o.2.2.2))],[3,5,15,16,19,440001,28,84,88,99,116,1030,440009,1440001,440001]⟩ ?_ (by subst H;subst G;subst y;subst v;subst u;kernel_rfl)
  obtain⟨e,h⟩|⟨e,h⟩:=ao h
  ·refine ah 75 e (br 2 1 (ai 3 ?_));obtain⟨R,J,h⟩:=bind_some h;exact aP (zR a J) (ac (ag 0 (OU a p h)))
  ·exact ah 75 e (ag 2 (OU a p h))
 ·refine ah 33 c (gg 5 3 8 ?_);obtain⟨g,h⟩|⟨g,h⟩:=ao h
  ·refine ah 122 g (br 2 1 (ai 2 (mM 84 ?_)));obtain⟨S,L,h⟩:=bind_some h;exact fg 1125 (NY a L) (ff 143) (ac (ag 0 (LB a h)))
  ·exact ah 122 g (bX (ks':=[eI 1023]) 2 (bP [8,10,11,13] [440001] [28,88,99,116,440009] (ta 28 1125 (ag 0 (LB a h)))))
theorem abW(a:am K)(m:Nat):G9 M w r C v2 D B m (kJ K n C v2 D B m):=by
 induction m with
 | zero=>intro x q t z b d f i j l h;cases h
 | succ m c=>intro x q t z b d f i j l h;have h:yc K n C v2 D B (kJ K n C v2 D B m) x q t z b d f i j l=some r:=h;exact bj (aj2 a c h)
theorem aeI(a:am K)(h:Bh K n C v2 D v4 v5 v6=some r):eA bb 80 [.agg (aA C),iI v2,.agg (bL D)] [(af v4 v5)] (bt v6) (fun v s=>v=.tup [.ref 440010,iI r.2.1]∧cq s.o [(af r.2.2.1 r.2.2.2.1)]∧look 440009 s.r=some (bt r.2.2.2.2)∧look 440010 s.r=some (bx r.1)):=by
 refine jC (c:=cat Tryz.f80 []) Tryz.func80 (by kernel_rfl) _ Tryz.ntmps80 (lc (by kernel_rfl)) fun M w=>(bg ⟨[(0,.agg (aA C)),(1,iI v2),(2,.agg (bL D))],[(af v4 v5)],[(440009,(bt v6))],[440009,440001,1440001]⟩ ?_);unfold Bh at h;refine bX (ks':=[eI 62,eI 63]) 9 (ai 3 ?_);obtain⟨f,b,h⟩:=bind_some h;refine aP (zR a b) (ac (ax 6 7 3 (ai 0 (Kg 72 28 (e:=3) (sz:=1) (ac (cb 4 5 3 2 (ai 1 ?_)))))));obtain⟨B,d,h⟩:=bind_some h;exact fg 1030 (K4 a d) (ff 21) (au (bv aL B) (ac (gT 2 0 1 (bP [1,3,5,8,9,10,11,12,13,30,31,32] [3,5,440001] [28,1030,440009] (eW 116 8 44 67 (eW 84 9 176 5 (eW 99 10 3 1 (eW 88 11 3 1 (ag 0 (ca (p:=pn 2042) n (abW a n h)))))))))))
end
noncomputable section
variable[GS](M:Nat→Prop)(b:aB)(r a:ck)(v2 d v4:Int)(v5:ck)(v6:Int)(f:Bool)(g:Int)(i:ck)(c:Nat)(e:Int→Int→ck→Option ck)
abbrev Kv:Cx:=⟨bb,33,M,b⟩
abbrev F9:=bodyPost bb Tryz.f130 (bI M b (fun v s=>v=.ref 29∧look 29 s.r=some (bk r)))
abbrev Gk(a:dt)(s:AS):=VE (Kv M b) (F9 M b r) a .normal s
abbrev n0(n:Nat):aq:=.c (cat Tryz.f130 (pn n))
abbrev I4:dt:=[.b 0,n0 31]
abbrev BO:dt:=kl (Kv M b) (F9 M b r) I4 (cat Tryz.f130 (pn 244)) c::I4
def Zu:AS:=⟨[(1,iI v2),(5,.ref 29),(6,iI g),(9,.sl (lm (ak .i64) a)),(10,iI (a.length:Int)),(11,iI v4)],[],[(29,(bk i))],[29]⟩
def X0:AS:=⟨[(1,iI v2),(5,.ref 29),(6,iI v6),(7,iI v4),(8,iI (gD a v4)),(9,.sl (lm (ak .i64) a)),(10,iI (a.length:Int)),(11,iI v4),(25,.bool f)],[],[(29,(bk v5))],[29]⟩
def Pd:AS:=⟨[(1,iI v2),(5,.ref 29),(6,iI d),(9,.sl (lm (ak .i64) a)),(10,iI (a.length:Int)),(11,iI v4)],[],[(29,(bk v5))],[29]⟩
abbrev CA:Prop:=∀{d:Int} {v4:Int} {v5:ck},e d v4 v5=some r→LP (Kv M b) (F9 M b r) I4 (cat Tryz.f130 (pn 244)) c (Pd a v2 d v4 v5)
variable{M b r a v2 d v4 v5 v6 f g i c e}{K:Kn}{n:Nat}
theorem VS(f:am K)(d:CA M b r a v2 c e)(h:wb K n a v2 v4 e g i=some r):Gk M b r (.b 1::n0 1959::BO M b r c) (Zu a v2 v4 g i):=by
 unfold wb at h;exact ag 2 (bn (d h))
theorem PN(j:am K)(g:CA M b r a v2 c e)(h:vc K n a v2 v4 v5 v6 e f=some r):Gk M b r (n0 31335 :: .b 1::n0 1959::BO M b r c) (X0 a v2 v4 v5 v6 f):=by
 unfold vc at h;obtain⟨d,h⟩|⟨d,h⟩:=ao h
 ·refine ah 25 d (ax 4 5 2 (ai 3 ?_));obtain⟨i,h⟩:=aF h;exact au (cG 29 29 3 1 (ak .i64) (rfl) aT i) (ac (ag 1 (VS j g h)))
 ·exact ah 25 d (ag 2 (VS j g h))
theorem aer(j:am K)(g:CA M b r a v2 c e)(h:tc K n a v2 e d v4 v5=some r):Gk M b r (n0 244::BO M b r c) (Pd a v2 d v4 v5):=by
 unfold tc at h;refine ax 6 7 3 ?_;obtain⟨i,h⟩|⟨i,h⟩:=ao h
 ·refine ah 12 i (cL 8 9 1 3 5 (ai 1 ?_));obtain⟨k,h⟩:=aF h;refine au (bD (ak .i64) (ak .i64) k aT aT) (ac ?_);obtain⟨v6,l,h⟩:=bU h;refine bA (ks':=n0 31334::n0 31335 :: .b 1::n0 1959::BO M b r c) 3 ⟨[(1,iI v2),(5,.ref 29),(6,iI v6),(7,iI v4),(8,iI (gD a v4)),(9,.sl (lm (ak .i64) a)),(10,iI (a.length:Int)),(11,iI v4)],[],[(29,(bk v5))],[29]⟩ ?_ (by subst l;kernel_rfl);refine ai 3 ?_;obtain⟨f,h⟩|⟨f,h⟩:=ao h
  ·exact aD 21 f (ac (ag 0 (PN j g h)))
  ·exact aD 21 f (ac (ag 0 (PN j g h)))
 ·refine ah 12 i (aJ 8 ?_);cases h;exact fG
theorem ae0(c:am K)(m:Nat):CA M b r a v2 m (rj K n a v2 m):=by
 induction m with
 | zero=>intro d v4 v5 h;cases h
 | succ m e=>intro d v4 v5 h;have h:tc K n a v2 (rj K n a v2 m) d v4 v5=some r:=h;exact bj (aer c e h)
theorem acR(c:am K)(h:rh K n a v2=some r):aY bb 130 [.sl (lm (ak .i64) a),iI v2] (fun v s=>v=.ref 29∧look 29 s.r=some (bk r)):=by
 refine bG (cat Tryz.f130 (pn 1)) Tryz.func130 Tryz.ntmps130 fun M b=>(bg ⟨[(0,.sl (lm (ak .i64) a)),(1,iI v2)],[],[],[]⟩ ?_);unfold rh at h;exact cb 60 61 31 8 (ai 1 (au (bv (ak .i64) a) (ac (gT 2 0 1 (bP [1,5,6,9,10,11] [] [] (eW 29 5 3 1 (ag 0 (ca (p:=pn 122) n (ae0 c n h)))))))))
end
noncomputable section
variable[GS](M:Nat→Prop)(b:aB)(r a:ab)(v2:Int)(v4 v6 e d:(V4 cB))  
abbrev kL(n:Nat):aq:=.c (cat Tryz.f131 (pn n))
abbrev RC:Cx:=⟨bb,40,M,b⟩
abbrev Tm:=bodyPost bb Tryz.f131 (bI M b (fun v _=>v=.agg (aA r)))
abbrev Bz(a:dt)(s:AS):=VE (RC M b) (Tm M b r) a .normal s
def ad2:AS:=⟨[(2,.ptr 2 0),(4,.ptr 4 0),(21,.agg ((kS fW) a.Style.Margin)),(22,iI 3)],[(2,aA ({ a with Style:=({ a.Style with Width:=(⟨1,v2⟩:cB),MinWidth:=ci,MaxWidth:=ci,Margin:=d }:aN) }:ab)),(4,List.set (aA c7) 58 (.nils))],[],[2,4]⟩
def XM:AS:=⟨[(2,.ptr 2 0),(4,.ptr 4 0),(21,.agg ((kS fW) a.Style.Margin)),(22,iI 2)],[(2,aA ({ a with Style:=({ a.Style with Width:=(⟨1,v2⟩:cB),MinWidth:=ci,MaxWidth:=ci,Margin:=e }:aN) }:ab)),(4,List.set (aA c7) 58 (.nils))],[],[2,4]⟩
def aiK:AS:=⟨[(2,.ptr 2 0),(4,.ptr 4 0),(21,.agg ((kS fW) a.Style.Margin)),(22,iI 1)],[(2,aA ({ a with Style:=({ a.Style with Width:=(⟨1,v2⟩:cB),MinWidth:=ci,MaxWidth:=ci,Margin:=v6 }:aN) }:ab)),(4,List.set (aA c7) 58 (.nils))],[],[2,4]⟩
def aak:AS:=⟨[(2,.ptr 2 0),(4,.ptr 4 0),(21,.agg ((kS fW) a.Style.Margin)),(22,iI 0)],[(2,aA ({ a with Style:=({ a.Style with Width:=(⟨1,v2⟩:cB),MinWidth:=ci,MaxWidth:=ci,Margin:=v4 }:aN) }:ab)),(4,List.set (aA c7) 58 (.nils))],[],[2,4]⟩
abbrev ng(m:Nat):dt:=kl (RC M b) (Tm M b r) [.b 0,kL 31] (cat Tryz.f131 (pn 244)) m::[.b 0,kL 31]
variable{M b r a v2 v4 v6 e d}{K:Kn}{n:Nat}
theorem QG(c:am K)(h:yM K n a v2 d=some r):Bz M b r (.b 1::kL 1959::ng M b r 36) (ad2 a v2 d):=by
 unfold yM at h;refine bA (ks':=ng M b r 36) 2 ⟨[(2,.ptr 2 0),(4,.ptr 4 0),(21,.agg ((kS fW) a.Style.Margin)),(22,iI 4)],[(2,aA ({ a with Style:=({ a.Style with Width:=(⟨1,v2⟩:cB),MinWidth:=ci,MaxWidth:=ci,Margin:=d }:aN) }:ab)),(4,List.set (aA c7) 58 (.nils))],[],[2,4]⟩ (bn (bj (aJ 11 ?_)));cases h;exact bw
theorem VN(d:am K)(h:wF K n a v2 e=some r):Bz M b r (.b 1::kL 1959::ng M b r 37) (XM a v2 e):=by
 unfold wF at h;refine bA (ks':=ng M b r 37) 2 ⟨[(2,.ptr 2 0),(4,.ptr 4 0),(21,.agg ((kS fW) a.Style.Margin)),(22,iI 3)],[(2,aA ({ a with Style:=({ a.Style with Width:=(⟨1,v2⟩:cB),MinWidth:=ci,MaxWidth:=ci,Margin:=e }:aN) }:ab)),(4,List.set (aA c7) 58 (.nils))],[],[2,4]⟩ (bn (bj (dA 114 115 1 15 10 (ai 1 ?_))));obtain⟨g,f,h⟩:=bind_some h;refine aP (eu d f) (ac (br 3 2 ?_));obtain⟨c,h⟩|⟨c,h⟩:=ao h
 ·exact ah 32 c (ag 2 (QG d h))
 ·exact ah 32 c (ag 2 (QG d h))
theorem VF(d:am K)(h:sT K n a v2 v6=some r):Bz M b r (.b 1::kL 1959::ng M b r 38) (aiK a v2 v6):=by
 unfold sT at h;refine bA (ks':=ng M b r 38) 2 ⟨[(2,.ptr 2 0),(4,.ptr 4 0),(21,.agg ((kS fW) a.Style.Margin)),(22,iI 2)],[(2,aA ({ a with Style:=({ a.Style with Width:=(⟨1,v2⟩:cB),MinWidth:=ci,MaxWidth:=ci,Margin:=v6 }:aN) }:ab)),(4,List.set (aA c7) 58 (.nils))],[],[2,4]⟩ (bn (bj (dA 114 115 1 15 10 (ai 1 ?_))));obtain⟨f,e,h⟩:=bind_some h;refine aP (eu d e) (ac (br 3 2 ?_));obtain⟨c,h⟩|⟨c,h⟩:=ao h
 ·exact ah 32 c (ag 2 (VN d h))
 ·exact ah 32 c (ag 2 (VN d h))
theorem LY(d:am K)(h:vQ K n a v2 v4=some r):Bz M b r (.b 1::kL 1959::ng M b r 39) (aak a v2 v4):=by
 unfold vQ at h;refine bA (ks':=ng M b r 39) 2 ⟨[(2,.ptr 2 0),(4,.ptr 4 0),(21,.agg ((kS fW) a.Style.Margin)),(22,iI 1)],[(2,aA ({ a with Style:=({ a.Style with Width:=(⟨1,v2⟩:cB),MinWidth:=ci,MaxWidth:=ci,Margin:=v4 }:aN) }:ab)),(4,List.set (aA c7) 58 (.nils))],[],[2,4]⟩ (bn (bj (dA 114 115 1 15 10 (ai 1 ?_))));obtain⟨v5,e,h⟩:=bind_some h;refine aP (eu d e) (ac (br 3 2 ?_));obtain⟨c,h⟩|⟨c,h⟩:=ao h
 ·exact ah 32 c (ag 2 (VF d h))
 ·exact ah 32 c (ag 2 (VF d h))
theorem aiA(e:am K)(h:AW K n a v2=some r):aY bb 131 [.agg (aA a),iI v2] (fun v _=>v=.agg (aA r)):=by
 refine bG (cat Tryz.f131 (pn 1)) Tryz.func131 Tryz.ntmps131 fun M b=>(bg ⟨[(0,.agg (aA a)),(1,iI v2)],[],[],[]⟩ ?_);unfold AW at h;refine bA (ks':=[kL 122,.b 0,kL 31]) 10 ⟨[(2,.ptr 2 0),(4,.ptr 4 0),(21,.agg ((kS fW) a.Style.Margin)),(22,iI 0)],[(2,aA ({ a with Style:=({ a.Style with Width:=(⟨1,v2⟩:cB),MinWidth:=ci,MaxWidth:=ci }:aN) }:ab)),(4,List.set (aA c7) 58 (.nils))],[],[2,4]⟩ (nT 40 (c:=cat Tryz.f131 [1,1,1,0,1,0,0]) (by kernel_rfl) (bj (bX (ks':=kL 15666::kL 15667 :: .b 1::kL 1959::ng M b r 39) 10 (ai 1 ?_))));obtain⟨g,f,h⟩:=bind_some h;refine aP (eu e f) (ac (br 3 2 ?_));obtain⟨d,h⟩|⟨d,h⟩:=ao h
 ·exact ah 32 d (ag 2 (LY e h))
 ·exact ah 32 d (ag 2 (LY e h))
end
end Go.Proofs.YtocgkfoifehcbaaGreat
