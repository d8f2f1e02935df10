/- The runs of the functions that RelayoutFinds reaches do what their plain forms say, part 0. Made by a program. -/
import Derived.Test.YtocgkfoifehcbaaGreatRkGk
namespace Go.Proofs.YtocgkfoifehcbaaGreat
open Go.RowKit
set_option maxRecDepth 20000
set_option linter.all false
noncomputable section
abbrev hF:=dn×Int×Int×Int×dO
variable[GS](M:Nat→Prop)(c:aA)(r:Bool)(a v2:d4)(b:Fv)(v5:Int)(d:Nat)(e:Int→Option Bool)
abbrev JU:Cx:=⟨bb,32,M,c⟩
abbrev Ix:=bodyPost bb Tryz.f63 (bJ M c (fun v _=>v=.bool r))
abbrev ahq(a:dt)(s:AS):=VE (JU M c) (Ix M c r) a .normal s
abbrev N9(n:Nat):aq:=.c (cat Tryz.f63 (pn n))
abbrev GX:dt:=[.b 0,N9 15]
abbrev ahy:dt:=kl (JU M c) (Ix M c r) GX (cat Tryz.f63 (pn 116)) d::GX
def Uy:AS:=⟨[(1,.sl (lm aM v2)),(2,.fn b.id b.aO),(15,.sl (lm aM a)),(16,iI (a.length:Int)),(17,iI v5)],[],[],[]⟩
abbrev Nm:Prop:=∀{v5:Int},e v5=some r→LP (JU M c) (Ix M c r) GX (cat Tryz.f63 (pn 116)) d (Uy a v2 b v5)
variable{M c r a v2 b v5 d e}{K:Kn}{n:Nat}
theorem afl(m:ao K)(j:Nm M c r a v2 b d e)(h:AB K n a v2 b e v5=some r):ahq M c r (N9 116::ahy M c r d) (Uy a v2 b v5):=by
 unfold AB at h;refine av 6 7 3 ?_;obtain⟨i,h⟩|⟨i,h⟩:=am h
 ·refine ah 18 i (cN 8 9 1 3 5 (ai 1 ?_));obtain⟨k,h⟩:=aF h;refine au (bE aM aB k (fV) (d7)) (ac (av 2 3 1 (ai 2 ?_)));obtain⟨l,h⟩:=aF h;refine au (bE aM aB l (fV) (d7)) (ac (av 2 3 1 (ai 3 ?_)));obtain⟨v6,g,h⟩:=bind_some h;refine ld (m.pb g) (ac ?_);obtain⟨f,h⟩|⟨f,h⟩:=am h
  ·refine ah 30 f (aL 9 ?_);cases h;exact bv
  ·exact ah 30 f (ag 4 (bn (j h)))
 ·refine ah 18 i (aL 8 ?_);cases h;exact bv
theorem XN(d:ao K)(m:Nat):Nm M c r a v2 b m (vf K n a v2 b m):=by
 induction m with
 | zero=>intro v5 h;cases h
 | succ m e=>intro v5 h;have h:AB K n a v2 b (vf K n a v2 b m) v5=some r:=h;exact bh (afl d e h)
theorem X9(e:ao K)(h:Ai K n a v2 b=some r):aX bb 63 [.sl (lm aM a),.sl (lm aM v2),.fn b.id b.aO] (fun v _=>v=.bool r):=by
 refine bF (cat Tryz.f63 (pn 1)) Tryz.func63 Tryz.ntmps63 fun M c=>(bd ⟨[(0,.sl (lm aM a)),(1,.sl (lm aM v2)),(2,.fn b.id b.aO)],[],[],[]⟩ ?_);unfold Ai at h;refine cc 12 13 7 4 (ai 1 (au (bA aM a) (aQ 3 1 (au (bA aM v2) (ac ?_)))));obtain⟨d,h⟩|⟨d,h⟩:=am h
 ·refine ah 14 d (aL 5 ?_);cases h;exact bv
 ·exact ah 14 d (rF 4 5 3 4 (ai 1 (au (bA aM a) (ac (ag 1 (cd (p:=pn 58) n (XN e n h)))))))
end
noncomputable section
variable[GS](M:Nat→Prop)(a:aA)(r:Bool)(b v2:ab)(v4:Bool)  
abbrev agc(n:Nat):aq:=.c (cat Tryz.f27 (pn n))
abbrev aeL:Cx:=⟨bb,52,M,a⟩
abbrev q27:=bodyPost bb Tryz.f27 (bJ M a (fun v _=>v=.bool r))
abbrev XI(b:dt)(s:AS):=VE (aeL M a) (q27 M a r) b .normal s
def afg:AS:=⟨[(4,.bool v4)],[],[],[]⟩
variable{M a r b v2 v4}{K:Kn}{n:Nat}
theorem ro(b:ao K)(h:lV K n v4=some r):XI M a r [agc 7] (afg v4):=by
 unfold lV at h;refine aL 1 ?_;cases h;exact bv
theorem CE(c:ao K)(h:oG K n b v2=some r):aX bb 27 [.agg (aB b),.agg (aB v2)] (fun v _=>v=.bool r):=by
 refine bF (cat Tryz.f27 (pn 1)) Tryz.func27 Tryz.ntmps27 fun M a=>(bd ⟨[(0,.agg (aB b)),(1,.agg (aB v2))],[],[],[]⟩ ?_);unfold oG at h;refine av 6 7 3 (ai 6 ?_);obtain⟨d,h⟩|⟨d,h⟩:=am h
 ·refine aD 10 d (aQ 13 7 ?_);obtain⟨e,h⟩|⟨e,h⟩:=am h
  ·refine aD 17 e (aQ 20 7 ?_);obtain⟨f,h⟩|⟨f,h⟩:=am h
   ·refine aD 24 f (aQ 27 7 ?_);obtain⟨g,h⟩|⟨g,h⟩:=am h
    ·refine aD 31 g (aQ 34 7 ?_);obtain⟨i,h⟩|⟨i,h⟩:=am h
     ·refine aD 38 i (aQ 41 7 ?_);obtain⟨j,h⟩|⟨j,h⟩:=am h
      ·refine aD 45 j (aQ 45 4 ?_);obtain⟨l,k,h⟩:=bind_some h;exact aK (X9 c k) (ac (ag 0 (ro c h)))
      ·exact aD 45 j (ac (ag 0 (ro c h)))
     ·exact aD 38 i (ac (ag 0 (ro c h)))
    ·exact aD 31 g (ac (ag 0 (ro c h)))
   ·exact aD 24 f (ac (ag 0 (ro c h)))
  ·exact aD 17 e (ac (ag 0 (ro c h)))
 ·exact aD 10 d (ac (ag 0 (ro c h)))
end
noncomputable section
variable[GS](M:Nat→Prop)(b:aA)(r a:dn)  
variable{M b r a}{K:Kn}{n:Nat}
theorem GD(f:ao K)(h:qb K n a=some r):aX bb 78 [.sl (lm aN a)] (fun v s=>v=.ref 5∧look 5 s.r=some (bx r)):=by
 refine bF (cat Tryz.f78 (pn 1)) Tryz.func78 Tryz.ntmps78 fun M b=>(bd ⟨[(0,.sl (lm aN a))],[],[],[]⟩ ?_);unfold qb at h;refine cc 12 13 7 4 (ai 1 ?_);refine N0 (aW Tryz.f78 (pn 12) 1) (.eql) 42 42 (.tmp 3) (.const (.slice none 0 0)) 4 (lm aN a) (r:=aV Tryz.f78 (pn 12) 2) (e:=44) (by kernel_rfl) (by kernel_rfl) (by kernel_rfl) (by kernel_rfl) (by kernel_rfl) (by kernel_rfl) (by kernel_rfl) (by kernel_rfl) (fun d=>?_) ?_
 ·have h:=QV (by simpa using d) h;refine ac (aL 5 (eL 5 2 44 67 ?_));cases h;exact fC
 ·have h:=Ps h;refine ac (fq 2 3 3 (ai 0 (Ce 42 5 (e:=44) (sz:=67) (aQ 2 1 ?_))));obtain⟨c,h⟩:=aF h;refine au (cG 7 5 44 67 aN (rfl) (jY) c) (ac (aL 1 ?_));cases h;exact fC
end
noncomputable section
variable[GS](M:Nat→Prop)(a:aA)(r b:ae)(v2:dn)(v4:Int)(v5:dn)(c:Nat)(d:Int→dn→Option ae)
abbrev E3:Cx:=⟨bb,25,M,a⟩
abbrev Gh:=bodyPost bb Tryz.f40 (bJ M a (fun v s=>v=.agg (List.set (aG ({ r with Kids:=[] }:ae)) 66 (.ref 1007))∧look 1007 s.r=some (bx r.Kids)))
abbrev aej(b:dt)(s:AS):=VE (E3 M a) (Gh M a r) b .normal s
abbrev QD(n:Nat):aq:=.c (cat Tryz.f40 (pn n))
abbrev IY:dt:=[.b 0,QD 15]
abbrev adO:dt:=kl (E3 M a) (Gh M a r) IY (cat Tryz.f40 (pn 116)) c::IY
def UQ:AS:=⟨[(1,.ptr 1 0),(2,.ptr 2 0),(10,.ref 1007),(11,iI (v2.length:Int)),(12,iI v4)],[(1,List.set (aG ({ b with Kids:=[] }:ae)) 66 (.ref 1007)),(2,List.set (aG bT) 66 (.nils))],[(1007,(bx v5))],[1,2,1007]⟩
abbrev PB:Prop:=∀{v4:Int} {v5:dn},d v4 v5=some r→LP (E3 M a) (Gh M a r) IY (cat Tryz.f40 (pn 116)) c (UQ b v2 v4 v5)
variable{M a r b v2 v4 v5 c d}{K:Kn}{n:Nat}
theorem aj0(k:ao K)(f:PB M a r b v2 c d)(h:z9 K n b v2 d v4 v5=some r):aej M a r (QD 116::adO M a r c) (UQ b v2 v4 v5):=by
 unfold z9 at h;refine av 6 7 3 ?_;obtain⟨e,h⟩|⟨e,h⟩:=am h
 ·refine ah 13 e (cN 8 9 1 3 5 (ai 1 ?_));obtain⟨g,h⟩:=aF h;refine au (ct 1007 67 aN g) (au (bO 44 0 aN aG (bH g).2 (dM)) (ac (bK [1,2,3,4,10,11,12] [1,2,4] [1007] ?_)));obtain⟨v6,j,h⟩:=bind_some h;obtain⟨i,h⟩:=aF h;exact bQ 1 (nu 17 [.ptr 1 66,.ref 1007,iI v4,.agg (aG (gD v5 v4)),.agg (aG v6),.eptr 1007 67 (v4.toNat) 0]) [] [] [d9 1007 ⟨44,67,lm aN (List.set v5 v4.toNat v6)⟩] (ax (vz 4) (aj (cq 0 1 21 (k.w4 j)) (bi (cK 1007 67 aN (L:=v5) i) (aj (dr (m:=0) (dC 1007 44 67 0 aN aG v6 (bH i).2 (dM))) bN)))) (ag 2 (bn (f h)))
 ·refine ah 13 e (aL 8 ?_);cases h;exact fC
theorem ahz(c:ao K)(m:Nat):PB M a r b v2 m (wv K n b v2 m):=by
 induction m with
 | zero=>intro v4 v5 h;cases h
 | succ m d=>intro v4 v5 h;have h:z9 K n b v2 (wv K n b v2 m) v4 v5=some r:=h;exact bh (aj0 c d h)
theorem B4(c:ao K)(h:n9 K n b=some r):aX bb 40 [.agg (aG b)] (fun v s=>v=.agg (List.set (aG ({ r with Kids:=[] }:ae)) 66 (.ref 1007))∧look 1007 s.r=some (bx r.Kids)):=by
 refine bF (cat Tryz.f40 (pn 1)) Tryz.func40 Tryz.ntmps40 fun M a=>(bd ⟨[(0,.agg (aG b))],[],[],[]⟩ ?_);unfold n9 at h;refine av 6 7 3 (ai 2 ?_);obtain⟨v2,d,h⟩:=bind_some h;exact eS 1007 (GD c d) (eX 5) (ac (cc 4 5 3 2 (ai 2 (au (bA aN v2) (ac (ag 1 (cd (p:=pn 58) n (ahz c n h))))))))
end
noncomputable section
variable[GS](M:Nat→Prop)(a:aA)(r:ae×Bool×Int×Int×dO)(b:ab)(v2 d v4:Int)(v5:dO)(e:Int)(f:Bool)(g:Nat)(j:Int→Option (ae×Bool×Int×Int×dO))
abbrev Fs:Cx:=⟨bb,34,M,a⟩
abbrev Kc:=bodyPost bb Tryz.f19 (bJ M a (fun v s=>v=.tup [.agg (aG r.1),.bool r.2.1]∧cy s.o [(af r.2.2.1 r.2.2.2.1)]∧look 440009 s.r=some (bt r.2.2.2.2)))
abbrev Po(b:dt)(s:AS):=VE (Fs M a) (Kc M a r) b .normal s
abbrev rJ(n:Nat):aq:=.c (cat Tryz.f19 (pn n))
abbrev JW:dt:=[.b 0,rJ 7]
abbrev MM:dt:=kl (Fs M a) (Kc M a r) JW (cat Tryz.f19 (pn 52)) g::JW
def abX:AS:=⟨[(2,iI v2),(4,.ptr 4 0),(6,.ptr 6 0),(9,.ptr 9 0),(13,.ref 440009),(14,iI (v5.length:Int)),(15,iI e),(28,.bool f)],[(4,aB b),(6,List.set (aG bT) 66 (.nils)),(9,aR (gD v5 e)),(af d v4)],[(440009,(bt v5))],[4,6,9,440001,440009,1440001,440001]⟩
def QI:AS:=⟨[(2,iI v2),(4,.ptr 4 0),(6,.ptr 6 0),(13,.ref 440009),(14,iI (v5.length:Int)),(15,iI e)],[(4,aB b),(6,List.set (aG bT) 66 (.nils)),(af d v4)],[(440009,(bt v5))],[4,6,440001,440009,1440001,440001]⟩
abbrev FX:Prop:=∀{e:Int},j e=some r→LP (Fs M a) (Kc M a r) JW (cat Tryz.f19 (pn 52)) g (QI b v2 d v4 v5 e)
variable{M a r b v2 d v4 v5 e f g j}{K:Kn}{n:Nat}[SG a]
theorem MB(m:ao K)(l:FX M a r b v2 d v4 v5 g j)(h:yG K n b v2 d v4 v5 e j f=some r):Po M a r (rJ 3379 :: .b 1::rJ 423::MM M a r g) (abX b v2 d v4 v5 e f):=by
 unfold yG at h;obtain⟨c,h⟩|⟨c,h⟩:=am h
 ·refine ah 28 c (av 4 5 2 (ai 2 ?_));obtain⟨o,k,h⟩:=bind_some h;refine eS 1031 (B4 m k) (Dw (i:=66) (by kernel_rfl)) (ac (aL 6 (iR 1031 ?_)));cases h;exact q9
 ·exact ah 28 c (ag 4 (bn (l h)))
theorem aiV(l:ao K)(c:FX M a r b v2 d v4 v5 g j)(h:yP K n b v2 d v4 v5 j e=some r):Po M a r (rJ 52::MM M a r g) (QI b v2 d v4 v5 e):=by
 unfold yP at h;refine av 6 7 3 ?_;obtain⟨i,h⟩|⟨i,h⟩:=am h
 ·refine ah 16 i (cN 8 9 1 3 5 (ai 0 ?_));obtain⟨m,h⟩:=aF h;refine au (ct 440009 127 aR m) (au (bO 64 0 aR aR (bH m).2 aT) (ac (av 2 3 1 (ai 5 ?_))));obtain⟨k,h⟩|⟨k,h⟩:=am h
  ·refine aD 23 k (aQ 8 3 ?_);obtain⟨o,f,h⟩:=bind_some h;exact aK (CE l f) (ac (ag 0 (MB l c h)))
  ·exact aD 23 k (ac (ag 0 (MB l c h)))
 ·refine ah 16 i (aL 8 (nz 6 ?_));cases h;exact q9
theorem aet(c:ao K)(m:Nat):FX M a r b v2 d v4 v5 m (vj K n b v2 d v4 v5 m):=by
 induction m with
 | zero=>intro e h;cases h
 | succ m f=>intro e h;have h:yP K n b v2 d v4 v5 (vj K n b v2 d v4 v5 m) e=some r:=h;exact bh (aiV c f h)
theorem xB(e:ao K)(h:kO K n b v2 d v4 v5=some r):eo bb 19 [.ptr 440001 0,.agg (aB b),iI v2] [(af d v4)] (bt v5) (fun v s=>v=.tup [.agg (aG r.1),.bool r.2.1]∧cy s.o [(af r.2.2.1 r.2.2.2.1)]∧look 440009 s.r=some (bt r.2.2.2.2)):=by
 refine jO (c:=cat Tryz.f19 []) Tryz.func19 (by kernel_rfl) _ Tryz.ntmps19 (kc (by kernel_rfl)) fun M a=>(bd ⟨[(0,.ptr 440001 0),(1,.agg (aB b)),(2,iI v2)],[(af d v4)],[(440009,(bt v5))],[440009,440001,1440001]⟩ ?_);unfold kO at h;exact b8 (ks':=[rJ 12,rJ 13,rJ 7]) 4 (ai 4 (au (bA aR v5) (ac (ag 1 (cd (p:=pn 26) n (aet e n h))))))
end
noncomputable section
variable[GS](M:Nat→Prop)(a:aA)(r:ae×Bool×Int×Int×dO)(b:ab)(v2 d v4:Int)(v5:dO)(v6:ae×Bool×Int×Int×dO)(e:Int)  
abbrev Gq(n:Nat):aq:=.c (cat Tryz.f36 (pn n))
abbrev aeZ:Cx:=⟨bb,27,M,a⟩
abbrev q36:=bodyPost bb Tryz.f36 (bJ M a (fun v s=>v=.tup [.agg (aG r.1),.bool r.2.1]∧cy s.o [(af r.2.2.1 r.2.2.2.1)]∧look 440009 s.r=some (bt r.2.2.2.2)))
abbrev Xz(b:dt)(s:AS):=VE (aeZ M a) (q36 M a r) b .normal s
def agS:AS:=⟨[(6,.ptr 6 0),(8,.ptr 8 0),(9,.bool v6.2.1)],[(6,List.set (aG bT) 66 (.nils)),(8,aG v6.1),(af v6.2.2.1 e)],[(440009,(bt v6.2.2.2.2))],[6,8,440001,440009,1440001,440001]⟩
variable{M a r b v2 d v4 v5 v6 e}{K:Kn}{n:Nat}[SG a]
theorem OO(b:ao K)(h:Eo K n v6 e=some r):Xz M a r [Gq 15] (agS v6 e):=by
 unfold Eo at h;refine aL 3 ?_;cases h;exact q9
theorem afr(f:ao K)(h:ye K n b v2 d v4 v5=some r):eo bb 36 [.ptr 440001 0,.agg (aB b),iI v2] [(af d v4)] (bt v5) (fun v s=>v=.tup [.agg (aG r.1),.bool r.2.1]∧cy s.o [(af r.2.2.1 r.2.2.2.1)]∧look 440009 s.r=some (bt r.2.2.2.2)):=by
 refine jO (c:=cat Tryz.f36 []) Tryz.func36 (by kernel_rfl) _ Tryz.ntmps36 (kc (by kernel_rfl)) fun M a=>(bd ⟨[(0,.ptr 440001 0),(1,.agg (aB b)),(2,iI v2)],[(af d v4)],[(440009,(bt v5))],[440009,440001,1440001]⟩ ?_);unfold ye at h;refine b8 (ks':=[Gq 6,Gq 7]) 3 (ai 3 ?_);obtain⟨v6,g,h⟩:=bind_some h;refine rt (xB f g) (ac (av 5 3 3 ?_));obtain⟨e,h⟩|⟨e,h⟩:=am h
 ·exact ah 17 e (ag 2 (OO f h))
 ·exact ah 17 e (ag 2 (OO f h))
end
noncomputable section
variable[GS](M:Nat→Prop)(d:aA)(r:Int×Int×dO)(a:ab)(v2:Int)(b:ae)(v4 v5:Int)(v6:dO)  
abbrev acy(n:Nat):aq:=.c (cat Tryz.f37 (pn n))
variable{M d r a v2 b v4 v5 v6}{K:Kn}{n:Nat}[SG d]
theorem aal(i:ao K)(h:yR K n a v2 b v4 v5 v6=some r):eo bb 37 [.ptr 440001 0,.agg (aB a),iI v2,.agg (aG b)] [(af v4 v5)] (bt v6) (fun v s=>v=bf∧cy s.o [(af r.1 r.2.1)]∧look 440009 s.r=some (bt r.2.2)):=by
 refine jO (c:=cat Tryz.f37 []) Tryz.func37 (by kernel_rfl) _ Tryz.ntmps37 (kc (by kernel_rfl)) fun M d=>(bd ⟨[(0,.ptr 440001 0),(1,.agg (aB a)),(2,iI v2),(3,.agg (aG b))],[(af v4 v5)],[(440009,(bt v6))],[440009,440001,1440001]⟩ ?_);unfold yR at h;refine b8 (ks':=[acy 7]) 4 (bK [0,2,5,7] [5,7,440001] [440009] ?_);obtain⟨e,f,h⟩:=bind_some h;obtain⟨g,h⟩:=aF h;refine bQ 2 (nu 15 [.ptr 440001 0,.ptr 440001 0,.ptr 440001 0,.ptr 440001 0,.ref 440009,.agg (aB a),iI v2,.agg (aG b),.agg (aG e),.agg (aR (⟨a,v2,e⟩:ay)),.sl (lm aR [(⟨a,v2,e⟩:ay)])]++nu 27 [.ptr 440001 0,.ptr 440001 0]) [] [] [gA 26 440009 ⟨64,127,lm aR (v6++[(⟨a,v2,e⟩:ay)])⟩,cf bb 29 Tryz.f37 (pn 7) 14] (ax [.v 0 2,.v 0 2,.v 0 2,.v 0 2,.v 0 1,.v 0 2,.v 0 2,.v 0 2] (aj (cq 0 1 23 (aX.cB (B4 i f) (V':=.agg (aG e)) (by kernel_rfl))) (ax [.v 0 2,.v 0 1] (aj (dr (m:=0) (cG 26 440009 64 127 aR (rfl) (J2) g)) (ax [.v 1 2,.v 1 1] (aj (ce 1) bN)))))) (tK ?_)
 cases h;exact q9
end
noncomputable section
variable[GS](M:Nat→Prop)(b:aA)(r a:Int)  
variable{M b r a}{K:Kn}{n:Nat}
theorem jP(c:ao K)(h:gU K n a=some r):aX bb 124 [iI a] (fun v _=>v=iI r):=by
 refine bF (cat Tryz.f124 (pn 1)) Tryz.func124 Tryz.ntmps124 fun M b=>(bd ⟨[(0,iI a)],[],[],[]⟩ ?_);unfold gU at h;refine aL 5 ?_;cases h;exact bv
end
noncomputable section
variable[GS](M:Nat→Prop)(a:aA)(r:Int×Bool)(b:cw)(v2 v4:Int)  
abbrev W3(n:Nat):aq:=.c (cat Tryz.f86 (pn n))
abbrev aaB:Cx:=⟨bb,25,M,a⟩
abbrev Zp:=bodyPost bb Tryz.f86 (bJ M a (fun v _=>v=.tup [iI r.1,.bool r.2]))
abbrev adM(b:dt)(s:AS):=VE (aaB M a) (Zp M a r) b .normal s
def XH:AS:=⟨[(6,iI v4)],[],[],[]⟩
variable{M a r b v2 v4}{K:Kn}{n:Nat}
theorem Sn(b:ao K)(h:tD K n v4=some r):adM M a r [.b 0,W3 15] (XH v4):=by
 unfold tD at h;refine aL 4 ?_;cases h;exact gx
theorem eu(e:ao K)(h:dQ K n b v2=some r):aX bb 86 [.agg (fh b),iI v2] (fun v _=>v=.tup [iI r.1,.bool r.2]):=by
 refine bF (cat Tryz.f86 (pn 1)) Tryz.func86 Tryz.ntmps86 fun M a=>(bd ⟨[(0,.agg (fh b)),(1,iI v2)],[],[],[]⟩ ?_);unfold dQ at h;refine gn 117 0 15 10 ?_;obtain⟨c,h⟩|⟨c,h⟩:=am h
 ·exact ah 11 c (ag 2 (Sn e h))
 ·refine ah 11 c (bg 7 3 ?_);obtain⟨d,h⟩|⟨d,h⟩:=am h
  ·refine ah 13 d (bg 2 1 (ai 1 ?_));obtain⟨g,f,h⟩:=bind_some h;exact aK (jP e f) (ac (ag 0 (Sn e h)))
  ·refine ah 13 d (aL 6 ?_);cases h;exact gx
end
noncomputable section
variable[GS](M:Nat→Prop)(a:aA)(r:bD)(b:aI)(v2 d:Int)  
abbrev pr(n:Nat):aq:=.c (cat Tryz.f88 (pn n))
abbrev aci:Cx:=⟨bb,52,M,a⟩
abbrev q88:=bodyPost bb Tryz.f88 (bJ M a (fun v _=>v=.agg (bV r)))
abbrev zR(m:Nat):dt:=kl (aci M a) (q88 M a r) [.b 0,pr 15] (cat Tryz.f88 (pn 116)) m::[.b 0,pr 15]
variable{M a r b v2 d}{K:Kn}{n:Nat}
theorem m6(e:ao K)(h:jL K n b v2 d=some r):aX bb 88 [.agg (aH b),iI v2,iI d] (fun v _=>v=.agg (bV r)):=by
 refine bF (cat Tryz.f88 (pn 1)) Tryz.func88 Tryz.ntmps88 fun M a=>(bd ⟨[(0,.agg (aH b)),(1,iI v2),(2,iI d)],[],[],[]⟩ ?_);unfold jL at h;refine bw (ks':=[pr 58,.b 0,pr 15]) 8 ⟨[(1,iI v2),(3,.ptr 3 0),(6,.ptr 6 0),(7,.ptr 7 0),(13,iI 0)],[(3,aH b),(6,bV fy),(7,bV ({ fy with Content:=d }:bD))],[],[3,6,7]⟩ (nf 40 (c:=cat Tryz.f88 [1,1,0,1,0,0]) (by kernel_rfl) (bh (b8 (ks':=pr 7474::pr 7475 :: .b 1::pr 935::zR M a r 39) 10 (ai 6 ?_))));obtain⟨v4,u,h⟩:=bind_some h;refine aK (eu e u) (ac (av 2 3 1 (ai 5 ?_)));obtain⟨v5,w,h⟩:=bind_some h;refine aK (jP e w) (ac (av 2 3 1 (ai 5 ?_)));obtain⟨v6,x,h⟩:=bind_some h;refine aK (eu e x) (ac (bw (ks':=zR M a r 39) 3 ⟨[(1,iI v2),(3,.ptr 3 0),(6,.ptr 6 0),(7,.ptr 7 0),(13,iI 1)],[(3,aH b),(6,bV fy),(7,bV (⟨⟨v4.1,0,0,0⟩,⟨v5,0,0,0⟩,⟨(max v6.1 0),0,0,0⟩,d⟩:bD))],[],[3,6,7]⟩ (bn (bh (du 114 115 1 15 10 (ai 6 ?_))))));obtain⟨q,y,h⟩:=bind_some h
 refine aK (eu e y) (ac (av 2 3 1 (ai 5 ?_)));obtain⟨s,z,h⟩:=bind_some h;refine aK (jP e z) (ac (av 2 3 1 (ai 5 ?_)));obtain⟨t,A,h⟩:=bind_some h;refine aK (eu e A) (ac (bw (ks':=zR M a r 38) 3 ⟨[(1,iI v2),(3,.ptr 3 0),(6,.ptr 6 0),(7,.ptr 7 0),(13,iI 2)],[(3,aH b),(6,bV fy),(7,bV (⟨⟨v4.1,q.1,0,0⟩,⟨v5,s,0,0⟩,⟨(max v6.1 0),(max t.1 0),0,0⟩,d⟩:bD))],[],[3,6,7]⟩ (bn (bh (du 114 115 1 15 10 (ai 6 ?_))))));obtain⟨f,B,h⟩:=bind_some h;refine aK (eu e B) (ac (av 2 3 1 (ai 5 ?_)));obtain⟨g,C,h⟩:=bind_some h;refine aK (jP e C) (ac (av 2 3 1 (ai 5 ?_)));obtain⟨i,D,h⟩:=bind_some h;refine aK (eu e D) (ac (bw (ks':=zR M a r 37) 3 ⟨[(1,iI v2),(3,.ptr 3 0),(6,.ptr 6 0),(7,.ptr 7 0),(13,iI 3)],[(3,aH b),(6,bV fy),(7,bV (⟨⟨v4.1,q.1,f.1,0⟩,⟨v5,s,g,0⟩,⟨(max v6.1 0),(max t.1 0),(max i.1 0),0⟩,d⟩:bD))],[],[3,6,7]⟩ (bn (bh (du 114 115 1 15 10 (ai 6 ?_))))));obtain⟨m,j,h⟩:=bind_some h
 refine aK (eu e j) (ac (av 2 3 1 (ai 5 ?_)));obtain⟨o,k,h⟩:=bind_some h;refine aK (jP e k) (ac (av 2 3 1 (ai 5 ?_)));obtain⟨p,l,h⟩:=bind_some h;refine aK (eu e l) (ac (bw (ks':=zR M a r 36) 3 ⟨[(1,iI v2),(3,.ptr 3 0),(6,.ptr 6 0),(7,.ptr 7 0),(13,iI 4)],[(3,aH b),(6,bV fy),(7,bV (⟨⟨v4.1,q.1,f.1,m.1⟩,⟨v5,s,g,o⟩,⟨(max v6.1 0),(max t.1 0),(max i.1 0),(max p.1 0)⟩,d⟩:bD))],[],[3,6,7]⟩ (bn (bh (aL 11 ?_)))));cases h;exact bv
end
noncomputable section
variable[GS](M:Nat→Prop)(b:aA)(r:Int)(a:bD)  
variable{M b r a}{K:Kn}{n:Nat}
theorem o5(c:ao K)(h:kF K n a=some r):aX bb 89 [.agg (bV a)] (fun v _=>v=iI r):=by
 refine bF (cat Tryz.f89 (pn 1)) Tryz.func89 Tryz.ntmps89 fun M b=>(bd ⟨[(0,.agg (bV a))],[],[],[]⟩ ?_);unfold kF at h;refine aL 5 ?_;cases h;exact bv
end
noncomputable section
variable[GS](M:Nat→Prop)(a:aA)(r:Int)(b:aI)(v2 c v5 d:Int)  
abbrev Ue(n:Nat):aq:=.c (cat Tryz.f90 (pn n))
abbrev ZD:Cx:=⟨bb,37,M,a⟩
abbrev q90:=bodyPost bb Tryz.f90 (bJ M a (fun v _=>v=iI r))
abbrev Vi(b:dt)(s:AS):=VE (ZD M a) (q90 M a r) b .normal s
def akk:AS:=⟨[(2,iI d)],[],[],[]⟩
def acm:AS:=⟨[(1,iI v2),(2,iI v5),(3,.ptr 3 0)],[(3,aH b)],[],[3]⟩
variable{M a r b v2 c v5 d}{K:Kn}{n:Nat}
theorem QG(b:ao K)(h:AP K n d=some r):Vi M a r [Ue 31] (akk d):=by
 unfold AP at h;refine aL 3 ?_;cases h;exact bv
theorem LN(d:ao K)(h:AF K n b v2 v5=some r):Vi M a r [Ue 15] (acm b v2 v5):=by
 unfold AF at h;refine cc 4 5 3 2 (ai 3 ?_);obtain⟨v6,e,h⟩:=bind_some h;refine aK (eu d e) (ac (bg 3 2 ?_));obtain⟨c,h⟩|⟨c,h⟩:=am h
 ·exact ah 32 c (ag 2 (QG d h))
 ·exact ah 32 c (ag 2 (QG d h))
theorem y8(e:ao K)(h:nE K n b v2 c=some r):aX bb 90 [.agg (aH b),iI v2,iI c] (fun v _=>v=iI r):=by
 refine bF (cat Tryz.f90 (pn 1)) Tryz.func90 Tryz.ntmps90 fun M a=>(bd ⟨[(0,.agg (aH b)),(1,iI v2),(2,iI c)],[],[],[]⟩ ?_);unfold nE at h;refine cc 28 29 15 6 (ai 3 ?_);obtain⟨v4,f,h⟩:=bind_some h;refine aK (eu e f) (ac (bg 3 2 ?_));obtain⟨d,h⟩|⟨d,h⟩:=am h
 ·exact ah 20 d (ag 2 (LN e h))
 ·exact ah 20 d (ag 2 (LN e h))
end
noncomputable section
variable[GS](M:Nat→Prop)(e:aA)(r:bD)(i:aI)(v2 f:Int)(v4:bD)(k g j:Int)(a b:(Int×Bool))(c:Bool)(d:V4 Int)  
abbrev CJ(n:Nat):aq:=.c (cat Tryz.f75 (pn n))
abbrev abV:Cx:=⟨bb,89,M,e⟩
abbrev q75:=bodyPost bb Tryz.f75 (bJ M e (fun v _=>v=.agg (bV r)))
abbrev Iq(a:dt)(s:AS):=VE (abV M e) (q75 M e r) a .normal s
def aeM:AS:=⟨[(4,.ptr 4 0),(5,.ptr 5 0)],[(4,bV fy),(5,bV ({ v4 with Margin:=d,Content:=g }:bD))],[],[4,5]⟩
def aeX:AS:=⟨[(4,.ptr 4 0),(5,.ptr 5 0),(8,iI (aa (f-j))),(10,.bool a.2),(12,.bool b.2),(59,.bool c)],[(4,bV fy),(5,bV ({ v4 with Content:=g }:bD))],[],[4,5]⟩
def aiP:AS:=⟨[(1,iI f),(2,.ptr 2 0),(4,.ptr 4 0),(5,.ptr 5 0),(6,iI k)],[(2,aH i),(4,bV fy),(5,bV v4)],[],[2,4,5]⟩
variable{M e r i v2 f v4 k g j a b c d}{K:Kn}{n:Nat}
theorem BX(a:ao K)(h:qY K n v4 g d=some r):Iq M e r [.b 0,CJ 4095] (aeM v4 g d):=by
 unfold qY at h;refine aL 4 ?_;cases h;exact bv
theorem PE(l:ao K)(h:Ap K n f v4 g j a b c=some r):Iq M e r [CJ 16377,.b 0,CJ 4095] (aeX f v4 g j a b c):=by
 unfold Ap at h;obtain⟨d,h⟩|⟨d,h⟩:=am h
 ·exact ah 59 d (ag 4 (BX l h))
 ·refine ah 59 d (bg 7 3 ?_);obtain⟨i,h⟩|⟨i,h⟩:=am h
  ·exact ah 76 i (ag 2 (BX l h))
  ·refine ah 76 i (bg 7 3 ?_);obtain⟨k,h⟩|⟨k,h⟩:=am h
   ·exact ah 82 k (ag 2 (BX l h))
   ·exact ah 82 k (ag 2 (BX l h))
theorem Sz(d:ao K)(h:rV K n i f v4 k=some r):Iq M e r [CJ 63] (aiP i f v4 k):=by
 unfold rV at h;refine av 2 3 1 (ai 3 ?_);obtain⟨g,o,h⟩:=bind_some h;refine aK (y8 d o) (ac (av 2 3 1 (ai 2 ?_)));obtain⟨j,p,h⟩:=bind_some h;refine aK (o5 d p) (ac (av 5 3 3 ?_));obtain⟨m,h⟩|⟨m,h⟩:=am h
 ·refine ah 41 m (aL 5 ?_);cases h;exact bv
 ·refine ah 41 m (fq 2 3 3 (ai 4 ?_));obtain⟨a,q,h⟩:=bind_some h;refine aK (eu d q) (ac (av 2 3 1 (ai 4 ?_)));obtain⟨b,l,h⟩:=bind_some h;refine aK (eu d l) (ac (du 8 9 0 3 3 (ai 3 ?_)));obtain⟨c,h⟩|⟨c,h⟩:=am h
  ·exact aD 62 c (ac (ag 0 (PE d h)))
  ·exact aD 62 c (ac (ag 0 (PE d h)))
theorem Hd(a:ao K)(h:qt K n i v2=some r):aX bb 75 [.agg (aH i),iI v2] (fun v _=>v=.agg (bV r)):=by
 refine bF (cat Tryz.f75 (pn 1)) Tryz.func75 Tryz.ntmps75 fun M e=>(bd ⟨[(0,.agg (aH i)),(1,iI v2)],[],[],[]⟩ ?_);unfold qt at h;refine av 6 7 3 (ai 1 ?_);obtain⟨f,c,h⟩:=bind_some h;refine aK (jP a c) (ac (av 2 3 1 (ai 2 ?_)));obtain⟨v4,d,h⟩:=bind_some h;refine aK (m6 a d) (ac (av 2 3 1 (ai 3 ?_)));obtain⟨v5,g,h⟩:=bind_some h;refine aK (eu a g) (ac (av 5 3 3 ?_));obtain⟨b,h⟩|⟨b,h⟩:=am h
 ·refine ah 26 b (bg 2 1 (ai 2 ?_));obtain⟨v6,j,h⟩:=bind_some h;exact aK (o5 a j) (ac (ag 0 (Sz a h)))
 ·exact ah 26 b (ag 2 (Sz a h))
end
noncomputable section
variable[GS](M:Nat→Prop)(b:aA)(r:bc)(a:Int)  
variable{M b r a}{K:Kn}{n:Nat}
theorem CM(c:ao K)(h:mK K n a=some r):aX bb 79 [iI a] (fun v _=>v=.agg (cT r)):=by
 refine bF (cat Tryz.f79 (pn 1)) Tryz.func79 Tryz.ntmps79 fun M b=>(bd ⟨[(0,iI a)],[],[],[]⟩ ?_);unfold mK at h;refine aL 5 ?_;cases h;exact bv
end
noncomputable section
variable[GS](M:Nat→Prop)(c:aA)(r:Int)(a:cw)(v2 b:Int)  
variable{M c r a v2 b}{K:Kn}{n:Nat}
theorem Af(f:ao K)(h:mR K n a v2 b=some r):aX bb 82 [.agg (fh a),iI v2,iI b] (fun v _=>v=iI r):=by
 refine bF (cat Tryz.f82 (pn 1)) Tryz.func82 Tryz.ntmps82 fun M c=>(bd ⟨[(0,.agg (fh a)),(1,iI v2),(2,iI b)],[],[],[]⟩ ?_);unfold mR at h;refine cc 12 13 7 4 (ai 2 ?_);obtain⟨v4,e,h⟩:=bind_some h;refine aK (eu f e) (ac (bg 3 2 ?_));obtain⟨d,h⟩|⟨d,h⟩:=am h
 ·refine ah 15 d (aL 5 ?_);cases h;exact bv
 ·refine ah 15 d (aL 5 ?_);cases h;exact bv
end
noncomputable section
variable[GS](M:Nat→Prop)(g:aA)(r w:ck)(v2 i:Int)(v4:Fv)(f:Int)(j:ck)(a:Int)(d:ck)(q:Bool)(l t:Nat)(o u:Int→ck→Option ck)
abbrev zP:Cx:=⟨bb,53,M,g⟩
abbrev xe:=bodyPost bb Tryz.f189 (bJ M g (fun v s=>v=nM r∧look 0 s.r=some (bk r)))
abbrev Km(a:dt)(s:AS):=VE (zP M g) (xe M g r) a .normal s
abbrev xD(n:Nat):aq:=.c (cat Tryz.f189 (pn n))
abbrev KR:dt:=[.b 0]
abbrev LA:dt:=kl (zP M g) (xe M g r) KR (cat Tryz.f189 (pn 12)) l::KR
abbrev Gn:dt:=.b 2 :: .b 1::xD 51::LA M g r l
abbrev MA:dt:=kl (zP M g) (xe M g r) (Gn M g r l) (cat Tryz.f189 (pn 804)) t::(Gn M g r l)
def ZO:AS:=⟨[(0,.ref 0),(1,iI v2),(2,iI i),(3,.fn v4.id v4.aO),(8,iI f),(9,iI a),(34,.bool q)],[],[(0,(bk d))],[0,1000000,0]⟩
def MN:AS:=⟨[(0,.ref 0),(1,iI v2),(2,iI i),(3,.fn v4.id v4.aO),(8,iI f),(9,iI a)],[],[(0,(bk d))],[0,1000000,0]⟩
def My:AS:=⟨[(0,.ref 0),(1,iI v2),(2,iI i),(3,.fn v4.id v4.aO),(8,iI f)],[],[(0,(bk j))],[0,1000000,0]⟩
abbrev xA:Prop:=∀{f:Int} {j:ck},o f j=some r→LP (zP M g) (xe M g r) KR (cat Tryz.f189 (pn 12)) l (My v2 i v4 f j)
abbrev FG:Prop:=∀{a:Int} {d:ck},u a d=some r→LP (zP M g) (xe M g r) (Gn M g r l) (cat Tryz.f189 (pn 804)) t (MN v2 i v4 f a d)
variable{M g r w v2 i v4 f j a d q l t o u}{K:Kn}{n:Nat}
theorem Vq(w:ao K)(s:xA M g r v2 i v4 l o)(v:FG M g r v2 i v4 f l t u)(h:uw K n v2 i v4 f a d o u q=some r):Km M g r (xD 3217::xD 1609::MA M g r l t) (ZO v2 i v4 f a d q):=by
 unfold uw at h;obtain⟨b,h⟩|⟨b,h⟩:=am h
 ·refine ah 34 b (IG 4 3 3 4 (bK [0,1,2,3,8,9] [] [0] ?_));obtain⟨e,h⟩:=aF h;obtain⟨j,h⟩:=aF h;obtain⟨c,h⟩:=aF h;obtain⟨p,h⟩:=aF h;exact bQ 2 (nu 37 [.ref 0,iI a,.ref 0,iI a,iI (aa (a-1)),.ref 0,iI a,iI (aa (a-1)),.eptr 0 1 (((aa (a-1))).toNat) 0,iI (gD d ((aa (a-1)))),.ref 0,iI a,.eptr 0 1 (a.toNat) 0,iI (gD d a),.eptr 0 1 (a.toNat) 0,.eptr 0 1 (((aa (a-1))).toNat) 0]) [] [] [d9 0 ⟨3,1,lm (ak .i64) (List.set d a.toNat (gD d ((aa (a-1)))))⟩,d9 0 ⟨3,1,lm (ak .i64) (List.set (List.set d a.toNat (gD d ((aa (a-1))))) ((aa (a-1))).toNat (gD d a))⟩] (ax [.v 0 1,.v 0 1,.v 0 2,.v 0 2,.v 0 2,.v 0 1,.v 0 1,.v 0 1] (bi (cK 0 1 (ak .i64) (L:=d) e) (bi (bO 3 0 (ak .i64) (ak .i64) (bH e).2 aT) (ax [.v 0 2,.v 0 2] (aj (gV (lo:=0) (k:=2) (dZ ⟨(by kernel_rfl),(d8 (cK 0 1 (ak .i64) (L:=d) j) (by kernel_rfl))⟩ (dZ ⟨(by kernel_rfl),(d8 (cK 0 1 (ak .i64) (L:=(List.set d a.toNat (gD d ((aa (a-1)))))) j) (by kernel_rfl))⟩ iw))) (bi (bO 3 0 (ak .i64) (ak .i64) (bH c).2 aT) (bi (cK 0 1 (ak .i64) (L:=d) c) (aj (dr (m:=0) (dC 0 3 1 0 (ak .i64) (ak .i64) (gD d ((aa (a-1)))) (bH c).2 aT)) (aj (Bl (lo:=1) (cK 0 1 (ak .i64) (L:=(List.set d a.toNat (gD d ((aa (a-1)))))) p)) (aj (dr (m:=1) (dC 0 3 1 0 (ak .i64) (ak .i64) (gD d a) (bH p).2 aT)) bN)))))))))) (ag 2 (bn (v h)))
 ·exact ah 34 b (ag 7 (bn (s h)))
theorem ahl(v:ao K)(q:xA M g r v2 i v4 l o)(s:FG M g r v2 i v4 f l t u)(h:Al K n v2 i v4 f o u a d=some r):Km M g r (xD 804::MA M g r l t) (MN v2 i v4 f a d):=by
 unfold Al at h;refine cc 4 5 3 2 (bK [0,1,2,3,8,9] [] [0] ?_);obtain⟨c,h⟩|⟨c,h⟩:=am h
 ·obtain⟨k,h⟩:=aF h;obtain⟨m,h⟩:=aF h;obtain⟨j,p,h⟩:=bind_some h;exact bQ 0 (nu 18 [iI a,iI v2,.bool (decide (a>v2)),.bool true,.fn v4.id v4.aO,.ref 0,iI a,.eptr 0 1 (a.toNat) 0,iI (gD d a),.ref 0,iI a,iI (aa (a-1)),.eptr 0 1 (((aa (a-1))).toNat) 0,iI (gD d ((aa (a-1)))),iI j,.bool (decide (j<0)),.bool (decide (j<0))]) [] [] [] (ax (vz 3) (aj (cS 0 21 (e:=(decide (a>v2))) (b:=true) c) (ax (vz 3) (bi (cK 0 1 (ak .i64) (L:=d) k) (bi (bO 3 0 (ak .i64) (ak .i64) (bH k).2 aT) (ax (vz 3) (bi (cK 0 1 (ak .i64) (L:=d) m) (bi (bO 3 0 (ak .i64) (ak .i64) (bH m).2 aT) (aj (cq 0 1 32 (v.sF p).2 (v.sF p).1) (ax (vz 2) bN)))))))))) (ag 0 (Vq v q s h))
 ·exact bQ 0 (nu 18 [iI a,iI v2,.bool (decide (a>v2)),.bool false,bf,bf,bf,bf,bf,bf,bf,bf,bf,bf,bf,bf,.bool false]) [] [] [] (ax (vz 3) (aj (cS 0 21 (e:=(decide (a>v2))) (b:=false) c) (aj (aC 0 1) (aj (aC 0 1) (aj (aC 0 1) (aj (aC 0 1) (aj (aC 0 1) (aj (aC 0 1) (aj (aC 0 1) (aj (aC 0 1) (aj (aC 0 1) (aj (aC 0 1) (aj (aC 0 1) (aj (aC 0 1) (ax [.v 0 1] bN))))))))))))))) (ag 0 (Vq v q s h))
theorem agd(c:ao K)(b:xA M g r v2 i v4 l o)(m:Nat):FG M g r v2 i v4 f l m (sr K n v2 i v4 f o m):=by
 induction m with
 | zero=>intro a d h;cases h
 | succ m e=>intro a d h;have h:Al K n v2 i v4 f o (sr K n v2 i v4 f o m) a d=some r:=h;exact bh (ahl c b e h)
theorem agy(c:ao K)(b:xA M g r v2 i v4 l o)(h:uc K n v2 i v4 o f j=some r):Km M g r (xD 12::LA M g r l) (My v2 i v4 f j):=by
 unfold uc at h;refine av 5 3 3 ?_;obtain⟨a,h⟩|⟨a,h⟩:=am h
 ·exact ah 14 a (ag 7 (cd (p:=pn 402) n (agd c b n h)))
 ·refine ah 14 a (b8 (ks':=[]) 5 (tK ?_));cases h;exact pq
theorem YH(a:ao K)(m:Nat):xA M g r v2 i v4 m (oE K n v2 i v4 m):=by
 induction m with
 | zero=>intro f j h;cases h
 | succ m b=>intro f j h;have h:uc K n v2 i v4 (oE K n v2 i v4 m) f j=some r:=h;exact bh (agy a b h)
theorem LL(a:ao K)(h:uG K n w v2 i v4=some r):uz bb 189 [.ref 0,iI v2,iI i,.fn v4.id v4.aO] 0 (bk w) (fun v s=>v=nM r∧look 0 s.r=some (bk r)):=by
 refine B2 (c:=cat Tryz.f189 (pn 1)) Tryz.func189 (by kernel_rfl) _ Tryz.ntmps189 (kc (by kernel_rfl)) fun M g=>(bd ⟨[(0,.ref 0),(1,iI v2),(2,iI i),(3,.fn v4.id v4.aO)],[],[(0,(bk w))],[0,1000000]⟩ ?_);unfold uG at h;exact ag 3 (cd (p:=pn 6) n (YH a n h))
end
noncomputable section
variable[GS](M:Nat→Prop)(d:aA)(r q:ck)(v2:Int)(b:Fv)(v5 v6:Int)(i e:ck)(a:Int)(j f k:Nat)(l:Int→Int→ck→Option ck)(g:Int→Option ck)(o:Option ck)
abbrev qc:Cx:=⟨bb,63,M,d⟩
abbrev rm:=bodyPost bb Tryz.f182 (bJ M d (fun v s=>v=nM r∧look 0 s.r=some (bk r)))
abbrev Fq(a:dt)(s:AS):=VE (qc M d) (rm M d r) a .normal s
abbrev pP(n:Nat):aq:=.c (cat Tryz.f182 (pn n))
abbrev IL:dt:=[.b 2]
abbrev PS:dt:=kl (qc M d) (rm M d r) IL (cat Tryz.f182 (pn 124)) f::IL
abbrev EC:dt:=[.b 0,pP 15]
abbrev Qj:dt:=kl (qc M d) (rm M d r) EC (cat Tryz.f182 (pn 56)) j::EC
abbrev KX:dt:=.b 4::pP 1995 :: .b 3::PS M d r f
abbrev ZN:dt:=kl (qc M d) (rm M d r) (KX M d r f) (cat Tryz.f182 (pn 7976)) k::(KX M d r f)
def MG:AS:=⟨[(0,.ref 0),(1,iI v2),(2,.fn b.id b.aO),(6,iI a),(7,iI 0),(8,iI (aa (2*a)))],[],[(0,(bk e))],[0,1000000,0]⟩
def UA:AS:=⟨[(0,.ref 0),(1,iI v2),(2,.fn b.id b.aO),(6,iI a)],[],[(0,(bk e))],[0,1000000,0]⟩
def Pq:AS:=⟨[(0,.ref 0),(1,iI v2),(2,.fn b.id b.aO),(6,iI 20),(7,iI v5),(8,iI v6)],[],[(0,(bk i))],[0,1000000,0]⟩
abbrev Rw:Prop:=∀{v5:Int} {v6:Int} {i:ck},l v5 v6 i=some r→LP (qc M d) (rm M d r) EC (cat Tryz.f182 (pn 56)) j (Pq v2 b v5 v6 i)
abbrev Eh:Prop:=∀{a:Int},g a=some r→LP (qc M d) (rm M d r) IL (cat Tryz.f182 (pn 124)) f (UA v2 b e a)
abbrev SB:Prop:=o=some r→LP (qc M d) (rm M d r) (KX M d r f) (cat Tryz.f182 (pn 7976)) k (MG v2 b e a)
variable{M d r q v2 b v5 v6 i e a j f k l g o}{K:Kn}{n:Nat}
theorem aeS(m:ao K)(j:Eh M d r v2 b e f g)(l:SB M d r v2 b e a f k o)(h:Ef K n v2 b e a g o=some r):Fq M d r (pP 7976::ZN M d r f k) (MG v2 b e a):=by
 unfold Ef at h;refine av 5 3 3 ?_;obtain⟨c,h⟩|⟨c,h⟩:=am h
 ·refine ah 35 c ?_;cases h
 ·refine ah 35 c (gH 11 3 10 ?_);obtain⟨i,h⟩|⟨i,h⟩:=am h
  ·refine ah 54 i ?_;cases h
  ·exact ah 54 i (ag 4 (bn (j h)))
theorem ahK(i:ao K)(c:Eh M d r v2 b e f g)(m:Nat):SB M d r v2 b e a f m (CN K n v2 b e a g m):=by
 induction m with
 | zero=>intro h;cases h
 | succ m j=>intro h;have h:Ef K n v2 b e a g (CN K n v2 b e a g m)=some r:=h;exact bh (aeS i c j h)
theorem X3(j:ao K)(i:Eh M d r v2 b e f g)(h:AY K n v2 b e g a=some r):Fq M d r (pP 124::PS M d r f) (UA v2 b e a):=by
 unfold AY at h;refine av 5 3 3 ?_;obtain⟨c,h⟩|⟨c,h⟩:=am h
 ·exact ah 30 c (ag 7 (cd (p:=pn 3988) n (ahK j i n h)))
 ·refine ah 30 c (b8 (ks':=[]) 5 (tK ?_));cases h;exact pq
theorem akd(c:ao K)(m:Nat):Eh M d r v2 b e m (wY K n v2 b e m):=by
 induction m with
 | zero=>intro a h;cases h
 | succ m f=>intro a h;have h:AY K n v2 b e (wY K n v2 b e m) a=some r:=h;exact bh (X3 c f h)
theorem ZF(c:ao K)(f:Rw M d r v2 b j l)(h:zw K n v2 b l v5 v6 i=some r):Fq M d r (pP 56::Qj M d r j) (Pq v2 b v5 v6 i):=by
 unfold zw at h;refine av 5 3 3 ?_;obtain⟨a,h⟩|⟨a,h⟩:=am h
 ·refine ah 13 a (b8 (ks':=pP 452::pP 453 :: .b 1::Qj M d r j) 4 (ai 4 ?_));obtain⟨m,g,h⟩:=bind_some h;exact s5 0 0 (LL c g) (ac (ag 4 (bn (f h))))
 ·refine ah 13 a (gH 2 3 6 (ai 4 ?_));obtain⟨e,k,h⟩:=bind_some h;exact s5 0 0 (LL c k) (ac (ag 1 (cd (p:=pn 62) n (akd c n h))))
theorem Zw(a:ao K)(m:Nat):Rw M d r v2 b m (xT K n v2 b m):=by
 induction m with
 | zero=>intro v5 v6 i h;cases h
 | succ m c=>intro v5 v6 i h;have h:zw K n v2 b (xT K n v2 b m) v5 v6 i=some r:=h;exact bh (ZF a c h)
theorem WK(a:ao K)(h:Es K n q v2 b=some r):uz bb 182 [.ref 0,iI v2,.fn b.id b.aO] 0 (bk q) (fun v s=>v=nM r∧look 0 s.r=some (bk r)):=by
 refine B2 (c:=cat Tryz.f182 (pn 1)) Tryz.func182 (by kernel_rfl) _ Tryz.ntmps182 (kc (by kernel_rfl)) fun M d=>(bd ⟨[(0,.ref 0),(1,iI v2),(2,.fn b.id b.aO)],[],[(0,(bk q))],[0,1000000]⟩ ?_);unfold Es at h;exact ag 6 (cd (p:=pn 28) n (Zw a n h))
end
noncomputable section
variable[GS](M:Nat→Prop)(b:aA)(r a:ck)(v2:Fv)  
variable{M b r a v2}{K:Kn}{n:Nat}
theorem K9(e:ao K)(h:lJ K n a v2=some r):uz bb 164 [.ref 0,.fn v2.id v2.aO] 0 (bk a) (fun v s=>v=nM r∧look 0 s.r=some (bk r)):=by
 refine B2 (c:=cat Tryz.f164 (pn 1)) Tryz.func164 (by kernel_rfl) _ Tryz.ntmps164 (kc (by kernel_rfl)) fun M b=>(bd ⟨[(0,.ref 0),(1,.fn v2.id v2.aO)],[],[(0,(bk a))],[0,1000000]⟩ ?_);unfold lJ at h;refine ai 2 (au (bA (ak .i64) a) (aQ 4 1 ?_));obtain⟨f,d,h⟩:=bind_some h;refine s5 0 0 (WK e d) (ac (tK ?_));cases h;exact pq
end
noncomputable section
variable[GS](M:Nat→Prop)(a:aA)(r:Bool)(b:ab)(v2:Bool)  
abbrev WX(n:Nat):aq:=.c (cat Tryz.f171 (pn n))
abbrev ajA:Cx:=⟨bb,12,M,a⟩
abbrev ag0:=bodyPost bb Tryz.f171 (bJ M a (fun v _=>v=.bool r))
abbrev acZ(b:dt)(s:AS):=VE (ajA M a) (ag0 M a r) b .normal s
def aii:AS:=⟨[(2,.bool v2)],[],[],[]⟩
variable{M a r b v2}{K:Kn}{n:Nat}
theorem SO(b:ao K)(h:yT K n v2=some r):acZ M a r [WX 7] (aii v2):=by
 unfold yT at h;refine aL 1 ?_;cases h;exact bv
theorem JV(d:ao K)(h:j4 K n b=some r):aX bb 171 [.agg (aB b)] (fun v _=>v=.bool r):=by
 refine bF (cat Tryz.f171 (pn 1)) Tryz.func171 Tryz.ntmps171 fun M a=>(bd ⟨[(0,.agg (aB b))],[],[],[]⟩ ?_);unfold j4 at h;refine av 6 7 3 (ai 4 ?_);obtain⟨c,h⟩|⟨c,h⟩:=am h
 ·exact aD 6 c (ac (ag 0 (SO d h)))
 ·exact aD 6 c (ac (ag 0 (SO d h)))
end
noncomputable section
variable[GS](M:Nat→Prop)(b:aA)(r:Bool)(a:Int)  
variable{M b r a}{K:Kn}{n:Nat}
theorem Vu(c:ao K)(h:rP K n a=some r):aX bb 183 [iI a] (fun v _=>v=.bool r):=by
 refine bF (cat Tryz.f183 (pn 1)) Tryz.func183 Tryz.ntmps183 fun M b=>(bd ⟨[(0,iI a)],[],[],[]⟩ ?_);unfold rP at h;refine aL 5 ?_;cases h;exact bv
end
noncomputable section
variable[GS](M:Nat→Prop)(b:aA)(r:Int)(a v2:Int)  
variable{M b r a v2}{K:Kn}{n:Nat}
theorem PX(i:ao K)(h:t6 K n a v2=some r):aX bb 166 [iI a,iI v2] (fun v _=>v=iI r):=by
 refine bF (cat Tryz.f166 (pn 1)) Tryz.func166 Tryz.ntmps166 fun M b=>(bd ⟨[(0,iI a),(1,iI v2)],[],[],[]⟩ ?_);unfold t6 at h;refine av 6 7 3 (ai 1 ?_);obtain⟨l,j,h⟩:=bind_some h;refine aK (Vu i j) (ac (av 2 3 1 (ai 1 ?_)));obtain⟨v4,k,h⟩:=bind_some h;refine aK (Vu i k) (ac (av 5 3 3 ?_));obtain⟨c,h⟩|⟨c,h⟩:=am h
 ·refine ah 11 c (av 9 5 4 ?_);obtain⟨d,h⟩|⟨d,h⟩:=am h
  ·refine ah 12 d (aL 6 ?_);cases h;exact bv
  ·refine ah 12 d (aL 6 ?_);cases h;exact bv
 ·refine ah 11 c (fq 5 3 5 ?_);obtain⟨e,h⟩|⟨e,h⟩:=am h
  ·refine ah 13 e (aL 5 ?_);cases h;exact bv
  ·refine ah 13 e (fq 5 3 5 ?_);obtain⟨f,h⟩|⟨f,h⟩:=am h
   ·refine ah 16 f (aL 5 ?_);cases h;exact bv
   ·refine ah 16 f (fq 5 3 5 ?_);obtain⟨g,h⟩|⟨g,h⟩:=am h
    ·refine ah 19 g (aL 5 ?_);cases h;exact bv
    ·refine ah 19 g (aL 5 ?_);cases h;exact bv
end
noncomputable section
variable[GS](M:Nat→Prop)(c:aA)(r:Int)(b v2:Int)(a:d4)  
variable{M c r b v2 a}{K:Kn}{n:Nat}
theorem ajp(g:ao K)(h:Az K n b v2 a=some r):aX bb 172 [iI b,iI v2,.cptr ([.sl (lm aM a)])] (fun v _=>v=iI r):=by
 refine bF (cat Tryz.f172 (pn 1)) Tryz.func172 Tryz.ntmps172 fun M c=>(bd ⟨[(0,iI b),(1,iI v2),(2,.cptr ([.sl (lm aM a)]))],[],[],[]⟩ ?_);unfold Az at h;refine av 6 7 3 (bK [0,1,2] [] [] ?_);obtain⟨d,h⟩:=aF h;obtain⟨e,h⟩:=aF h;obtain⟨v4,f,h⟩:=bind_some h;refine bQ 1 (nu 6 [.sl (lm aM a),iI b,.cptr (aB (gD a b)),.cptr (List.drop 2 (aB (gD a b))),.cptr (List.drop 48 (List.drop 2 (aB (gD a b)))),iI (((gD a b).Style).Order),.sl (lm aM a),iI v2,.cptr (aB (gD a v2)),.cptr (List.drop 2 (aB (gD a v2))),.cptr (List.drop 48 (List.drop 2 (aB (gD a v2)))),iI (((gD a v2).Style).Order),iI v4]) [] [] [cf bb 19 Tryz.f172 (pn 6) 13] (ax (vz 2) (bi (bE aM aB d (fV) (d7)) (ax (vz 5) (bi (bE aM aB e (fV) (d7)) (ax (vz 3) (aj (cq 0 1 18 (PX g f)) (aj (ce 0) bN))))))) (aL 1 ?_);cases h;exact bv
end
noncomputable section
variable[GS](M:Nat→Prop)(b:aA)(r:ck)(a:d4)(v6:Int)(c f:ck)(d:Nat)(e:Int→ck→Option ck)
abbrev FT:Cx:=⟨bb,24,M,b⟩
abbrev Hf:=bodyPost bb Tryz.f146 (bJ M b (fun v s=>v=.ref 18∧look 18 s.r=some (bk r)))
abbrev Vf(a:dt)(s:AS):=VE (FT M b) (Hf M b r) a .normal s
abbrev GF(n:Nat):aq:=.c (cat Tryz.f146 (pn n))
abbrev E1:dt:=[.b 0,GF 15]
abbrev OC:dt:=kl (FT M b) (Hf M b r) E1 (cat Tryz.f146 (pn 116)) d::E1
def VY:AS:=⟨[(1,.ptr 1 0),(3,.ref 18),(6,.sl (lm aM a)),(7,iI (a.length:Int)),(8,iI v6)],[(1,[.sl (lm aM a)])],[(18,(bk f))],[1,18]⟩
def PA:AS:=⟨[(1,.ptr 1 0),(3,.ref 18),(6,.sl (lm aM a)),(7,iI (a.length:Int)),(8,iI v6)],[(1,[.sl (lm aM a)])],[(18,(bk c))],[1,18]⟩
abbrev F8:Prop:=∀{v6:Int} {c:ck},e v6 c=some r→LP (FT M b) (Hf M b r) E1 (cat Tryz.f146 (pn 116)) d (PA a v6 c)
variable{M b r a v6 c f d e}{K:Kn}{n:Nat}
theorem Tn(g:ao K)(c:F8 M b r a d e)(h:Bh K n a v6 e f=some r):Vf M b r (.b 1::GF 935::OC M b r d) (VY a v6 f):=by
 unfold Bh at h;exact ag 2 (bn (c h))
theorem acz(j:ao K)(i:F8 M b r a d e)(h:wM K n a e v6 c=some r):Vf M b r (GF 116::OC M b r d) (PA a v6 c):=by
 unfold wM at h;refine av 6 7 3 ?_;obtain⟨f,h⟩|⟨f,h⟩:=am h
 ·refine ah 9 f (cN 8 9 1 3 5 (ai 1 ?_));obtain⟨k,h⟩:=aF h;refine au (bE aM aB k (fV) (d7)) (ac (av 2 3 1 (ai 1 ?_)));obtain⟨q,l,h⟩:=bind_some h;refine aK (JV j l) (ac ?_);obtain⟨g,h⟩|⟨g,h⟩:=am h
  ·refine ah 14 g (bg 2 1 (ai 3 ?_));obtain⟨m,h⟩:=aF h;exact au (cG 18 18 3 1 (ak .i64) (rfl) aT m) (ac (ag 0 (Tn j i h)))
  ·exact ah 14 g (ag 2 (Tn j i h))
 ·refine ah 9 f (gH 2 3 6 (ai 1 (oJ 1 1 ([.sl (lm aM a)]) (tY 172 #[(.tmp 1)] [.cptr ([.sl (lm aM a)])] ?_))));obtain⟨p,o,h⟩:=bind_some h;refine s5 18 0 (K9 j o) (ac (aL 3 ?_));cases h;exact fC
theorem Wu(d:ao K)(m:Nat):F8 M b r a m (wA K n a m):=by
 induction m with
 | zero=>intro v6 c h;cases h
 | succ m e=>intro v6 c h;have h:wM K n a (wA K n a m) v6 c=some r:=h;exact bh (acz d e h)
theorem aeC(c:ao K)(h:sy K n a=some r):aX bb 146 [.sl (lm aM a)] (fun v s=>v=.ref 18∧look 18 s.r=some (bk r)):=by
 refine bF (cat Tryz.f146 (pn 1)) Tryz.func146 Tryz.ntmps146 fun M b=>(bd ⟨[(0,.sl (lm aM a))],[],[],[]⟩ ?_);unfold sy at h;exact cc 28 29 15 6 (ai 1 (au (bA aM a) (ac (ib 2 0 1 (bK [1,3,6,7,8] [1] [] (eL 18 3 3 1 (ag 0 (cd (p:=pn 58) n (Wu c n h)))))))))
end
noncomputable section
variable[GS](M:Nat→Prop)(b:aA)(r:d4)(a:ab)(v2:ck)(c:Int)(v4:d4)(d:Nat)(e:Int→d4→Option d4)
abbrev Hj:Cx:=⟨bb,24,M,b⟩
abbrev HI:=bodyPost bb Tryz.f102 (bJ M b (fun v s=>v=.ref 21∧look 21 s.r=some (bY r)))
abbrev VZ(a:dt)(s:AS):=VE (Hj M b) (HI M b r) a .normal s
abbrev Vr(n:Nat):aq:=.c (cat Tryz.f102 (pn n))
abbrev HC:dt:=[.b 0,Vr 15]
abbrev VR:dt:=kl (Hj M b) (HI M b r) HC (cat Tryz.f102 (pn 116)) d::HC
def UD:AS:=⟨[(1,.ptr 1 0),(3,.ref 21),(8,.ref 1008),(9,iI (v2.length:Int)),(10,iI c)],[(1,aB a)],[(21,(bY v4)),(1008,(bk v2))],[1,21,1008]⟩
abbrev T3:Prop:=∀{c:Int} {v4:d4},e c v4=some r→LP (Hj M b) (HI M b r) HC (cat Tryz.f102 (pn 116)) d (UD a v2 c v4)
variable{M b r a v2 c v4 d e}{K:Kn}{n:Nat}
theorem aju(l:ao K)(k:T3 M b r a v2 d e)(h:zZ K n a v2 e c v4=some r):VZ M b r (Vr 116::VR M b r d) (UD a v2 c v4):=by
 unfold zZ at h;refine av 6 7 3 ?_;obtain⟨f,h⟩|⟨f,h⟩:=am h
 ·refine ah 11 f (cN 8 9 1 3 5 (ai 0 ?_));obtain⟨g,h⟩:=aF h;refine au (ct 1008 1 (ak .i64) g) (au (bO 3 0 (ak .i64) (ak .i64) (bH g).2 aT) (ac (ai 4 ?_)));obtain⟨i,h⟩:=aF h;refine au (bE aM aB i (fV) (d7)) (aQ 6 1 (au (gq aM ([(gD a.Kids ((gD v2 c)))]:d4) (new:=[aB (gD a.Kids ((gD v2 c)))]) (by simp only[q6,yk,d7])) ?_));obtain⟨j,h⟩:=aF h;exact au (cG 21 21 48 59 aM (rfl) (fV) j) (ac (ag 2 (bn (k h))))
 ·refine ah 11 f (aL 8 ?_);cases h;exact fC
theorem W4(d:ao K)(m:Nat):T3 M b r a v2 m (uW K n a v2 m):=by
 induction m with
 | zero=>intro c v4 h;cases h
 | succ m e=>intro c v4 h;have h:zZ K n a v2 (uW K n a v2 m) c v4=some r:=h;exact bh (aju d e h)
theorem Fu(c:ao K)(h:kE K n a=some r):aX bb 102 [.agg (aB a)] (fun v s=>v=.ref 21∧look 21 s.r=some (bY r)):=by
 refine bF (cat Tryz.f102 (pn 1)) Tryz.func102 Tryz.ntmps102 fun M b=>(bd ⟨[(0,.agg (aB a))],[],[],[]⟩ ?_);unfold kE at h;refine cc 28 29 15 6 (ai 2 ?_);obtain⟨v2,d,h⟩:=bind_some h;exact eS 1008 (aeC c d) (eX 18) (au (bA (ak .i64) v2) (ac (ib 2 0 1 (bK [1,3,8,9,10] [1] [1008] (eL 21 3 48 59 (ag 0 (cd (p:=pn 58) n (W4 c n h))))))))
end
noncomputable section
variable[GS](M:Nat→Prop)(b:aA)(r:Int)(a:bc)  
variable{M b r a}{K:Kn}{n:Nat}
theorem my(c:ao K)(h:gI K n a=some r):aX bb 126 [.agg (cT a)] (fun v _=>v=iI r):=by
 refine bF (cat Tryz.f126 (pn 1)) Tryz.func126 Tryz.ntmps126 fun M b=>(bd ⟨[(0,.agg (cT a))],[],[],[]⟩ ?_);unfold gI at h;refine aL 5 ?_;cases h;exact bv
end
noncomputable section
variable[GS](M:Nat→Prop)(b:aA)(r:Int)(a:ae)  
variable{M b r a}{K:Kn}{n:Nat}
theorem Pz(e:ao K)(h:vm K n a=some r):aX bb 127 [.agg (aG a)] (fun v _=>v=iI r):=by
 refine bF (cat Tryz.f127 (pn 1)) Tryz.func127 Tryz.ntmps127 fun M b=>(bd ⟨[(0,.agg (aG a))],[],[],[]⟩ ?_);unfold vm at h;refine av 13 7 5 ?_;obtain⟨c,h⟩|⟨c,h⟩:=am h
 ·refine ah 4 c (aL 5 ?_);cases h;exact bv
 ·refine ah 4 c (fq 2 3 3 (ai 2 ?_));obtain⟨v2,d,h⟩:=bind_some h;refine aK (my e d) (ac (aL 1 ?_));cases h;exact bv
end
noncomputable section
variable[GS](M:Nat→Prop)(b:aA)(r:Int)(a v2:Int)  
variable{M b r a v2}{K:Kn}{n:Nat}
theorem mC(c:ao K)(h:iG K n a v2=some r):aX bb 104 [iI a,iI v2] (fun v _=>v=iI r):=by
 refine bF (cat Tryz.f104 (pn 1)) Tryz.func104 Tryz.ntmps104 fun M b=>(bd ⟨[(0,iI a),(1,iI v2)],[],[],[]⟩ ?_);unfold iG at h;refine aL 5 ?_;cases h;exact bv
end
noncomputable section
variable[GS](M:Nat→Prop)(b:aA)(r a:bC)  
variable{M b r a}{K:Kn}{n:Nat}
theorem Nt(c:ao K)(h:zS K n a=some r):aX bb 159 [.agg (cn a)] (fun v _=>v=.agg (cn r)):=by
 refine bF (cat Tryz.f159 (pn 1)) Tryz.func159 Tryz.ntmps159 fun M b=>(bd ⟨[(0,.agg (cn a))],[],[],[]⟩ ?_);unfold zS at h;refine av 6 7 3 (ai 2 ?_);obtain⟨v2,d,h⟩:=bind_some h;refine aK (mC c d) (ac (av 2 3 1 (ai 2 ?_)));obtain⟨j,e,h⟩:=bind_some h;refine aK (mC c e) (ac (av 2 3 1 (ai 2 ?_)));obtain⟨v4,f,h⟩:=bind_some h;refine aK (mC c f) (ac (av 2 3 1 (ai 2 ?_)));obtain⟨v5,g,h⟩:=bind_some h;refine aK (mC c g) (ac (av 2 3 1 (bK [1,2] [1,2] [] ?_)));obtain⟨v6,i,h⟩:=bind_some h;refine bQ 1 (nu 19 [.ptr 1 4,iI a.Max,iI v6,.ptr 1 3,iI v5,iI (max v6 v5),.ptr 1 4]) [] [] [cf bb 27 Tryz.f159 (pn 126) 7] (ax (vz 2) (aj (cq 0 1 21 (mC c i)) (ax (vz 4) (aj (ce 0) bN)))) (aL 3 ?_);cases h;exact bv
end
noncomputable section
variable[GS](M:Nat→Prop)(b:aA)(r:Int)(a:bC)(v2:Int)  
variable{M b r a v2}{K:Kn}{n:Nat}
theorem JQ(c:ao K)(h:o7 K n a v2=some r):aX bb 160 [.agg (cn a),iI v2] (fun v _=>v=iI r):=by
 refine bF (cat Tryz.f160 (pn 1)) Tryz.func160 Tryz.ntmps160 fun M b=>(bd ⟨[(0,.agg (cn a)),(1,iI v2)],[],[],[]⟩ ?_);unfold o7 at h;refine aL 5 ?_;cases h;exact bv
end
noncomputable section
variable[GS](M:Nat→Prop)(b:aA)(r:Int)(a:bC)  
variable{M b r a}{K:Kn}{n:Nat}
theorem Il(c:ao K)(h:vD K n a=some r):aX bb 128 [.agg (cn a)] (fun v _=>v=iI r):=by
 refine bF (cat Tryz.f128 (pn 1)) Tryz.func128 Tryz.ntmps128 fun M b=>(bd ⟨[(0,.agg (cn a))],[],[],[]⟩ ?_);unfold vD at h;refine av 6 7 3 (ai 1 ?_);obtain⟨v2,d,h⟩:=bind_some h;refine aK (Nt c d) (ac (av 2 3 1 (ai 3 ?_)));obtain⟨f,e,h⟩:=bind_some h;refine aK (JQ c e) (ac (aL 1 ?_));cases h;exact bv
end
noncomputable section
variable[GS](M:Nat→Prop)(c:aA)(r:Int)(b v2:Int)(a:ck)  
variable{M c r b v2 a}{K:Kn}{n:Nat}
theorem ad2(g:ao K)(h:AG K n b v2 a=some r):aX bb 165 [iI b,iI v2,.cptr ([.sl (lm (ak .i64) a)])] (fun v _=>v=iI r):=by
 refine bF (cat Tryz.f165 (pn 1)) Tryz.func165 Tryz.ntmps165 fun M c=>(bd ⟨[(0,iI b),(1,iI v2),(2,.cptr ([.sl (lm (ak .i64) a)]))],[],[],[]⟩ ?_);unfold AG at h;refine av 6 7 3 (bK [0,1,2] [] [] ?_);obtain⟨d,h⟩:=aF h;obtain⟨e,h⟩:=aF h;obtain⟨v4,f,h⟩:=bind_some h;refine bQ 1 (nu 6 [.sl (lm (ak .i64) a),iI v2,.cptr ([iI (gD a v2)]),iI (gD a v2),.sl (lm (ak .i64) a),iI b,.cptr ([iI (gD a b)]),iI (gD a b),iI v4]) [] [] [cf bb 15 Tryz.f165 (pn 6) 9] (ax (vz 2) (bi (bE (ak .i64) (ak .i64) d aT aT) (ax (vz 3) (bi (bE (ak .i64) (ak .i64) e aT aT) (ax [.v 0 1] (aj (cq 0 1 14 (PX g f)) (aj (ce 0) bN))))))) (aL 1 ?_);cases h;exact bv
end
noncomputable section
variable[GS](M:Nat→Prop)(c:aA)(r:ck)(C:Int)(v2:ck)(b:Int)(v4 v5 v6:ck)(f u g a:Int)(j d i l:ck)(t o:Int)(q:ck)(x w y:Nat)(z:Int→Int→Option ck)(A:Int→Int→ck→ck→ck→Option ck)(B:ck→Int→Int→ck→Option ck)
abbrev pD:Cx:=⟨bb,96,M,c⟩
abbrev ph:=bodyPost bb Tryz.f136 (bJ M c (fun v s=>v=.ref 21∧look 21 s.r=some (bk r)))
abbrev KV(a:dt)(s:AS):=VE (pD M c) (ph M c r) a .normal s
abbrev iE(n:Nat):aq:=.c (cat Tryz.f136 (pn n))
abbrev Hl:dt:=[.b 4,iE 8191]
abbrev age:dt:=kl (pD M c) (ph M c r) Hl (cat Tryz.f136 (pn 65524)) y::Hl
abbrev KY:dt:=[.b 2,iE 2047]
abbrev Nf:dt:=kl (pD M c) (ph M c r) KY (cat Tryz.f136 (pn 16372)) w::KY
abbrev Ki:dt:=[.b 0,iE 255]
abbrev akn:dt:=kl (pD M c) (ph M c r) Ki (cat Tryz.f136 (pn 2036)) x::Ki
def Pw:AS:=⟨[(5,.ref 21),(82,.sl (lm (ak .i64) l)),(83,iI t),(84,iI o)],[],[(21,(bk q))],[21]⟩
def Nc:AS:=⟨[(0,iI b),(5,.ref 21),(6,.ptr 6 0),(7,.ref 27),(8,iI f),(11,iI g),(43,.sl (lm (ak .i64) v2)),(44,iI (v2.length:Int)),(45,iI a)],[(6,[.ref 24])],[(21,(bk j)),(24,(bk d)),(27,(bk i))],[6,21,24,27]⟩
def Q4:AS:=⟨[(0,iI b),(1,.sl (lm (ak .i64) v2)),(5,.ref 21),(6,.ptr 6 0),(7,.ref 27),(8,iI f),(28,.sl (lm (ak .i64) v2)),(29,iI (v2.length:Int)),(30,iI u)],[(6,[.ref 24])],[(21,(bk v4)),(24,(bk v5)),(27,(bk v6))],[6,21,24,27]⟩
abbrev T4:Prop:=∀{f:Int} {u:Int},z f u=some r→LP (pD M c) (ph M c r) Ki (cat Tryz.f136 (pn 2036)) x (Q4 v2 b v4 v5 v6 f u)
abbrev Rj:Prop:=∀{g:Int} {a:Int} {j:ck} {d:ck} {i:ck},A g a j d i=some r→LP (pD M c) (ph M c r) KY (cat Tryz.f136 (pn 16372)) w (Nc v2 b f g a j d i)
abbrev OV:Prop:=∀{l:ck} {t:Int} {o:Int} {q:ck},B l t o q=some r→LP (pD M c) (ph M c r) Hl (cat Tryz.f136 (pn 65524)) y (Pw l t o q)
variable{M c r C v2 b v4 v5 v6 f u g a j d i l t o q x w y z A B}{K:Kn}{n:Nat}
theorem aaQ(g:ao K)(f:OV M c r y B)(h:xx K n B l t o q=some r):KV M c r (iE 65524::age M c r y) (Pw l t o q):=by
 unfold xx at h;refine av 6 7 3 ?_;obtain⟨a,h⟩|⟨a,h⟩:=am h
 ·refine ah 85 a (cN 8 9 5 3 5 (ai 0 ?_));obtain⟨e,h⟩:=aF h;refine au (bE (ak .i64) (ak .i64) e aT aT) (ac (ai 2 ?_));obtain⟨b,h⟩:=aF h;refine au (ct 21 1 (ak .i64) b) (au (bO 3 0 (ak .i64) (ak .i64) (bH b).2 aT) (aQ 5 1 ?_));obtain⟨d,h⟩:=aF h;exact au (ct 21 1 (ak .i64) d) (au (dC 21 3 1 0 (ak .i64) (ak .i64) (aa ((gD q ((gD l o)))+1)) (bH d).2 aT) (ac (ag 2 (bn (f h)))))
 ·refine ah 85 a (aL 8 ?_);cases h;exact fC
theorem ael(a:ao K)(m:Nat):OV M c r m (qn K n m):=by
 induction m with
 | zero=>intro l t o q h;cases h
 | succ m b=>intro l t o q h;have h:xx K n (qn K n m) l t o q=some r:=h;exact bh (aaQ a b h)
theorem aj9(G:ao K)(H:Rj M c r v2 b f w A)(h:Bg K n v2 b f A g a j d i=some r):KV M c r (iE 16372::Nf M c r w) (Nc v2 b f g a j d i):=by
 unfold Bg at h;refine av 6 7 3 ?_;obtain⟨o,h⟩|⟨o,h⟩:=am h
 ·refine ah 46 o (cN 8 9 3 3 5 (ai 1 ?_));obtain⟨y,h⟩:=aF h;refine au (bE (ak .i64) (ak .i64) y aT aT) (ac (av 2 3 1 (ai 2 ?_)));obtain⟨l,z,h⟩:=bind_some h;refine aK (mC G z) (ac (av 2 3 1 (bK [0,5,6,7,8,11,12,14,43,44,45] [6] [21,24,27] ?_)));obtain⟨B,h⟩:=aF h;obtain⟨q,h⟩:=aF h;obtain⟨s,h⟩:=aF h;obtain⟨t,h⟩:=aF h;obtain⟨u,h⟩:=aF h;refine bQ 3 (nu 54 [.ref 21,iI a,.ref 24,iI a,.ref 27,iI a,iI (aa (b*l)),iI f,iI (aa (Int.tdiv (aa (b*l)) f)),iI (aa (b*l)),iI f,iI (Int.tmod (aa (b*l)) f),iI a,.eptr 21 1 (a.toNat) 0,.eptr 24 1 (a.toNat) 0,.eptr 27 1 (a.toNat) 0]) [] [] [d9 21 ⟨3,1,lm (ak .i64) (List.set j a.toNat (aa (Int.tdiv (aa (b*l)) f)))⟩,d9 24 ⟨3,1,lm (ak .i64) (List.set d a.toNat (Int.tmod (aa (b*l)) f))⟩,d9 27 ⟨3,1,lm (ak .i64) (List.set i a.toNat a)⟩] (ax [.v 0 1,.v 0 1,.v 0 2,.v 0 2,.v 0 3,.v 0 3,.v 0 1,.v 0 1] (bi (YR .i64 (aa (b*l)) B) (ax [.v 0 2,.v 0 2] (aj (gV (lo:=0) (k:=2) (dZ ⟨(by kernel_rfl),(d8 (Um .i64 (aa (b*l)) q) (by kernel_rfl))⟩ (dZ ⟨(by kernel_rfl),(d8 (Um .i64 (aa (b*l)) q) (by kernel_rfl))⟩ iw))) (ax [.v 0 3] (bi (cK 21 1 (ak .i64) (L:=j) s) (aj (dr (m:=0) (dC 21 3 1 0 (ak .i64) (ak .i64) (aa (Int.tdiv (aa (b*l)) f)) (bH s).2 aT)) (aj (Bl (lo:=1) (cK 24 1 (ak .i64) (L:=d) t)) (aj (dr (m:=1) (dC 24 3 1 0 (ak .i64) (ak .i64) (Int.tmod (aa (b*l)) f) (bH t).2 aT)) (aj (Bl (lo:=2) (cK 27 1 (ak .i64) (L:=i) u)) (aj (dr (m:=2) (dC 27 3 1 0 (ak .i64) (ak .i64) a (bH u).2 aT)) bN))))))))))) ?_
  obtain⟨I,C,h⟩:=bW h;obtain⟨J,D,h⟩:=bW h;refine bw (ks':=iE 2095719 :: .b 3::iE 130983::Nf M c r w) 0 ⟨[(0,iI b),(5,.ref 21),(6,.ptr 6 0),(7,.ref 27),(8,iI f),(11,iI g),(12,iI a),(43,.sl (lm (ak .i64) v2)),(44,iI (v2.length:Int)),(45,iI a)],[(6,[.ref 24])],[(21,(bk I)),(24,(bk J)),(27,⟨3,1,lm (ak .i64) (List.set i a.toNat a)⟩)],[6,21,24,27]⟩ ?_ (by subst D;subst C;kernel_rfl);refine ai 3 ?_;obtain⟨v,h⟩:=aF h;exact au (ct 21 1 (ak .i64) v) (au (bO 3 0 (ak .i64) (ak .i64) (bH v).2 aT) (ac (ag 2 (bn (H h)))))
 ·refine ah 46 o (gH 2 3 6 (ai 1 (mN 24 (oJ 6 6 ([.sl (lm (ak .i64) d)]) (tY 165 #[(.tmp 6)] [.cptr ([.sl (lm (ak .i64) d)])] ?_)))));obtain⟨x,E,h⟩:=bind_some h;refine s5 27 0 (K9 G E) (ac (cc 4 5 3 2 (ai 2 (mN 27 ?_))));obtain⟨F,h⟩:=aF h;exact au (l6 (ak .i64) x (0:Int) g 72 (.tmp 80) none (some (.tmp 81)) 82 (e:=3) (sz:=1) (by kernel_rfl) (by kernel_rfl) (by kernel_rfl) (by kernel_rfl) (by kernel_rfl) (by kernel_rfl) aT (fun k N=>by subst N;kernel_rfl) F) (au (bA (ak .i64) (List.drop ((0:Int)).toNat (List.take g.toNat x))) (ac (ag 1 (cd (p:=pn 32762) n (ael G n h)))))
theorem agw(e:ao K)(m:Nat):Rj M c r v2 b f m (q8 K n v2 b f m):=by
 induction m with
 | zero=>intro g a j d i h;cases h
 | succ m k=>intro g a j d i h;have h:Bg K n v2 b f (q8 K n v2 b f m) g a j d i=some r:=h;exact bh (aj9 e k h)
theorem ad3(j:ao K)(i:T4 M c r v2 b v4 v5 v6 x z)(h:wX K n v2 b v4 v5 v6 z f u=some r):KV M c r (iE 2036::akn M c r x) (Q4 v2 b v4 v5 v6 f u):=by
 unfold wX at h;refine av 6 7 3 ?_;obtain⟨a,h⟩|⟨a,h⟩:=am h
 ·refine ah 31 a (cN 8 9 1 3 5 (ai 0 ?_));obtain⟨e,h⟩:=aF h;refine au (bE (ak .i64) (ak .i64) e aT aT) (ac (ai 2 ?_));obtain⟨k,g,h⟩:=bind_some h;exact aK (mC j g) (ac (ag 2 (bn (i h))))
 ·refine ah 31 a (gH 5 3 8 ?_);obtain⟨d,h⟩|⟨d,h⟩:=am h
  ·refine ah 40 d (aL 5 ?_);cases h;exact fC
  ·exact ah 40 d (rF 12 13 7 6 (ai 1 (au (bA (ak .i64) v2) (ac (ag 1 (cd (p:=pn 8186) n (agw j n h)))))))
theorem X2(a:ao K)(m:Nat):T4 M c r v2 b v4 v5 v6 m (wk K n v2 b v4 v5 v6 m):=by
 induction m with
 | zero=>intro f u h;cases h
 | succ m d=>intro f u h;have h:wX K n v2 b v4 v5 v6 (wk K n v2 b v4 v5 v6 m) f u=some r:=h;exact bh (ad3 a d h)
theorem ahf(a:ao K)(h:AM K n C v2=some r):aX bb 136 [iI C,.sl (lm (ak .i64) v2)] (fun v s=>v=.ref 21∧look 21 s.r=some (bk r)):=by
 refine bF (cat Tryz.f136 (pn 1)) Tryz.func136 Tryz.ntmps136 fun M c=>(bd ⟨[(0,iI C),(1,.sl (lm (ak .i64) v2))],[],[],[]⟩ ?_);unfold AM at h;refine av 6 7 3 (ai 1 ?_);obtain⟨b,d,h⟩:=bind_some h;refine aK (mC a d) (ac (av 2 3 1 (ai 1 (au (bA (ak .i64) v2) ?_))));obtain⟨f,h⟩:=aF h;refine oC (ak .i64) (0:Int) 72 (.tmp 20) (.tmp 20) 21 (e:=3) (sz:=1) (zc:=[iI 0]) (kd:=.i64) (kd':=.i64) f (ac ?_);obtain⟨v4,g,h⟩:=bW h;refine bw (ks':=[iE 30,iE 31]) 1 ⟨[(0,iI b),(1,.sl (lm (ak .i64) v2)),(5,.ref 21)],[],[(21,(bk v4))],[21]⟩ ?_ (by subst g;kernel_rfl);refine ai 1 (au (bA (ak .i64) v2) ?_);obtain⟨i,h⟩:=aF h;refine oC (ak .i64) (0:Int) 72 (.tmp 23) (.tmp 23) 24 (e:=3) (sz:=1) (zc:=[iI 0]) (kd:=.i64) (kd':=.i64) i (ac ?_);obtain⟨v5,j,h⟩:=bW h;refine bw (ks':=[iE 62,iE 63]) 1 ⟨[(0,iI b),(1,.sl (lm (ak .i64) v2)),(5,.ref 21),(6,.ptr 6 0)],[(6,[.ref 24])],[(21,(bk v4)),(24,(bk v5))],[6,21,24]⟩ ?_ (by subst j;kernel_rfl)
 refine ai 1 (au (bA (ak .i64) v2) ?_);obtain⟨k,h⟩:=aF h;refine oC (ak .i64) (0:Int) 72 (.tmp 26) (.tmp 26) 27 (e:=3) (sz:=1) (zc:=[iI 0]) (kd:=.i64) (kd':=.i64) k (ac ?_);obtain⟨v6,l,h⟩:=bW h;refine bw (ks':=[iE 508,iE 509,iE 255]) 4 ⟨[(0,iI b),(1,.sl (lm (ak .i64) v2)),(5,.ref 21),(6,.ptr 6 0),(7,.ref 27),(8,iI 0)],[(6,[.ref 24])],[(21,(bk v4)),(24,(bk v5)),(27,(bk v6))],[6,21,24,27]⟩ ?_ (by subst l;kernel_rfl);exact ai 1 (au (bA (ak .i64) v2) (ac (ag 1 (cd (p:=pn 1018) n (X2 a n h)))))
end
noncomputable section
variable[GS](M:Nat→Prop)(i:aA)(r:Bool×ed)(g:ed)(v2 l t u o:Int)(a q:ck)(y z:Int)(A B:ck)(C f b:Int)(d:ck)(e:Int)(k:ed)(w:Int)(D:Bool)(E:ed)(G I x:Nat)(H:Int→Int→Int→ck→ck→Option (Bool×ed))(J:Int→Int→ck→Option (Bool×ed))(F:Int→ed→Option (Bool×ed))
abbrev pT:Cx:=⟨bb,170,M,i⟩
abbrev pE:=bodyPost bb Tryz.f161 (bJ M i (fun v s=>v=.bool r.1∧look 0 s.r=some (b5 r.2)))
abbrev ql(a:dt)(s:AS):=VE (pT M i) (pE M i r) a .normal s
abbrev gW(n:Nat):aq:=.c (cat Tryz.f161 (pn n))
abbrev J1:dt:=[.b 4,gW 4095]
abbrev HR:dt:=kl (pT M i) (pE M i r) J1 (cat Tryz.f161 (pn 32756)) x::J1
abbrev ES:dt:=[.b 2,gW 2047]
abbrev Q5:dt:=kl (pT M i) (pE M i r) ES (cat Tryz.f161 (pn 16372)) I::ES
abbrev Kl:dt:=[.b 0,gW 31]
abbrev Jg:dt:=kl (pT M i) (pE M i r) Kl (cat Tryz.f161 (pn 244)) G::Kl
def aeP:AS:=⟨[(0,.ref 0),(2,iI l),(7,iI y),(8,iI z),(9,.ref 47),(10,.ref 52),(22,.ref 0),(23,iI (g.length:Int)),(24,iI o)],[],[(0,(b5 g)),(47,(bk A)),(52,(bk B))],[0,47,52,1000000,0]⟩
def Yw:AS:=⟨[(0,.ref 0),(13,iI f),(14,.ref 1075),(117,.ref 47),(118,iI (a.length:Int)),(119,iI e)],[],[(0,(b5 E)),(47,(bk a)),(1075,(bk d))],[0,47,1075,1000000,0]⟩
def adk:AS:=⟨[(0,.ref 0),(13,iI f),(14,.ref 1075),(19,.eptr 0 9 (((gD a e)).toNat) 0),(20,iI w),(117,.ref 47),(118,iI (a.length:Int)),(119,iI e),(161,.bool D)],[],[(0,(b5 k)),(47,(bk a)),(1075,(bk d))],[0,47,1075,1000000,0]⟩
def R7:AS:=⟨[(0,.ref 0),(13,iI f),(14,.ref 1075),(117,.ref 47),(118,iI (a.length:Int)),(119,iI e)],[],[(0,(b5 k)),(47,(bk a)),(1075,(bk d))],[0,47,1075,1000000,0]⟩
def Q8:AS:=⟨[(0,.ref 0),(2,iI l),(9,.ref 47),(13,iI f),(14,.ref 1075),(76,.ref 47),(77,iI (a.length:Int)),(78,iI b)],[],[(0,(b5 g)),(47,(bk a)),(1075,(bk d))],[0,47,1075,1000000,0]⟩
def YA:AS:=⟨[(0,.ref 0),(2,iI l),(7,iI C),(9,.ref 47),(10,.ref 52)],[],[(0,(b5 g)),(47,(bk a)),(52,(bk q))],[0,47,52,1000000,0]⟩
def Lo:AS:=⟨[(0,.ref 0),(2,iI l),(7,iI t),(8,iI u),(9,.ref 47),(10,.ref 52),(22,.ref 0),(23,iI (g.length:Int)),(24,iI o)],[],[(0,(b5 g)),(47,(bk a)),(52,(bk q))],[0,47,52,1000000,0]⟩
abbrev EF:Prop:=∀{t:Int} {u:Int} {o:Int} {a:ck} {q:ck},H t u o a q=some r→LP (pT M i) (pE M i r) Kl (cat Tryz.f161 (pn 244)) G (Lo g l t u o a q)
abbrev Rm:Prop:=∀{f:Int} {b:Int} {d:ck},J f b d=some r→LP (pT M i) (pE M i r) ES (cat Tryz.f161 (pn 16372)) I (Q8 g l a f b d)
abbrev Dd:Prop:=∀{e:Int} {k:ed},F e k=some r→LP (pT M i) (pE M i r) J1 (cat Tryz.f161 (pn 32756)) x (R7 a f d e k)
variable{M i r g v2 l t u o a q y z A B C f b d e k w D E G I x H J F}{K:Kn}{n:Nat}
theorem RU(b:ao K)(a:EF M i r g l G H)(h:z7 K n g l o H y z A B=some r):ql M i r (gW 1959::Jg M i r G) (aeP g l o y z A B):=by
 unfold z7 at h;exact ag 1 (bn (a h))
theorem Qt(c:ao K)(b:Dd M i r a f d x F)(h:AX K n a f d e F E=some r):ql M i r (.b 5::gW 262055::HR M i r x) (Yw a f d e E):=by
 unfold AX at h;exact ag 2 (bn (b h))
theorem sg(l:ao K)(g:Dd M i r a f d x F)(h:mh K n a f d e k w F D=some r):ql M i r (gW 8385743 :: .b 5::gW 262055::HR M i r x) (adk a f d e k w D):=by
 unfold mh at h;obtain⟨b,h⟩|⟨b,h⟩:=am h
 ·refine ah 161 b (bg 2 1 (ai 5 ?_));obtain⟨c,h⟩:=aF h;exact au (dC 0 220 9 7 bB bB ({ (gD k ((gD a e)))with size:=w }:aZ) (kc c) aT) (aQ 8 2 (au (dC 0 220 9 8 bB bB (L:=(List.set k ((gD a e)).toNat ({ (gD k ((gD a e)))with size:=w }:aZ))) (j:=((gD a e)).toNat) ({ (gD (List.set k ((gD a e)).toNat ({ (gD k ((gD a e)))with size:=w }:aZ)) ((gD a e)))with fixed:=true }:aZ) (iz (kc c)) aT) (ac (ag 0 (Qt l g h)))))
 ·exact ah 161 b (ag 2 (Qt l g h))
theorem aiu(p:ao K)(b:Dd M i r a f d x F)(h:wQ K n a f d F e k=some r):ql M i r (gW 32756::HR M i r x) (R7 a f d e k):=by
 unfold wQ at h;refine av 6 7 3 ?_;obtain⟨c,h⟩|⟨c,h⟩:=am h
 ·refine ah 120 c (cN 8 9 5 3 5 (ai 1 ?_));obtain⟨q,h⟩:=aF h;refine au (ct 47 1 (ak .i64) q) (au (bO 3 0 (ak .i64) (ak .i64) (bH q).2 aT) (ac (av 2 3 1 (ai 2 ?_))));obtain⟨s,h⟩:=aF h;refine au (ct 0 9 bB s) (ac (av 2 3 1 (bK [0,13,14,17,19,117,118,119] [] [0,47,1075] ?_)));obtain⟨t,h⟩:=aF h;obtain⟨w,z,h⟩:=bind_some h;refine bQ 1 (nu 127 [.eptr 0 9 (((gD a e)).toNat) 0,.eptr 0 9 (((gD a e)).toNat) 0,.eptr 0 9 (((gD a e)).toNat) 0,.agg (cn ((gD k ((gD a e))).Item)),.ref 1075,iI e,.eptr 1075 1 (e.toNat) 0,iI (gD d e),iI w]) [] [] [cf bb 170 Tryz.f161 (pn 4192870) 9] (ax (vz 3) (bi (bO 176 0 bB bB (bH s).2 aT) (ax (vz 2) (bi (cK 1075 1 (ak .i64) (L:=d) t) (bi (bO 3 0 (ak .i64) (ak .i64) (bH t).2 aT) (aj (cq 0 1 135 (JQ p z)) (aj (ce 0) bN))))))) (av 2 3 1 (ai 3 ?_));obtain⟨g,h⟩|⟨g,h⟩:=am h
  ·exact aD 138 g (ac (ag 0 (sg p b h)))
  ·refine aD 138 g (aQ 6 3 ?_);obtain⟨j,h⟩|⟨j,h⟩:=am h
   ·refine aD 141 j (aQ 9 3 ?_);obtain⟨u,h⟩:=aF h;refine au (ct 1075 1 (ak .i64) u) (au (bO 3 0 (ak .i64) (ak .i64) (bH u).2 aT) (aQ 15 4 ?_));obtain⟨l,h⟩|⟨l,h⟩:=am h
    ·exact aD 150 l (ac (ag 0 (sg p b h)))
    ·refine aD 150 l (aQ 18 3 ?_);obtain⟨m,h⟩|⟨m,h⟩:=am h
     ·refine aD 153 m (aQ 21 3 ?_);obtain⟨v,h⟩:=aF h;exact au (ct 1075 1 (ak .i64) v) (au (bO 3 0 (ak .i64) (ak .i64) (bH v).2 aT) (ac (ag 0 (sg p b h))))
     ·exact aD 153 m (ac (ag 0 (sg p b h)))
   ·refine aD 141 j (aQ 18 12 ?_);obtain⟨o,h⟩|⟨o,h⟩:=am h
    ·refine aD 153 o (aQ 21 3 ?_);obtain⟨y,h⟩:=aF h;exact au (ct 1075 1 (ak .i64) y) (au (bO 3 0 (ak .i64) (ak .i64) (bH y).2 aT) (ac (ag 0 (sg p b h))))
    ·exact aD 153 o (ac (ag 0 (sg p b h)))
 ·refine ah 120 c (aL 8 ?_);cases h;exact fC
theorem adj(b:ao K)(m:Nat):Dd M i r a f d m (o6 K n a f d m):=by
 induction m with
 | zero=>intro e k h;cases h
 | succ m c=>intro e k h;have h:wQ K n a f d (o6 K n a f d m) e k=some r:=h;exact bh (aiu b c h)
theorem acv(z:ao K)(y:Rm M i r g l a I J)(h:Ab K n g l a J f b d=some r):ql M i r (gW 16372::Q5 M i r I) (Q8 g l a f b d):=by
 unfold Ab at h;refine av 6 7 3 ?_;obtain⟨e,h⟩|⟨e,h⟩:=am h
 ·refine ah 79 e (cN 8 9 3 3 5 (ai 1 ?_));obtain⟨q,h⟩:=aF h;refine au (ct 47 1 (ak .i64) q) (au (bO 3 0 (ak .i64) (ak .i64) (bH q).2 aT) (ac (av 2 3 1 (bK [0,2,9,13,14,15,16,76,77,78] [] [0,47,1075] ?_))));obtain⟨s,h⟩:=aF h;obtain⟨u,h⟩:=aF h;obtain⟨j,h⟩:=aF h;refine bQ 1 (nu 83 [.ref 1075,iI b,.ref 0,iI (gD a b),.eptr 0 9 (((gD a b)).toNat) 0,.eptr 0 9 (((gD a b)).toNat) 0,.eptr 0 9 (((gD a b)).toNat) 0,iI (((gD g ((gD a b))).Item).aA),iI l,.ref 1075,iI b,.eptr 1075 1 (b.toNat) 0,iI (gD d b),iI (aa (l*(gD d b))),iI (aa ((((gD g ((gD a b))).Item).aA)+(aa (l*(gD d b))))),.eptr 1075 1 (b.toNat) 0]) [] [] [d9 1075 ⟨3,1,lm (ak .i64) (List.set d b.toNat (aa ((((gD g ((gD a b))).Item).aA)+(aa (l*(gD d b))))))⟩] (ax (vz 4) (bi (cK 0 9 bB (L:=g) s) (ax (vz 2) (bi (bO 3 0 bB bB (bH s).2 aT) (ax (vz 3) (bi (cK 1075 1 (ak .i64) (L:=d) u) (bi (bO 3 0 (ak .i64) (ak .i64) (bH j).2 aT) (ax (vz 2) (bi (cK 1075 1 (ak .i64) (L:=d) j) (aj (dr (m:=0) (dC 1075 3 1 0 (ak .i64) (ak .i64) (aa ((((gD g ((gD a b))).Item).aA)+(aa (l*(gD d b))))) (bH j).2 aT)) bN)))))))))) ?_
  obtain⟨c,v,h⟩:=bW h;refine bw (ks':=gW 1047859 :: .b 3::gW 130983::Q5 M i r I) 0 ⟨[(0,.ref 0),(2,iI l),(9,.ref 47),(13,iI f),(14,.ref 1075),(15,iI b),(16,iI (gD a b)),(76,.ref 47),(77,iI (a.length:Int)),(78,iI b)],[],[(0,(b5 g)),(47,(bk a)),(1075,(bk c))],[0,47,1075,1000000,0]⟩ ?_ (by subst v;kernel_rfl);obtain⟨t,h⟩:=aF h;obtain⟨w,h⟩:=aF h;obtain⟨o,x,h⟩:=bind_some h;obtain⟨k,h⟩:=aF h;exact bQ 1 (nu 99 [iI f,.ref 0,iI (gD a b),.eptr 0 9 (((gD a b)).toNat) 0,.eptr 0 9 (((gD a b)).toNat) 0,.agg (cn ((gD g ((gD a b))).Item)),.ref 1075,iI b,.eptr 1075 1 (b.toNat) 0,iI (gD c b),iI o,.ref 1075,iI b,.eptr 1075 1 (b.toNat) 0,iI (gD c b),iI (aa (o-(gD c b))),iI (aa (f+(aa (o-(gD c b)))))]) [] [] [cf bb 170 Tryz.f161 (pn 1047859) 17] (ax (vz 3) (bi (cK 0 9 bB (L:=g) t) (ax [.v 0 1] (bi (bO 176 0 bB bB (bH t).2 aT) (ax (vz 2) (bi (cK 1075 1 (ak .i64) (L:=c) w) (bi (bO 3 0 (ak .i64) (ak .i64) (bH k).2 aT) (aj (cq 0 1 109 (JQ z x)) (ax (vz 2) (bi (cK 1075 1 (ak .i64) (L:=c) k) (bi (bO 3 0 (ak .i64) (ak .i64) (bH k).2 aT) (ax (vz 2) (aj (ce 0) bN))))))))))))) (ag 2 (bn (y h)))
 ·exact ah 79 e (tS 4 5 3 7 (ai 1 (au (bA (ak .i64) a) (ac (ag 1 (cd (p:=pn 16378) n (adj z n h)))))))
theorem Wz(c:ao K)(m:Nat):Rm M i r g l a m (wt K n g l a m):=by
 induction m with
 | zero=>intro f b d h;cases h
 | succ m e=>intro f b d h;have h:Ab K n g l a (wt K n g l a m) f b d=some r:=h;exact bh (acv c e h)
theorem SL(c:ao K)(h:vu K n g l a q C=some r):ql M i r [gW 255] (YA g l a q C):=by
 unfold vu at h;refine av 6 7 3 (ai 2 (mN 52 ?_));obtain⟨d,b,h⟩:=bind_some h;exact eS 1075 (ahf c b) (eX 21) (ac (cc 4 5 3 2 (ai 1 (au (bA (ak .i64) a) (ac (ag 1 (cd (p:=pn 8186) n (Wz c n h))))))))
theorem XR(k:ao K)(j:EF M i r g l G H)(h:ze K n g l H t u o a q=some r):ql M i r (gW 244::Jg M i r G) (Lo g l t u o a q):=by
 unfold ze at h;refine av 6 7 3 ?_;obtain⟨b,h⟩|⟨b,h⟩:=am h
 ·refine ah 25 b (cN 8 9 1 3 5 (ai 1 ?_));obtain⟨f,h⟩:=aF h;refine au (ct 0 9 bB f) (au (bO 220 0 bB bB (bH f).2 aT) (ac (av 5 3 3 ?_)));obtain⟨c,h⟩|⟨c,h⟩:=am h
  ·exact ah 30 c (ag 6 (RU k j h))
  ·refine ah 30 c ?_;obtain⟨w,m,h⟩:=bW h;obtain⟨x,p,h⟩:=bW h;refine bw (ks':=gW 125342::gW 125343 :: .b 1::gW 1959::Jg M i r G) 7 ⟨[(0,.ref 0),(2,iI l),(7,iI w),(8,iI x),(9,.ref 47),(10,.ref 52),(11,iI o),(12,.ptr 12 0),(22,.ref 0),(23,iI (g.length:Int)),(24,iI o)],[(12,bB (gD g o))],[(0,(b5 g)),(47,(bk a)),(52,(bk q))],[12,0,47,52,1000000,0]⟩ ?_ (by subst p;subst m;kernel_rfl);refine ai 3 ?_;obtain⟨s,h⟩:=aF h;refine au (cG 47 47 3 1 (ak .i64) (rfl) aT s) (ac (ai 4 ?_));obtain⟨v,h⟩:=aF h;exact au (cG 52 52 3 1 (ak .i64) (rfl) aT v) (ac (ag 1 (RU k j h)))
 ·refine ah 25 b (tS 4 5 3 7 (ai 1 (au (bA (ak .i64) a) (ac ?_))));obtain⟨d,h⟩|⟨d,h⟩:=am h
  ·refine ah 56 d (aL 5 ?_);cases h;exact fC
  ·refine ah 56 d (fq 13 7 7 ?_);obtain⟨e,h⟩|⟨e,h⟩:=am h
   ·exact ah 62 e (ag 2 (SL k h))
   ·exact ah 62 e (ag 2 (SL k h))
theorem aj7(b:ao K)(m:Nat):EF M i r g l m (uF K n g l m):=by
 induction m with
 | zero=>intro t u o a q h;cases h
 | succ m c=>intro t u o a q h;have h:ze K n g l (uF K n g l m) t u o a q=some r:=h;exact bh (XR b c h)
theorem WR(a:ao K)(h:vg K n g v2 l=some r):uz bb 161 [.ref 0,iI v2,iI l] 0 (b5 g) (fun v s=>v=.bool r.1∧look 0 s.r=some (b5 r.2)):=by
 refine B2 (c:=cat Tryz.f161 (pn 1)) Tryz.func161 (by kernel_rfl) _ Tryz.ntmps161 (kc (by kernel_rfl)) fun M i=>(bd ⟨[(0,.ref 0),(1,iI v2),(2,iI l)],[],[(0,(b5 g))],[0,1000000]⟩ ?_);unfold vg at h;exact cc 60 61 31 8 (ai 1 (au (bA bB g) (ac (ib 2 0 1 (bK [0,2,7,8,9,10,22,23,24] [] [0] (eL 47 9 3 1 (eL 52 10 3 1 (ag 0 (cd (p:=pn 122) n (aj7 a n h))))))))))
end
noncomputable section
variable[GS](M:Nat→Prop)(f:aA)(r:ck)(l:ek)(v2 g x t:Int)(c:ed)(d a:Int)(b u y o:ed)(i:Bool×ed)(k:Int)(q:ck)(A w B C:Nat)(D:Int→Int→ed→Option ck)(z:Int→ed→Option ck)(E:ed→Option ck)(F:Int→ck→Option ck)
abbrev nB:Cx:=⟨bb,158,M,f⟩
abbrev nq:=bodyPost bb Tryz.f129 (bJ M f (fun v s=>v=.ref 143∧look 143 s.r=some (bk r)))
abbrev rq(a:dt)(s:AS):=VE (nB M f) (nq M f r) a .normal s
abbrev dU(n:Nat):aq:=.c (cat Tryz.f129 (pn n))
abbrev F2:dt:=[.b 6,dU 4095]
abbrev aaW:dt:=kl (nB M f) (nq M f r) F2 (cat Tryz.f129 (pn 32756)) C::F2
abbrev JO:dt:=[.b 4,dU 1023]
abbrev aaY:dt:=kl (nB M f) (nq M f r) JO (cat Tryz.f129 (pn 4088)) B::JO
abbrev F1:dt:=[.b 2,dU 511]
abbrev wJ:dt:=kl (nB M f) (nq M f r) F1 (cat Tryz.f129 (pn 4084)) w::F1
abbrev EM:dt:=[.b 0,dU 63]
abbrev S9:dt:=kl (nB M f) (nq M f r) EM (cat Tryz.f129 (pn 500)) A::EM
def XZ:AS:=⟨[(1,iI g),(5,.ref 20),(9,iI d),(48,iI (c.length:Int)),(49,iI a)],[],[(20,(b5 y))],[20]⟩
def abL:AS:=⟨[(1,iI g),(5,.ref 20),(9,iI d),(11,.eptr 20 9 (a.toNat) 0),(48,iI (c.length:Int)),(49,iI a)],[],[(20,(b5 u))],[20]⟩
def Sr:AS:=⟨[(12,.ref 143),(144,.ref 20),(145,iI (i.2.length:Int)),(146,iI k)],[],[(20,(b5 i.2)),(143,(bk q))],[20,143]⟩
def SF:AS:=⟨[(1,iI g),(5,.ref 20),(9,iI d)],[],[(20,(b5 o))],[20]⟩
def Mm:AS:=⟨[(1,iI g),(5,.ref 20),(9,iI d),(48,iI (c.length:Int)),(49,iI a)],[],[(20,(b5 b))],[20]⟩
def aiC:AS:=⟨[(1,iI g),(5,.ref 20),(9,iI d)],[],[(20,(b5 c))],[20]⟩
def PH:AS:=⟨[(1,iI g),(5,.ref 20),(6,iI x),(21,.sl (lm cn l)),(22,iI (l.length:Int)),(23,iI t)],[],[(20,(b5 c))],[20]⟩
abbrev QP:Prop:=∀{x:Int} {t:Int} {c:ed},D x t c=some r→LP (nB M f) (nq M f r) EM (cat Tryz.f129 (pn 500)) A (PH l g x t c)
abbrev De:Prop:=∀{a:Int} {b:ed},z a b=some r→LP (nB M f) (nq M f r) F1 (cat Tryz.f129 (pn 4084)) w (Mm g c d a b)
abbrev QQ:Prop:=∀{o:ed},E o=some r→LP (nB M f) (nq M f r) JO (cat Tryz.f129 (pn 4088)) B (SF g d o)
abbrev LG:Prop:=∀{k:Int} {q:ck},F k q=some r→LP (nB M f) (nq M f r) F2 (cat Tryz.f129 (pn 32756)) C (Sr i k q)
variable{M f r l v2 g x t c d a b u y o i k q A w B C D z E F}{K:Kn}{n:Nat}
theorem Uk(e:ao K)(b:De M f r g c d w z)(h:AL K n g c d a z y=some r):rq M f r (.b 3::dU 32679::wJ M f r w) (XZ g c d a y):=by
 unfold AL at h;exact ag 2 (bn (b h))
theorem SI(j:ao K)(i:De M f r g c d w z)(h:zj K n g c d a z u=some r):rq M f r (dU 522855 :: .b 3::dU 32679::wJ M f r w) (abL g c d a u):=by
 unfold zj at h;refine ai 4 ?_;obtain⟨b,h⟩:=aF h;refine au (bO 4 8 bB bB (kc b) aT) (aQ 6 1 ?_);obtain⟨e,h⟩|⟨e,h⟩:=am h
 ·exact aD 127 e (aQ 14 8 (au (dC 20 220 9 8 bB bB ({ (gD u a)with fixed:=true }:aZ) (kc b) aT) (ac (ag 0 (Uk j i h)))))
 ·exact aD 127 e (aQ 9 3 (au (bO 3 5 bB bB (kc b) aT) (aQ 14 4 (au (dC 20 220 9 8 bB bB ({ (gD u a)with fixed:=(((gD u a).factor) == 0) }:aZ) (kc b) aT) (ac (ag 0 (Uk j i h)))))))
theorem XA(e:ao K)(d:LG M f r i C F)(h:zO K n i F k q=some r):rq M f r (dU 32756::aaW M f r C) (Sr i k q):=by
 unfold zO at h;refine av 6 7 3 ?_;obtain⟨a,h⟩|⟨a,h⟩:=am h
 ·refine ah 147 a (cN 8 9 7 3 5 (ai 1 ?_));obtain⟨b,h⟩:=aF h;refine au (ct 20 9 bB b) (au (bO 220 0 bB bB (bH b).2 aT) (ac (ai 4 ?_)));obtain⟨c,h⟩:=aF h;exact au (ct 143 1 (ak .i64) c) (au (dC 143 3 1 0 (ak .i64) (ak .i64) ((gD i.2 k).size) (bH c).2 aT) (ac (ag 2 (bn (d h)))))
 ·refine ah 147 a (aL 8 ?_);cases h;exact fC
theorem Zx(a:ao K)(m:Nat):LG M f r i m (uS K n i m):=by
 induction m with
 | zero=>intro k q h;cases h
 | succ m b=>intro k q h;have h:zO K n i (uS K n i m) k q=some r:=h;exact bh (XA a b h)
theorem YV(m:ao K)(k:QQ M f r g d B E)(h:Bf K n g d E o=some r):rq M f r (dU 4088::aaY M f r B) (SF g d o):=by
 unfold Bf at h;refine cc 4 5 3 2 (ai 3 ?_);obtain⟨i,b,h⟩:=bind_some h;refine s5 20 0 (WR m b) (ac ?_);obtain⟨a,h⟩|⟨a,h⟩:=am h
 ·exact ah 140 a (ag 5 (bn (k h)))
 ·refine ah 140 a (gH 2 3 6 (ai 1 (au (bA bB i.2) ?_)));obtain⟨c,h⟩:=aF h;refine oC (ak .i64) (0:Int) 72 (.tmp 142) (.tmp 142) 143 (e:=3) (sz:=1) (zc:=[iI 0]) (kd:=.i64) (kd':=.i64) c (ac ?_);obtain⟨l,j,h⟩:=bW h;refine bw (ks':=[dU 8188,dU 8189,dU 4095]) 2 ⟨[(5,.ref 20),(12,.ref 143)],[],[(20,(b5 i.2)),(143,(bk l))],[20,143]⟩ ?_ (by subst j;kernel_rfl);exact ai 1 (au (bA bB i.2) (ac (ag 1 (cd (p:=pn 16378) n (Zx m n h)))))
theorem ajo(a:ao K)(m:Nat):QQ M f r g d m (pL K n g d m):=by
 induction m with
 | zero=>intro o h;cases h
 | succ m b=>intro o h;have h:Bf K n g d (pL K n g d m) o=some r:=h;exact bh (YV a b h)
theorem akg(u:ao K)(t:De M f r g c d w z)(h:xS K n g c d z a b=some r):rq M f r (dU 4084::wJ M f r w) (Mm g c d a b):=by
 unfold xS at h;refine av 6 7 3 ?_;obtain⟨q,h⟩|⟨q,h⟩:=am h
 ·refine ah 50 q (cN 18 19 3 3 7 (ai 2 ?_));obtain⟨e,h⟩:=aF h;refine au (ct 20 9 bB e) (ac (av 5 3 3 ?_));obtain⟨s,h⟩|⟨s,h⟩:=am h
  ·refine ah 56 s (av 4 5 2 (bK [1,5,9,11,48,49] [] [20] (bQ 2 (nu 57 [.eptr 20 9 (a.toNat) 0,.eptr 20 9 (a.toNat) 0,.eptr 20 9 (a.toNat) 0,.eptr 20 9 (a.toNat) 0,.eptr 20 9 (a.toNat) 0,.eptr 20 9 (a.toNat) 1,iI (((gD b a).Item).Grow),.eptr 20 9 (a.toNat) 0,.eptr 20 9 (a.toNat) 0,.eptr 20 9 (a.toNat) 0,.eptr 20 9 (a.toNat) 1,iI (((gD b a).Item).Grow),.eptr 20 9 (a.toNat) 0,.eptr 20 9 (a.toNat) 5,.eptr 20 9 (a.toNat) 0,.eptr 20 9 (a.toNat) 6]) [] [] [d9 20 ⟨220,9,lm bB (List.set b a.toNat ({ (gD b a)with factor:=((gD b a).Item).Grow }:aZ))⟩,d9 20 ⟨220,9,lm bB (List.set (List.set b a.toNat ({ (gD b a)with factor:=((gD b a).Item).Grow }:aZ)) a.toNat ({ (gD (List.set b a.toNat ({ (gD b a)with factor:=((gD b a).Item).Grow }:aZ)) a)with weight:=((gD b a).Item).Grow }:aZ))⟩] (ax [.v 0 1,.v 0 2,.v 0 1,.v 0 1,.v 0 1,.v 0 1] (bi (bO 3 1 bB bB (bH e).2 aT) (ax [.v 0 2,.v 0 2,.v 0 2,.v 0 2] (bi (bO 3 1 bB bB (bH e).2 aT) (ax [.v 0 2,.v 0 1] (aj (dr (m:=0) (dC 20 220 9 5 bB bB ({ (gD b a)with factor:=((gD b a).Item).Grow }:aZ) (bH e).2 aT)) (ax [.v 1 2,.v 1 1] (aj (dr (m:=1) (dC 20 220 9 6 bB bB (L:=(List.set b a.toNat ({ (gD b a)with factor:=((gD b a).Item).Grow }:aZ))) (j:=a.toNat) ({ (gD (List.set b a.toNat ({ (gD b a)with factor:=((gD b a).Item).Grow }:aZ)) a)with weight:=((gD b a).Item).Grow }:aZ) (iz (bH e).2) aT)) bN)))))))) ?_)))
   obtain⟨i,l,h⟩:=bW h;refine bw (ks':=dU 4182837::dU 522855 :: .b 3::dU 32679::wJ M f r w) 0 ⟨[(1,iI g),(5,.ref 20),(9,iI d),(11,.eptr 20 9 (a.toNat) 0),(48,iI (c.length:Int)),(49,iI a)],[],[(20,(b5 i))],[20]⟩ ?_ (by subst l;kernel_rfl);exact bQ 1 (nu 73 [.eptr 20 9 (a.toNat) 0,.eptr 20 9 (a.toNat) 0,.eptr 20 9 (a.toNat) 0,.eptr 20 9 (a.toNat) 0,.eptr 20 9 (a.toNat) 0,iI (((gD i a).Item).aA),.eptr 20 9 (a.toNat) 0,.eptr 20 9 (a.toNat) 0,.eptr 20 9 (a.toNat) 7,iI ((gD i a).size),.bool (decide ((((gD i a).Item).aA)>((gD i a).size))),.eptr 20 9 (a.toNat) 0,.eptr 20 9 (a.toNat) 8]) [] [] [d9 20 ⟨220,9,lm bB (List.set i a.toNat ({ (gD i a)with fixed:=(decide ((((gD i a).Item).aA)>((gD i a).size))) }:aZ))⟩] (ax (vz 5) (bi (bO 3 0 bB bB (L:=i) (j:=a.toNat) (by rw[←l];exact(iz (iz (bH e).2))) aT) (ax (vz 3) (bi (bO 3 7 bB bB (L:=i) (j:=a.toNat) (by rw[←l];exact(iz (iz (bH e).2))) aT) (ax [.v 0 1,.v 0 2,.v 0 1] (aj (dr (m:=0) (dC 20 220 9 8 bB bB (L:=i) (j:=a.toNat) ({ (gD i a)with fixed:=(decide ((((gD i a).Item).aA)>((gD i a).size))) }:aZ) (by rw[←l];exact(iz (iz (bH e).2))) aT)) bN)))))) (ag 0 (SI u t h))
  ·refine ah 56 s (av 6 7 2 (bK [1,5,9,11,48,49] [] [20] (bQ 2 (nu 86 [.eptr 20 9 (a.toNat) 0,.eptr 20 9 (a.toNat) 0,.eptr 20 9 (a.toNat) 0,.eptr 20 9 (a.toNat) 0,.eptr 20 9 (a.toNat) 0,.eptr 20 9 (a.toNat) 2,iI (((gD b a).Item).Shrink),.eptr 20 9 (a.toNat) 0,.eptr 20 9 (a.toNat) 0,.eptr 20 9 (a.toNat) 0,.eptr 20 9 (a.toNat) 0,iI (((gD b a).Item).aA),.eptr 20 9 (a.toNat) 0,.eptr 20 9 (a.toNat) 0,.eptr 20 9 (a.toNat) 0,.eptr 20 9 (a.toNat) 2,iI (((gD b a).Item).Shrink),iI (aa ((((gD b a).Item).aA)*(((gD b a).Item).Shrink))),iI (aa (Int.tdiv (aa ((((gD b a).Item).aA)*(((gD b a).Item).Shrink))) 1000)),.eptr 20 9 (a.toNat) 0,.eptr 20 9 (a.toNat) 5,.eptr 20 9 (a.toNat) 0,.eptr 20 9 (a.toNat) 6]) [] [] [d9 20 ⟨220,9,lm bB (List.set b a.toNat ({ (gD b a)with factor:=((gD b a).Item).Shrink }:aZ))⟩,d9 20 ⟨220,9,lm bB (List.set (List.set b a.toNat ({ (gD b a)with factor:=((gD b a).Item).Shrink }:aZ)) a.toNat ({ (gD (List.set b a.toNat ({ (gD b a)with factor:=((gD b a).Item).Shrink }:aZ)) a)with weight:=(aa (Int.tdiv (aa ((((gD b a).Item).aA)*(((gD b a).Item).Shrink))) 1000)) }:aZ))⟩] (ax [.v 0 1,.v 0 2,.v 0 1,.v 0 1,.v 0 1,.v 0 1] (bi (bO 3 2 bB bB (bH e).2 aT) (ax [.v 0 2,.v 0 2,.v 0 2,.v 0 2] (bi (bO 3 0 bB bB (bH e).2 aT) (ax [.v 0 2,.v 0 2,.v 0 2,.v 0 2] (bi (bO 3 2 bB bB (bH e).2 aT) (ax [.v 0 2,.v 0 2,.v 0 2,.v 0 1] (aj (dr (m:=0) (dC 20 220 9 5 bB bB ({ (gD b a)with factor:=((gD b a).Item).Shrink }:aZ) (bH e).2 aT)) (ax [.v 1 2,.v 1 1] (aj (dr (m:=1) (dC 20 220 9 6 bB bB (L:=(List.set b a.toNat ({ (gD b a)with factor:=((gD b a).Item).Shrink }:aZ))) (j:=a.toNat) ({ (gD (List.set b a.toNat ({ (gD b a)with factor:=((gD b a).Item).Shrink }:aZ)) a)with weight:=(aa (Int.tdiv (aa ((((gD b a).Item).aA)*(((gD b a).Item).Shrink))) 1000)) }:aZ) (iz (bH e).2) aT)) bN)))))))))) ?_)))
   obtain⟨k,o,h⟩:=bW h;refine bw (ks':=dU 4182839::dU 522855 :: .b 3::dU 32679::wJ M f r w) 0 ⟨[(1,iI g),(5,.ref 20),(9,iI d),(11,.eptr 20 9 (a.toNat) 0),(48,iI (c.length:Int)),(49,iI a)],[],[(20,(b5 k))],[20]⟩ ?_ (by subst o;kernel_rfl);exact bQ 1 (nu 109 [.eptr 20 9 (a.toNat) 0,.eptr 20 9 (a.toNat) 0,.eptr 20 9 (a.toNat) 0,.eptr 20 9 (a.toNat) 0,.eptr 20 9 (a.toNat) 0,iI (((gD k a).Item).aA),.eptr 20 9 (a.toNat) 0,.eptr 20 9 (a.toNat) 0,.eptr 20 9 (a.toNat) 7,iI ((gD k a).size),.bool (decide ((((gD k a).Item).aA)<((gD k a).size))),.eptr 20 9 (a.toNat) 0,.eptr 20 9 (a.toNat) 8]) [] [] [d9 20 ⟨220,9,lm bB (List.set k a.toNat ({ (gD k a)with fixed:=(decide ((((gD k a).Item).aA)<((gD k a).size))) }:aZ))⟩] (ax (vz 5) (bi (bO 3 0 bB bB (L:=k) (j:=a.toNat) (by rw[←o];exact(iz (iz (bH e).2))) aT) (ax (vz 3) (bi (bO 3 7 bB bB (L:=k) (j:=a.toNat) (by rw[←o];exact(iz (iz (bH e).2))) aT) (ax [.v 0 1,.v 0 2,.v 0 1] (aj (dr (m:=0) (dC 20 220 9 8 bB bB (L:=k) (j:=a.toNat) ({ (gD k a)with fixed:=(decide ((((gD k a).Item).aA)<((gD k a).size))) }:aZ) (by rw[←o];exact(iz (iz (bH e).2))) aT)) bN)))))) (ag 0 (SI u t h))
 ·exact ah 50 q (ag 7 (cd (p:=pn 2044) n (ajo u n h)))
theorem af7(e:ao K)(m:Nat):De M f r g c d m (uY K n g c d m):=by
 induction m with
 | zero=>intro a b h;cases h
 | succ m i=>intro a b h;have h:xS K n g c d (uY K n g c d m) a b=some r:=h;exact bh (akg e i h)
theorem M8(a:ao K)(h:wC K n g c d=some r):rq M f r [dU 255] (aiC g c d):=by
 unfold wC at h;exact cc 4 5 3 2 (ai 1 (au (bA bB c) (ac (ag 1 (cd (p:=pn 2042) n (af7 a n h))))))
theorem abs(k:ao K)(u:QP M f r l g A D)(h:AZ K n l g D x t c=some r):rq M f r (dU 500::S9 M f r A) (PH l g x t c):=by
 unfold AZ at h;refine av 6 7 3 ?_;obtain⟨d,h⟩|⟨d,h⟩:=am h
 ·refine ah 24 d (cN 8 9 1 3 5 (ai 1 ?_));obtain⟨o,h⟩:=aF h;refine au (bE cn cn o (Gj) aT) (ac (av 2 3 1 (bK [1,5,6,7,8,21,22,23] [8] [20] ?_)));obtain⟨a,p,h⟩:=bind_some h;obtain⟨b,q,h⟩:=bind_some h;obtain⟨i,h⟩:=aF h;refine bQ 1 (nu 28 [.ref 20,iI t,.agg (cn (gD l t)),.agg (cn a),.agg (cn (gD l t)),iI b,.agg (bB ({ iV with Item:=a,size:=b }:aZ)),.eptr 20 9 (t.toNat) 0]) [] [] [d9 20 ⟨220,9,lm bB (List.set c t.toNat ({ iV with Item:=a,size:=b }:aZ))⟩] (ax (vz 3) (aj (cq 0 1 31 (Nt k p)) (ax [.v 0 1] (aj (cq 0 1 33 (Il k q)) (ax [.v 0 1] (bi (cK 20 9 bB (L:=c) i) (aj (dr (m:=0) (dC 20 220 9 0 bB bB ({ iV with Item:=a,size:=b }:aZ) (bH i).2 aT)) bN))))))) ?_;obtain⟨v,s,h⟩:=bW h;refine bw (ks':=dU 32051 :: .b 1::dU 4007::S9 M f r A) 0 ⟨[(1,iI g),(5,.ref 20),(6,iI x),(7,iI t),(21,.sl (lm cn l)),(22,iI (l.length:Int)),(23,iI t)],[],[(20,(b5 v))],[20]⟩ ?_ (by subst s;kernel_rfl)
  refine ai 3 ?_;obtain⟨j,h⟩:=aF h;exact au (ct 20 9 bB j) (aQ 5 1 (au (bO 3 7 bB bB (bH j).2 aT) (ac (ag 2 (bn (u h))))))
 ·refine ah 24 d (gH 13 7 10 ?_);obtain⟨e,h⟩|⟨e,h⟩:=am h
  ·exact ah 46 e (ag 2 (M8 k h))
  ·exact ah 46 e (ag 2 (M8 k h))
theorem ZB(a:ao K)(m:Nat):QP M f r l g m (vO K n l g m):=by
 induction m with
 | zero=>intro x t c h;cases h
 | succ m b=>intro x t c h;have h:AZ K n l g (vO K n l g m) x t c=some r:=h;exact bh (abs a b h)
theorem Md(d:ao K)(h:jH K n l v2=some r):aX bb 129 [.sl (lm cn l),iI v2] (fun v s=>v=.ref 143∧look 143 s.r=some (bk r)):=by
 refine bF (cat Tryz.f129 (pn 1)) Tryz.func129 Tryz.ntmps129 fun M f=>(bd ⟨[(0,.sl (lm cn l)),(1,iI v2)],[],[],[]⟩ ?_);unfold jH at h;obtain⟨g,a,h⟩:=bW h;refine bw (ks':=[dU 14,dU 15]) 5 ⟨[(0,.sl (lm cn l)),(1,iI g)],[],[],[]⟩ ?_ (by subst a;kernel_rfl);refine ai 1 (au (bA cn l) ?_);obtain⟨b,h⟩:=aF h;refine oC bB (iV:aZ) 218 (.tmp 19) (.tmp 19) 20 (e:=220) (sz:=9) (zc:=bB iV) (kd:=.i64) (kd':=.i64) b (ac ?_);obtain⟨v4,c,h⟩:=bW h;refine bw (ks':=[dU 124,dU 125,dU 63]) 4 ⟨[(0,.sl (lm cn l)),(1,iI g),(5,.ref 20),(6,iI 0)],[],[(20,(b5 v4))],[20]⟩ ?_ (by subst c;kernel_rfl);exact ai 1 (au (bA cn l) (ac (ag 1 (cd (p:=pn 250) n (ZB d n h)))))
end
noncomputable section
variable[GS](M:Nat→Prop)(w:aA)(r:dn×Int×Int×Int×dO)(C:ab)(v2:Int)(D:bu)(v4 v5:Int)(v6:dO)(B:d4)(x q:Int)(t:ck)(z:ek)(b d:ck)(f:dn)(i j:Int)(l:dO)(o:ae×Int×Int×dO)(A E F G:Int)(g:ck)(y a:Int)(u:dn)(I J:Nat)(N:Int→Int→ck→ek→ck→ck→dn→Int→Int→dO→Option hF)(O:Int→Int→dn→Option hF)
abbrev yH:Cx:=⟨bb,170,M,w⟩
abbrev xh:=bodyPost bb Tryz.f80 (bJ M w (fun v s=>v=.tup [.ref 440010,iI r.2.1]∧cy s.o [(af r.2.2.1 r.2.2.2.1)]∧look 440009 s.r=some (bt r.2.2.2.2)∧look 440010 s.r=some (bx r.1)))
abbrev CZ(a:dt)(s:AS):=VE (yH M w) (xh M w r) a .normal s
abbrev eE(n:Nat):aq:=.c (cat Tryz.f80 (pn n))
abbrev JT:dt:=[.b 2,eE 4095]
abbrev Hi:dt:=kl (yH M w) (xh M w r) JT (cat Tryz.f80 (pn 32756)) J::JT
abbrev GH:dt:=[.b 0,eE 511]
abbrev AW:dt:=kl (yH M w) (xh M w r) GH (cat Tryz.f80 (pn 4084)) I::GH
def acE:AS:=⟨[(1,iI v2),(3,.ptr 3 0),(5,.ptr 5 0),(8,.ref 116),(9,.ref 84),(10,.ref 99),(11,.ref 88),(12,iI x),(13,.ref 28),(16,.ptr 16 0),(18,iI A),(19,.ptr 19 0),(30,.ref 1030),(31,iI (B.length:Int)),(32,iI q)],[(3,aB C),(5,bI D),(16,aG o.1),(19,cn (⟨G,E,F,0,1048576⟩:bC)),(af o.2.1 o.2.2.1)],[(28,(bk t)),(84,⟨176,5,lm cn z⟩),(88,(bk b)),(99,(bk d)),(116,(bx f)),(1030,(bY B)),(440009,(bt o.2.2.2))],[3,5,16,19,440001,28,84,88,99,116,1030,440009,1440001,440001]⟩
def SQ:AS:=⟨[(8,.ref 116),(10,.ref 99),(11,.ref 88),(13,.ref 1125),(20,iI y),(127,iI (f.length:Int)),(128,iI a)],[(af i j)],[(88,(bk b)),(99,(bk d)),(116,(bx u)),(1125,(bk g)),(440009,(bt l))],[440001,88,99,116,1125,440009,1440001,440001]⟩
def aga:AS:=⟨[(8,.ref 116),(10,.ref 99),(11,.ref 88),(13,.ref 1125)],[(af i j)],[(88,(bk b)),(99,(bk d)),(116,(bx f)),(1125,(bk g)),(440009,(bt l))],[440001,88,99,116,1125,440009,1440001,440001]⟩
def O8:AS:=⟨[(1,iI v2),(3,.ptr 3 0),(5,.ptr 5 0),(8,.ref 116),(9,.ref 84),(10,.ref 99),(11,.ref 88),(12,iI x),(13,.ref 28),(30,.ref 1030),(31,iI (B.length:Int)),(32,iI q)],[(3,aB C),(5,bI D),(af i j)],[(28,(bk t)),(84,⟨176,5,lm cn z⟩),(88,(bk b)),(99,(bk d)),(116,(bx f)),(1030,(bY B)),(440009,(bt l))],[3,5,440001,28,84,88,99,116,1030,440009,1440001,440001]⟩
abbrev HM:Prop:=∀{x:Int} {q:Int} {t:ck} {z:ek} {b:ck} {d:ck} {f:dn} {i:Int} {j:Int} {l:dO},N x q t z b d f i j l=some r→LP (yH M w) (xh M w r) GH (cat Tryz.f80 (pn 4084)) I (O8 C v2 D B x q t z b d f i j l)
abbrev O0:Prop:=∀{y:Int} {a:Int} {u:dn},O y a u=some r→LP (yH M w) (xh M w r) JT (cat Tryz.f80 (pn 32756)) J (SQ b d f i j l g y a u)
variable{M w r C v2 D v4 v5 v6 B x q t z b d f i j l o A E F G g y a u I J N O}{K:Kn}{n:Nat}[SG w]
theorem R5(J:ao K)(L:HM M w r C v2 D B I N)(h:oh K n C v2 D B x q t z b d f o A E F N G=some r):CZ M w r (eE 4182847 :: .b 1::eE 32679::AW M w r I) (acE C v2 D B x q t z b d f o A E F G):=by
 unfold oh at h;refine av 2 3 1 (ai 3 ?_);obtain⟨i,h⟩:=aF h;refine au (cG 84 84 176 5 cn (rfl) (Gj) i) (ac ?_);obtain⟨g,j,h⟩:=bW h;refine bw (ks':=eE 16731390::eE 16731391 :: .b 1::eE 32679::AW M w r I) 1 ⟨[(1,iI v2),(3,.ptr 3 0),(5,.ptr 5 0),(8,.ref 116),(9,.ref 84),(10,.ref 99),(11,.ref 88),(12,iI x),(13,.ref 28),(16,.ptr 16 0),(18,iI A),(19,.ptr 19 0),(30,.ref 1030),(31,iI (B.length:Int)),(32,iI q)],[(3,aB C),(5,bI D),(16,aG o.1),(19,cn (⟨G,E,F,0,1048576⟩:bC)),(af o.2.1 o.2.2.1)],[(28,(bk t)),(84,⟨176,5,lm cn g⟩),(88,(bk b)),(99,(bk d)),(116,(bx f)),(1030,(bY B)),(440009,(bt o.2.2.2))],[3,5,16,19,440001,28,84,88,99,116,1030,440009,1440001,440001]⟩ ?_ (by subst j;kernel_rfl);refine ai 3 ?_;obtain⟨k,h⟩:=aF h;refine au (cG 88 88 3 1 (ak .i64) (rfl) aT k) (ac (av 2 3 1 (bK [1,3,5,8,9,10,11,12,13,16,18,19,30,31,32] [3,5,16,19,440001] [28,84,88,99,116,1030,440009] ?_)))
 obtain⟨a,l,h⟩:=bind_some h;obtain⟨c,p,h⟩:=bind_some h;obtain⟨s,h⟩:=aF h;refine bQ 2 (nu 89 [.ref 99,.ptr 16 61,.agg (cT o.1.Before),iI a,.agg (aG o.1),iI c,iI (aa (a+c)),iI A,iI (aa ((aa (a+c))+A)),.sl (lm (ak .i64) [(aa ((aa (a+c))+A))])]) [] [] [gA 99 99 ⟨3,1,lm (ak .i64) (d++[(aa ((aa (a+c))+A))])⟩,cf bb 170 Tryz.f80 (pn 33462782) 11] (ax [.v 0 1,.v 0 2,.v 0 2] (aj (cq 0 2 92 (my J l)) (ax [.v 0 2] (aj (cq 0 1 94 (Pz J p)) (ax [.v 0 2,.v 0 2,.v 0 2,.v 0 1] (aj (dr (m:=0) (cG 99 99 3 1 (ak .i64) (rfl) aT s)) (aj (ce 1) bN))))))) (av 2 3 1 (ai 3 (au (bA (ak .i64) (d++[(aa ((aa (a+c))+A))])) (aQ 5 1 ?_))));obtain⟨e,h⟩:=aF h;refine au (ct 99 1 (ak .i64) e) (au (bO 3 0 (ak .i64) (ak .i64) (bH e).2 aT) (ac ?_));obtain⟨O,u,h⟩:=bW h;refine bw (ks':=eE 133851134::eE 133851135 :: .b 1::eE 32679::AW M w r I) 1 ⟨[(1,iI v2),(3,.ptr 3 0),(5,.ptr 5 0),(8,.ref 116),(9,.ref 84),(10,.ref 99),(11,.ref 88),(12,iI O),(13,.ref 28),(16,.ptr 16 0),(19,.ptr 19 0),(30,.ref 1030),(31,iI (B.length:Int)),(32,iI q)],[(3,aB C),(5,bI D),(16,aG o.1),(19,cn (⟨G,E,F,0,1048576⟩:bC)),(af o.2.1 o.2.2.1)],[(28,(bk t)),(84,⟨176,5,lm cn g⟩),(88,⟨3,1,lm (ak .i64) (b++[A])⟩),(99,⟨3,1,lm (ak .i64) (d++[(aa ((aa (a+c))+A))])⟩),(116,(bx f)),(1030,(bY B)),(440009,(bt o.2.2.2))],[3,5,16,19,440001,28,84,88,99,116,1030,440009,1440001,440001]⟩ ?_ (by subst u;kernel_rfl)
 refine ai 2 ?_;obtain⟨P,v,h⟩:=bind_some h;refine aK (Il J v) (aQ 4 1 ?_);obtain⟨y,h⟩:=aF h;refine au (cG 112 28 3 1 (ak .i64) (rfl) aT y) (ac (ai 2 (au (gq aN ([o.1]:dn) (new:=[aG o.1]) (by simp only[q6,yk,dM])) ?_)));obtain⟨H,h⟩:=aF h;exact au (cG 116 116 44 67 aN (rfl) (jY) H) (ac (ag 2 (bn (L h))))
theorem aeB(F:ao K)(C:O0 M w r b d f i j l g J O)(h:AN K n b d f i j l g O y a u=some r):CZ M w r (eE 32756::Hi M w r J) (SQ b d f i j l g y a u):=by
 unfold AN at h;refine av 6 7 3 ?_;obtain⟨c,h⟩|⟨c,h⟩:=am h
 ·refine ah 129 c (cN 18 19 3 3 7 (bK [8,10,11,13,20,21,127,128] [440001] [88,99,116,1125,440009] ?_));obtain⟨o,h⟩:=aF h;obtain⟨p,h⟩:=aF h;obtain⟨e,h⟩:=aF h;refine bQ 1 (nu 131 [.ref 116,iI a,.ref 1125,iI a,.eptr 1125 1 (a.toNat) 0,iI (gD g a),.ref 88,iI a,.eptr 88 1 (a.toNat) 0,iI (gD b a),iI (aa ((gD g a)+(gD b a))),.eptr 116 67 (a.toNat) 0,.eptr 116 67 (a.toNat) 5]) [] [] [d9 116 ⟨44,67,lm aN (List.set u a.toNat ({ (gD u a)with H:=(aa ((gD g a)+(gD b a))) }:ae))⟩] (ax (vz 4) (bi (cK 1125 1 (ak .i64) (L:=g) o) (bi (bO 3 0 (ak .i64) (ak .i64) (bH o).2 aT) (ax (vz 2) (bi (cK 88 1 (ak .i64) (L:=b) p) (bi (bO 3 0 (ak .i64) (ak .i64) (bH p).2 aT) (ax [.v 0 1] (aj (gV (lo:=0) (k:=2) (dZ ⟨(by kernel_rfl),(d8 (cK 116 67 aN (L:=u) e) (by kernel_rfl))⟩ (dZ ⟨(by kernel_rfl),(d8 (cK 116 67 aN (L:=(List.set u a.toNat ({ (gD u a)with H:=(aa ((gD g a)+(gD b a))) }:ae))) e) (by kernel_rfl))⟩ iw))) (ax [.v 0 1] (aj (dr (m:=0) (dC 116 44 67 5 aN aG ({ (gD u a)with H:=(aa ((gD g a)+(gD b a))) }:ae) (bH e).2 (dM))) bN)))))))))) ?_
  obtain⟨x,z,h⟩:=bW h;refine bw (ks':=eE 4192870::eE 4192871 :: .b 3::eE 262055::Hi M w r J) 1 ⟨[(8,.ref 116),(10,.ref 99),(11,.ref 88),(13,.ref 1125),(20,iI y),(21,iI a),(127,iI (f.length:Int)),(128,iI a)],[(af i j)],[(88,(bk b)),(99,(bk d)),(116,(bx x)),(1125,(bk g)),(440009,(bt l))],[440001,88,99,116,1125,440009,1440001,440001]⟩ ?_ (by subst z;kernel_rfl);refine ai 5 ?_;obtain⟨q,h⟩:=aF h;refine au (ct 116 67 aN q) (aQ 7 1 (au (bO 41 61 aN aG (bH q).2 (dM)) ?_));obtain⟨D,A,h⟩:=bind_some h;refine aK (my F A) (aQ 10 1 ?_);obtain⟨s,h⟩:=aF h;refine au (ct 116 67 aN s) (aQ 12 1 (au (dC 116 44 67 3 aN aG ({ (gD x a)with Y:=(aa (y+D)) }:ae) (bH s).2 (dM)) (ac ?_)));obtain⟨E,B,h⟩:=bW h;refine bw (ks':=eE 4192871 :: .b 3::eE 262055::Hi M w r J) 0 ⟨[(8,.ref 116),(10,.ref 99),(11,.ref 88),(13,.ref 1125),(20,iI y),(21,iI a),(127,iI (f.length:Int)),(128,iI a)],[(af i j)],[(88,(bk b)),(99,(bk d)),(116,(bx E)),(1125,(bk g)),(440009,(bt l))],[440001,88,99,116,1125,440009,1440001,440001]⟩ ?_ (by subst B;kernel_rfl)
  obtain⟨t,h⟩:=aF h;obtain⟨v,h⟩:=aF h;exact bQ 1 (nu 156 [iI y,.ref 1125,iI a,.eptr 1125 1 (a.toNat) 0,iI (gD g a),.ref 99,iI a,.eptr 99 1 (a.toNat) 0,iI (gD d a),iI (aa ((gD g a)+(gD d a))),iI (aa (y+(aa ((gD g a)+(gD d a)))))]) [] [] [cf bb 170 Tryz.f80 (pn 4192871) 11] (ax (vz 3) (bi (cK 1125 1 (ak .i64) (L:=g) t) (bi (bO 3 0 (ak .i64) (ak .i64) (bH t).2 aT) (ax (vz 2) (bi (cK 99 1 (ak .i64) (L:=d) v) (bi (bO 3 0 (ak .i64) (ak .i64) (bH v).2 aT) (ax (vz 2) (aj (ce 0) bN)))))))) (ag 2 (bn (C h)))
 ·refine ah 129 c (aL 8 (vH 116 440010 ?_));cases h;exact Sv
theorem Wr(c:ao K)(m:Nat):O0 M w r b d f i j l g m (uA K n b d f i j l g m):=by
 induction m with
 | zero=>intro y a u h;cases h
 | succ m e=>intro y a u h;have h:AN K n b d f i j l g (uA K n b d f i j l g m) y a u=some r:=h;exact bh (aeB c e h)
theorem T5(a:ao K)(h:kn K n b d f i j l g=some r):CZ M w r [eE 1023] (aga b d f i j l g):=by
 unfold kn at h;exact cc 12 13 7 4 (ai 1 (au (bA aN f) (ac (ag 1 (cd (p:=pn 16378) n (Wr a n h))))))
theorem af1(a:ao K)(p:HM M w r C v2 D B I N)(h:zm K n C v2 D B N x q t z b d f i j l=some r):CZ M w r (eE 4084::AW M w r I) (O8 C v2 D B x q t z b d f i j l):=by
 unfold zm at h;refine av 6 7 3 ?_;obtain⟨c,h⟩|⟨c,h⟩:=am h
 ·refine ah 33 c (cN 8 9 1 3 5 (ai 0 ?_));obtain⟨k,h⟩:=aF h;refine au (ct 1030 59 aM k) (au (bO 48 0 aM aB (bH k).2 (d7)) (ac (av 2 3 1 (ai 4 ?_))));obtain⟨o,m,h⟩:=bind_some h;refine rt (a.de m).2 ?_ (a.de m).1;refine ac (av 2 3 1 (ai 3 ?_));obtain⟨Q,s,h⟩:=bind_some h;refine aK (m6 a s) (ac ?_);obtain⟨A,u,h⟩:=bW h;obtain⟨O,v,h⟩:=bW h;obtain⟨P,y,h⟩:=bW h;obtain⟨E,G,h⟩:=bW h;obtain⟨F,H,h⟩:=bW h;refine bw (ks':=eE 8365693::eE 4182847 :: .b 1::eE 32679::AW M w r I) 7 ⟨[(1,iI v2),(3,.ptr 3 0),(5,.ptr 5 0),(8,.ref 116),(9,.ref 84),(10,.ref 99),(11,.ref 88),(12,iI x),(13,.ref 28),(15,.ptr 15 0),(16,.ptr 16 0),(18,iI A),(19,.ptr 19 0),(30,.ref 1030),(31,iI (B.length:Int)),(32,iI q),(75,.bool O)],[(3,aB C),(5,bI D),(15,aB (gD B q)),(16,aG o.1),(19,cn (⟨P,E,F,0,1048576⟩:bC)),(af o.2.1 o.2.2.1)],[(28,(bk t)),(84,⟨176,5,lm cn z⟩),(88,(bk b)),(99,(bk d)),(116,(bx f)),(1030,(bY B)),(440009,(bt o.2.2.2))],[3,5,15,16,19,440001,28,84,88,99,116,1030,440009,1440001,440001]⟩ ?_ (by subst H;subst G;subst y;subst v;subst u;kernel_rfl)
  obtain⟨e,h⟩|⟨e,h⟩:=am h
  ·refine ah 75 e (bg 2 1 (ai 3 ?_));obtain⟨R,J,h⟩:=bind_some h;exact aK (Af a J) (ac (ag 0 (R5 a p h)))
  ·exact ah 75 e (ag 2 (R5 a p h))
 ·refine ah 33 c (gH 5 3 8 ?_);obtain⟨g,h⟩|⟨g,h⟩:=am h
  ·refine ah 122 g (bg 2 1 (ai 2 (mN 84 ?_)));obtain⟨S,L,h⟩:=bind_some h;exact eS 1125 (Md a L) (eX 143) (ac (ag 0 (T5 a h)))
  ·exact ah 122 g (b8 (ks':=[eE 1023]) 2 (bK [8,10,11,13] [440001] [28,88,99,116,440009] (vH 28 1125 (ag 0 (T5 a h)))))
theorem aiW(a:ao K)(m:Nat):HM M w r C v2 D B m (kU K n C v2 D B m):=by
 induction m with
 | zero=>intro x q t z b d f i j l h;cases h
 | succ m c=>intro x q t z b d f i j l h;have h:zm K n C v2 D B (kU K n C v2 D B m) x q t z b d f i j l=some r:=h;exact bh (af1 a c h)
theorem aeI(a:ao K)(h:zy K n C v2 D v4 v5 v6=some r):eo bb 80 [.agg (aB C),iI v2,.agg (bI D)] [(af v4 v5)] (bt v6) (fun v s=>v=.tup [.ref 440010,iI r.2.1]∧cy s.o [(af r.2.2.1 r.2.2.2.1)]∧look 440009 s.r=some (bt r.2.2.2.2)∧look 440010 s.r=some (bx r.1)):=by
 refine jO (c:=cat Tryz.f80 []) Tryz.func80 (by kernel_rfl) _ Tryz.ntmps80 (kc (by kernel_rfl)) fun M w=>(bd ⟨[(0,.agg (aB C)),(1,iI v2),(2,.agg (bI D))],[(af v4 v5)],[(440009,(bt v6))],[440009,440001,1440001]⟩ ?_);unfold zy at h;refine b8 (ks':=[eE 62,eE 63]) 9 (ai 3 ?_);obtain⟨f,b,h⟩:=bind_some h;refine aK (Af a b) (ac (av 6 7 3 (ai 0 (Ce 72 28 (e:=3) (sz:=1) (ac (cc 4 5 3 2 (ai 1 ?_)))))));obtain⟨B,d,h⟩:=bind_some h;exact eS 1030 (Fu a d) (eX 21) (au (bA aM B) (ac (ib 2 0 1 (bK [1,3,5,8,9,10,11,12,13,30,31,32] [3,5,440001] [28,1030,440009] (eL 116 8 44 67 (eL 84 9 176 5 (eL 99 10 3 1 (eL 88 11 3 1 (ag 0 (cd (p:=pn 2042) n (aiW a n h)))))))))))
end
noncomputable section
variable[GS](M:Nat→Prop)(b:aA)(r a:ck)(v2 d v4:Int)(v5:ck)(v6:Int)(f:Bool)(g:Int)(i:ck)(c:Nat)(e:Int→Int→ck→Option ck)
abbrev HJ:Cx:=⟨bb,33,M,b⟩
abbrev GQ:=bodyPost bb Tryz.f130 (bJ M b (fun v s=>v=.ref 29∧look 29 s.r=some (bk r)))
abbrev GJ(a:dt)(s:AS):=VE (HJ M b) (GQ M b r) a .normal s
abbrev oB(n:Nat):aq:=.c (cat Tryz.f130 (pn n))
abbrev H7:dt:=[.b 0,oB 31]
abbrev BV:dt:=kl (HJ M b) (GQ M b r) H7 (cat Tryz.f130 (pn 244)) c::H7
def ajw:AS:=⟨[(1,iI v2),(5,.ref 29),(6,iI g),(9,.sl (lm (ak .i64) a)),(10,iI (a.length:Int)),(11,iI v4)],[],[(29,(bk i))],[29]⟩
def abu:AS:=⟨[(1,iI v2),(5,.ref 29),(6,iI v6),(7,iI v4),(8,iI (gD a v4)),(9,.sl (lm (ak .i64) a)),(10,iI (a.length:Int)),(11,iI v4),(25,.bool f)],[],[(29,(bk v5))],[29]⟩
def OP:AS:=⟨[(1,iI v2),(5,.ref 29),(6,iI d),(9,.sl (lm (ak .i64) a)),(10,iI (a.length:Int)),(11,iI v4)],[],[(29,(bk v5))],[29]⟩
abbrev Ck:Prop:=∀{d:Int} {v4:Int} {v5:ck},e d v4 v5=some r→LP (HJ M b) (GQ M b r) H7 (cat Tryz.f130 (pn 244)) c (OP a v2 d v4 v5)
variable{M b r a v2 d v4 v5 v6 f g i c e}{K:Kn}{n:Nat}
theorem Mi(f:ao K)(d:Ck M b r a v2 c e)(h:uP K n a v2 v4 e g i=some r):GJ M b r (.b 1::oB 1959::BV M b r c) (ajw a v2 v4 g i):=by
 unfold uP at h;exact ag 2 (bn (d h))
theorem TU(j:ao K)(g:Ck M b r a v2 c e)(h:wG K n a v2 v4 v5 v6 e f=some r):GJ M b r (oB 31335 :: .b 1::oB 1959::BV M b r c) (abu a v2 v4 v5 v6 f):=by
 unfold wG at h;obtain⟨d,h⟩|⟨d,h⟩:=am h
 ·refine ah 25 d (av 4 5 2 (ai 3 ?_));obtain⟨i,h⟩:=aF h;exact au (cG 29 29 3 1 (ak .i64) (rfl) aT i) (ac (ag 1 (Mi j g h)))
 ·exact ah 25 d (ag 2 (Mi j g h))
theorem ahh(j:ao K)(g:Ck M b r a v2 c e)(h:tf K n a v2 e d v4 v5=some r):GJ M b r (oB 244::BV M b r c) (OP a v2 d v4 v5):=by
 unfold tf at h;refine av 6 7 3 ?_;obtain⟨i,h⟩|⟨i,h⟩:=am h
 ·refine ah 12 i (cN 8 9 1 3 5 (ai 1 ?_));obtain⟨k,h⟩:=aF h;refine au (bE (ak .i64) (ak .i64) k aT aT) (ac ?_);obtain⟨v6,l,h⟩:=bW h;refine bw (ks':=oB 31334::oB 31335 :: .b 1::oB 1959::BV M b r c) 3 ⟨[(1,iI v2),(5,.ref 29),(6,iI v6),(7,iI v4),(8,iI (gD a v4)),(9,.sl (lm (ak .i64) a)),(10,iI (a.length:Int)),(11,iI v4)],[],[(29,(bk v5))],[29]⟩ ?_ (by subst l;kernel_rfl);refine ai 3 ?_;obtain⟨f,h⟩|⟨f,h⟩:=am h
  ·exact aD 21 f (ac (ag 0 (TU j g h)))
  ·exact aD 21 f (ac (ag 0 (TU j g h)))
 ·refine ah 12 i (aL 8 ?_);cases h;exact fC
theorem aeV(c:ao K)(m:Nat):Ck M b r a v2 m (ru K n a v2 m):=by
 induction m with
 | zero=>intro d v4 v5 h;cases h
 | succ m e=>intro d v4 v5 h;have h:tf K n a v2 (ru K n a v2 m) d v4 v5=some r:=h;exact bh (ahh c e h)
theorem ait(c:ao K)(h:pQ K n a v2=some r):aX bb 130 [.sl (lm (ak .i64) a),iI v2] (fun v s=>v=.ref 29∧look 29 s.r=some (bk r)):=by
 refine bF (cat Tryz.f130 (pn 1)) Tryz.func130 Tryz.ntmps130 fun M b=>(bd ⟨[(0,.sl (lm (ak .i64) a)),(1,iI v2)],[],[],[]⟩ ?_);unfold pQ at h;exact cc 60 61 31 8 (ai 1 (au (bA (ak .i64) a) (ac (ib 2 0 1 (bK [1,5,6,9,10,11] [] [] (eL 29 5 3 1 (ag 0 (cd (p:=pn 122) n (aeV c n h)))))))))
end
noncomputable section
variable[GS](M:Nat→Prop)(b:aA)(r a:ab)(v2:Int)(v4 v6 e d:(V4 cw))  
abbrev kI(n:Nat):aq:=.c (cat Tryz.f131 (pn n))
abbrev QO:Cx:=⟨bb,40,M,b⟩
abbrev VC:=bodyPost bb Tryz.f131 (bJ M b (fun v _=>v=.agg (aB r)))
abbrev DU(a:dt)(s:AS):=VE (QO M b) (VC M b r) a .normal s
def adw:AS:=⟨[(2,.ptr 2 0),(4,.ptr 4 0),(21,.agg ((kT fh) a.Style.Margin)),(22,iI 3)],[(2,aB ({ a with Style:=({ a.Style with Width:=(⟨1,v2⟩:cw),MinWidth:=cj,MaxWidth:=cj,Margin:=d }:aI) }:ab)),(4,List.set (aB c9) 58 (.nils))],[],[2,4]⟩
def adp:AS:=⟨[(2,.ptr 2 0),(4,.ptr 4 0),(21,.agg ((kT fh) a.Style.Margin)),(22,iI 2)],[(2,aB ({ a with Style:=({ a.Style with Width:=(⟨1,v2⟩:cw),MinWidth:=cj,MaxWidth:=cj,Margin:=e }:aI) }:ab)),(4,List.set (aB c9) 58 (.nils))],[],[2,4]⟩
def Wq:AS:=⟨[(2,.ptr 2 0),(4,.ptr 4 0),(21,.agg ((kT fh) a.Style.Margin)),(22,iI 1)],[(2,aB ({ a with Style:=({ a.Style with Width:=(⟨1,v2⟩:cw),MinWidth:=cj,MaxWidth:=cj,Margin:=v6 }:aI) }:ab)),(4,List.set (aB c9) 58 (.nils))],[],[2,4]⟩
def Xt:AS:=⟨[(2,.ptr 2 0),(4,.ptr 4 0),(21,.agg ((kT fh) a.Style.Margin)),(22,iI 0)],[(2,aB ({ a with Style:=({ a.Style with Width:=(⟨1,v2⟩:cw),MinWidth:=cj,MaxWidth:=cj,Margin:=v4 }:aI) }:ab)),(4,List.set (aB c9) 58 (.nils))],[],[2,4]⟩
abbrev m8(m:Nat):dt:=kl (QO M b) (VC M b r) [.b 0,kI 31] (cat Tryz.f131 (pn 244)) m::[.b 0,kI 31]
variable{M b r a v2 v4 v6 e d}{K:Kn}{n:Nat}
theorem TY(c:ao K)(h:yu K n a v2 d=some r):DU M b r (.b 1::kI 1959::m8 M b r 36) (adw a v2 d):=by
 unfold yu at h;refine bw (ks':=m8 M b r 36) 2 ⟨[(2,.ptr 2 0),(4,.ptr 4 0),(21,.agg ((kT fh) a.Style.Margin)),(22,iI 4)],[(2,aB ({ a with Style:=({ a.Style with Width:=(⟨1,v2⟩:cw),MinWidth:=cj,MaxWidth:=cj,Margin:=d }:aI) }:ab)),(4,List.set (aB c9) 58 (.nils))],[],[2,4]⟩ (bn (bh (aL 11 ?_)));cases h;exact bv
theorem Tb(d:ao K)(h:uN K n a v2 e=some r):DU M b r (.b 1::kI 1959::m8 M b r 37) (adp a v2 e):=by
 unfold uN at h;refine bw (ks':=m8 M b r 37) 2 ⟨[(2,.ptr 2 0),(4,.ptr 4 0),(21,.agg ((kT fh) a.Style.Margin)),(22,iI 3)],[(2,aB ({ a with Style:=({ a.Style with Width:=(⟨1,v2⟩:cw),MinWidth:=cj,MaxWidth:=cj,Margin:=e }:aI) }:ab)),(4,List.set (aB c9) 58 (.nils))],[],[2,4]⟩ (bn (bh (du 114 115 1 15 10 (ai 1 ?_))));obtain⟨g,f,h⟩:=bind_some h;refine aK (eu d f) (ac (bg 3 2 ?_));obtain⟨c,h⟩|⟨c,h⟩:=am h
 ·exact ah 32 c (ag 2 (TY d h))
 ·exact ah 32 c (ag 2 (TY d h))
theorem NH(d:ao K)(h:uo K n a v2 v6=some r):DU M b r (.b 1::kI 1959::m8 M b r 38) (Wq a v2 v6):=by
 unfold uo at h;refine bw (ks':=m8 M b r 38) 2 ⟨[(2,.ptr 2 0),(4,.ptr 4 0),(21,.agg ((kT fh) a.Style.Margin)),(22,iI 2)],[(2,aB ({ a with Style:=({ a.Style with Width:=(⟨1,v2⟩:cw),MinWidth:=cj,MaxWidth:=cj,Margin:=v6 }:aI) }:ab)),(4,List.set (aB c9) 58 (.nils))],[],[2,4]⟩ (bn (bh (du 114 115 1 15 10 (ai 1 ?_))));obtain⟨f,e,h⟩:=bind_some h;refine aK (eu d e) (ac (bg 3 2 ?_));obtain⟨c,h⟩|⟨c,h⟩:=am h
 ·exact ah 32 c (ag 2 (Tb d h))
 ·exact ah 32 c (ag 2 (Tb d h))
theorem Pp(d:ao K)(h:t9 K n a v2 v4=some r):DU M b r (.b 1::kI 1959::m8 M b r 39) (Xt a v2 v4):=by
 unfold t9 at h;refine bw (ks':=m8 M b r 39) 2 ⟨[(2,.ptr 2 0),(4,.ptr 4 0),(21,.agg ((kT fh) a.Style.Margin)),(22,iI 1)],[(2,aB ({ a with Style:=({ a.Style with Width:=(⟨1,v2⟩:cw),MinWidth:=cj,MaxWidth:=cj,Margin:=v4 }:aI) }:ab)),(4,List.set (aB c9) 58 (.nils))],[],[2,4]⟩ (bn (bh (du 114 115 1 15 10 (ai 1 ?_))));obtain⟨v5,e,h⟩:=bind_some h;refine aK (eu d e) (ac (bg 3 2 ?_));obtain⟨c,h⟩|⟨c,h⟩:=am h
 ·exact ah 32 c (ag 2 (NH d h))
 ·exact ah 32 c (ag 2 (NH d h))
theorem Xh(e:ao K)(h:xL K n a v2=some r):aX bb 131 [.agg (aB a),iI v2] (fun v _=>v=.agg (aB r)):=by
 refine bF (cat Tryz.f131 (pn 1)) Tryz.func131 Tryz.ntmps131 fun M b=>(bd ⟨[(0,.agg (aB a)),(1,iI v2)],[],[],[]⟩ ?_);unfold xL at h;refine bw (ks':=[kI 122,.b 0,kI 31]) 10 ⟨[(2,.ptr 2 0),(4,.ptr 4 0),(21,.agg ((kT fh) a.Style.Margin)),(22,iI 0)],[(2,aB ({ a with Style:=({ a.Style with Width:=(⟨1,v2⟩:cw),MinWidth:=cj,MaxWidth:=cj }:aI) }:ab)),(4,List.set (aB c9) 58 (.nils))],[],[2,4]⟩ (nf 40 (c:=cat Tryz.f131 [1,1,1,0,1,0,0]) (by kernel_rfl) (bh (b8 (ks':=kI 15666::kI 15667 :: .b 1::kI 1959::m8 M b r 39) 10 (ai 1 ?_))));obtain⟨g,f,h⟩:=bind_some h;refine aK (eu e f) (ac (bg 3 2 ?_));obtain⟨d,h⟩|⟨d,h⟩:=am h
 ·exact ah 32 d (ag 2 (Pp e h))
 ·exact ah 32 d (ag 2 (Pp e h))
end
end Go.Proofs.YtocgkfoifehcbaaGreat
