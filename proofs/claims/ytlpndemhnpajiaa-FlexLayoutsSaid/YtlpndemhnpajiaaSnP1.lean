/- The runs of the functions that FlexLayouts reaches do what their plain forms say, part 1. Made by a program. -/
import Derived.Test.YtlpndemhnpajiaaSnGk
import Derived.Test.YtlpndemhnpajiaaSnP0
namespace Go.Proofs.Ytlpndemhnpajiaa
open Go.RowKit
set_option maxRecDepth 20000
set_option linter.all false
set_option linter.unusedVariables false
set_option linter.unusedSimpArgs false
noncomputable section
abbrev cx24 (M:Nat→Prop) (w0:Base):Cx:=⟨Try.prog,29,M,w0⟩
abbrev q24 (M:Nat→Prop) (w0:Base) (r:Bool):=bodyPost Try.prog Try.f24 (RetQ M w0 (fun v _=>v = .bool r))
def s24_j1 (v3:Bool):AS:=⟨[(2,.bool v3)],[],[],[]⟩
variable {K:Kn} {n:Nat} {M:Nat→Prop} {w0:Base} {r:Bool} {v1:List bU} {v3:Bool} 
abbrev cF24 (p:List Nat):Kont:=.c (cat Try.f24 p)
theorem tC (hK:KnOk K) (h:mM K n v3=some r):VE (cx24 M w0) (q24 M w0 r) [cF24 [1,1]] .normal (s24_j1 v3):=by
  unfold mM at h
  refine aM 1 ?_
  cases h
  exact bu
theorem g_law19_fits_ok (hK:KnOk K) (h:sG K n v1=some r):ACalls Try.prog 24 [.sl (lm bg v1)] (fun v _=>v = .bool r):=by
  refine bj (cat Try.f24 []) Try.func24 Try.ntmps24 fun M w0=>(bb ⟨[(0,.sl (lm bg v1))],[],[],[]⟩ ?_)
  unfold sG at h
  refine ac (ks':=[cF24 [1,0],cF24 [1,1]]) 3 (bL [0] [] [] ?_)
  obtain ⟨v2,h1,h⟩:=bind_some h
  rcases ao h with ⟨h2,h⟩ | ⟨h2,h⟩
  ·
   rcases ao h with ⟨h3,h⟩ | ⟨h3,h⟩
   ·
    obtain ⟨h4,h⟩:=aq h
    obtain ⟨h5,h⟩:=aq h
    rcases ao h with ⟨h6,h⟩ | ⟨h6,h⟩
    ·
     obtain ⟨h7,h⟩:=aq h
     exact bm 1 (nu 3 [.sl (lm bg v1),.bool v2,.bool true,.sl (lm bg v1),iI (v1.length:Int),.bool (decide ((v1.length:Int)>1)),.bool (decide ((v1.length:Int)>1)),.bool true,.sl (lm bg v1),.cptr (bg (gD v1 (1:Int))),.cptr (List.drop 0 (bg (gD v1 (1:Int)))),.int .u8 ((gD v1 (1:Int)).Depth),.sl (lm bg v1),.cptr (bg (gD v1 (0:Int))),.cptr (List.drop 0 (bg (gD v1 (0:Int)))),.int .u8 ((gD v1 (0:Int)).Depth),.bool (decide (((gD v1 (1:Int)).Depth)>((gD v1 (0:Int)).Depth))),.bool (decide (((gD v1 (1:Int)).Depth)>((gD v1 (0:Int)).Depth))),.bool true,.sl (lm bg v1),.cptr (bg (gD v1 (1:Int))),.cptr (List.drop 1 (bg (gD v1 (1:Int)))),.int .u8 ((gD v1 (1:Int)).Kind),.int .u8 (Int.tmod ((gD v1 (1:Int)).Kind) 2),.bool ((Int.tmod ((gD v1 (1:Int)).Kind) 2) == 0),.bool ((Int.tmod ((gD v1 (1:Int)).Kind) 2) == 0)]) [] [] [stp Try.prog 29 Try.f24 [1,0] 26] (am [.v 0 1] (aj (e_c 0 1 4 (tF hK h1)) (aj (e_b 0 5 (e:=v2) (b:=true) h2) (am [.v 0 1] (d_v (br bg v1) (am (vz 2) (aj (e_b 0 10 (e:=(decide ((v1.length:Int)>1))) (b:=true) h3) (am [.v 0 1] (d_v (bF bg bg h4 (dU) (fun _=>rfl)) (am (vz 3) (d_v (bF bg bg h5 (dU) (fun _=>rfl)) (am (vz 4) (aj (e_b 0 21 (e:=(decide (((gD v1 (1:Int)).Depth)>((gD v1 (0:Int)).Depth)))) (b:=true) h6) (am [.v 0 1] (d_v (bF bg bg h7 (dU) (fun _=>rfl)) (am (vz 5) (aj (e_d 0) bk))))))))))))))))) (ag 0 (tC hK h))
    ·
     exact bm 1 (nu 3 [.sl (lm bg v1),.bool v2,.bool true,.sl (lm bg v1),iI (v1.length:Int),.bool (decide ((v1.length:Int)>1)),.bool (decide ((v1.length:Int)>1)),.bool true,.sl (lm bg v1),.cptr (bg (gD v1 (1:Int))),.cptr (List.drop 0 (bg (gD v1 (1:Int)))),.int .u8 ((gD v1 (1:Int)).Depth),.sl (lm bg v1),.cptr (bg (gD v1 (0:Int))),.cptr (List.drop 0 (bg (gD v1 (0:Int)))),.int .u8 ((gD v1 (0:Int)).Depth),.bool (decide (((gD v1 (1:Int)).Depth)>((gD v1 (0:Int)).Depth))),.bool (decide (((gD v1 (1:Int)).Depth)>((gD v1 (0:Int)).Depth))),.bool false,.tup [],.tup [],.tup [],.tup [],.tup [],.tup [],.bool false]) [] [] [stp Try.prog 29 Try.f24 [1,0] 26] (am [.v 0 1] (aj (e_c 0 1 4 (tF hK h1)) (aj (e_b 0 5 (e:=v2) (b:=true) h2) (am [.v 0 1] (d_v (br bg v1) (am (vz 2) (aj (e_b 0 10 (e:=(decide ((v1.length:Int)>1))) (b:=true) h3) (am [.v 0 1] (d_v (bF bg bg h4 (dU) (fun _=>rfl)) (am (vz 3) (d_v (bF bg bg h5 (dU) (fun _=>rfl)) (am (vz 4) (aj (e_b 0 21 (e:=(decide (((gD v1 (1:Int)).Depth)>((gD v1 (0:Int)).Depth)))) (b:=false) h6) (aj (aD 0 1) (aj (aD 0 1) (aj (aD 0 1) (aj (aD 0 1) (aj (aD 0 1) (aj (aD 0 1) (am [.v 0 1] (aj (e_d 0) bk))))))))))))))))))))) (ag 0 (tC hK h))
   ·
    exact bm 1 (nu 3 [.sl (lm bg v1),.bool v2,.bool true,.sl (lm bg v1),iI (v1.length:Int),.bool (decide ((v1.length:Int)>1)),.bool (decide ((v1.length:Int)>1)),.bool false,.tup [],.tup [],.tup [],.tup [],.tup [],.tup [],.tup [],.tup [],.tup [],.bool false,.bool false,.tup [],.tup [],.tup [],.tup [],.tup [],.tup [],.bool false]) [] [] [stp Try.prog 29 Try.f24 [1,0] 26] (am [.v 0 1] (aj (e_c 0 1 4 (tF hK h1)) (aj (e_b 0 5 (e:=v2) (b:=true) h2) (am [.v 0 1] (d_v (br bg v1) (am (vz 2) (aj (e_b 0 10 (e:=(decide ((v1.length:Int)>1))) (b:=false) h3) (aj (aD 0 1) (aj (aD 0 1) (aj (aD 0 1) (aj (aD 0 1) (aj (aD 0 1) (aj (aD 0 1) (aj (aD 0 1) (aj (aD 0 1) (aj (aD 0 1) (am (vz 2) (aj (aD 0 1) (aj (aD 0 1) (aj (aD 0 1) (aj (aD 0 1) (aj (aD 0 1) (aj (aD 0 1) (am [.v 0 1] (aj (e_d 0) bk))))))))))))))))))))))))) (ag 0 (tC hK h))
  ·
   exact bm 1 (nu 3 [.sl (lm bg v1),.bool v2,.bool false,.tup [],.tup [],.tup [],.bool false,.bool false,.tup [],.tup [],.tup [],.tup [],.tup [],.tup [],.tup [],.tup [],.tup [],.bool false,.bool false,.tup [],.tup [],.tup [],.tup [],.tup [],.tup [],.bool false]) [] [] [stp Try.prog 29 Try.f24 [1,0] 26] (am [.v 0 1] (aj (e_c 0 1 4 (tF hK h1)) (aj (e_b 0 5 (e:=v2) (b:=false) h2) (aj (aD 0 1) (aj (aD 0 1) (aj (aD 0 1) (am (vz 2) (aj (aD 0 1) (aj (aD 0 1) (aj (aD 0 1) (aj (aD 0 1) (aj (aD 0 1) (aj (aD 0 1) (aj (aD 0 1) (aj (aD 0 1) (aj (aD 0 1) (am (vz 2) (aj (aD 0 1) (aj (aD 0 1) (aj (aD 0 1) (aj (aD 0 1) (aj (aD 0 1) (aj (aD 0 1) (am [.v 0 1] (aj (e_d 0) bk))))))))))))))))))))))))) (ag 0 (tC hK h))
end
def g7:=pth 6 1
def p43_1:=pth 5 1000
def p43_2:=pth 5 100001
def p43_3:=pth 5 10001
def p43_4:=pth 5 10001001
def p43_5:=pth 5 1000101
def p43_6:=pth 5 1000100100
def p43_7:=pth 5 1000100101
def p43_8:=pth 5 10001001010
def p43_9:=pth 5 10001001011
def p43_10:=pth 5 10001010
def p43_11:=pth 5 10001011
def p43_12:=pth 5 100000
def p43_13:=pth 5 1
def p43_14:=pth 5 100
def p43_15:=pth 0 111110
noncomputable section
abbrev cx43 (M:Nat→Prop) (w0:Base):Cx:=⟨Try.prog,95,M,w0⟩
abbrev q43 (M:Nat→Prop) (w0:Base) (r:ab×Int):=bodyPost Try.prog Try.f43 (RetQ M w0 (fun v s=>v = .tup [.agg (List.set (ax ({ r.1 with Kids:=[] }:ab)) 58 (.ref 72)),iI r.2]∧look 72 s.r=some ⟨50,59,lm aB r.1.Kids⟩))
abbrev cq (p:List Nat):Kont:=.c (cat Try.f43 p)
abbrev mT (M:Nat→Prop) (w0:Base) (r:ab×Int) (m1:Nat):Kont:=kl (cx43 M w0) (q43 M w0 r) [.b 0,cq g7] (cat Try.f43 p43_1) m1
def s43_j2 (v1:List bU) (v2:Int) (v3:Bool) (v8:Int) (v9:List ab) (v10:Bool):AS:=⟨[(0,.sl (lm bg v1)),(1,iI v8),(4,.ptr 4 0),(6,.ptr 6 0),(7,.int .u8 ((gD v1 v2).Depth)),(8,.bool v3),(60,.bool v10)],[(4,List.set (ax co) 58 (.nils)),(6,List.set (ax ({ co with Kind:=1,Node:=(w64 (10+v2)),Style:=(gD v1 v2).Style }:ab)) 58 (.ref 72))],[(72,⟨50,59,lm aB v9⟩)],[4,6,72]⟩
def s43_l3 (v1:List bU) (v2:Int) (v3:Bool) (v8:Int) (v9:List ab):AS:=⟨[(0,.sl (lm bg v1)),(1,iI v8),(4,.ptr 4 0),(6,.ptr 6 0),(7,.int .u8 ((gD v1 v2).Depth)),(8,.bool v3)],[(4,List.set (ax co) 58 (.nils)),(6,List.set (ax ({ co with Kind:=1,Node:=(w64 (10+v2)),Style:=(gD v1 v2).Style }:ab)) 58 (.ref 72))],[(72,⟨50,59,lm aB v9⟩)],[4,6,72]⟩
def s43_j1 (v1:List bU) (v2:Int) (v3:Bool):AS:=⟨[(0,.sl (lm bg v1)),(1,iI (w64 (v2+1))),(4,.ptr 4 0),(6,.ptr 6 0),(7,.int .u8 ((gD v1 v2).Depth)),(8,.bool v3)],[(4,List.set (ax co) 58 (.nils)),(6,List.set (ax ({ co with Kind:=1,Node:=(w64 (10+v2)),Style:=(gD v1 v2).Style }:ab)) 58 (.nils))],[],[4,6]⟩
abbrev H43_1 (M:Nat→Prop) (w0:Base) (r:ab×Int) (v1:List bU) (v2:Int) (v3:Bool) (m1:Nat) (L1:Int→(List ab)→Option (ab×Int)):Prop:=∀ {v8:Int} {v9:List ab},L1 v8 v9=some r→LP (cx43 M w0) (q43 M w0 r) [.b 0,cq g7] (cat Try.f43 p43_1) m1 (s43_l3 v1 v2 v3 v8 v9)
variable {K:Kn} {n:Nat} {M:Nat→Prop} {w0:Base} {r:ab×Int} {v1:List bU} {v2:Int} {v3:Bool} {v8:Int} {v9:List ab} {v10:Bool} {m1:Nat} {L1:Int→(List ab)→Option (ab×Int)}
theorem wx (hK:KnOk K) (hL1:H43_1 M w0 r v1 v2 v3 m1 L1) (h:gT K n v1 v2 v3 v8 v9 L1 v10=some r):VE (cx43 M w0) (q43 M w0 r) [cq p43_2,cq p43_3,mT M w0 r m1,.b 0,cq g7] .normal (s43_j2 v1 v2 v3 v8 v9 v10):=by
  unfold gT at h
  rcases ao h with ⟨h27,h⟩ | ⟨h27,h⟩
  ·
   refine ak 60 h27 (ac (ks':=[cq p43_4,cq p43_5,.b 1,mT M w0 r m1,.b 0,cq g7]) 6 ?_)
   rcases ao h with ⟨h28,h⟩ | ⟨h28,h⟩
   ·
    refine ak 61 h28 (ac (ks':=[cq p43_6,cq p43_7,cq p43_5,.b 1,mT M w0 r m1,.b 0,cq g7]) 2 (ai 2 ?_))
    obtain ⟨v11,h29,h⟩:=bind_some h
    refine aC (hK.ox h29) (ae (ac (ks':=[cq p43_8,cq p43_9,cq p43_5,.b 1,mT M w0 r m1,.b 0,cq g7]) 1 (ai 3 (ap (dN aB ([v11.1]:List ab) (new:=[ax v11.1]) (by simp only [List.map_cons,List.map_nil,b9])) ?_))))
    obtain ⟨h30,h⟩:=aq h
    exact ap (cb 72 72 50 59 aB (rfl) (cj) h30) (ae (ag 5 (aY (hL1 h))))
   ·
    refine ak 61 h28 (ac (ks':=[cq p43_10,cq p43_11,.b 1,mT M w0 r m1,.b 0,cq g7]) 3 (bL [0,1,4,6,7,8] [4,6] [72] ?_))
    obtain ⟨h31,h⟩:=aq h
    obtain ⟨h32,h⟩:=aq h
    obtain ⟨h33,h⟩:=aq h
    exact bm 2 (nu 75 [.ptr 6 58,.ref 72,.sl (lm bg v1),iI v8,.cptr (bg (gD v1 v8)),.cptr (List.drop 5 (bg (gD v1 v8))),.agg (aL ((gD v1 v8).Style)),.sl (lm bg v1),iI v8,.cptr (bg (gD v1 v8)),.cptr (List.drop 2 (bg (gD v1 v8))),.str ((gD v1 v8).Text),.agg (List.set (ax ({ co with Kind:=3,Style:=(gD v1 v8).Style,Text:=(gD v1 v8).Text }:ab)) 58 (.nils)),.sl (lm aB [({ co with Kind:=3,Style:=(gD v1 v8).Style,Text:=(gD v1 v8).Text }:ab)])]++nu 90 [.ptr 6 58]) [] [] [appS 89 72 ⟨50,59,lm aB (v9++[({ co with Kind:=3,Style:=(gD v1 v8).Style,Text:=(gD v1 v8).Text }:ab)])⟩,stp Try.prog 95 Try.f43 p43_10 16] (am [.v 0 2,.v 0 1,.v 0 2,.v 0 2] (aj (k_v (lo:=0) (k:=2) (bP ⟨(by kernel_rfl),(bQ (bF bg bg h31 (dU) (fun _=>rfl)) (by kernel_rfl))⟩ (bP ⟨(by kernel_rfl),(bQ (bF bg bg h31 (dU) (fun _=>rfl)) (by kernel_rfl))⟩ cF))) (am [.v 0 2,.v 0 2,.v 0 2,.v 0 2] (aj (k_v (lo:=0) (k:=2) (bP ⟨(by kernel_rfl),(bQ (bF bg bg h32 (dU) (fun _=>rfl)) (by kernel_rfl))⟩ (bP ⟨(by kernel_rfl),(bQ (bF bg bg h32 (dU) (fun _=>rfl)) (by kernel_rfl))⟩ cF))) (am [.v 0 2,.v 0 2,.v 0 2] (d_v (dN aB ([({ co with Kind:=3,Style:=(gD v1 v8).Style,Text:=(gD v1 v8).Text }:ab)]:List ab) (new:=[ax ({ co with Kind:=3,Style:=(gD v1 v8).Style,Text:=(gD v1 v8).Text }:ab)]) (by simp only [List.map_cons,List.map_nil,b9])) (aj (e_s (m:=0) (cb 89 72 50 59 aB (rfl) (cj) h33)) (am [.v 1 1] (aj (e_d 1) bk))))))))) (ag 2 (aY (hL1 h)))
  ·
   refine ak 60 h27 (aM 8 ?_)
   cases h
   exact eH
theorem yV (hK:KnOk K) (hL1:H43_1 M w0 r v1 v2 v3 m1 L1) (h:qn K n v1 v2 v3 L1 v8 v9=some r):VE (cx43 M w0) (q43 M w0 r) [cq p43_1,mT M w0 r m1,.b 0,cq g7] .normal (s43_l3 v1 v2 v3 v8 v9):=by
  unfold qn at h
  refine ac (ks':=[cq p43_12,cq p43_2,cq p43_3,mT M w0 r m1,.b 0,cq g7]) 2 (ai 2 (ap (br bg v1) (aO 5 2 ?_)))
  rcases ao h with ⟨h25,h⟩ | ⟨h25,h⟩
  ·
   refine aK 52 h25 (aO 7 2 ?_)
   obtain ⟨h26,h⟩:=aq h
   exact ap (bF bg bg h26 (dU) (fun _=>rfl)) (ae (ag 0 (wx hK hL1 h)))
  ·
   exact aK 52 h25 (ae (ag 0 (wx hK hL1 h)))
theorem AK (hK:KnOk K) (m:Nat):H43_1 M w0 r v1 v2 v3 m (fT K n v1 v2 v3 m):=by
  induction m with
 | zero=>intro v8 v9 h; cases h
 | succ m ih=>intro v8 v9 h; have h:qn K n v1 v2 v3 (fT K n v1 v2 v3 m) v8 v9=some r:=h; exact aR (yV hK ih h)
theorem uP (hK:KnOk K) (h:mw K n v1 v2 v3=some r):VE (cx43 M w0) (q43 M w0 r) [cq p43_13] .normal (s43_j1 v1 v2 v3):=by
  unfold mw at h
  exact ac (ks':=[cq p43_14,.b 0,cq g7]) 2 (ve_wo 72 6 58 50 59 (ag 0 (bE (p:=p43_14) n (AK hK n h))))
theorem wA (hK:KnOk K) (h:mZ K n v1 v2=some r):ACalls Try.prog 43 [.sl (lm bg v1),iI v2] (fun v s=>v = .tup [.agg (List.set (ax ({ r.1 with Kids:=[] }:ab)) 58 (.ref 72)),iI r.2]∧look 72 s.r=some ⟨50,59,lm aB r.1.Kids⟩):=by
  refine bj (cat Try.f43 []) Try.func43 Try.ntmps43 fun M w0=>(bb ⟨[(0,.sl (lm bg v1)),(1,iI v2)],[],[],[]⟩ ?_)
  unfold mZ at h
  refine ac (ks':=[cq [1,0],cq [1,1]]) 3 (ai 4 ?_)
  obtain ⟨h1,h⟩:=aq h
  refine ap (bF bg bg h1 (dU) (fun _=>rfl)) (ae (ac (ks':=[cq [1,1,0],cq [1,1,1]]) 1 (ai 2 ?_)))
  obtain ⟨h2,h⟩:=aq h
  refine ap (bF bg bg h2 (dU) (fun _=>rfl)) (ae (ac (ks':=[cq p43_15,cq p43_13]) 3 (ai 2 (ap (br bg v1) (aO 5 2 ?_)))))
  rcases ao h with ⟨h3,h⟩ | ⟨h3,h⟩
  ·
   refine aK 30 h3 (aO 7 2 ?_)
   obtain ⟨h4,h⟩:=aq h
   refine ap (bF bg bg h4 (dU) (fun _=>rfl)) (aO 14 6 ?_)
   rcases ao h with ⟨h5,h⟩ | ⟨h5,h⟩
   ·
    refine aK 39 h5 (aO 16 2 ?_)
    obtain ⟨h6,h⟩:=aq h
    exact ap (bF bg bg h6 (dU) (fun _=>rfl)) (ae (ag 0 (uP hK h)))
   ·
    exact aK 39 h5 (ae (ag 0 (uP hK h)))
  ·
   exact aK 30 h3 (ae (ag 0 (uP hK h)))
end
noncomputable section
variable {K:Kn} {n:Nat} {M:Nat→Prop} {w0:Base} {r:ab} {v1:List bU} 
abbrev cF25 (p:List Nat):Kont:=.c (cat Try.f25 p)
theorem wT (hK:KnOk K) (h:nJ K n v1=some r):ACalls Try.prog 25 [.sl (lm bg v1)] (fun v s=>v = .agg (List.set (ax ({ r with Kids:=[] }:ab)) 58 (.ref 1007))∧look 1007 s.r=some ⟨50,59,lm aB r.Kids⟩):=by
  refine bj (cat Try.f25 []) Try.func25 Try.ntmps25 fun M w0=>(bb ⟨[(0,.sl (lm bg v1))],[],[],[]⟩ ?_)
  unfold nJ at h
  refine ac (ks':=[cF25 [1,0],cF25 [1,1]]) 3 (ai 1 ?_)
  obtain ⟨v2,h1,h⟩:=bind_some h
  refine cv 1007 (wA hK h1) (one_tupa (i:=0) (j:=58) rfl (by kernel_rfl)) (ae (aM 5 ?_))
  cases h
  exact cP
end
noncomputable section
variable {K:Kn} {n:Nat} {M:Nat→Prop} {w0:Base} {r:bw}  
theorem tZ (hK:KnOk K) (h:ff K n=some r):ACalls Try.prog 29 [] (fun v _=>v = .agg (ce r)):=by
  refine bj (cat Try.f29 []) Try.func29 Try.ntmps29 fun M w0=>(bb ⟨[],[],[],[]⟩ ?_)
  unfold ff at h
  refine aM 5 ?_
  cases h
  exact bu
end
def p31_0:=pth 0 1110100
def p31_1:=pth 0 111010000
def p31_2:=pth 0 111010001
def p31_3:=pth 0 11101001
def p31_4:=pth 0 11101001000
def p31_5:=pth 0 11101001001
def p31_6:=pth 0 111010011
def p31_7:=pth 0 111010
noncomputable section
abbrev cx31 (M:Nat→Prop) (w0:Base):Cx:=⟨Try.prog,116,M,w0⟩
abbrev q31 (M:Nat→Prop) (w0:Base) (r:Bool):=bodyPost Try.prog Try.f31 (RetQ M w0 (fun v _=>v = .bool r))
abbrev dF (p:List Nat):Kont:=.c (cat Try.f31 p)
abbrev k31_1 (M:Nat→Prop) (w0:Base) (r:Bool) (m1:Nat):Kont:=kl (cx31 M w0) (q31 M w0 r) [.b 0,dF [1,1,1]] (cat Try.f31 p31_0) m1
def s31_l2 (v1 v2:aa) (v6:Int):AS:=⟨[(2,.ptr 2 0),(3,.ptr 3 0),(5,iI v6)],[(2,az v1),(3,az v2)],[],[2,3]⟩
def s31_j1 (v1 v2:aa) (v3:Bool):AS:=⟨[(2,.ptr 2 0),(3,.ptr 3 0),(96,.bool v3)],[(2,az v1),(3,az v2)],[],[2,3]⟩
abbrev H31_1 (M:Nat→Prop) (w0:Base) (r:Bool) (v1 v2:aa) (m1:Nat) (L1:Int→Option Bool):Prop:=∀ {v6:Int},L1 v6=some r→LP (cx31 M w0) (q31 M w0 r) [.b 0,dF [1,1,1]] (cat Try.f31 p31_0) m1 (s31_l2 v1 v2 v6)
variable {K:Kn} {n:Nat} {M:Nat→Prop} {w0:Base} {r:Bool} {v1 v2:aa} {v3:Bool} {v6:Int} {m1:Nat} {L1:Int→Option Bool}
theorem Ba (hK:KnOk K) (hL1:H31_1 M w0 r v1 v2 m1 L1) (h:qL K n v1 v2 L1 v6=some r):VE (cx31 M w0) (q31 M w0 r) [dF p31_0,k31_1 M w0 r m1,.b 0,dF [1,1,1]] .normal (s31_l2 v1 v2 v6):=by
  unfold qL at h
  refine ac (ks':=[dF p31_1,dF p31_2,dF p31_3,k31_1 M w0 r m1,.b 0,dF [1,1,1]]) 2 (ai 3 (ap (br au v1.Kids) (ae ?_)))
  rcases ao h with ⟨h20,h⟩ | ⟨h20,h⟩
  ·
   refine ak 101 h20 (ac (ks':=[dF p31_4,dF p31_5,.b 1,dF p31_6,k31_1 M w0 r m1,.b 0,dF [1,1,1]]) 5 (bL [2,3,5] [2,3] [] ?_))
   obtain ⟨h21,h⟩:=aq h
   obtain ⟨h22,h⟩:=aq h
   obtain ⟨v7,h23,h⟩:=bind_some h
   refine bm 0 (nu 104 [.ptr 2 66,.sl (lm au v1.Kids),iI v6,.cptr (az (gD v1.Kids v6)),.agg (az (gD v1.Kids v6)),.ptr 3 66,.sl (lm au v2.Kids),iI v6,.cptr (az (gD v2.Kids v6)),.agg (az (gD v2.Kids v6)),.bool v7,.bool (!v7)]) [] [] [] (am (vz 3) (d_v (bF au az h21 (dR) (cp)) (am (vz 4) (d_v (bF au az h22 (dR) (cp)) (am [.v 0 1] (aj (e_c 0 1 114 (hK.sX h23)) (am [.v 0 1] bk))))))) ?_
   rcases ao h with ⟨h24,h⟩ | ⟨h24,h⟩
   ·
    refine ak 115 h24 (aM 9 ?_)
    cases h
    exact bu
   ·
    exact ak 115 h24 (ag 4 (aY (hL1 h)))
  ·
   refine ak 101 h20 (aM 8 ?_)
   cases h
   exact bu
theorem zg (hK:KnOk K) (m:Nat):H31_1 M w0 r v1 v2 m (oK K n v1 v2 m):=by
  induction m with
 | zero=>intro v6 h; cases h
 | succ m ih=>intro v6 h; have h:qL K n v1 v2 (oK K n v1 v2 m) v6=some r:=h; exact aR (Ba hK ih h)
theorem fp (hK:KnOk K) (h:dZ K n v1 v2 v3=some r):VE (cx31 M w0) (q31 M w0 r) [dF [1,0,1],dF [1,1]] .normal (s31_j1 v1 v2 v3):=by
  unfold dZ at h
  rcases ao h with ⟨h13,h⟩ | ⟨h13,h⟩
  ·
   refine ak 96 h13 (aM 5 ?_)
   cases h
   exact bu
  ·
   exact ak 96 h13 (ag 6 (bE (p:=p31_7) n (zg hK n h)))
theorem yn (hK:KnOk K) (h:nD K n v1 v2=some r):ACalls Try.prog 31 [.agg (az v1),.agg (az v2)] (fun v _=>v = .bool r):=by
  refine bj (cat Try.f31 []) Try.func31 Try.ntmps31 fun M w0=>(bb ⟨[(0,.agg (az v1)),(1,.agg (az v2))],[],[],[]⟩ ?_)
  unfold nD at h
  refine ac (ks':=[dF [1,0,0],dF [1,0,1],dF [1,1]]) 4 (ai 6 ?_)
  rcases ao h with ⟨h1,h⟩ | ⟨h1,h⟩
  ·
   exact aK 11 h1 (ae (ag 0 (fp hK h)))
  ·
   refine aK 11 h1 (aO 13 7 ?_)
   rcases ao h with ⟨h2,h⟩ | ⟨h2,h⟩
   ·
    exact aK 18 h2 (ae (ag 0 (fp hK h)))
   ·
    refine aK 18 h2 (aO 20 7 ?_)
    rcases ao h with ⟨h3,h⟩ | ⟨h3,h⟩
    ·
     exact aK 25 h3 (ae (ag 0 (fp hK h)))
    ·
     refine aK 25 h3 (aO 27 7 ?_)
     rcases ao h with ⟨h4,h⟩ | ⟨h4,h⟩
     ·
      exact aK 32 h4 (ae (ag 0 (fp hK h)))
     ·
      refine aK 32 h4 (aO 34 7 ?_)
      rcases ao h with ⟨h5,h⟩ | ⟨h5,h⟩
      ·
       exact aK 39 h5 (ae (ag 0 (fp hK h)))
      ·
       refine aK 39 h5 (aO 41 7 ?_)
       rcases ao h with ⟨h6,h⟩ | ⟨h6,h⟩
       ·
        exact aK 46 h6 (ae (ag 0 (fp hK h)))
       ·
        refine aK 46 h6 (aO 48 7 ?_)
        rcases ao h with ⟨h7,h⟩ | ⟨h7,h⟩
        ·
         exact aK 53 h7 (ae (ag 0 (fp hK h)))
        ·
         refine aK 53 h7 (aO 55 7 ?_)
         rcases ao h with ⟨h8,h⟩ | ⟨h8,h⟩
         ·
          exact aK 60 h8 (ae (ag 0 (fp hK h)))
         ·
          refine aK 60 h8 (aO 62 7 ?_)
          rcases ao h with ⟨h9,h⟩ | ⟨h9,h⟩
          ·
           exact aK 67 h9 (ae (ag 0 (fp hK h)))
          ·
           refine aK 67 h9 (aO 69 7 ?_)
           rcases ao h with ⟨h10,h⟩ | ⟨h10,h⟩
           ·
            exact aK 74 h10 (ae (ag 0 (fp hK h)))
           ·
            refine aK 74 h10 (aO 76 7 ?_)
            rcases ao h with ⟨h11,h⟩ | ⟨h11,h⟩
            ·
             exact aK 81 h11 (ae (ag 0 (fp hK h)))
            ·
             refine aK 81 h11 (aO 83 7 ?_)
             rcases ao h with ⟨h12,h⟩ | ⟨h12,h⟩
             ·
              exact aK 88 h12 (ae (ag 0 (fp hK h)))
             ·
              exact aK 88 h12 (aO 85 2 (ap (br au v1.Kids) (aO 88 2 (ap (br au v2.Kids) (ae (ag 0 (fp hK h)))))))
end
noncomputable section
variable {K:Kn} {n:Nat} {M:Nat→Prop} {w0:Base} {r v1:Int} 
theorem gb (hK:KnOk K) (h:dw K n v1=some r):ACalls Try.prog 77 [iI v1] (fun v _=>v=iI r):=by
  refine bj (cat Try.f77 []) Try.func77 Try.ntmps77 fun M w0=>(bb ⟨[(0,iI v1)],[],[],[]⟩ ?_)
  unfold dw at h
  refine aM 5 ?_
  cases h
  exact bu
end
def p48_0:=pth 0 1110101
def p48_1:=pth 0 111010111
def p48_2:=pth 0 1110101110
noncomputable section
abbrev cx48 (M:Nat→Prop) (w0:Base):Cx:=⟨Try.prog,25,M,w0⟩
abbrev q48 (M:Nat→Prop) (w0:Base) (r:Int×Bool):=bodyPost Try.prog Try.f48 (RetQ M w0 (fun v _=>v = .tup [iI r.1,.bool r.2]))
def s48_j1 (v4:Int):AS:=⟨[(6,iI v4)],[],[],[]⟩
variable {K:Kn} {n:Nat} {M:Nat→Prop} {w0:Base} {r:Int×Bool} {v1:aQ} {v2 v4:Int} 
abbrev nA (p:List Nat):Kont:=.c (cat Try.f48 p)
theorem wS (hK:KnOk K) (h:iR K n v4=some r):VE (cx48 M w0) (q48 M w0 r) [.b 0,nA [1,1,1]] .normal (s48_j1 v4):=by
  unfold iR at h
  refine aM 4 ?_
  cases h
  exact dv
theorem cT (hK:KnOk K) (h:cA K n v1 v2=some r):ACalls Try.prog 48 [.agg (cE v1),iI v2] (fun v _=>v = .tup [iI r.1,.bool r.2]):=by
  refine bj (cat Try.f48 []) Try.func48 Try.ntmps48 fun M w0=>(bb ⟨[(0,.agg (cE v1)),(1,iI v2)],[],[],[]⟩ ?_)
  unfold cA at h
  refine ac (ks':=[nA p48_0,.b 0,nA [1,1,1]]) 10 ?_
  rcases ao h with ⟨h1,h⟩ | ⟨h1,h⟩
  ·
   exact ak 11 h1 (ag 2 (wS hK h))
  ·
   refine ak 11 h1 (ac (ks':=[nA p48_1,.b 0,nA [1,1,1]]) 3 ?_)
   rcases ao h with ⟨h2,h⟩ | ⟨h2,h⟩
   ·
    refine ak 13 h2 (ac (ks':=[nA p48_2,.b 0,nA [1,1,1]]) 1 (ai 1 ?_))
    obtain ⟨v3,h3,h⟩:=bind_some h
    exact aC (gb hK h3) (ae (ag 0 (wS hK h)))
   ·
    refine ak 13 h2 (aM 6 ?_)
    cases h
    exact dv
end
def p51_0:=pth 0 111010
def dB:=pth 0 1110100
def p51_2:=pth 0 1110100110010
def p51_3:=pth 0 1110100110011
def fD:=pth 0 1110100111
def p51_5:=pth 0 11101001100110
def p51_6:=pth 0 11101001100111
def p51_7:=pth 0 111010011001110
def p51_8:=pth 0 111010011001111
noncomputable section
abbrev d7 (M:Nat→Prop) (w0:Base):Cx:=⟨Try.prog,52,M,w0⟩
abbrev q51 (M:Nat→Prop) (w0:Base) (r:ay):=bodyPost Try.prog Try.f51 (RetQ M w0 (fun v _=>v = .agg (bh r)))
variable {K:Kn} {n:Nat} {M:Nat→Prop} {w0:Base} {r:ay} {v1:aE} {v2 v3:Int} 
abbrev bG (p:List Nat):Kont:=.c (cat Try.f51 p)
theorem oM (hK:KnOk K) (h:fq K n v1 v2 v3=some r):ACalls Try.prog 51 [.agg (aL v1),iI v2,iI v3] (fun v _=>v = .agg (bh r)):=by
  refine bj (cat Try.f51 []) Try.func51 Try.ntmps51 fun M w0=>(bb ⟨[(0,.agg (aL v1)),(1,iI v2),(2,iI v3)],[],[],[]⟩ ?_)
  unfold fq at h
  refine aU (ks':=[bG p51_0,.b 0,bG [1,1,1]]) 8 ⟨[(1,iI v2),(3,.ptr 3 0),(6,.ptr 6 0),(7,.ptr 7 0),(13,iI 0)],[(3,aL v1),(6,bh dp),(7,bh ({ dp with Content:=v3 }:ay))],[],[3,6,7]⟩ (jG 40 (c:=cat Try.f51 dB) (by kernel_rfl) (aR (ac (ks':=[bG p51_2,bG p51_3,.b 1,bG fD,kl (d7 M w0) (q51 M w0 r) [.b 0,bG [1,1,1]] (cat Try.f51 dB) 39,.b 0,bG [1,1,1]]) 10 (ai 6 ?_))))
  obtain ⟨v4,h1,h⟩:=bind_some h
  refine aC (cT hK h1) (ae (ac (ks':=[bG p51_5,bG p51_6,.b 1,bG fD,kl (d7 M w0) (q51 M w0 r) [.b 0,bG [1,1,1]] (cat Try.f51 dB) 39,.b 0,bG [1,1,1]]) 1 (ai 5 ?_)))
  obtain ⟨v5,h2,h⟩:=bind_some h
  refine aC (gb hK h2) (ae (ac (ks':=[bG p51_7,bG p51_8,.b 1,bG fD,kl (d7 M w0) (q51 M w0 r) [.b 0,bG [1,1,1]] (cat Try.f51 dB) 39,.b 0,bG [1,1,1]]) 1 (ai 5 ?_)))
  obtain ⟨v6,h3,h⟩:=bind_some h
  refine aC (cT hK h3) (ae (aU (ks':=[kl (d7 M w0) (q51 M w0 r) [.b 0,bG [1,1,1]] (cat Try.f51 dB) 39,.b 0,bG [1,1,1]]) 3 ⟨[(1,iI v2),(3,.ptr 3 0),(6,.ptr 6 0),(7,.ptr 7 0),(13,iI 1)],[(3,aL v1),(6,bh dp),(7,bh (⟨⟨v4.1,0,0,0⟩,⟨v5,0,0,0⟩,⟨(max v6.1 0),0,0,0⟩,v3⟩:ay))],[],[3,6,7]⟩ (aY (aR (ac (ks':=[bG p51_2,bG p51_3,.b 1,bG fD,kl (d7 M w0) (q51 M w0 r) [.b 0,bG [1,1,1]] (cat Try.f51 dB) 38,.b 0,bG [1,1,1]]) 10 (ai 6 ?_))))))
  obtain ⟨v7,h4,h⟩:=bind_some h
  refine aC (cT hK h4) (ae (ac (ks':=[bG p51_5,bG p51_6,.b 1,bG fD,kl (d7 M w0) (q51 M w0 r) [.b 0,bG [1,1,1]] (cat Try.f51 dB) 38,.b 0,bG [1,1,1]]) 1 (ai 5 ?_)))
  obtain ⟨v8,h5,h⟩:=bind_some h
  refine aC (gb hK h5) (ae (ac (ks':=[bG p51_7,bG p51_8,.b 1,bG fD,kl (d7 M w0) (q51 M w0 r) [.b 0,bG [1,1,1]] (cat Try.f51 dB) 38,.b 0,bG [1,1,1]]) 1 (ai 5 ?_)))
  obtain ⟨v9,h6,h⟩:=bind_some h
  refine aC (cT hK h6) (ae (aU (ks':=[kl (d7 M w0) (q51 M w0 r) [.b 0,bG [1,1,1]] (cat Try.f51 dB) 38,.b 0,bG [1,1,1]]) 3 ⟨[(1,iI v2),(3,.ptr 3 0),(6,.ptr 6 0),(7,.ptr 7 0),(13,iI 2)],[(3,aL v1),(6,bh dp),(7,bh (⟨⟨v4.1,v7.1,0,0⟩,⟨v5,v8,0,0⟩,⟨(max v6.1 0),(max v9.1 0),0,0⟩,v3⟩:ay))],[],[3,6,7]⟩ (aY (aR (ac (ks':=[bG p51_2,bG p51_3,.b 1,bG fD,kl (d7 M w0) (q51 M w0 r) [.b 0,bG [1,1,1]] (cat Try.f51 dB) 37,.b 0,bG [1,1,1]]) 10 (ai 6 ?_))))))
  obtain ⟨v10,h7,h⟩:=bind_some h
  refine aC (cT hK h7) (ae (ac (ks':=[bG p51_5,bG p51_6,.b 1,bG fD,kl (d7 M w0) (q51 M w0 r) [.b 0,bG [1,1,1]] (cat Try.f51 dB) 37,.b 0,bG [1,1,1]]) 1 (ai 5 ?_)))
  obtain ⟨v11,h8,h⟩:=bind_some h
  refine aC (gb hK h8) (ae (ac (ks':=[bG p51_7,bG p51_8,.b 1,bG fD,kl (d7 M w0) (q51 M w0 r) [.b 0,bG [1,1,1]] (cat Try.f51 dB) 37,.b 0,bG [1,1,1]]) 1 (ai 5 ?_)))
  obtain ⟨v12,h9,h⟩:=bind_some h
  refine aC (cT hK h9) (ae (aU (ks':=[kl (d7 M w0) (q51 M w0 r) [.b 0,bG [1,1,1]] (cat Try.f51 dB) 37,.b 0,bG [1,1,1]]) 3 ⟨[(1,iI v2),(3,.ptr 3 0),(6,.ptr 6 0),(7,.ptr 7 0),(13,iI 3)],[(3,aL v1),(6,bh dp),(7,bh (⟨⟨v4.1,v7.1,v10.1,0⟩,⟨v5,v8,v11,0⟩,⟨(max v6.1 0),(max v9.1 0),(max v12.1 0),0⟩,v3⟩:ay))],[],[3,6,7]⟩ (aY (aR (ac (ks':=[bG p51_2,bG p51_3,.b 1,bG fD,kl (d7 M w0) (q51 M w0 r) [.b 0,bG [1,1,1]] (cat Try.f51 dB) 36,.b 0,bG [1,1,1]]) 10 (ai 6 ?_))))))
  obtain ⟨v13,h10,h⟩:=bind_some h
  refine aC (cT hK h10) (ae (ac (ks':=[bG p51_5,bG p51_6,.b 1,bG fD,kl (d7 M w0) (q51 M w0 r) [.b 0,bG [1,1,1]] (cat Try.f51 dB) 36,.b 0,bG [1,1,1]]) 1 (ai 5 ?_)))
  obtain ⟨v14,h11,h⟩:=bind_some h
  refine aC (gb hK h11) (ae (ac (ks':=[bG p51_7,bG p51_8,.b 1,bG fD,kl (d7 M w0) (q51 M w0 r) [.b 0,bG [1,1,1]] (cat Try.f51 dB) 36,.b 0,bG [1,1,1]]) 1 (ai 5 ?_)))
  obtain ⟨v15,h12,h⟩:=bind_some h
  refine aC (cT hK h12) (ae (aU (ks':=[kl (d7 M w0) (q51 M w0 r) [.b 0,bG [1,1,1]] (cat Try.f51 dB) 36,.b 0,bG [1,1,1]]) 3 ⟨[(1,iI v2),(3,.ptr 3 0),(6,.ptr 6 0),(7,.ptr 7 0),(13,iI 4)],[(3,aL v1),(6,bh dp),(7,bh (⟨⟨v4.1,v7.1,v10.1,v13.1⟩,⟨v5,v8,v11,v14⟩,⟨(max v6.1 0),(max v9.1 0),(max v12.1 0),(max v15.1 0)⟩,v3⟩:ay))],[],[3,6,7]⟩ (aY (aR (aM 11 ?_)))))
  cases h
  exact bu
end
def p52_0:=pth 0 11111
def p52_1:=pth 0 111100
def p52_2:=pth 0 111101
def p52_3:=pth 0 1111011
def p52_4:=pth 0 11100
def p52_5:=pth 0 11101
def p52_6:=pth 0 111011
noncomputable section
abbrev cx52 (M:Nat→Prop) (w0:Base):Cx:=⟨Try.prog,37,M,w0⟩
abbrev q52 (M:Nat→Prop) (w0:Base) (r:Int):=bodyPost Try.prog Try.f52 (RetQ M w0 (fun v _=>v=iI r))
def s52_j2 (v7:Int):AS:=⟨[(2,iI v7)],[],[],[]⟩
def s52_j1 (v1:aE) (v2 v5:Int):AS:=⟨[(1,iI v2),(2,iI v5),(3,.ptr 3 0)],[(3,aL v1)],[],[3]⟩
variable {K:Kn} {n:Nat} {M:Nat→Prop} {w0:Base} {r:Int} {v1:aE} {v2 v3 v5 v7:Int} 
abbrev fS (p:List Nat):Kont:=.c (cat Try.f52 p)
theorem ya (hK:KnOk K) (h:lD K n v7=some r):VE (cx52 M w0) (q52 M w0 r) [fS p52_0] .normal (s52_j2 v7):=by
  unfold lD at h
  refine aM 3 ?_
  cases h
  exact bu
theorem yl (hK:KnOk K) (h:kf K n v1 v2 v5=some r):VE (cx52 M w0) (q52 M w0 r) [fS [1,1,1]] .normal (s52_j1 v1 v2 v5):=by
  unfold kf at h
  refine ac (ks':=[fS p52_1,fS p52_2,fS p52_0]) 2 (ai 3 ?_)
  obtain ⟨v6,h3,h⟩:=bind_some h
  refine aC (cT hK h3) (ae (ac (ks':=[fS p52_3,fS p52_0]) 2 ?_))
  rcases ao h with ⟨h4,h⟩ | ⟨h4,h⟩
  ·
   exact ak 32 h4 (ag 2 (ya hK h))
  ·
   exact ak 32 h4 (ag 2 (ya hK h))
theorem t9 (hK:KnOk K) (h:ib K n v1 v2 v3=some r):ACalls Try.prog 52 [.agg (aL v1),iI v2,iI v3] (fun v _=>v=iI r):=by
  refine bj (cat Try.f52 []) Try.func52 Try.ntmps52 fun M w0=>(bb ⟨[(0,.agg (aL v1)),(1,iI v2),(2,iI v3)],[],[],[]⟩ ?_)
  unfold ib at h
  refine ac (ks':=[fS p52_4,fS p52_5,fS [1,1,1]]) 6 (ai 3 ?_)
  obtain ⟨v4,h1,h⟩:=bind_some h
  refine aC (cT hK h1) (ae (ac (ks':=[fS p52_6,fS [1,1,1]]) 2 ?_))
  rcases ao h with ⟨h2,h⟩ | ⟨h2,h⟩
  ·
   exact ak 20 h2 (ag 2 (yl hK h))
  ·
   exact ak 20 h2 (ag 2 (yl hK h))
end
noncomputable section
variable {K:Kn} {n:Nat} {M:Nat→Prop} {w0:Base} {r:Int} {v1:ay} 
theorem oJ (hK:KnOk K) (h:fC K n v1=some r):ACalls Try.prog 53 [.agg (bh v1)] (fun v _=>v=iI r):=by
  refine bj (cat Try.f53 []) Try.func53 Try.ntmps53 fun M w0=>(bb ⟨[(0,.agg (bh v1))],[],[],[]⟩ ?_)
  unfold fC at h
  refine aM 5 ?_
  cases h
  exact bu
end
def p61_0:=pth 11 1
def p61_1:=pth 10 1001
def p61_2:=pth 10 100111
def p61_3:=pth 10 10011111
def p61_4:=pth 5 1
def p61_5:=pth 5 10
def p61_6:=pth 6 1
def p61_7:=pth 6 10
def p61_8:=pth 7 1
def p61_9:=pth 7 101
def p61_10:=pth 8 1
def p61_11:=pth 8 10
def p61_12:=pth 9 1
def p61_13:=pth 9 10
def p61_14:=pth 10 1
def p61_15:=pth 10 1000
def p61_16:=pth 0 11110
def p61_17:=pth 0 11111
def p61_18:=pth 0 1111101
def p61_19:=pth 0 11111010
noncomputable section
abbrev cx61 (M:Nat→Prop) (w0:Base):Cx:=⟨Try.prog,89,M,w0⟩
abbrev q61 (M:Nat→Prop) (w0:Base) (r:ay):=bodyPost Try.prog Try.f61 (RetQ M w0 (fun v _=>v = .agg (bh r)))
def s61_j3 (v4:ay) (v8:Int) (v13:V4 Int):AS:=⟨[(4,.ptr 4 0),(5,.ptr 5 0)],[(4,bh dp),(5,bh ({ v4 with Margin:=v13,Content:=v8 }:ay))],[],[4,5]⟩
def s61_j2 (v3:Int) (v4:ay) (v8 v9:Int) (v10 v11:Int×Bool) (v12:Bool):AS:=⟨[(4,.ptr 4 0),(5,.ptr 5 0),(8,iI (w64 (v3 - v9))),(10,.bool v10.2),(12,.bool v11.2),(59,.bool v12)],[(4,bh dp),(5,bh ({ v4 with Content:=v8 }:ay))],[],[4,5]⟩
def s61_j1 (v1:aE) (v3:Int) (v4:ay) (v7:Int):AS:=⟨[(1,iI v3),(2,.ptr 2 0),(4,.ptr 4 0),(5,.ptr 5 0),(6,iI v7)],[(2,aL v1),(4,bh dp),(5,bh v4)],[],[2,4,5]⟩
variable {K:Kn} {n:Nat} {M:Nat→Prop} {w0:Base} {r:ay} {v1:aE} {v2 v3:Int} {v4:ay} {v7 v8 v9:Int} {v10 v11:Int×Bool} {v12:Bool} {v13:V4 Int} 
abbrev cB (p:List Nat):Kont:=.c (cat Try.f61 p)
theorem tm (hK:KnOk K) (h:gN K n v4 v8 v13=some r):VE (cx61 M w0) (q61 M w0 r) [.b 0,cB p61_0] .normal (s61_j3 v4 v8 v13):=by
  unfold gN at h
  refine aM 4 ?_
  cases h
  exact bu
theorem yr (hK:KnOk K) (h:kF K n v3 v4 v8 v9 v10 v11 v12=some r):VE (cx61 M w0) (q61 M w0 r) [cB p61_1,.b 0,cB p61_0] .normal (s61_j2 v3 v4 v8 v9 v10 v11 v12):=by
  unfold kF at h
  rcases ao h with ⟨h12,h⟩ | ⟨h12,h⟩
  ·
   exact ak 59 h12 (ag 4 (tm hK h))
  ·
   refine ak 59 h12 (ac (ks':=[cB p61_2,.b 0,cB p61_0]) 3 ?_)
   rcases ao h with ⟨h13,h⟩ | ⟨h13,h⟩
   ·
    exact ak 76 h13 (ag 2 (tm hK h))
   ·
    refine ak 76 h13 (ac (ks':=[cB p61_3,.b 0,cB p61_0]) 3 ?_)
    rcases ao h with ⟨h14,h⟩ | ⟨h14,h⟩
    ·
     exact ak 82 h14 (ag 2 (tm hK h))
    ·
     exact ak 82 h14 (ag 2 (tm hK h))
theorem wq (hK:KnOk K) (h:jO K n v1 v3 v4 v7=some r):VE (cx61 M w0) (q61 M w0 r) [cB p61_4] .normal (s61_j1 v1 v3 v4 v7):=by
  unfold jO at h
  refine ac (ks':=[cB p61_5,cB p61_6]) 1 (ai 3 ?_)
  obtain ⟨v8,h6,h⟩:=bind_some h
  refine aC (t9 hK h6) (ae (ac (ks':=[cB p61_7,cB p61_8]) 1 (ai 2 ?_)))
  obtain ⟨v9,h7,h⟩:=bind_some h
  refine aC (oJ hK h7) (ae (ac (ks':=[cB p61_9,cB p61_10]) 3 ?_))
  rcases ao h with ⟨h8,h⟩ | ⟨h8,h⟩
  ·
   refine ak 41 h8 (aM 5 ?_)
   cases h
   exact bu
  ·
   refine ak 41 h8 (ac (ks':=[cB p61_11,cB p61_12]) 3 (ai 4 ?_))
   obtain ⟨v10,h9,h⟩:=bind_some h
   refine aC (cT hK h9) (ae (ac (ks':=[cB p61_13,cB p61_14]) 1 (ai 4 ?_)))
   obtain ⟨v11,h10,h⟩:=bind_some h
   refine aC (cT hK h10) (ae (ac (ks':=[cB p61_15,cB p61_1,.b 0,cB p61_0]) 3 (ai 3 ?_)))
   rcases ao h with ⟨h11,h⟩ | ⟨h11,h⟩
   ·
    exact aK 62 h11 (ae (ag 0 (yr hK h)))
   ·
    exact aK 62 h11 (ae (ag 0 (yr hK h)))
theorem vI (hK:KnOk K) (h:jL K n v1 v2=some r):ACalls Try.prog 61 [.agg (aL v1),iI v2] (fun v _=>v = .agg (bh r)):=by
  refine bj (cat Try.f61 []) Try.func61 Try.ntmps61 fun M w0=>(bb ⟨[(0,.agg (aL v1)),(1,iI v2)],[],[],[]⟩ ?_)
  unfold jL at h
  refine ac (ks':=[cB [1,0],cB [1,1]]) 3 (ai 1 ?_)
  obtain ⟨v3,h1,h⟩:=bind_some h
  refine aC (gb hK h1) (ae (ac (ks':=[cB [1,1,0],cB [1,1,1]]) 1 (ai 2 ?_)))
  obtain ⟨v4,h2,h⟩:=bind_some h
  refine aC (oM hK h2) (ae (ac (ks':=[cB p61_16,cB p61_17]) 1 (ai 3 ?_)))
  obtain ⟨v5,h3,h⟩:=bind_some h
  refine aC (cT hK h3) (ae (ac (ks':=[cB p61_18,cB p61_4]) 3 ?_))
  rcases ao h with ⟨h4,h⟩ | ⟨h4,h⟩
  ·
   refine ak 26 h4 (ac (ks':=[cB p61_19,cB p61_4]) 1 (ai 2 ?_))
   obtain ⟨v6,h5,h⟩:=bind_some h
   exact aC (oJ hK h5) (ae (ag 0 (wq hK h)))
  ·
   exact ak 26 h4 (ag 2 (wq hK h))
end
noncomputable section
variable {K:Kn} {n:Nat} {M:Nat→Prop} {w0:Base} {r:ah} {v1:Int} 
theorem tr (hK:KnOk K) (h:gL K n v1=some r):ACalls Try.prog 62 [iI v1] (fun v _=>v = .agg (bH r)):=by
  refine bj (cat Try.f62 []) Try.func62 Try.ntmps62 fun M w0=>(bb ⟨[(0,iI v1)],[],[],[]⟩ ?_)
  unfold gL at h
  refine aM 5 ?_
  cases h
  exact bu
end
noncomputable section
abbrev cx44 (M:Nat→Prop) (w0:Base):Cx:=⟨Try.prog,12,M,w0⟩
abbrev q44 (M:Nat→Prop) (w0:Base) (r:Bool):=bodyPost Try.prog Try.f44 (RetQ M w0 (fun v _=>v = .bool r))
def s44_j1 (v2:Bool):AS:=⟨[(2,.bool v2)],[],[],[]⟩
variable {K:Kn} {n:Nat} {M:Nat→Prop} {w0:Base} {r:Bool} {v1:ab} {v2:Bool} 
abbrev cF44 (p:List Nat):Kont:=.c (cat Try.f44 p)
theorem yG (hK:KnOk K) (h:kX K n v2=some r):VE (cx44 M w0) (q44 M w0 r) [cF44 [1,1]] .normal (s44_j1 v2):=by
  unfold kX at h
  refine aM 1 ?_
  cases h
  exact bu
theorem xx (hK:KnOk K) (h:jB K n v1=some r):ACalls Try.prog 44 [.agg (ax v1)] (fun v _=>v = .bool r):=by
  refine bj (cat Try.f44 []) Try.func44 Try.ntmps44 fun M w0=>(bb ⟨[(0,.agg (ax v1))],[],[],[]⟩ ?_)
  unfold jB at h
  refine ac (ks':=[cF44 [1,0],cF44 [1,1]]) 3 (ai 4 ?_)
  rcases ao h with ⟨h1,h⟩ | ⟨h1,h⟩
  ·
   exact aK 6 h1 (ae (ag 0 (yG hK h)))
  ·
   exact aK 6 h1 (ae (ag 0 (yG hK h)))
end
noncomputable section
variable {K:Kn} {n:Nat} {M:Nat→Prop} {w0:Base} {r v1 v2:Int} {v3:List ab} 
abbrev cF45 (p:List Nat):Kont:=.c (cat Try.f45 p)
theorem yP (hK:KnOk K) (h:rn K n v1 v2 v3=some r):ACalls Try.prog 45 [iI v1,iI v2,.cptr ([.sl (lm aB v3)])] (fun v _=>v=iI r):=by
  refine bj (cat Try.f45 []) Try.func45 Try.ntmps45 fun M w0=>(bb ⟨[(0,iI v1),(1,iI v2),(2,.cptr ([.sl (lm aB v3)]))],[],[],[]⟩ ?_)
  unfold rn at h
  refine ac (ks':=[cF45 [1,0],cF45 [1,1]]) 3 (bL [0,1,2] [] [] ?_)
  obtain ⟨h1,h⟩:=aq h
  obtain ⟨h2,h⟩:=aq h
  obtain ⟨v4,h3,h⟩:=bind_some h
  refine bm 1 (nu 6 [.sl (lm aB v3),iI v1,.cptr (ax (gD v3 v1)),.cptr (List.drop 2 (ax (gD v3 v1))),.cptr (List.drop 48 (List.drop 2 (ax (gD v3 v1)))),iI (((gD v3 v1).Style).Order),.sl (lm aB v3),iI v2,.cptr (ax (gD v3 v2)),.cptr (List.drop 2 (ax (gD v3 v2))),.cptr (List.drop 48 (List.drop 2 (ax (gD v3 v2)))),iI (((gD v3 v2).Style).Order),iI v4]) [] [] [stp Try.prog 19 Try.f45 [1,0] 13] (am (vz 2) (d_v (bF aB ax h1 (cj) (b9)) (am (vz 5) (d_v (bF aB ax h2 (cj) (b9)) (am (vz 3) (aj (e_c 0 1 18 (w2 hK h3)) (aj (e_d 0) bk))))))) (aM 1 ?_)
  cases h
  exact bu
end
def p26_0:=pth 0 1110100
def p26_1:=pth 0 1110100111
def p26_2:=pth 0 111010010
def p26_3:=pth 0 111010011
def p26_4:=pth 0 111010011000
def p26_5:=pth 0 111010011001
def p26_6:=pth 0 1110100110010
def p26_7:=pth 0 1110100110011
def p26_8:=pth 0 11101001100110
def p26_9:=pth 0 11110
def p26_10:=pth 0 11111
def p26_11:=pth 0 11100
def p26_12:=pth 0 11101
def p26_13:=pth 0 111010
noncomputable section
abbrev cx26 (M:Nat→Prop) (w0:Base):Cx:=⟨Try.prog,24,M,w0⟩
abbrev q26 (M:Nat→Prop) (w0:Base) (r:List Int):=bodyPost Try.prog Try.f26 (RetQ M w0 (fun v s=>v = .ref 18∧look 18 s.r=some ⟨3,1,lm (eInt .i64) r⟩))
abbrev cM (p:List Nat):Kont:=.c (cat Try.f26 p)
abbrev pT (M:Nat→Prop) (w0:Base) (r:List Int) (m1:Nat):Kont:=kl (cx26 M w0) (q26 M w0 r) [.b 0,cM [1,1,1]] (cat Try.f26 p26_0) m1
def s26_j1 (v1:List ab) (v6:Int) (v9:List Int):AS:=⟨[(1,.ptr 1 0),(3,.ref 18),(6,.sl (lm aB v1)),(7,iI (v1.length:Int)),(8,iI v6)],[(1,[.sl (lm aB v1)])],[(18,⟨3,1,lm (eInt .i64) v9⟩)],[1,18]⟩
def s26_l2 (v1:List ab) (v6:Int) (v7:List Int):AS:=⟨[(1,.ptr 1 0),(3,.ref 18),(6,.sl (lm aB v1)),(7,iI (v1.length:Int)),(8,iI v6)],[(1,[.sl (lm aB v1)])],[(18,⟨3,1,lm (eInt .i64) v7⟩)],[1,18]⟩
abbrev H26_1 (M:Nat→Prop) (w0:Base) (r:List Int) (v1:List ab) (m1:Nat) (L1:Int→(List Int)→Option (List Int)):Prop:=∀ {v6:Int} {v7:List Int},L1 v6 v7=some r→LP (cx26 M w0) (q26 M w0 r) [.b 0,cM [1,1,1]] (cat Try.f26 p26_0) m1 (s26_l2 v1 v6 v7)
variable {K:Kn} {n:Nat} {M:Nat→Prop} {w0:Base} {r:List Int} {v1:List ab} {v6:Int} {v7 v9:List Int} {m1:Nat} {L1:Int→(List Int)→Option (List Int)}
theorem yB (hK:KnOk K) (hL1:H26_1 M w0 r v1 m1 L1) (h:qo K n v1 v6 L1 v9=some r):VE (cx26 M w0) (q26 M w0 r) [.b 1,cM p26_1,pT M w0 r m1,.b 0,cM [1,1,1]] .normal (s26_j1 v1 v6 v9):=by
  unfold qo at h
  exact ag 2 (aY (hL1 h))
theorem Dt (hK:KnOk K) (hL1:H26_1 M w0 r v1 m1 L1) (h:rt K n v1 L1 v6 v7=some r):VE (cx26 M w0) (q26 M w0 r) [cM p26_0,pT M w0 r m1,.b 0,cM [1,1,1]] .normal (s26_l2 v1 v6 v7):=by
  unfold rt at h
  refine ac (ks':=[cM p26_2,cM p26_3,pT M w0 r m1,.b 0,cM [1,1,1]]) 3 ?_
  rcases ao h with ⟨h11,h⟩ | ⟨h11,h⟩
  ·
   refine ak 9 h11 (ac (ks':=[cM p26_4,cM p26_5,.b 1,cM p26_1,pT M w0 r m1,.b 0,cM [1,1,1]]) 5 (ai 1 ?_))
   obtain ⟨h12,h⟩:=aq h
   refine ap (bF aB ax h12 (cj) (b9)) (ae (ac (ks':=[cM p26_6,cM p26_7,.b 1,cM p26_1,pT M w0 r m1,.b 0,cM [1,1,1]]) 1 (ai 1 ?_)))
   obtain ⟨v8,h13,h⟩:=bind_some h
   refine aC (xx hK h13) (ae ?_)
   rcases ao h with ⟨h14,h⟩ | ⟨h14,h⟩
   ·
    refine ak 14 h14 (ac (ks':=[cM p26_8,.b 1,cM p26_1,pT M w0 r m1,.b 0,cM [1,1,1]]) 1 (ai 3 ?_))
    obtain ⟨h15,h⟩:=aq h
    exact ap (cb 18 18 3 1 (eInt .i64) (rfl) (fun _=>rfl) h15) (ae (ag 0 (yB hK hL1 h)))
   ·
    exact ak 14 h14 (ag 2 (yB hK hL1 h))
  ·
   refine ak 9 h11 (ac (ks':=[cM p26_9,cM p26_10]) 6 (ai 1 (ot_fo 1 1 ([.sl (lm aB v1)]) (ot_mf 45 #[(.tmp 1)] [.cptr ([.sl (lm aB v1)])] ?_))))
   obtain ⟨v10,h16,h⟩:=bind_some h
   refine eP 18 0 (xm hK h16) (ae (aM 3 ?_))
   cases h
   exact cP
theorem CV (hK:KnOk K) (m:Nat):H26_1 M w0 r v1 m (pG K n v1 m):=by
  induction m with
 | zero=>intro v6 v7 h; cases h
 | succ m ih=>intro v6 v7 h; have h:rt K n v1 (pG K n v1 m) v6 v7=some r:=h; exact aR (Dt hK ih h)
theorem g_flex_Order_ok (hK:KnOk K) (h:mG K n v1=some r):ACalls Try.prog 26 [.sl (lm aB v1)] (fun v s=>v = .ref 18∧look 18 s.r=some ⟨3,1,lm (eInt .i64) r⟩):=by
  refine bj (cat Try.f26 []) Try.func26 Try.ntmps26 fun M w0=>(bb ⟨[(0,.sl (lm aB v1))],[],[],[]⟩ ?_)
  unfold mG at h
  exact ac (ks':=[cM p26_11,cM p26_12,cM [1,1,1]]) 6 (ai 1 (ap (br aB v1) (ae (ac (ks':=[cM p26_13,.b 0,cM [1,1,1]]) 1 (cw 18 3 3 1 (ag 0 (bE (p:=p26_13) n (CV hK n h))))))))
end
def p49_0:=pth 0 1110100
def p49_1:=pth 0 111010010
def p49_2:=pth 0 111010011
def p49_3:=pth 0 111010011000
def p49_4:=pth 0 111010011001
def p49_5:=pth 0 1110100111
def p49_6:=pth 0 11100
def p49_7:=pth 0 11101
def p49_8:=pth 0 111010
noncomputable section
abbrev cx49 (M:Nat→Prop) (w0:Base):Cx:=⟨Try.prog,24,M,w0⟩
abbrev q49 (M:Nat→Prop) (w0:Base) (r:List ab):=bodyPost Try.prog Try.f49 (RetQ M w0 (fun v s=>v = .ref 21∧look 21 s.r=some ⟨50,59,lm aB r⟩))
abbrev d8 (p:List Nat):Kont:=.c (cat Try.f49 p)
abbrev k49_1 (M:Nat→Prop) (w0:Base) (r:List ab) (m1:Nat):Kont:=kl (cx49 M w0) (q49 M w0 r) [.b 0,d8 [1,1,1]] (cat Try.f49 p49_0) m1
def s49_l1 (v1:ab) (v2:List Int) (v3:Int) (v4:List ab):AS:=⟨[(1,.ptr 1 0),(3,.ref 21),(8,.ref 1008),(9,iI (v2.length:Int)),(10,iI v3)],[(1,ax v1)],[(21,⟨50,59,lm aB v4⟩),(1008,⟨3,1,lm (eInt .i64) v2⟩)],[1,21,1008]⟩
abbrev H49_1 (M:Nat→Prop) (w0:Base) (r:List ab) (v1:ab) (v2:List Int) (m1:Nat) (L1:Int→(List ab)→Option (List ab)):Prop:=∀ {v3:Int} {v4:List ab},L1 v3 v4=some r→LP (cx49 M w0) (q49 M w0 r) [.b 0,d8 [1,1,1]] (cat Try.f49 p49_0) m1 (s49_l1 v1 v2 v3 v4)
variable {K:Kn} {n:Nat} {M:Nat→Prop} {w0:Base} {r:List ab} {v1:ab} {v2:List Int} {v3:Int} {v4:List ab} {m1:Nat} {L1:Int→(List ab)→Option (List ab)}
theorem BF (hK:KnOk K) (hL1:H49_1 M w0 r v1 v2 m1 L1) (h:qU K n v1 v2 L1 v3 v4=some r):VE (cx49 M w0) (q49 M w0 r) [d8 p49_0,k49_1 M w0 r m1,.b 0,d8 [1,1,1]] .normal (s49_l1 v1 v2 v3 v4):=by
  unfold qU at h
  refine ac (ks':=[d8 p49_1,d8 p49_2,k49_1 M w0 r m1,.b 0,d8 [1,1,1]]) 3 ?_
  rcases ao h with ⟨h10,h⟩ | ⟨h10,h⟩
  ·
   refine ak 11 h10 (ac (ks':=[d8 p49_3,d8 p49_4,.b 1,d8 p49_5,k49_1 M w0 r m1,.b 0,d8 [1,1,1]]) 5 (ai 0 ?_))
   obtain ⟨h11,h⟩:=aq h
   refine ap (bK 1008 1 (eInt .i64) h11) (ap (aJ 3 0 (eInt .i64) (eInt .i64) (aH h11).2 (fun _=>rfl)) (ae (ai 4 ?_)))
   obtain ⟨h12,h⟩:=aq h
   refine ap (bF aB ax h12 (cj) (b9)) (aO 6 1 (ap (dN aB ([(gD v1.Kids ((gD v2 v3)))]:List ab) (new:=[ax (gD v1.Kids ((gD v2 v3)))]) (by simp only [List.map_cons,List.map_nil,b9])) ?_))
   obtain ⟨h13,h⟩:=aq h
   exact ap (cb 21 21 50 59 aB (rfl) (cj) h13) (ae (ag 2 (aY (hL1 h))))
  ·
   refine ak 11 h10 (aM 8 ?_)
   cases h
   exact cP
theorem Ae (hK:KnOk K) (m:Nat):H49_1 M w0 r v1 v2 m (nK K n v1 v2 m):=by
  induction m with
 | zero=>intro v3 v4 h; cases h
 | succ m ih=>intro v3 v4 h; have h:qU K n v1 v2 (nK K n v1 v2 m) v3 v4=some r:=h; exact aR (BF hK ih h)
theorem yb (hK:KnOk K) (h:lV K n v1=some r):ACalls Try.prog 49 [.agg (ax v1)] (fun v s=>v = .ref 21∧look 21 s.r=some ⟨50,59,lm aB r⟩):=by
  refine bj (cat Try.f49 []) Try.func49 Try.ntmps49 fun M w0=>(bb ⟨[(0,.agg (ax v1))],[],[],[]⟩ ?_)
  unfold lV at h
  refine ac (ks':=[d8 p49_6,d8 p49_7,d8 [1,1,1]]) 6 (ai 2 ?_)
  obtain ⟨v2,h1,h⟩:=bind_some h
  exact cv 1008 (g_flex_Order_ok hK h1) (df 18) (ap (br (eInt .i64) v2) (ae (ac (ks':=[d8 p49_8,.b 0,d8 [1,1,1]]) 1 (cw 21 3 50 59 (ag 0 (bE (p:=p49_8) n (Ae hK n h)))))))
end
def p65_0:=pth 0 11011
noncomputable section
variable {K:Kn} {n:Nat} {M:Nat→Prop} {w0:Base} {r:Int} {v1:aQ} {v2 v3:Int} 
abbrev cF65 (p:List Nat):Kont:=.c (cat Try.f65 p)
theorem rD (hK:KnOk K) (h:jN K n v1 v2 v3=some r):ACalls Try.prog 65 [.agg (cE v1),iI v2,iI v3] (fun v _=>v=iI r):=by
  refine bj (cat Try.f65 []) Try.func65 Try.ntmps65 fun M w0=>(bb ⟨[(0,.agg (cE v1)),(1,iI v2),(2,iI v3)],[],[],[]⟩ ?_)
  unfold jN at h
  refine ac (ks':=[cF65 [1,0,0],cF65 [1,0,1],cF65 [1,1]]) 4 (ai 2 ?_)
  obtain ⟨v4,h1,h⟩:=bind_some h
  refine aC (cT hK h1) (ae (ac (ks':=[cF65 p65_0,cF65 [1,1]]) 2 ?_))
  rcases ao h with ⟨h2,h⟩ | ⟨h2,h⟩
  ·
   refine ak 15 h2 (aM 5 ?_)
   cases h
   exact bu
  ·
   refine ak 15 h2 (aM 5 ?_)
   cases h
   exact bu
end
noncomputable section
variable {K:Kn} {n:Nat} {M:Nat→Prop} {w0:Base} {r:Int} {v1:ah} 
theorem l5 (hK:KnOk K) (h:dc K n v1=some r):ACalls Try.prog 87 [.agg (bH v1)] (fun v _=>v=iI r):=by
  refine bj (cat Try.f87 []) Try.func87 Try.ntmps87 fun M w0=>(bb ⟨[(0,.agg (bH v1))],[],[],[]⟩ ?_)
  unfold dc at h
  refine aM 5 ?_
  cases h
  exact bu
end
noncomputable section
variable {K:Kn} {n:Nat} {M:Nat→Prop} {w0:Base} {r:Int} {v1:aa} 
abbrev cF88 (p:List Nat):Kont:=.c (cat Try.f88 p)
theorem xO (hK:KnOk K) (h:pj K n v1=some r):ACalls Try.prog 88 [.agg (az v1)] (fun v _=>v=iI r):=by
  refine bj (cat Try.f88 []) Try.func88 Try.ntmps88 fun M w0=>(bb ⟨[(0,.agg (az v1))],[],[],[]⟩ ?_)
  unfold pj at h
  refine ac (ks':=[cF88 [1,0,1],cF88 [1,1]]) 5 ?_
  rcases ao h with ⟨h1,h⟩ | ⟨h1,h⟩
  ·
   refine ak 4 h1 (aM 5 ?_)
   cases h
   exact bu
  ·
   refine ak 4 h1 (ac (ks':=[cF88 [1,1,0],cF88 [1,1,1]]) 3 (ai 2 ?_))
   obtain ⟨v2,h2,h⟩:=bind_some h
   refine aC (l5 hK h2) (ae (aM 1 ?_))
   cases h
   exact bu
end
def kk:=pth 11 1
def p63_1:=pth 10 10100
def dQ:=pth 8 1
def p63_3:=pth 7 10100
def p63_4:=pth 7 101001100111111
def gB:=pth 7 10100111
def p63_6:=pth 7 1010011001111110
def p63_7:=pth 7 1010011001111111
def p63_8:=pth 7 10100110011111110
def p63_9:=pth 7 10100110011111111
def p63_10:=pth 7 101001100111111110
def p63_11:=pth 7 101001100111111111
def p63_12:=pth 7 1010011001111111110
def p63_13:=pth 7 1010011001111111111
def p63_14:=pth 7 10100110011111111110
def p63_15:=pth 7 10100110011111111111
def p63_16:=pth 10 1010010
def p63_17:=pth 10 1010011
def p63_18:=pth 10 10100110010
def p63_19:=pth 10 10100110011
def p63_20:=pth 10 10100111
def p63_21:=pth 10 101001100110
def p63_22:=pth 10 101001100111
def p63_23:=pth 9 1
def p63_24:=pth 10 100
def p63_25:=pth 10 101
def p63_26:=pth 10 1010
def p63_27:=pth 7 1010010
def p63_28:=pth 7 1010011
def p63_29:=pth 7 1010011000
def p63_30:=pth 7 1010011001
def p63_31:=pth 7 10100110010
def p63_32:=pth 7 10100110011
def p63_33:=pth 7 101001100110
def p63_34:=pth 7 101001100111
def p63_35:=pth 7 1010011001111101
def p63_36:=pth 7 10100110011111010
def p63_37:=pth 8 101
def p63_38:=pth 8 1010
def p63_39:=pth 0 111110
def p63_40:=pth 5 1
def p63_41:=pth 6 10
def p63_42:=pth 7 1
def p63_43:=pth 7 100
def p63_44:=pth 7 101
def p63_45:=pth 7 1010
noncomputable section
abbrev lr (M:Nat→Prop) (w0:Base):Cx:=⟨Try.prog,170,M,w0⟩
abbrev q63 (M:Nat→Prop) (w0:Base) (r:(List aa)×Int):=bodyPost Try.prog Try.f63 (RetQ M w0 (fun v s=>v = .tup [.ref 116,iI r.2]∧look 116 s.r=some ⟨67,67,lm au r.1⟩))
abbrev bq (p:List Nat):Kont:=.c (cat Try.f63 p)
abbrev k63_2 (M:Nat→Prop) (w0:Base) (r:(List aa)×Int) (m2:Nat):Kont:=kl (lr M w0) (q63 M w0 r) [.b 2,bq kk] (cat Try.f63 p63_1) m2
abbrev fj (M:Nat→Prop) (w0:Base) (r:(List aa)×Int) (m1:Nat):Kont:=kl (lr M w0) (q63 M w0 r) [.b 0,bq dQ] (cat Try.f63 p63_3) m1
def s63_j1 (v1:ab) (v2:Int) (v3:bw) (v5:List ab) (v34 v35:Int) (v36:List Int) (v37:List aw) (v38 v39:List Int) (v40:List aa) (v41:aa) (v43 v46 v47 v49:Int):AS:=⟨[(1,iI v2),(3,.ptr 3 0),(5,.ptr 5 0),(8,.ref 116),(9,.ref 84),(10,.ref 99),(11,.ref 88),(12,iI v34),(13,.ref 28),(16,.ptr 16 0),(18,iI v43),(19,.ptr 19 0),(30,.ref 1030),(31,iI (v5.length:Int)),(32,iI v35)],[(3,ax v1),(5,ce v3),(16,az v41),(19,aF (⟨v49,v46,v47,0,1048576⟩:aw))],[(28,⟨3,1,lm (eInt .i64) v36⟩),(84,⟨34,5,lm aF v37⟩),(88,⟨3,1,lm (eInt .i64) v38⟩),(99,⟨3,1,lm (eInt .i64) v39⟩),(116,⟨67,67,lm au v40⟩),(1030,⟨50,59,lm aB v5⟩)],[3,5,16,19,28,84,88,99,116,1030]⟩
def s63_l4 (v38 v39:List Int) (v40:List aa) (v56:List Int) (v60 v61:Int) (v62:List aa):AS:=⟨[(8,.ref 116),(10,.ref 99),(11,.ref 88),(13,.ref 1125),(20,iI v60),(127,iI (v40.length:Int)),(128,iI v61)],[],[(88,⟨3,1,lm (eInt .i64) v38⟩),(99,⟨3,1,lm (eInt .i64) v39⟩),(116,⟨67,67,lm au v62⟩),(1125,⟨3,1,lm (eInt .i64) v56⟩)],[88,99,116,1125]⟩
def s63_j3 (v38 v39:List Int) (v40:List aa) (v56:List Int):AS:=⟨[(8,.ref 116),(10,.ref 99),(11,.ref 88),(13,.ref 1125)],[],[(88,⟨3,1,lm (eInt .i64) v38⟩),(99,⟨3,1,lm (eInt .i64) v39⟩),(116,⟨67,67,lm au v40⟩),(1125,⟨3,1,lm (eInt .i64) v56⟩)],[88,99,116,1125]⟩
def s63_l2 (v1:ab) (v2:Int) (v3:bw) (v5:List ab) (v34 v35:Int) (v36:List Int) (v37:List aw) (v38 v39:List Int) (v40:List aa):AS:=⟨[(1,iI v2),(3,.ptr 3 0),(5,.ptr 5 0),(8,.ref 116),(9,.ref 84),(10,.ref 99),(11,.ref 88),(12,iI v34),(13,.ref 28),(30,.ref 1030),(31,iI (v5.length:Int)),(32,iI v35)],[(3,ax v1),(5,ce v3)],[(28,⟨3,1,lm (eInt .i64) v36⟩),(84,⟨34,5,lm aF v37⟩),(88,⟨3,1,lm (eInt .i64) v38⟩),(99,⟨3,1,lm (eInt .i64) v39⟩),(116,⟨67,67,lm au v40⟩),(1030,⟨50,59,lm aB v5⟩)],[3,5,28,84,88,99,116,1030]⟩
abbrev H63_1 (M:Nat→Prop) (w0:Base) (r:(List aa)×Int) (v1:ab) (v2:Int) (v3:bw) (v5:List ab) (m1:Nat) (L1:Int→Int→(List Int)→(List aw)→(List Int)→(List Int)→(List aa)→Option ((List aa)×Int)):Prop:=∀ {v34 v35:Int} {v36:List Int} {v37:List aw} {v38 v39:List Int} {v40:List aa},L1 v34 v35 v36 v37 v38 v39 v40=some r→LP (lr M w0) (q63 M w0 r) [.b 0,bq dQ] (cat Try.f63 p63_3) m1 (s63_l2 v1 v2 v3 v5 v34 v35 v36 v37 v38 v39 v40)
abbrev H63_2 (M:Nat→Prop) (w0:Base) (r:(List aa)×Int) (v38 v39:List Int) (v40:List aa) (v56:List Int) (m2:Nat) (L2:Int→Int→(List aa)→Option ((List aa)×Int)):Prop:=∀ {v60 v61:Int} {v62:List aa},L2 v60 v61 v62=some r→LP (lr M w0) (q63 M w0 r) [.b 2,bq kk] (cat Try.f63 p63_1) m2 (s63_l4 v38 v39 v40 v56 v60 v61 v62)
variable {K:Kn} {n:Nat} {M:Nat→Prop} {w0:Base} {r:(List aa)×Int} {v1:ab} {v2:Int} {v3:bw} {v5:List ab} {v34 v35:Int} {v36:List Int} {v37:List aw} {v38 v39:List Int} {v40:List aa} {v41:aa} {v43 v46 v47 v49:Int} {v56:List Int} {v60 v61:Int} {v62:List aa} {m1:Nat} {L1:Int→Int→(List Int)→(List aw)→(List Int)→(List Int)→(List aa)→Option ((List aa)×Int)} {m2:Nat} {L2:Int→Int→(List aa)→Option ((List aa)×Int)}
theorem wt (hK:KnOk K) (hL1:H63_1 M w0 r v1 v2 v3 v5 m1 L1) (h:nF K n v1 v2 v3 v5 v34 v35 v36 v37 v38 v39 v40 v41 v43 v46 v47 L1 v49=some r):VE (lr M w0) (q63 M w0 r) [bq p63_4,.b 1,bq gB,fj M w0 r m1,.b 0,bq dQ] .normal (s63_j1 v1 v2 v3 v5 v34 v35 v36 v37 v38 v39 v40 v41 v43 v46 v47 v49):=by
  unfold nF at h
  refine ac (ks':=[bq p63_6,bq p63_7,.b 1,bq gB,fj M w0 r m1,.b 0,bq dQ]) 1 (ai 3 ?_)
  obtain ⟨h58,h⟩:=aq h
  refine ap (cb 84 84 34 5 aF (rfl) (jv) h58) (ae ?_)
  obtain ⟨v50,h59,h⟩:=bind_some h
  have h59:=Option.some.inj h59
  refine aU (ks':=[bq p63_8,bq p63_9,.b 1,bq gB,fj M w0 r m1,.b 0,bq dQ]) 1 ⟨[(1,iI v2),(3,.ptr 3 0),(5,.ptr 5 0),(8,.ref 116),(9,.ref 84),(10,.ref 99),(11,.ref 88),(12,iI v34),(13,.ref 28),(16,.ptr 16 0),(18,iI v43),(19,.ptr 19 0),(30,.ref 1030),(31,iI (v5.length:Int)),(32,iI v35)],[(3,ax v1),(5,ce v3),(16,az v41),(19,aF (⟨v49,v46,v47,0,1048576⟩:aw))],[(28,⟨3,1,lm (eInt .i64) v36⟩),(84,⟨34,5,lm aF v50⟩),(88,⟨3,1,lm (eInt .i64) v38⟩),(99,⟨3,1,lm (eInt .i64) v39⟩),(116,⟨67,67,lm au v40⟩),(1030,⟨50,59,lm aB v5⟩)],[3,5,16,19,28,84,88,99,116,1030]⟩ ?_ (by subst h59; kernel_rfl)
  refine ai 3 ?_
  obtain ⟨h60,h⟩:=aq h
  refine ap (cb 88 88 3 1 (eInt .i64) (rfl) (fun _=>rfl) h60) (ae (ac (ks':=[bq p63_10,bq p63_11,.b 1,bq gB,fj M w0 r m1,.b 0,bq dQ]) 1 (bL [1,3,5,8,9,10,11,12,13,16,18,19,30,31,32] [3,5,16,19] [28,84,88,99,116,1030] ?_)))
  obtain ⟨v51,h61,h⟩:=bind_some h
  obtain ⟨v52,h62,h⟩:=bind_some h
  obtain ⟨h63,h⟩:=aq h
  refine bm 2 (nu 89 [.ref 99,.ptr 16 61,.agg (bH v41.Before),iI v51,.agg (az v41),iI v52,iI (w64 (v51+v52)),iI v43,iI (w64 ((w64 (v51+v52))+v43)),.sl (lm (eInt .i64) [(w64 ((w64 (v51+v52))+v43))])]) [] [] [appS 99 99 ⟨3,1,lm (eInt .i64) (v39++[(w64 ((w64 (v51+v52))+v43))])⟩,stp Try.prog 170 Try.f63 p63_10 11] (am [.v 0 1,.v 0 2,.v 0 2] (aj (e_c 0 2 92 (l5 hK h61)) (am [.v 0 2] (aj (e_c 0 1 94 (xO hK h62)) (am [.v 0 2,.v 0 2,.v 0 2,.v 0 1] (aj (e_s (m:=0) (cb 99 99 3 1 (eInt .i64) (rfl) (fun _=>rfl) h63)) (aj (e_d 1) bk))))))) (ac (ks':=[bq p63_12,bq p63_13,.b 1,bq gB,fj M w0 r m1,.b 0,bq dQ]) 1 (ai 3 (ap (br (eInt .i64) (v39++[(w64 ((w64 (v51+v52))+v43))])) (aO 5 1 ?_))))
  obtain ⟨h64,h⟩:=aq h
  refine ap (bK 99 1 (eInt .i64) h64) (ap (aJ 3 0 (eInt .i64) (eInt .i64) (aH h64).2 (fun _=>rfl)) (ae ?_))
  obtain ⟨v53,h65,h⟩:=bind_some h
  have h65:=Option.some.inj h65
  refine aU (ks':=[bq p63_14,bq p63_15,.b 1,bq gB,fj M w0 r m1,.b 0,bq dQ]) 1 ⟨[(1,iI v2),(3,.ptr 3 0),(5,.ptr 5 0),(8,.ref 116),(9,.ref 84),(10,.ref 99),(11,.ref 88),(12,iI v53),(13,.ref 28),(16,.ptr 16 0),(19,.ptr 19 0),(30,.ref 1030),(31,iI (v5.length:Int)),(32,iI v35)],[(3,ax v1),(5,ce v3),(16,az v41),(19,aF (⟨v49,v46,v47,0,1048576⟩:aw))],[(28,⟨3,1,lm (eInt .i64) v36⟩),(84,⟨34,5,lm aF v50⟩),(88,⟨3,1,lm (eInt .i64) (v38++[v43])⟩),(99,⟨3,1,lm (eInt .i64) (v39++[(w64 ((w64 (v51+v52))+v43))])⟩),(116,⟨67,67,lm au v40⟩),(1030,⟨50,59,lm aB v5⟩)],[3,5,16,19,28,84,88,99,116,1030]⟩ ?_ (by subst h65; kernel_rfl)
  refine ai 2 ?_
  obtain ⟨v54,h66,h⟩:=bind_some h
  refine aC (t6 hK h66) (aO 4 1 ?_)
  obtain ⟨h67,h⟩:=aq h
  refine ap (cb 112 28 3 1 (eInt .i64) (rfl) (fun _=>rfl) h67) (ae (ai 2 (ap (dN au ([v41]:List aa) (new:=[az v41]) (by simp only [List.map_cons,List.map_nil,cp])) ?_)))
  obtain ⟨h68,h⟩:=aq h
  exact ap (cb 116 116 67 67 au (rfl) (dR) h68) (ae (ag 2 (aY (hL1 h))))
theorem zk (hK:KnOk K) (hL2:H63_2 M w0 r v38 v39 v40 v56 m2 L2) (h:rF K n v38 v39 v40 v56 L2 v60 v61 v62=some r):VE (lr M w0) (q63 M w0 r) [bq p63_1,k63_2 M w0 r m2,.b 2,bq kk] .normal (s63_l4 v38 v39 v40 v56 v60 v61 v62):=by
  unfold rF at h
  refine ac (ks':=[bq p63_16,bq p63_17,k63_2 M w0 r m2,.b 2,bq kk]) 3 ?_
  rcases ao h with ⟨h82,h⟩ | ⟨h82,h⟩
  ·
   refine ak 129 h82 (ac (ks':=[bq p63_18,bq p63_19,.b 3,bq p63_20,k63_2 M w0 r m2,.b 2,bq kk]) 7 (bL [8,10,11,13,20,21,127,128] [] [88,99,116,1125] ?_))
   obtain ⟨h83,h⟩:=aq h
   obtain ⟨h84,h⟩:=aq h
   obtain ⟨h85,h⟩:=aq h
   refine bm 1 (nu 131 [.ref 116,iI v61,.ref 1125,iI v61,.eptr 1125 1 (v61.toNat) 0,iI (gD v56 v61),.ref 88,iI v61,.eptr 88 1 (v61.toNat) 0,iI (gD v38 v61),iI (w64 ((gD v56 v61)+(gD v38 v61))),.eptr 116 67 (v61.toNat) 0,.eptr 116 67 (v61.toNat) 5]) [] [] [strS 116 ⟨67,67,lm au (List.set v62 v61.toNat ({ (gD v62 v61) with H:=(w64 ((gD v56 v61)+(gD v38 v61))) }:aa))⟩] (am (vz 4) (d_v (aN 1125 1 (eInt .i64) (L:=v56) h83) (d_v (aJ 3 0 (eInt .i64) (eInt .i64) (aH h83).2 (fun _=>rfl)) (am (vz 2) (d_v (aN 88 1 (eInt .i64) (L:=v38) h84) (d_v (aJ 3 0 (eInt .i64) (eInt .i64) (aH h84).2 (fun _=>rfl)) (am [.v 0 1] (aj (k_v (lo:=0) (k:=2) (bP ⟨(by kernel_rfl),(bQ (aN 116 67 au (L:=v62) h85) (by kernel_rfl))⟩ (bP ⟨(by kernel_rfl),(bQ (aN 116 67 au (L:=(List.set v62 v61.toNat ({ (gD v62 v61) with H:=(w64 ((gD v56 v61)+(gD v38 v61))) }:aa))) h85) (by kernel_rfl))⟩ cF))) (am [.v 0 1] (aj (e_s (m:=0) (bV 116 67 67 5 au az ({ (gD v62 v61) with H:=(w64 ((gD v56 v61)+(gD v38 v61))) }:aa) (aH h85).2 (cp))) bk)))))))))) ?_
   obtain ⟨v63,h86,h⟩:=bind_some h
   have h86:=Option.some.inj h86
   refine aU (ks':=[bq p63_21,bq p63_22,.b 3,bq p63_20,k63_2 M w0 r m2,.b 2,bq kk]) 1 ⟨[(8,.ref 116),(10,.ref 99),(11,.ref 88),(13,.ref 1125),(20,iI v60),(21,iI v61),(127,iI (v40.length:Int)),(128,iI v61)],[],[(88,⟨3,1,lm (eInt .i64) v38⟩),(99,⟨3,1,lm (eInt .i64) v39⟩),(116,⟨67,67,lm au v63⟩),(1125,⟨3,1,lm (eInt .i64) v56⟩)],[88,99,116,1125]⟩ ?_ (by subst h86; kernel_rfl)
   refine ai 5 ?_
   obtain ⟨h87,h⟩:=aq h
   refine ap (bK 116 67 au h87) (aO 7 1 (ap (aJ 64 61 au az (aH h87).2 (cp)) ?_))
   obtain ⟨v64,h88,h⟩:=bind_some h
   refine aC (l5 hK h88) (aO 10 1 ?_)
   obtain ⟨h89,h⟩:=aq h
   refine ap (bK 116 67 au h89) (aO 12 1 (ap (bV 116 67 67 3 au az ({ (gD v63 v61) with Y:=(w64 (v60+v64)) }:aa) (aH h89).2 (cp)) (ae ?_)))
   obtain ⟨v65,h90,h⟩:=bind_some h
   have h90:=Option.some.inj h90
   refine aU (ks':=[bq p63_22,.b 3,bq p63_20,k63_2 M w0 r m2,.b 2,bq kk]) 0 ⟨[(8,.ref 116),(10,.ref 99),(11,.ref 88),(13,.ref 1125),(20,iI v60),(21,iI v61),(127,iI (v40.length:Int)),(128,iI v61)],[],[(88,⟨3,1,lm (eInt .i64) v38⟩),(99,⟨3,1,lm (eInt .i64) v39⟩),(116,⟨67,67,lm au v65⟩),(1125,⟨3,1,lm (eInt .i64) v56⟩)],[88,99,116,1125]⟩ ?_ (by subst h90; kernel_rfl)
   obtain ⟨h91,h⟩:=aq h
   obtain ⟨h92,h⟩:=aq h
   exact bm 1 (nu 156 [iI v60,.ref 1125,iI v61,.eptr 1125 1 (v61.toNat) 0,iI (gD v56 v61),.ref 99,iI v61,.eptr 99 1 (v61.toNat) 0,iI (gD v39 v61),iI (w64 ((gD v56 v61)+(gD v39 v61))),iI (w64 (v60+(w64 ((gD v56 v61)+(gD v39 v61)))))]) [] [] [stp Try.prog 170 Try.f63 p63_22 11] (am (vz 3) (d_v (aN 1125 1 (eInt .i64) (L:=v56) h91) (d_v (aJ 3 0 (eInt .i64) (eInt .i64) (aH h91).2 (fun _=>rfl)) (am (vz 2) (d_v (aN 99 1 (eInt .i64) (L:=v39) h92) (d_v (aJ 3 0 (eInt .i64) (eInt .i64) (aH h92).2 (fun _=>rfl)) (am (vz 2) (aj (e_d 0) bk)))))))) (ag 2 (aY (hL2 h)))
  ·
   refine ak 129 h82 (aM 8 ?_)
   cases h
   exact eH
theorem CA (hK:KnOk K) (m:Nat):H63_2 M w0 r v38 v39 v40 v56 m (ov K n v38 v39 v40 v56 m):=by
  induction m with
 | zero=>intro v60 v61 v62 h; cases h
 | succ m ih=>intro v60 v61 v62 h; have h:rF K n v38 v39 v40 v56 (ov K n v38 v39 v40 v56 m) v60 v61 v62=some r:=h; exact aR (zk hK ih h)
theorem yI (hK:KnOk K) (h:gP K n v38 v39 v40 v56=some r):VE (lr M w0) (q63 M w0 r) [bq p63_23] .normal (s63_j3 v38 v39 v40 v56):=by
  unfold gP at h
  exact ac (ks':=[bq p63_24,bq p63_25,bq kk]) 4 (ai 1 (ap (br au v40) (ae (ag 1 (bE (p:=p63_26) n (CA hK n h))))))
theorem CE (hK:KnOk K) (hL1:H63_1 M w0 r v1 v2 v3 v5 m1 L1) (h:ry K n v1 v2 v3 v5 L1 v34 v35 v36 v37 v38 v39 v40=some r):VE (lr M w0) (q63 M w0 r) [bq p63_3,fj M w0 r m1,.b 0,bq dQ] .normal (s63_l2 v1 v2 v3 v5 v34 v35 v36 v37 v38 v39 v40):=by
  unfold ry at h
  refine ac (ks':=[bq p63_27,bq p63_28,fj M w0 r m1,.b 0,bq dQ]) 3 ?_
  rcases ao h with ⟨h47,h⟩ | ⟨h47,h⟩
  ·
   refine ak 33 h47 (ac (ks':=[bq p63_29,bq p63_30,.b 1,bq gB,fj M w0 r m1,.b 0,bq dQ]) 5 (ai 0 ?_))
   obtain ⟨h48,h⟩:=aq h
   refine ap (bK 1030 59 aB h48) (ap (aJ 50 0 aB ax (aH h48).2 (b9)) (ae (ac (ks':=[bq p63_31,bq p63_32,.b 1,bq gB,fj M w0 r m1,.b 0,bq dQ]) 1 (ai 4 ?_))))
   obtain ⟨v41,h49,h⟩:=bind_some h
   refine nb (hK.dD h49) (ae (ac (ks':=[bq p63_33,bq p63_34,.b 1,bq gB,fj M w0 r m1,.b 0,bq dQ]) 1 (ai 3 ?_)))
   obtain ⟨v42,h50,h⟩:=bind_some h
   refine aC (oM hK h50) (ae ?_)
   obtain ⟨v43,h51,h⟩:=bind_some h
   have h51:=Option.some.inj h51
   obtain ⟨v44,h52,h⟩:=bind_some h
   have h52:=Option.some.inj h52
   obtain ⟨v45,h53,h⟩:=bind_some h
   have h53:=Option.some.inj h53
   obtain ⟨v46,h54,h⟩:=bind_some h
   have h54:=Option.some.inj h54
   obtain ⟨v47,h55,h⟩:=bind_some h
   have h55:=Option.some.inj h55
   refine aU (ks':=[bq p63_35,bq p63_4,.b 1,bq gB,fj M w0 r m1,.b 0,bq dQ]) 7 ⟨[(1,iI v2),(3,.ptr 3 0),(5,.ptr 5 0),(8,.ref 116),(9,.ref 84),(10,.ref 99),(11,.ref 88),(12,iI v34),(13,.ref 28),(15,.ptr 15 0),(16,.ptr 16 0),(18,iI v43),(19,.ptr 19 0),(30,.ref 1030),(31,iI (v5.length:Int)),(32,iI v35),(75,.bool v44)],[(3,ax v1),(5,ce v3),(15,ax (gD v5 v35)),(16,az v41),(19,aF (⟨v45,v46,v47,0,1048576⟩:aw))],[(28,⟨3,1,lm (eInt .i64) v36⟩),(84,⟨34,5,lm aF v37⟩),(88,⟨3,1,lm (eInt .i64) v38⟩),(99,⟨3,1,lm (eInt .i64) v39⟩),(116,⟨67,67,lm au v40⟩),(1030,⟨50,59,lm aB v5⟩)],[3,5,15,16,19,28,84,88,99,116,1030]⟩ ?_ (by subst h55; subst h54; subst h53; subst h52; subst h51; kernel_rfl)
   rcases ao h with ⟨h56,h⟩ | ⟨h56,h⟩
   ·
    refine ak 75 h56 (ac (ks':=[bq p63_36,bq p63_4,.b 1,bq gB,fj M w0 r m1,.b 0,bq dQ]) 1 (ai 3 ?_))
    obtain ⟨v48,h57,h⟩:=bind_some h
    exact aC (rD hK h57) (ae (ag 0 (wt hK hL1 h)))
   ·
    exact ak 75 h56 (ag 2 (wt hK hL1 h))
  ·
   refine ak 33 h47 (ac (ks':=[bq p63_37,bq p63_23]) 8 ?_)
   rcases ao h with ⟨h69,h⟩ | ⟨h69,h⟩
   ·
    refine ak 122 h69 (ac (ks':=[bq p63_38,bq p63_23]) 1 (ai 2 (c9 84 ?_)))
    obtain ⟨v55,h70,h⟩:=bind_some h
    exact cv 1125 (uq hK h70) (df 143) (ae (ag 0 (yI hK h)))
   ·
    exact ak 122 h69 (ac (ks':=[bq p63_23]) 2 (kN 28 1125 (ag 0 (yI hK h))))
theorem y9 (hK:KnOk K) (m:Nat):H63_1 M w0 r v1 v2 v3 v5 m (mI K n v1 v2 v3 v5 m):=by
  induction m with
 | zero=>intro v34 v35 v36 v37 v38 v39 v40 h; cases h
 | succ m ih=>intro v34 v35 v36 v37 v38 v39 v40 h; have h:ry K n v1 v2 v3 v5 (mI K n v1 v2 v3 v5 m) v34 v35 v36 v37 v38 v39 v40=some r:=h; exact aR (CE hK ih h)
theorem Cq (hK:KnOk K) (h:rM K n v1 v2 v3=some r):ACalls Try.prog 63 [.agg (ax v1),iI v2,.agg (ce v3)] (fun v s=>v = .tup [.ref 116,iI r.2]∧look 116 s.r=some ⟨67,67,lm au r.1⟩):=by
  refine bj (cat Try.f63 []) Try.func63 Try.ntmps63 fun M w0=>(bb ⟨[(0,.agg (ax v1)),(1,iI v2),(2,.agg (ce v3))],[],[],[]⟩ ?_)
  unfold rM at h
  refine ac (ks':=[bq p63_39,bq p63_40]) 9 (ai 3 ?_)
  obtain ⟨v4,h1,h⟩:=bind_some h
  refine aC (rD hK h1) (ae (ac (ks':=[bq p63_41,bq p63_42]) 3 (ai 0 (ot_bs 22 28 (e:=3) (sz:=1) (ae (ac (ks':=[bq p63_43,bq p63_44,bq dQ]) 2 (ai 1 ?_)))))))
  obtain ⟨v5,h2,h⟩:=bind_some h
  exact cv 1030 (yb hK h2) (df 21) (ap (br aB v5) (ae (ac (ks':=[bq p63_45,.b 0,bq dQ]) 1 (cw 116 8 67 67 (cw 84 9 34 5 (cw 99 10 3 1 (cw 88 11 3 1 (ag 0 (bE (p:=p63_45) n (y9 hK n h))))))))))
end
def gk:=pth 0 11111
def p22_1:=pth 0 11110100
def p22_2:=pth 0 11110100111
def p22_3:=pth 0 111101001100111
def p22_4:=pth 0 11110100110011100
def p22_5:=pth 0 11110100110011101
def p22_6:=pth 0 1111010010
def p22_7:=pth 0 1111010011
def p22_8:=pth 0 1111010011000
def p22_9:=pth 0 1111010011001
def p22_10:=pth 0 111101001100110
def p22_11:=pth 0 111100
def p22_12:=pth 0 111101
def p22_13:=pth 0 1111010
noncomputable section
abbrev cx22 (M:Nat→Prop) (w0:Base):Cx:=⟨Try.prog,33,M,w0⟩
abbrev q22 (M:Nat→Prop) (w0:Base) (r:List Int):=bodyPost Try.prog Try.f22 (RetQ M w0 (fun v s=>v = .ref 29∧look 29 s.r=some ⟨3,1,lm (eInt .i64) r⟩))
abbrev cI (p:List Nat):Kont:=.c (cat Try.f22 p)
abbrev mD (M:Nat→Prop) (w0:Base) (r:List Int) (m1:Nat):Kont:=kl (cx22 M w0) (q22 M w0 r) [.b 0,cI gk] (cat Try.f22 p22_1) m1
def s22_j2 (v1:List Int) (v2 v4 v8:Int) (v9:List Int):AS:=⟨[(1,iI v2),(5,.ref 29),(6,iI v8),(9,.sl (lm (eInt .i64) v1)),(10,iI (v1.length:Int)),(11,iI v4)],[],[(29,⟨3,1,lm (eInt .i64) v9⟩)],[29]⟩
def s22_j1 (v1:List Int) (v2 v4:Int) (v5:List Int) (v6:Int) (v7:Bool):AS:=⟨[(1,iI v2),(5,.ref 29),(6,iI v6),(7,iI v4),(8,iI (gD v1 v4)),(9,.sl (lm (eInt .i64) v1)),(10,iI (v1.length:Int)),(11,iI v4),(25,.bool v7)],[],[(29,⟨3,1,lm (eInt .i64) v5⟩)],[29]⟩
def s22_l3 (v1:List Int) (v2 v3 v4:Int) (v5:List Int):AS:=⟨[(1,iI v2),(5,.ref 29),(6,iI v3),(9,.sl (lm (eInt .i64) v1)),(10,iI (v1.length:Int)),(11,iI v4)],[],[(29,⟨3,1,lm (eInt .i64) v5⟩)],[29]⟩
abbrev H22_1 (M:Nat→Prop) (w0:Base) (r v1:List Int) (v2:Int) (m1:Nat) (L1:Int→Int→(List Int)→Option (List Int)):Prop:=∀ {v3 v4:Int} {v5:List Int},L1 v3 v4 v5=some r→LP (cx22 M w0) (q22 M w0 r) [.b 0,cI gk] (cat Try.f22 p22_1) m1 (s22_l3 v1 v2 v3 v4 v5)
variable {K:Kn} {n:Nat} {M:Nat→Prop} {w0:Base} {r v1:List Int} {v2 v3 v4:Int} {v5:List Int} {v6:Int} {v7:Bool} {v8:Int} {v9:List Int} {m1:Nat} {L1:Int→Int→(List Int)→Option (List Int)}
theorem xH (hK:KnOk K) (hL1:H22_1 M w0 r v1 v2 m1 L1) (h:o9 K n v1 v2 v4 L1 v8 v9=some r):VE (cx22 M w0) (q22 M w0 r) [.b 1,cI p22_2,mD M w0 r m1,.b 0,cI gk] .normal (s22_j2 v1 v2 v4 v8 v9):=by
  unfold o9 at h
  exact ag 2 (aY (hL1 h))
theorem vJ (hK:KnOk K) (hL1:H22_1 M w0 r v1 v2 m1 L1) (h:oc K n v1 v2 v4 v5 v6 L1 v7=some r):VE (cx22 M w0) (q22 M w0 r) [cI p22_3,.b 1,cI p22_2,mD M w0 r m1,.b 0,cI gk] .normal (s22_j1 v1 v2 v4 v5 v6 v7):=by
  unfold oc at h
  rcases ao h with ⟨h11,h⟩ | ⟨h11,h⟩
  ·
   refine ak 25 h11 (ac (ks':=[cI p22_4,cI p22_5,.b 1,cI p22_2,mD M w0 r m1,.b 0,cI gk]) 2 (ai 3 ?_))
   obtain ⟨h12,h⟩:=aq h
   exact ap (cb 29 29 3 1 (eInt .i64) (rfl) (fun _=>rfl) h12) (ae (ag 1 (xH hK hL1 h)))
  ·
   exact ak 25 h11 (ag 2 (xH hK hL1 h))
theorem zz (hK:KnOk K) (hL1:H22_1 M w0 r v1 v2 m1 L1) (h:oS K n v1 v2 L1 v3 v4 v5=some r):VE (cx22 M w0) (q22 M w0 r) [cI p22_1,mD M w0 r m1,.b 0,cI gk] .normal (s22_l3 v1 v2 v3 v4 v5):=by
  unfold oS at h
  refine ac (ks':=[cI p22_6,cI p22_7,mD M w0 r m1,.b 0,cI gk]) 3 ?_
  rcases ao h with ⟨h7,h⟩ | ⟨h7,h⟩
  ·
   refine ak 12 h7 (ac (ks':=[cI p22_8,cI p22_9,.b 1,cI p22_2,mD M w0 r m1,.b 0,cI gk]) 5 (ai 1 ?_))
   obtain ⟨h8,h⟩:=aq h
   refine ap (bF (eInt .i64) (eInt .i64) h8 (fun _=>rfl) (fun _=>rfl)) (ae ?_)
   obtain ⟨v6,h9,h⟩:=bind_some h
   have h9:=Option.some.inj h9
   refine aU (ks':=[cI p22_10,cI p22_3,.b 1,cI p22_2,mD M w0 r m1,.b 0,cI gk]) 3 ⟨[(1,iI v2),(5,.ref 29),(6,iI v6),(7,iI v4),(8,iI (gD v1 v4)),(9,.sl (lm (eInt .i64) v1)),(10,iI (v1.length:Int)),(11,iI v4)],[],[(29,⟨3,1,lm (eInt .i64) v5⟩)],[29]⟩ ?_ (by subst h9; kernel_rfl)
   refine ai 3 ?_
   rcases ao h with ⟨h10,h⟩ | ⟨h10,h⟩
   ·
    exact aK 21 h10 (ae (ag 0 (vJ hK hL1 h)))
   ·
    exact aK 21 h10 (ae (ag 0 (vJ hK hL1 h)))
  ·
   refine ak 12 h7 (aM 8 ?_)
   cases h
   exact cP
theorem Av (hK:KnOk K) (m:Nat):H22_1 M w0 r v1 v2 m (nq K n v1 v2 m):=by
  induction m with
 | zero=>intro v3 v4 v5 h; cases h
 | succ m ih=>intro v3 v4 v5 h; have h:oS K n v1 v2 (nq K n v1 v2 m) v3 v4 v5=some r:=h; exact aR (zz hK ih h)
theorem g_flex_Wrap_ok (hK:KnOk K) (h:ny K n v1 v2=some r):ACalls Try.prog 22 [.sl (lm (eInt .i64) v1),iI v2] (fun v s=>v = .ref 29∧look 29 s.r=some ⟨3,1,lm (eInt .i64) r⟩):=by
  refine bj (cat Try.f22 []) Try.func22 Try.ntmps22 fun M w0=>(bb ⟨[(0,.sl (lm (eInt .i64) v1)),(1,iI v2)],[],[],[]⟩ ?_)
  unfold ny at h
  exact ac (ks':=[cI p22_11,cI p22_12,cI gk]) 8 (ai 1 (ap (br (eInt .i64) v1) (ae (ac (ks':=[cI p22_13,.b 0,cI gk]) 1 (cw 29 5 3 1 (ag 0 (bE (p:=p22_13) n (Av hK n h))))))))
end
def fB:=pth 0 11110100111
def cu:=pth 0 11111
def dE:=pth 0 11110100
def p89_3:=pth 0 11110100110010
def p89_4:=pth 0 11110100110011
def p89_5:=pth 0 111101001100111
def p89_6:=pth 0 1111010
noncomputable section
abbrev db (M:Nat→Prop) (w0:Base):Cx:=⟨Try.prog,40,M,w0⟩
abbrev q89 (M:Nat→Prop) (w0:Base) (r:ab):=bodyPost Try.prog Try.f89 (RetQ M w0 (fun v _=>v = .agg (ax r)))
def s89_j4 (v1:ab) (v2:Int) (v10:V4 aQ):AS:=⟨[(2,.ptr 2 0),(4,.ptr 4 0),(21,.agg ((eV4 cE) v1.Style.Margin)),(22,iI 3)],[(2,ax ({ v1 with Style:=({ v1.Style with Width:=(⟨1,v2⟩:aQ),MinWidth:=bz,MaxWidth:=bz,Margin:=v10 }:aE) }:ab)),(4,List.set (ax co) 58 (.nils))],[],[2,4]⟩
def s89_j3 (v1:ab) (v2:Int) (v8:V4 aQ):AS:=⟨[(2,.ptr 2 0),(4,.ptr 4 0),(21,.agg ((eV4 cE) v1.Style.Margin)),(22,iI 2)],[(2,ax ({ v1 with Style:=({ v1.Style with Width:=(⟨1,v2⟩:aQ),MinWidth:=bz,MaxWidth:=bz,Margin:=v8 }:aE) }:ab)),(4,List.set (ax co) 58 (.nils))],[],[2,4]⟩
def s89_j2 (v1:ab) (v2:Int) (v6:V4 aQ):AS:=⟨[(2,.ptr 2 0),(4,.ptr 4 0),(21,.agg ((eV4 cE) v1.Style.Margin)),(22,iI 1)],[(2,ax ({ v1 with Style:=({ v1.Style with Width:=(⟨1,v2⟩:aQ),MinWidth:=bz,MaxWidth:=bz,Margin:=v6 }:aE) }:ab)),(4,List.set (ax co) 58 (.nils))],[],[2,4]⟩
def s89_j1 (v1:ab) (v2:Int) (v4:V4 aQ):AS:=⟨[(2,.ptr 2 0),(4,.ptr 4 0),(21,.agg ((eV4 cE) v1.Style.Margin)),(22,iI 0)],[(2,ax ({ v1 with Style:=({ v1.Style with Width:=(⟨1,v2⟩:aQ),MinWidth:=bz,MaxWidth:=bz,Margin:=v4 }:aE) }:ab)),(4,List.set (ax co) 58 (.nils))],[],[2,4]⟩
variable {K:Kn} {n:Nat} {M:Nat→Prop} {w0:Base} {r v1:ab} {v2:Int} {v4 v6 v8 v10:V4 aQ} 
abbrev bM (p:List Nat):Kont:=.c (cat Try.f89 p)
theorem vy (hK:KnOk K) (h:qS K n v1 v2 v10=some r):VE (db M w0) (q89 M w0 r) [.b 1,bM fB,kl (db M w0) (q89 M w0 r) [.b 0,bM cu] (cat Try.f89 dE) 36,.b 0,bM cu] .normal (s89_j4 v1 v2 v10):=by
  unfold qS at h
  refine aU (ks':=[kl (db M w0) (q89 M w0 r) [.b 0,bM cu] (cat Try.f89 dE) 36,.b 0,bM cu]) 2 ⟨[(2,.ptr 2 0),(4,.ptr 4 0),(21,.agg ((eV4 cE) v1.Style.Margin)),(22,iI 4)],[(2,ax ({ v1 with Style:=({ v1.Style with Width:=(⟨1,v2⟩:aQ),MinWidth:=bz,MaxWidth:=bz,Margin:=v10 }:aE) }:ab)),(4,List.set (ax co) 58 (.nils))],[],[2,4]⟩ (aY (aR (aM 11 ?_)))
  cases h
  exact bu
theorem w9 (hK:KnOk K) (h:pm K n v1 v2 v8=some r):VE (db M w0) (q89 M w0 r) [.b 1,bM fB,kl (db M w0) (q89 M w0 r) [.b 0,bM cu] (cat Try.f89 dE) 37,.b 0,bM cu] .normal (s89_j3 v1 v2 v8):=by
  unfold pm at h
  refine aU (ks':=[kl (db M w0) (q89 M w0 r) [.b 0,bM cu] (cat Try.f89 dE) 37,.b 0,bM cu]) 2 ⟨[(2,.ptr 2 0),(4,.ptr 4 0),(21,.agg ((eV4 cE) v1.Style.Margin)),(22,iI 3)],[(2,ax ({ v1 with Style:=({ v1.Style with Width:=(⟨1,v2⟩:aQ),MinWidth:=bz,MaxWidth:=bz,Margin:=v8 }:aE) }:ab)),(4,List.set (ax co) 58 (.nils))],[],[2,4]⟩ (aY (aR (ac (ks':=[bM p89_3,bM p89_4,.b 1,bM fB,kl (db M w0) (q89 M w0 r) [.b 0,bM cu] (cat Try.f89 dE) 36,.b 0,bM cu]) 10 (ai 1 ?_))))
  obtain ⟨v9,h7,h⟩:=bind_some h
  refine aC (cT hK h7) (ae (ac (ks':=[bM p89_5,.b 1,bM fB,kl (db M w0) (q89 M w0 r) [.b 0,bM cu] (cat Try.f89 dE) 36,.b 0,bM cu]) 2 ?_))
  rcases ao h with ⟨h8,h⟩ | ⟨h8,h⟩
  ·
   exact ak 32 h8 (ag 2 (vy hK h))
  ·
   exact ak 32 h8 (ag 2 (vy hK h))
theorem ym (hK:KnOk K) (h:nY K n v1 v2 v6=some r):VE (db M w0) (q89 M w0 r) [.b 1,bM fB,kl (db M w0) (q89 M w0 r) [.b 0,bM cu] (cat Try.f89 dE) 38,.b 0,bM cu] .normal (s89_j2 v1 v2 v6):=by
  unfold nY at h
  refine aU (ks':=[kl (db M w0) (q89 M w0 r) [.b 0,bM cu] (cat Try.f89 dE) 38,.b 0,bM cu]) 2 ⟨[(2,.ptr 2 0),(4,.ptr 4 0),(21,.agg ((eV4 cE) v1.Style.Margin)),(22,iI 2)],[(2,ax ({ v1 with Style:=({ v1.Style with Width:=(⟨1,v2⟩:aQ),MinWidth:=bz,MaxWidth:=bz,Margin:=v6 }:aE) }:ab)),(4,List.set (ax co) 58 (.nils))],[],[2,4]⟩ (aY (aR (ac (ks':=[bM p89_3,bM p89_4,.b 1,bM fB,kl (db M w0) (q89 M w0 r) [.b 0,bM cu] (cat Try.f89 dE) 37,.b 0,bM cu]) 10 (ai 1 ?_))))
  obtain ⟨v7,h5,h⟩:=bind_some h
  refine aC (cT hK h5) (ae (ac (ks':=[bM p89_5,.b 1,bM fB,kl (db M w0) (q89 M w0 r) [.b 0,bM cu] (cat Try.f89 dE) 37,.b 0,bM cu]) 2 ?_))
  rcases ao h with ⟨h6,h⟩ | ⟨h6,h⟩
  ·
   exact ak 32 h6 (ag 2 (w9 hK h))
  ·
   exact ak 32 h6 (ag 2 (w9 hK h))
theorem wv (hK:KnOk K) (h:pQ K n v1 v2 v4=some r):VE (db M w0) (q89 M w0 r) [.b 1,bM fB,kl (db M w0) (q89 M w0 r) [.b 0,bM cu] (cat Try.f89 dE) 39,.b 0,bM cu] .normal (s89_j1 v1 v2 v4):=by
  unfold pQ at h
  refine aU (ks':=[kl (db M w0) (q89 M w0 r) [.b 0,bM cu] (cat Try.f89 dE) 39,.b 0,bM cu]) 2 ⟨[(2,.ptr 2 0),(4,.ptr 4 0),(21,.agg ((eV4 cE) v1.Style.Margin)),(22,iI 1)],[(2,ax ({ v1 with Style:=({ v1.Style with Width:=(⟨1,v2⟩:aQ),MinWidth:=bz,MaxWidth:=bz,Margin:=v4 }:aE) }:ab)),(4,List.set (ax co) 58 (.nils))],[],[2,4]⟩ (aY (aR (ac (ks':=[bM p89_3,bM p89_4,.b 1,bM fB,kl (db M w0) (q89 M w0 r) [.b 0,bM cu] (cat Try.f89 dE) 38,.b 0,bM cu]) 10 (ai 1 ?_))))
  obtain ⟨v5,h3,h⟩:=bind_some h
  refine aC (cT hK h3) (ae (ac (ks':=[bM p89_5,.b 1,bM fB,kl (db M w0) (q89 M w0 r) [.b 0,bM cu] (cat Try.f89 dE) 38,.b 0,bM cu]) 2 ?_))
  rcases ao h with ⟨h4,h⟩ | ⟨h4,h⟩
  ·
   exact ak 32 h4 (ag 2 (ym hK h))
  ·
   exact ak 32 h4 (ag 2 (ym hK h))
theorem g_flex_sized_ok (hK:KnOk K) (h:qB K n v1 v2=some r):ACalls Try.prog 89 [.agg (ax v1),iI v2] (fun v _=>v = .agg (ax r)):=by
  refine bj (cat Try.f89 []) Try.func89 Try.ntmps89 fun M w0=>(bb ⟨[(0,.agg (ax v1)),(1,iI v2)],[],[],[]⟩ ?_)
  unfold qB at h
  refine aU (ks':=[bM p89_6,.b 0,bM cu]) 10 ⟨[(2,.ptr 2 0),(4,.ptr 4 0),(21,.agg ((eV4 cE) v1.Style.Margin)),(22,iI 0)],[(2,ax ({ v1 with Style:=({ v1.Style with Width:=(⟨1,v2⟩:aQ),MinWidth:=bz,MaxWidth:=bz }:aE) }:ab)),(4,List.set (ax co) 58 (.nils))],[],[2,4]⟩ (jG 40 (c:=cat Try.f89 dE) (by kernel_rfl) (aR (ac (ks':=[bM p89_3,bM p89_4,.b 1,bM fB,kl (db M w0) (q89 M w0 r) [.b 0,bM cu] (cat Try.f89 dE) 39,.b 0,bM cu]) 10 (ai 1 ?_))))
  obtain ⟨v3,h1,h⟩:=bind_some h
  refine aC (cT hK h1) (ae (ac (ks':=[bM p89_5,.b 1,bM fB,kl (db M w0) (q89 M w0 r) [.b 0,bM cu] (cat Try.f89 dE) 39,.b 0,bM cu]) 2 ?_))
  rcases ao h with ⟨h2,h⟩ | ⟨h2,h⟩
  ·
   exact ak 32 h2 (ag 2 (wv hK h))
  ·
   exact ak 32 h2 (ag 2 (wv hK h))
end
def cG:=pth 11 1
def p64_1:=pth 10 10100
def dH:=pth 6 1
def p64_3:=pth 5 10100
def gc:=pth 10 1010011001111111
def cX:=pth 10 10100111
def p64_6:=pth 10 1010011001111110100
def pJ:=pth 10 10100110011111
def p64_8:=pth 10 10100110011110100
def p64_9:=pth 5 1010011001111111
def fZ:=pth 5 10100111
def p64_11:=pth 5 101001100111111110
def p64_12:=pth 5 101001100111111111
def p64_13:=pth 5 101001100111111
def p64_14:=pth 5 10100110011111101
def p64_15:=pth 5 1010011001111110100
def p64_16:=pth 5 1010011001111110101
def p64_17:=pth 10 101001100111111010010
def p64_18:=pth 10 101001100111111010011
def p64_19:=pth 10 101001100111111010011000
def p64_20:=pth 10 101001100111111010011001
def pR:=pth 10 1010011001111110100111
def p64_22:=pth 10 1010011001111110100110010
def p64_23:=pth 10 1010011001111110100110011
def p64_24:=pth 10 10100110011111101001100110
def p64_25:=pth 10 10100110011111101001100111
def p64_26:=pth 10 1010011001111110100110011110
def p64_27:=pth 10 1010011001111110100110011111
def p64_28:=pth 10 10100110011111101001100111110
def p64_29:=pth 10 10100110011111101001100111111
def p64_30:=pth 10 1010011001111010010
def p64_31:=pth 10 1010011001111010011
def p64_32:=pth 10 1010011001111010011000
def p64_33:=pth 10 1010011001111010011001
def p64_34:=pth 10 10100110011110100111
def p64_35:=pth 10 10100110011111100
def p64_36:=pth 10 10100110011111101
def p64_37:=pth 10 101001100111111010
def p64_38:=pth 10 101001100111
def p64_39:=pth 10 101001100111100
def p64_40:=pth 10 101001100111101
def p64_41:=pth 10 1010011001111010
def p64_42:=pth 10 1010010
def p64_43:=pth 10 1010011
def p64_44:=pth 10 1010011000
def p64_45:=pth 10 1010011001
def p64_46:=pth 10 10100110010
def p64_47:=pth 10 10100110011
def p64_48:=pth 10 1010011001100
def p64_49:=pth 10 1010011001101
def p64_50:=pth 10 10100110011010
def p64_51:=pth 8 1
def p64_52:=pth 10 100
def p64_53:=pth 10 101
def p64_54:=pth 10 1010
def p64_55:=pth 5 1010010
def p64_56:=pth 5 1010011
def p64_57:=pth 5 1010011000
def p64_58:=pth 5 1010011001
def p64_59:=pth 5 101001100110
def p64_60:=pth 5 101001100111
def p64_61:=pth 5 1010011001110
def p64_62:=pth 5 1010011001111
def p64_63:=pth 5 10100110011110
def p64_64:=pth 5 10100110011111
def p64_65:=pth 5 1010011001111101
def p64_66:=pth 5 10100110011111010
def p64_67:=pth 7 101
def p64_68:=pth 7 1010
def p64_69:=pth 0 11110
def p64_70:=pth 0 11111
def p64_71:=pth 0 111110
def p64_72:=pth 5 1
def p64_73:=pth 5 100
def p64_74:=pth 5 101
def p64_75:=pth 5 1010
noncomputable section
abbrev d5 (M:Nat→Prop) (w0:Base):Cx:=⟨Try.prog,228,M,w0⟩
abbrev q64 (M:Nat→Prop) (w0:Base) (r:(List aa)×Int):=bodyPost Try.prog Try.f64 (RetQ M w0 (fun v s=>v = .tup [.ref 220,iI r.2]∧look 220 s.r=some ⟨67,67,lm au r.1⟩))
abbrev aG (p:List Nat):Kont:=.c (cat Try.f64 p)
abbrev cQ (M:Nat→Prop) (w0:Base) (r:(List aa)×Int) (m2:Nat):Kont:=kl (d5 M w0) (q64 M w0 r) [.b 2,aG cG] (cat Try.f64 p64_1) m2
abbrev eS (M:Nat→Prop) (w0:Base) (r:(List aa)×Int) (m1:Nat):Kont:=kl (d5 M w0) (q64 M w0 r) [.b 0,aG dH] (cat Try.f64 p64_3) m1
abbrev kA (M:Nat→Prop) (w0:Base) (r:(List aa)×Int) (m2 m4:Nat):Kont:=kl (d5 M w0) (q64 M w0 r) [.b 6,aG gc,.b 3,aG cX,cQ M w0 r m2,.b 2,aG cG] (cat Try.f64 p64_6) m4
abbrev k64_3 (M:Nat→Prop) (w0:Base) (r:(List aa)×Int) (m2 m3:Nat):Kont:=kl (d5 M w0) (q64 M w0 r) [.b 4,aG pJ,.b 3,aG cX,cQ M w0 r m2,.b 2,aG cG] (cat Try.f64 p64_8) m3
def s64_j2 (v1:ab) (v2:Int) (v3:bw) (v4:List ab) (v24:Int) (v25:List aw) (v26 v27:List Int) (v29 v30 v31 v32 v33 v41:Int):AS:=⟨[(1,iI v2),(3,.ptr 3 0),(5,.ptr 5 0),(8,.ref 1035),(9,.ref 38),(10,.ref 41),(11,.ref 44),(12,iI v24),(15,.ptr 15 0),(16,iI v41),(45,.ref 1035),(46,iI (v4.length:Int)),(47,iI v24)],[(3,ax v1),(5,ce v3),(15,aF (⟨0,v32,v33,v30,v31⟩:aw))],[(38,⟨34,5,lm aF v25⟩),(41,⟨3,1,lm (eInt .i64) (List.set v26 v24.toNat v29)⟩),(44,⟨3,1,lm (eInt .i64) v27⟩),(1035,⟨50,59,lm aB v4⟩)],[3,5,15,38,41,44,1035]⟩
def s64_j1 (v1:ab) (v2:Int) (v3:bw) (v4:List ab) (v24:Int) (v25:List aw) (v26 v27:List Int) (v29 v30 v31 v32 v33 v36:Int) (v37:Bool):AS:=⟨[(1,iI v2),(3,.ptr 3 0),(5,.ptr 5 0),(8,.ref 1035),(9,.ref 38),(10,.ref 41),(11,.ref 44),(12,iI v24),(13,.ptr 13 0),(14,.ptr 14 0),(15,.ptr 15 0),(16,iI v36),(17,.bool v37),(45,.ref 1035),(46,iI (v4.length:Int)),(47,iI v24)],[(3,ax v1),(5,ce v3),(13,ax (gD v4 v24)),(14,aL ((gD v4 v24).Style)),(15,aF (⟨0,v32,v33,v30,v31⟩:aw))],[(38,⟨34,5,lm aF v25⟩),(41,⟨3,1,lm (eInt .i64) (List.set v26 v24.toNat v29)⟩),(44,⟨3,1,lm (eInt .i64) v27⟩),(1035,⟨50,59,lm aB v4⟩)],[3,5,13,14,15,38,41,44,1035]⟩
def s64_l7 (v2:Int) (v3:bw) (v4:List ab) (v25:List aw) (v26 v45:List Int) (v102 v103:Int) (v114:List Int) (v121 v122 v123:Int) (v124:List aa):AS:=⟨[(1,iI v2),(5,.ptr 5 0),(8,.ref 1035),(9,.sl (lm aF v25)),(10,.sl (lm (eInt .i64) v26)),(20,.sl (lm (eInt .i64) v45)),(21,.ref 220),(22,iI v102),(24,iI (gD v45 v103)),(29,iI v121),(30,iI v122),(128,.sl (lm (eInt .i64) v45)),(129,iI (v45.length:Int)),(130,iI v103),(166,.ref 1166),(167,iI (v114.length:Int)),(168,iI v123)],[(5,ce v3)],[(220,⟨67,67,lm au v124⟩),(1035,⟨50,59,lm aB v4⟩),(1166,⟨3,1,lm (eInt .i64) v114⟩)],[5,220,1035,1166]⟩
def s64_l6 (v2:Int) (v3:bw) (v4:List ab) (v25:List aw) (v26 v45:List Int) (v102 v103:Int) (v104:List aa) (v106 v110:Int) (v111:List Int) (v112 v113:Int):AS:=⟨[(1,iI v2),(5,.ptr 5 0),(8,.ref 1035),(9,.sl (lm aF v25)),(10,.sl (lm (eInt .i64) v26)),(20,.sl (lm (eInt .i64) v45)),(21,.ref 220),(22,iI v102),(24,iI (gD v45 v103)),(25,iI v106),(26,iI v110),(128,.sl (lm (eInt .i64) v45)),(129,iI (v45.length:Int)),(130,iI v103),(151,.sl (lm (eInt .i64) v111)),(152,iI v112),(153,iI v113)],[(5,ce v3)],[(220,⟨67,67,lm au v104⟩),(1035,⟨50,59,lm aB v4⟩)],[5,220,1035]⟩
def s64_j5 (v2:Int) (v3:bw) (v4:List ab) (v25:List aw) (v26 v45:List Int) (v102 v103:Int) (v104:List aa) (v106:Int):AS:=⟨[(1,iI v2),(5,.ptr 5 0),(8,.ref 1035),(9,.sl (lm aF v25)),(10,.sl (lm (eInt .i64) v26)),(20,.sl (lm (eInt .i64) v45)),(21,.ref 220),(22,iI v102),(24,iI (gD v45 v103)),(25,iI v106),(128,.sl (lm (eInt .i64) v45)),(129,iI (v45.length:Int)),(130,iI v103)],[(5,ce v3)],[(220,⟨67,67,lm au v104⟩),(1035,⟨50,59,lm aB v4⟩)],[5,220,1035]⟩
def s64_l8 (v2:Int) (v3:bw) (v4:List ab) (v25:List aw) (v26 v45:List Int) (v102 v103:Int) (v104:List aa):AS:=⟨[(1,iI v2),(5,.ptr 5 0),(8,.ref 1035),(9,.sl (lm aF v25)),(10,.sl (lm (eInt .i64) v26)),(20,.sl (lm (eInt .i64) v45)),(21,.ref 220),(22,iI v102),(128,.sl (lm (eInt .i64) v45)),(129,iI (v45.length:Int)),(130,iI v103)],[(5,ce v3)],[(220,⟨67,67,lm au v104⟩),(1035,⟨50,59,lm aB v4⟩)],[5,220,1035]⟩
def s64_j4 (v2:Int) (v3:bw) (v4:List ab) (v25:List aw) (v26 v45:List Int):AS:=⟨[(1,iI v2),(5,.ptr 5 0),(8,.ref 1035),(9,.ref 38),(10,.ref 41),(20,.sl (lm (eInt .i64) v45))],[(5,ce v3)],[(38,⟨34,5,lm aF v25⟩),(41,⟨3,1,lm (eInt .i64) v26⟩),(1035,⟨50,59,lm aB v4⟩)],[5,38,41,1035]⟩
def s64_l3 (v1:ab) (v2:Int) (v3:bw) (v4:List ab) (v24:Int) (v25:List aw) (v26 v27:List Int):AS:=⟨[(1,iI v2),(3,.ptr 3 0),(5,.ptr 5 0),(8,.ref 1035),(9,.ref 38),(10,.ref 41),(11,.ref 44),(45,.ref 1035),(46,iI (v4.length:Int)),(47,iI v24)],[(3,ax v1),(5,ce v3)],[(38,⟨34,5,lm aF v25⟩),(41,⟨3,1,lm (eInt .i64) v26⟩),(44,⟨3,1,lm (eInt .i64) v27⟩),(1035,⟨50,59,lm aB v4⟩)],[3,5,38,41,44,1035]⟩
abbrev H64_1 (M:Nat→Prop) (w0:Base) (r:(List aa)×Int) (v1:ab) (v2:Int) (v3:bw) (v4:List ab) (m1:Nat) (L1:Int→(List aw)→(List Int)→(List Int)→Option ((List aa)×Int)):Prop:=∀ {v24:Int} {v25:List aw} {v26 v27:List Int},L1 v24 v25 v26 v27=some r→LP (d5 M w0) (q64 M w0 r) [.b 0,aG dH] (cat Try.f64 p64_3) m1 (s64_l3 v1 v2 v3 v4 v24 v25 v26 v27)
abbrev mh (M:Nat→Prop) (w0:Base) (r:(List aa)×Int) (v2:Int) (v3:bw) (v4:List ab) (v25:List aw) (v26 v45:List Int) (m2:Nat) (L2:Int→Int→(List aa)→Option ((List aa)×Int)):Prop:=∀ {v102 v103:Int} {v104:List aa},L2 v102 v103 v104=some r→LP (d5 M w0) (q64 M w0 r) [.b 2,aG cG] (cat Try.f64 p64_1) m2 (s64_l8 v2 v3 v4 v25 v26 v45 v102 v103 v104)
abbrev H64_3 (M:Nat→Prop) (w0:Base) (r:(List aa)×Int) (v2:Int) (v3:bw) (v4:List ab) (v25:List aw) (v26 v45:List Int) (v102 v103:Int) (v104:List aa) (v106:Int) (m2 m3:Nat) (L3:Int→(List Int)→Int→Int→Option ((List aa)×Int)):Prop:=∀ {v110:Int} {v111:List Int} {v112 v113:Int},L3 v110 v111 v112 v113=some r→LP (d5 M w0) (q64 M w0 r) [.b 4,aG pJ,.b 3,aG cX,cQ M w0 r m2,.b 2,aG cG] (cat Try.f64 p64_8) m3 (s64_l6 v2 v3 v4 v25 v26 v45 v102 v103 v104 v106 v110 v111 v112 v113)
abbrev H64_4 (M:Nat→Prop) (w0:Base) (r:(List aa)×Int) (v2:Int) (v3:bw) (v4:List ab) (v25:List aw) (v26 v45:List Int) (v102 v103:Int) (v114:List Int) (m2 m4:Nat) (L4:Int→Int→Int→(List aa)→Option ((List aa)×Int)):Prop:=∀ {v121 v122 v123:Int} {v124:List aa},L4 v121 v122 v123 v124=some r→LP (d5 M w0) (q64 M w0 r) [.b 6,aG gc,.b 3,aG cX,cQ M w0 r m2,.b 2,aG cG] (cat Try.f64 p64_6) m4 (s64_l7 v2 v3 v4 v25 v26 v45 v102 v103 v114 v121 v122 v123 v124)
variable {K:Kn} {n:Nat} {M:Nat→Prop} {w0:Base} {r:(List aa)×Int} {v1:ab} {v2:Int} {v3:bw} {v4:List ab} {v24:Int} {v25:List aw} {v26 v27:List Int} {v29 v30 v31 v32 v33 v36:Int} {v37:Bool} {v41:Int} {v45:List Int} {v102 v103:Int} {v104:List aa} {v106 v110:Int} {v111:List Int} {v112 v113:Int} {v114:List Int} {v121 v122 v123:Int} {v124:List aa} {m1:Nat} {L1:Int→(List aw)→(List Int)→(List Int)→Option ((List aa)×Int)} {m2:Nat} {L2:Int→Int→(List aa)→Option ((List aa)×Int)} {m3:Nat} {L3:Int→(List Int)→Int→Int→Option ((List aa)×Int)} {m4:Nat} {L4:Int→Int→Int→(List aa)→Option ((List aa)×Int)}
theorem wd (hK:KnOk K) (hL1:H64_1 M w0 r v1 v2 v3 v4 m1 L1) (h:n0 K n v1 v2 v3 v4 v24 v25 v26 v27 v29 v30 v31 v32 v33 L1 v41=some r):VE (d5 M w0) (q64 M w0 r) [aG p64_9,.b 1,aG fZ,eS M w0 r m1,.b 0,aG dH] .normal (s64_j2 v1 v2 v3 v4 v24 v25 v26 v27 v29 v30 v31 v32 v33 v41):=by
  unfold n0 at h
  refine ac (ks':=[aG p64_11,aG p64_12,.b 1,aG fZ,eS M w0 r m1,.b 0,aG dH]) 3 (ai 3 ?_)
  obtain ⟨h45,h⟩:=aq h
  refine ap (bK 38 5 aF h45) (ap (bV 38 34 5 0 aF aF (⟨v41,v32,v33,v30,v31⟩:aw) (aH h45).2 (fun _=>rfl)) (ae ?_))
  obtain ⟨v42,h46,h⟩:=bind_some h
  have h46:=Option.some.inj h46
  refine aU (ks':=[aG p64_12,.b 1,aG fZ,eS M w0 r m1,.b 0,aG dH]) 0 ⟨[(1,iI v2),(3,.ptr 3 0),(5,.ptr 5 0),(8,.ref 1035),(9,.ref 38),(10,.ref 41),(11,.ref 44),(12,iI v24),(15,.ptr 15 0),(45,.ref 1035),(46,iI (v4.length:Int)),(47,iI v24)],[(3,ax v1),(5,ce v3),(15,aF (⟨v41,v32,v33,v30,v31⟩:aw))],[(38,⟨34,5,lm aF v42⟩),(41,⟨3,1,lm (eInt .i64) (List.set v26 v24.toNat v29)⟩),(44,⟨3,1,lm (eInt .i64) v27⟩),(1035,⟨50,59,lm aB v4⟩)],[3,5,15,38,41,44,1035]⟩ ?_ (by subst h46; kernel_rfl)
  obtain ⟨v43,h47,h⟩:=bind_some h
  obtain ⟨h48,h⟩:=aq h
  obtain ⟨h49,h⟩:=aq h
  exact bm 1 (nu 110 [.ref 44,iI v24,.agg (aF (⟨v41,v32,v33,v30,v31⟩:aw)),iI v43,.ref 41,iI v24,.eptr 41 1 (v24.toNat) 0,iI (gD (List.set v26 v24.toNat v29) v24),iI (w64 (v43+(gD (List.set v26 v24.toNat v29) v24))),.eptr 44 1 (v24.toNat) 0]) [] [] [strS 44 ⟨3,1,lm (eInt .i64) (List.set v27 v24.toNat (w64 (v43+(gD (List.set v26 v24.toNat v29) v24))))⟩] (am (vz 3) (aj (e_c 0 1 113 (t6 hK h47)) (am (vz 2) (d_v (aN 41 1 (eInt .i64) (L:=(List.set v26 v24.toNat v29)) h48) (d_v (aJ 3 0 (eInt .i64) (eInt .i64) (aH h48).2 (fun _=>rfl)) (am [.v 0 1] (d_v (aN 44 1 (eInt .i64) (L:=v27) h49) (aj (e_s (m:=0) (bV 44 3 1 0 (eInt .i64) (eInt .i64) (w64 (v43+(gD (List.set v26 v24.toNat v29) v24))) (aH h49).2 (fun _=>rfl))) bk)))))))) (ag 2 (aY (hL1 h)))
theorem wa (hK:KnOk K) (hL1:H64_1 M w0 r v1 v2 v3 v4 m1 L1) (h:q7 K n v1 v2 v3 v4 v24 v25 v26 v27 v29 v30 v31 v32 v33 L1 v36 v37=some r):VE (d5 M w0) (q64 M w0 r) [aG p64_13,.b 1,aG fZ,eS M w0 r m1,.b 0,aG dH] .normal (s64_j1 v1 v2 v3 v4 v24 v25 v26 v27 v29 v30 v31 v32 v33 v36 v37):=by
  unfold q7 at h
  refine ac (ks':=[aG p64_14,aG p64_9,.b 1,aG fZ,eS M w0 r m1,.b 0,aG dH]) 3 ?_
  rcases ao h with ⟨h41,h⟩ | ⟨h41,h⟩
  ·
   refine ak 91 h41 (ac (ks':=[aG p64_15,aG p64_16,aG p64_9,.b 1,aG fZ,eS M w0 r m1,.b 0,aG dH]) 2 (ai 3 ?_))
   obtain ⟨v38,h42,h⟩:=bind_some h
   refine nb (hK.eM h42) (ae (ai 2 ?_))
   obtain ⟨v39,h43,h⟩:=bind_some h
   refine aC (oM hK h43) ?_
   obtain ⟨v40,h44,h⟩:=bind_some h
   exact aC (oJ hK h44) (ae (ag 0 (wd hK hL1 h)))
  ·
   exact ak 91 h41 (ag 2 (wd hK hL1 h))
theorem Ca (hK:KnOk K) (hL2:mh M w0 r v2 v3 v4 v25 v26 v45 m2 L2) (hL4:H64_4 M w0 r v2 v3 v4 v25 v26 v45 v102 v103 v114 m2 m4 L4) (h:sk K n v2 v3 v4 v25 v26 v45 v102 v103 v114 L2 L4 v121 v122 v123 v124=some r):VE (d5 M w0) (q64 M w0 r) [aG p64_6,kA M w0 r m2 m4,.b 6,aG gc,.b 3,aG cX,cQ M w0 r m2,.b 2,aG cG] .normal (s64_l7 v2 v3 v4 v25 v26 v45 v102 v103 v114 v121 v122 v123 v124):=by
  unfold sk at h
  refine ac (ks':=[aG p64_17,aG p64_18,kA M w0 r m2 m4,.b 6,aG gc,.b 3,aG cX,cQ M w0 r m2,.b 2,aG cG]) 3 ?_
  rcases ao h with ⟨h161,h⟩ | ⟨h161,h⟩
  ·
   refine ak 169 h161 (ac (ks':=[aG p64_19,aG p64_20,.b 7,aG pR,kA M w0 r m2 m4,.b 6,aG gc,.b 3,aG cX,cQ M w0 r m2,.b 2,aG cG]) 5 (ai 1 ?_))
   obtain ⟨h162,h⟩:=aq h
   refine ap (bK 1166 1 (eInt .i64) h162) (ap (aJ 3 0 (eInt .i64) (eInt .i64) (aH h162).2 (fun _=>rfl)) (ae (ac (ks':=[aG p64_22,aG p64_23,.b 7,aG pR,kA M w0 r m2 m4,.b 6,aG gc,.b 3,aG cX,cQ M w0 r m2,.b 2,aG cG]) 1 (bL [1,5,8,9,10,20,21,22,24,29,30,31,32,128,129,130,166,167,168] [5] [220,1035,1166] ?_))))
   obtain ⟨h163,h⟩:=aq h
   obtain ⟨v125,h164,h⟩:=bind_some h
   obtain ⟨v126,h165,h⟩:=bind_some h
   refine bm 1 (nu 173 [.ptr 5 0,.fn v3.Layout.id v3.Layout.caps,.ref 1035,iI (gD v45 v103),iI v123,iI (w64 ((gD v45 v103)+v123)),.eptr 1035 59 (((w64 ((gD v45 v103)+v123))).toNat) 0,.agg (ax (gD v4 ((w64 ((gD v45 v103)+v123))))),iI (gD v114 v123),.agg (ax v125),iI v2,.agg (az v126)]++nu 33 [.ptr 33 0]) [(33,List.set (az bv) 66 (.nils))] [] [stp Try.prog 228 Try.f64 p64_22 13] (am (vz 6) (d_v (aN 1035 59 aB (L:=v4) h163) (d_v (aJ 50 0 aB ax (aH h163).2 (b9)) (am [.v 0 1] (aj (e_c 0 1 182 (g_flex_sized_ok hK h164)) (am [.v 0 1] (aj (e_c 0 1 184 (hK.dD h165).2 (hK.dD h165).1) (aj (e_a 0 1 67 33 (List.set (az bv) 66 (.nils))) (aj (e_d 0) bk))))))))) (ac (ks':=[aG p64_24,aG p64_25,.b 7,aG pR,kA M w0 r m2 m4,.b 6,aG gc,.b 3,aG cX,cQ M w0 r m2,.b 2,aG cG]) 1 (bL [1,5,8,9,10,20,21,22,24,29,30,31,32,33,128,129,130,166,167,168] [5,33] [220,1035,1166] ?_))
   obtain ⟨v127,h166,h⟩:=bind_some h
   obtain ⟨v128,h167,h⟩:=bind_some h
   refine bm 1 (nu 185 [iI v122,.ptr 33 61,.agg (bH v126.Before),iI v127,.ptr 33 5,iI v126.H,iI (w64 (v127+v126.H)),.agg (az v126),iI v128,iI (w64 ((w64 (v127+v126.H))+v128)),iI (max v122 (w64 ((w64 (v127+v126.H))+v128)))]) [] [] [stp Try.prog 228 Try.f64 p64_24 11] (am (vz 3) (aj (e_c 0 1 188 (l5 hK h166)) (am (vz 4) (aj (e_c 0 1 193 (xO hK h167)) (am (vz 2) (aj (e_d 0) bk)))))) ?_
   obtain ⟨v129,h168,h⟩:=bind_some h
   have h168:=Option.some.inj h168
   refine aU (ks':=[aG p64_26,aG p64_27,.b 7,aG pR,kA M w0 r m2 m4,.b 6,aG gc,.b 3,aG cX,cQ M w0 r m2,.b 2,aG cG]) 3 ⟨[(1,iI v2),(5,.ptr 5 0),(8,.ref 1035),(9,.sl (lm aF v25)),(10,.sl (lm (eInt .i64) v26)),(20,.sl (lm (eInt .i64) v45)),(21,.ref 220),(22,iI v102),(24,iI (gD v45 v103)),(29,iI v121),(30,iI v129),(31,iI v123),(32,iI (gD v114 v123)),(33,.ptr 33 0),(128,.sl (lm (eInt .i64) v45)),(129,iI (v45.length:Int)),(130,iI v103),(166,.ref 1166),(167,iI (v114.length:Int)),(168,iI v123)],[(5,ce v3),(33,az ({ v126 with X:=(w64 (v126.X+v121)) }:aa))],[(220,⟨67,67,lm au v124⟩),(1035,⟨50,59,lm aB v4⟩),(1166,⟨3,1,lm (eInt .i64) v114⟩)],[5,33,220,1035,1166]⟩ ?_ (by subst h168; kernel_rfl)
   refine ai 3 ?_
   obtain ⟨v130,h169,h⟩:=bind_some h
   refine aC (l5 hK h169) (ae (ac (ks':=[aG p64_28,aG p64_29,.b 7,aG pR,kA M w0 r m2 m4,.b 6,aG gc,.b 3,aG cX,cQ M w0 r m2,.b 2,aG cG]) 1 (ai 6 ?_)))
   obtain ⟨h170,h⟩:=aq h
   refine ap (bF (eInt .i64) (eInt .i64) h170 (fun _=>rfl) (fun _=>rfl)) (ae ?_)
   obtain ⟨v131,h171,h⟩:=bind_some h
   have h171:=Option.some.inj h171
   refine aU (ks':=[aG p64_29,.b 7,aG pR,kA M w0 r m2 m4,.b 6,aG gc,.b 3,aG cX,cQ M w0 r m2,.b 2,aG cG]) 0 ⟨[(1,iI v2),(5,.ptr 5 0),(8,.ref 1035),(9,.sl (lm aF v25)),(10,.sl (lm (eInt .i64) v26)),(20,.sl (lm (eInt .i64) v45)),(21,.ref 220),(22,iI v102),(24,iI (gD v45 v103)),(29,iI v131),(30,iI v129),(33,.ptr 33 0),(128,.sl (lm (eInt .i64) v45)),(129,iI (v45.length:Int)),(130,iI v103),(166,.ref 1166),(167,iI (v114.length:Int)),(168,iI v123)],[(5,ce v3),(33,az ({ v126 with X:=(w64 (v126.X+v121)),Y:=(w64 (v102+v130)) }:aa))],[(220,⟨67,67,lm au v124⟩),(1035,⟨50,59,lm aB v4⟩),(1166,⟨3,1,lm (eInt .i64) v114⟩)],[5,33,220,1035,1166]⟩ ?_ (by subst h171; kernel_rfl)
   refine ai 2 (ap (dN au ([({ v126 with X:=(w64 (v126.X+v121)),Y:=(w64 (v102+v130)) }:aa)]:List aa) (new:=[az ({ v126 with X:=(w64 (v126.X+v121)),Y:=(w64 (v102+v130)) }:aa)]) (by simp only [List.map_cons,List.map_nil,cp])) ?_)
   obtain ⟨h172,h⟩:=aq h
   exact ap (cb 220 220 67 67 au (rfl) (dR) h172) (ae (ag 2 (aY (hL4 h))))
  ·
   exact ak 169 h161 (ag 8 (aY (hL2 h)))
theorem Cd (hK:KnOk K) (hL2:mh M w0 r v2 v3 v4 v25 v26 v45 m2 L2) (m:Nat):H64_4 M w0 r v2 v3 v4 v25 v26 v45 v102 v103 v114 m2 m (nn K n v2 v3 v4 v25 v26 v45 v102 v103 v114 L2 m):=by
  induction m with
 | zero=>intro v121 v122 v123 v124 h; cases h
 | succ m ih=>intro v121 v122 v123 v124 h; have h:sk K n v2 v3 v4 v25 v26 v45 v102 v103 v114 L2 (nn K n v2 v3 v4 v25 v26 v45 v102 v103 v114 L2 m) v121 v122 v123 v124=some r:=h; exact aR (Ca hK hL2 ih h)
theorem BZ (hK:KnOk K) (hL2:mh M w0 r v2 v3 v4 v25 v26 v45 m2 L2) (hL3:H64_3 M w0 r v2 v3 v4 v25 v26 v45 v102 v103 v104 v106 m2 m3 L3) (h:rZ K n v2 v3 v4 v25 v26 v45 v102 v103 v104 v106 L2 L3 v110 v111 v112 v113=some r):VE (d5 M w0) (q64 M w0 r) [aG p64_8,k64_3 M w0 r m2 m3,.b 4,aG pJ,.b 3,aG cX,cQ M w0 r m2,.b 2,aG cG] .normal (s64_l6 v2 v3 v4 v25 v26 v45 v102 v103 v104 v106 v110 v111 v112 v113):=by
  unfold rZ at h
  refine ac (ks':=[aG p64_30,aG p64_31,k64_3 M w0 r m2 m3,.b 4,aG pJ,.b 3,aG cX,cQ M w0 r m2,.b 2,aG cG]) 3 ?_
  rcases ao h with ⟨h146,h⟩ | ⟨h146,h⟩
  ·
   refine ak 154 h146 (ac (ks':=[aG p64_32,aG p64_33,.b 5,aG p64_34,k64_3 M w0 r m2 m3,.b 4,aG pJ,.b 3,aG cX,cQ M w0 r m2,.b 2,aG cG]) 5 (ai 0 ?_))
   obtain ⟨h147,h⟩:=aq h
   exact ap (bF (eInt .i64) (eInt .i64) h147 (fun _=>rfl) (fun _=>rfl)) (ae (ag 3 (aY (hL3 h))))
  ·
   refine ak 154 h146 (ac (ks':=[aG p64_35,aG p64_36,aG gc,.b 3,aG cX,cQ M w0 r m2,.b 2,aG cG]) 9 (ai 3 ?_))
   obtain ⟨h148,h⟩:=aq h
   refine ap (nV aF v25 (gD v45 v103) v106 28 (.tmp 161) (some (.tmp 162)) (some (.tmp 163)) 164 (e:=34) (sz:=5) (by kernel_rfl) (by kernel_rfl) (by kernel_rfl) (by kernel_rfl) (by kernel_rfl) (by kernel_rfl) (jv) (fun k hk=>by subst hk; kernel_rfl) h148) (aO 5 1 ?_)
   obtain ⟨v114,h149,h⟩:=bind_some h
   exact cv 1166 (uq hK h149) (df 143) (ap (br (eInt .i64) v114) (ae (ag 1 (bE (p:=p64_37) n (Cd hK hL2 n h)))))
theorem yO (hK:KnOk K) (hL2:mh M w0 r v2 v3 v4 v25 v26 v45 m2 L2) (m:Nat):H64_3 M w0 r v2 v3 v4 v25 v26 v45 v102 v103 v104 v106 m2 m (pf K n v2 v3 v4 v25 v26 v45 v102 v103 v104 v106 L2 m):=by
  induction m with
 | zero=>intro v110 v111 v112 v113 h; cases h
 | succ m ih=>intro v110 v111 v112 v113 h; have h:rZ K n v2 v3 v4 v25 v26 v45 v102 v103 v104 v106 L2 (pf K n v2 v3 v4 v25 v26 v45 v102 v103 v104 v106 L2 m) v110 v111 v112 v113=some r:=h; exact aR (BZ hK hL2 ih h)
theorem xU (hK:KnOk K) (hL2:mh M w0 r v2 v3 v4 v25 v26 v45 m2 L2) (h:kJ K n v2 v3 v4 v25 v26 v45 v102 v103 v104 L2 v106=some r):VE (d5 M w0) (q64 M w0 r) [aG p64_38,.b 3,aG cX,cQ M w0 r m2,.b 2,aG cG] .normal (s64_j5 v2 v3 v4 v25 v26 v45 v102 v103 v104 v106):=by
  unfold kJ at h
  refine ac (ks':=[aG p64_39,aG p64_40,aG pJ,.b 3,aG cX,cQ M w0 r m2,.b 2,aG cG]) 4 (ai 3 ?_)
  obtain ⟨h140,h⟩:=aq h
  exact ap (nV (eInt .i64) v26 (gD v45 v103) v106 22 (.tmp 148) (some (.tmp 149)) (some (.tmp 150)) 151 (e:=3) (sz:=1) (by kernel_rfl) (by kernel_rfl) (by kernel_rfl) (by kernel_rfl) (by kernel_rfl) (by kernel_rfl) (fun _=>rfl) (fun k hk=>by subst hk; kernel_rfl) h140) (ap (br (eInt .i64) (List.drop ((gD v45 v103)).toNat (List.take v106.toNat v26))) (ae (ag 1 (bE (p:=p64_41) n (yO hK hL2 n h)))))
theorem Ab (hK:KnOk K) (hL2:mh M w0 r v2 v3 v4 v25 v26 v45 m2 L2) (h:rV K n v2 v3 v4 v25 v26 v45 L2 v102 v103 v104=some r):VE (d5 M w0) (q64 M w0 r) [aG p64_1,cQ M w0 r m2,.b 2,aG cG] .normal (s64_l8 v2 v3 v4 v25 v26 v45 v102 v103 v104):=by
  unfold rV at h
  refine ac (ks':=[aG p64_42,aG p64_43,cQ M w0 r m2,.b 2,aG cG]) 3 ?_
  rcases ao h with ⟨h135,h⟩ | ⟨h135,h⟩
  ·
   refine ak 131 h135 (ac (ks':=[aG p64_44,aG p64_45,.b 3,aG cX,cQ M w0 r m2,.b 2,aG cG]) 5 (ai 1 ?_))
   obtain ⟨h136,h⟩:=aq h
   refine ap (bF (eInt .i64) (eInt .i64) h136 (fun _=>rfl) (fun _=>rfl)) (ae (ac (ks':=[aG p64_46,aG p64_47,.b 3,aG cX,cQ M w0 r m2,.b 2,aG cG]) 1 (ai 1 (ap (br aB v4) (ae (ac (ks':=[aG p64_48,aG p64_49,aG p64_38,.b 3,aG cX,cQ M w0 r m2,.b 2,aG cG]) 2 (ai 3 (ap (br (eInt .i64) v45) (ae ?_)))))))))
   obtain ⟨v105,h137,h⟩:=bind_some h
   have h137:=Option.some.inj h137
   refine aU (ks':=[aG p64_49,aG p64_38,.b 3,aG cX,cQ M w0 r m2,.b 2,aG cG]) 0 ⟨[(1,iI v2),(5,.ptr 5 0),(8,.ref 1035),(9,.sl (lm aF v25)),(10,.sl (lm (eInt .i64) v26)),(20,.sl (lm (eInt .i64) v45)),(21,.ref 220),(22,iI v102),(23,iI v103),(24,iI (gD v45 v103)),(25,iI (v4.length:Int)),(128,.sl (lm (eInt .i64) v45)),(129,iI (v45.length:Int)),(130,iI v103),(141,.bool v105)],[(5,ce v3)],[(220,⟨67,67,lm au v104⟩),(1035,⟨50,59,lm aB v4⟩)],[5,220,1035]⟩ ?_ (by subst h137; kernel_rfl)
   rcases ao h with ⟨h138,h⟩ | ⟨h138,h⟩
   ·
    refine ak 141 h138 (ac (ks':=[aG p64_50,aG p64_38,.b 3,aG cX,cQ M w0 r m2,.b 2,aG cG]) 1 (ai 3 ?_))
    obtain ⟨h139,h⟩:=aq h
    exact ap (bF (eInt .i64) (eInt .i64) h139 (fun _=>rfl) (fun _=>rfl)) (ae (ag 0 (xU hK hL2 h)))
   ·
    exact ak 141 h138 (ag 2 (xU hK hL2 h))
  ·
   refine ak 131 h135 (aM 8 ?_)
   cases h
   exact eH
theorem BT (hK:KnOk K) (m:Nat):mh M w0 r v2 v3 v4 v25 v26 v45 m (gz K n v2 v3 v4 v25 v26 v45 m):=by
  induction m with
 | zero=>intro v102 v103 v104 h; cases h
 | succ m ih=>intro v102 v103 v104 h; have h:rV K n v2 v3 v4 v25 v26 v45 (gz K n v2 v3 v4 v25 v26 v45 m) v102 v103 v104=some r:=h; exact aR (Ab hK ih h)
theorem xZ (hK:KnOk K) (h:gZ K n v2 v3 v4 v25 v26 v45=some r):VE (d5 M w0) (q64 M w0 r) [aG p64_51] .normal (s64_j4 v2 v3 v4 v25 v26 v45):=by
  unfold gZ at h
  exact ac (ks':=[aG p64_52,aG p64_53,aG cG]) 6 (ai 1 (ap (br (eInt .i64) v45) (ae (ac (ks':=[aG p64_54,.b 2,aG cG]) 1 (ve_f 38 (ve_f 41 (cw 220 21 67 67 (ag 0 (bE (p:=p64_54) n (BT hK n h))))))))))
theorem CR (hK:KnOk K) (hL1:H64_1 M w0 r v1 v2 v3 v4 m1 L1) (h:q8 K n v1 v2 v3 v4 L1 v24 v25 v26 v27=some r):VE (d5 M w0) (q64 M w0 r) [aG p64_3,eS M w0 r m1,.b 0,aG dH] .normal (s64_l3 v1 v2 v3 v4 v24 v25 v26 v27):=by
  unfold q8 at h
  refine ac (ks':=[aG p64_55,aG p64_56,eS M w0 r m1,.b 0,aG dH]) 3 ?_
  rcases ao h with ⟨h29,h⟩ | ⟨h29,h⟩
  ·
   refine ak 48 h29 (ac (ks':=[aG p64_57,aG p64_58,.b 1,aG fZ,eS M w0 r m1,.b 0,aG dH]) 5 (ai 1 ?_))
   obtain ⟨h30,h⟩:=aq h
   refine ap (bK 1035 59 aB h30) (ap (aJ 50 0 aB ax (aH h30).2 (b9)) (ae (ac (ks':=[aG p64_59,aG p64_60,.b 1,aG fZ,eS M w0 r m1,.b 0,aG dH]) 3 (ai 4 ?_))))
   obtain ⟨v28,h31,h⟩:=bind_some h
   refine aC (oM hK h31) ?_
   obtain ⟨v29,h32,h⟩:=bind_some h
   refine aC (oJ hK h32) ?_
   obtain ⟨h33,h⟩:=aq h
   refine ap (bK 41 1 (eInt .i64) h33) (ap (bV 41 3 1 0 (eInt .i64) (eInt .i64) v29 (aH h33).2 (fun _=>rfl)) (ae (ac (ks':=[aG p64_61,aG p64_62,.b 1,aG fZ,eS M w0 r m1,.b 0,aG dH]) 1 (bL [1,3,5,8,9,10,11,12,13,14,45,46,47] [3,5,13,14] [38,41,44,1035] ?_))))
   obtain ⟨v30,h34,h⟩:=bind_some h
   obtain ⟨v31,h35,h⟩:=bind_some h
   refine bm 1 (nu 61 [.ptr 14 44,iI (((gD v4 v24).Style).Grow),.ptr 14 45,iI (((gD v4 v24).Style).Shrink),.ptr 14 10,.agg (cE (((gD v4 v24).Style).MinWidth)),iI v2,iI v30,.ptr 14 12,.agg (cE (((gD v4 v24).Style).MaxWidth)),iI v2,iI v31,.agg (aF (⟨0,((gD v4 v24).Style).Grow,((gD v4 v24).Style).Shrink,v30,v31⟩:aw))]++nu 15 [.ptr 15 0]) [(15,aF gp)] [] [stp Try.prog 228 Try.f64 p64_61 14] (am (vz 7) (aj (e_c 0 1 68 (rD hK h34)) (am (vz 3) (aj (e_c 0 1 72 (rD hK h35)) (am [.v 0 1] (aj (e_a 0 1 34 15 (aF gp)) (aj (e_d 0) bk))))))) ?_
   obtain ⟨v32,h36,h⟩:=bind_some h
   have h36:=Option.some.inj h36
   obtain ⟨v33,h37,h⟩:=bind_some h
   have h37:=Option.some.inj h37
   refine aU (ks':=[aG p64_63,aG p64_64,.b 1,aG fZ,eS M w0 r m1,.b 0,aG dH]) 1 ⟨[(1,iI v2),(3,.ptr 3 0),(5,.ptr 5 0),(8,.ref 1035),(9,.ref 38),(10,.ref 41),(11,.ref 44),(12,iI v24),(13,.ptr 13 0),(14,.ptr 14 0),(15,.ptr 15 0),(45,.ref 1035),(46,iI (v4.length:Int)),(47,iI v24)],[(3,ax v1),(5,ce v3),(13,ax (gD v4 v24)),(14,aL ((gD v4 v24).Style)),(15,aF (⟨0,v32,v33,v30,v31⟩:aw))],[(38,⟨34,5,lm aF v25⟩),(41,⟨3,1,lm (eInt .i64) (List.set v26 v24.toNat v29)⟩),(44,⟨3,1,lm (eInt .i64) v27⟩),(1035,⟨50,59,lm aB v4⟩)],[3,5,13,14,15,38,41,44,1035]⟩ ?_ (by subst h37; subst h36; kernel_rfl)
   refine ai 3 ?_
   obtain ⟨v34,h38,h⟩:=bind_some h
   refine aC (cT hK h38) (ae (ac (ks':=[aG p64_65,aG p64_13,.b 1,aG fZ,eS M w0 r m1,.b 0,aG dH]) 3 ?_))
   rcases ao h with ⟨h39,h⟩ | ⟨h39,h⟩
   ·
    refine ak 82 h39 (ac (ks':=[aG p64_66,aG p64_13,.b 1,aG fZ,eS M w0 r m1,.b 0,aG dH]) 1 (ai 3 ?_))
    obtain ⟨v35,h40,h⟩:=bind_some h
    exact aC (cT hK h40) (ae (ag 0 (wa hK hL1 h)))
   ·
    exact ak 82 h39 (ag 2 (wa hK hL1 h))
  ·
   refine ak 48 h29 (ac (ks':=[aG p64_67,aG p64_51]) 10 ?_)
   rcases ao h with ⟨h50,h⟩ | ⟨h50,h⟩
   ·
    refine ak 124 h50 (ac (ks':=[aG p64_68,aG p64_51]) 1 (ai 2 (c9 44 ?_)))
    obtain ⟨v44,h51,h⟩:=bind_some h
    exact cv 1127 (g_flex_Wrap_ok hK h51) (df 29) (ae (ve_f 1127 (ag 0 (xZ hK h))))
   ·
    exact ak 124 h50 (ag 2 (xZ hK h))
theorem De (hK:KnOk K) (m:Nat):H64_1 M w0 r v1 v2 v3 v4 m (ni K n v1 v2 v3 v4 m):=by
  induction m with
 | zero=>intro v24 v25 v26 v27 h; cases h
 | succ m ih=>intro v24 v25 v26 v27 h; have h:q8 K n v1 v2 v3 v4 (ni K n v1 v2 v3 v4 m) v24 v25 v26 v27=some r:=h; exact aR (CR hK ih h)
theorem g_flex_row_ok (hK:KnOk K) (h:sv K n v1 v2 v3=some r):ACalls Try.prog 64 [.agg (ax v1),iI v2,.agg (ce v3)] (fun v s=>v = .tup [.ref 220,iI r.2]∧look 220 s.r=some ⟨67,67,lm au r.1⟩):=by
  refine bj (cat Try.f64 []) Try.func64 Try.ntmps64 fun M w0=>(bb ⟨[(0,.agg (ax v1)),(1,iI v2),(2,.agg (ce v3))],[],[],[]⟩ ?_)
  unfold sv at h
  refine ac (ks':=[aG [1,0],aG [1,1]]) 3 (ai 1 ?_)
  obtain ⟨v4,h1,h⟩:=bind_some h
  refine cv 1035 (yb hK h1) (df 21) (ae (ac (ks':=[aG [1,1,0],aG [1,1,1]]) 1 (ai 1 (ap (br aB v4) ?_))))
  obtain ⟨h2,h⟩:=aq h
  refine fL aF (gp:aw) 28 (.tmp 37) (.tmp 37) 38 (e:=34) (sz:=5) (zc:=aF gp) (kd:=.i64) (kd':=.i64) h2 (ae ?_)
  obtain ⟨v5,h3,h⟩:=bind_some h
  have h3:=Option.some.inj h3
  refine aU (ks':=[aG p64_69,aG p64_70]) 1 ⟨[(1,iI v2),(3,.ptr 3 0),(5,.ptr 5 0),(8,.ref 1035),(9,.ref 38)],[(3,ax v1),(5,ce v3)],[(38,⟨34,5,lm aF v5⟩),(1035,⟨50,59,lm aB v4⟩)],[3,5,38,1035]⟩ ?_ (by subst h3; kernel_rfl)
  refine ai 1 (ap (br aB v4) ?_)
  obtain ⟨h4,h⟩:=aq h
  refine fL (eInt .i64) (0:Int) 22 (.tmp 40) (.tmp 40) 41 (e:=3) (sz:=1) (zc:=[iI 0]) (kd:=.i64) (kd':=.i64) h4 (ae ?_)
  obtain ⟨v6,h5,h⟩:=bind_some h
  have h5:=Option.some.inj h5
  refine aU (ks':=[aG p64_71,aG p64_72]) 1 ⟨[(1,iI v2),(3,.ptr 3 0),(5,.ptr 5 0),(8,.ref 1035),(9,.ref 38),(10,.ref 41)],[(3,ax v1),(5,ce v3)],[(38,⟨34,5,lm aF v5⟩),(41,⟨3,1,lm (eInt .i64) v6⟩),(1035,⟨50,59,lm aB v4⟩)],[3,5,38,41,1035]⟩ ?_ (by subst h5; kernel_rfl)
  refine ai 1 (ap (br aB v4) ?_)
  obtain ⟨h6,h⟩:=aq h
  refine fL (eInt .i64) (0:Int) 22 (.tmp 43) (.tmp 43) 44 (e:=3) (sz:=1) (zc:=[iI 0]) (kd:=.i64) (kd':=.i64) h6 (ae ?_)
  obtain ⟨v7,h7,h⟩:=bind_some h
  have h7:=Option.some.inj h7
  refine aU (ks':=[aG p64_73,aG p64_74,aG dH]) 2 ⟨[(1,iI v2),(3,.ptr 3 0),(5,.ptr 5 0),(8,.ref 1035),(9,.ref 38),(10,.ref 41),(11,.ref 44)],[(3,ax v1),(5,ce v3)],[(38,⟨34,5,lm aF v5⟩),(41,⟨3,1,lm (eInt .i64) v6⟩),(44,⟨3,1,lm (eInt .i64) v7⟩),(1035,⟨50,59,lm aB v4⟩)],[3,5,38,41,44,1035]⟩ ?_ (by subst h7; kernel_rfl)
  exact ai 1 (ap (br aB v4) (ae (ag 1 (bE (p:=p64_75) n (De hK n h)))))
end
def p66_0:=pth 5 1
def p66_1:=pth 0 1111101
def p66_2:=pth 0 111110100
def p66_3:=pth 0 111110101
noncomputable section
abbrev cx66 (M:Nat→Prop) (w0:Base):Cx:=⟨Try.prog,45,M,w0⟩
abbrev q66 (M:Nat→Prop) (w0:Base) (r:aa):=bodyPost Try.prog Try.f66 (RetQ M w0 (fun v _=>v = .agg (az r)))
def s66_j1 (v1:aa) (v3:Int×Bool) (v5:Int):AS:=⟨[(2,.ptr 2 0),(4,.ptr 4 0)],[(2,az ({ v1 with X:=(w64 (v1.X+v3.1)),Y:=v5 }:aa)),(4,List.set (az bv) 66 (.nils))],[],[2,4]⟩
variable {K:Kn} {n:Nat} {M:Nat→Prop} {w0:Base} {r v1:aa} {v2:Int} {v3:Int×Bool} {v5:Int} 
abbrev iy (p:List Nat):Kont:=.c (cat Try.f66 p)
theorem yp (hK:KnOk K) (h:km K n v1 v3 v5=some r):VE (cx66 M w0) (q66 M w0 r) [iy p66_0] .normal (s66_j1 v1 v3 v5):=by
  unfold km at h
  refine aM 3 ?_
  cases h
  exact bu
theorem xl (hK:KnOk K) (h:jP K n v1 v2=some r):ACalls Try.prog 66 [.agg (az v1),iI v2] (fun v _=>v = .agg (az r)):=by
  refine bj (cat Try.f66 []) Try.func66 Try.ntmps66 fun M w0=>(bb ⟨[(0,.agg (az v1)),(1,iI v2)],[],[],[]⟩ ?_)
  unfold jP at h
  refine ac (ks':=[iy [1,0,1],iy [1,1]]) 5 ?_
  rcases ao h with ⟨h1,h⟩ | ⟨h1,h⟩
  ·
   refine ak 12 h1 (aM 5 ?_)
   cases h
   exact bu
  ·
   refine ak 12 h1 (ac (ks':=[iy [1,1,0],iy [1,1,1]]) 3 (ai 4 ?_))
   obtain ⟨v3,h2,h⟩:=bind_some h
   refine aC (cT hK h2) (ae (ac (ks':=[iy p66_1,iy p66_0]) 5 ?_))
   rcases ao h with ⟨h3,h⟩ | ⟨h3,h⟩
   ·
    refine ak 31 h3 (ac (ks':=[iy p66_2,iy p66_3,iy p66_0]) 2 (ai 3 ?_))
    obtain ⟨v4,h4,h⟩:=bind_some h
    exact aC (cT hK h4) (ae (ag 1 (yp hK h)))
   ·
    exact ak 31 h3 (ag 2 (yp hK h))
end
def kh:=pth 10 1
def p32_1:=pth 9 10100
def p32_2:=pth 9 1010010
def p32_3:=pth 9 1010011
def p32_4:=pth 9 10100110010
def p32_5:=pth 9 10100110011
def p32_6:=pth 9 10100111
def p32_7:=pth 9 101001100110
def p32_8:=pth 9 101001100111
def p32_9:=pth 7 1
def p32_10:=pth 9 100
def p32_11:=pth 9 101
def p32_12:=pth 9 1010
def p32_13:=pth 5 1
def p32_14:=pth 6 101
def p32_15:=pth 6 1010
def p32_16:=pth 0 1111101
def p32_17:=pth 0 11111010
def p32_18:=pth 0 11111011
noncomputable section
abbrev cx32 (M:Nat→Prop) (w0:Base):Cx:=⟨Try.prog,154,M,w0⟩
abbrev q32 (M:Nat→Prop) (w0:Base) (r:aa):=bodyPost Try.prog Try.f32 (RetQ M w0 (fun v s=>v = .agg (List.set (az ({ r with Kids:=[] }:aa)) 66 (.ref 1040))∧look 1040 s.r=some ⟨67,67,lm au r.Kids⟩))
abbrev cm (p:List Nat):Kont:=.c (cat Try.f32 p)
abbrev k32_1 (M:Nat→Prop) (w0:Base) (r:aa) (m1:Nat):Kont:=kl (cx32 M w0) (q32 M w0 r) [.b 0,cm kh] (cat Try.f32 p32_1) m1
def s32_l3 (v1:ab) (v4:ay) (v5 v6:ah) (v10:List aa) (v13 v14 v18:Int) (v19:List aa):AS:=⟨[(6,.ptr 6 0),(7,.ptr 7 0),(8,.ptr 8 0),(104,iI (v10.length:Int)),(105,iI v18)],[(6,List.set (az bv) 66 (.nils)),(7,bh v4),(8,List.set (az (⟨1,v1.Node,v4.Margin.a3,0,v13,v14,0,⟨#[]⟩,v1.Style,v5,v6,false,[]⟩:aa)) 66 (.ref 1040))],[(1040,⟨67,67,lm au v19⟩)],[6,7,8,1040]⟩
def s32_j2 (v1:ab) (v4:ay) (v5 v6:ah) (v10:List aa) (v12:Int):AS:=⟨[(6,.ptr 6 0),(7,.ptr 7 0),(8,.ptr 8 0),(9,iI v12)],[(6,List.set (az bv) 66 (.nils)),(7,bh v4),(8,List.set (az ({ bv with Kind:=1,Node:=v1.Node,X:=v4.Margin.a3,Style:=v1.Style,Before:=v5,After:=v6 }:aa)) 66 (.ref 1040))],[(1040,⟨67,67,lm au v10⟩)],[6,7,8,1040]⟩
def s32_j1 (v1:ab) (v4:ay) (v5 v6:ah) (v9:Int) (v10:List aa):AS:=⟨[(3,.ptr 3 0),(6,.ptr 6 0),(7,.ptr 7 0),(8,.ptr 8 0),(9,iI v9)],[(3,ax v1),(6,List.set (az bv) 66 (.nils)),(7,bh v4),(8,List.set (az ({ bv with Kind:=1,Node:=v1.Node,X:=v4.Margin.a3,Style:=v1.Style,Before:=v5,After:=v6 }:aa)) 66 (.ref 1040))],[(1040,⟨67,67,lm au v10⟩)],[3,6,7,8,1040]⟩
abbrev H32_1 (M:Nat→Prop) (w0:Base) (r:aa) (v1:ab) (v4:ay) (v5 v6:ah) (v10:List aa) (v13 v14:Int) (m1:Nat) (L1:Int→(List aa)→Option aa):Prop:=∀ {v18:Int} {v19:List aa},L1 v18 v19=some r→LP (cx32 M w0) (q32 M w0 r) [.b 0,cm kh] (cat Try.f32 p32_1) m1 (s32_l3 v1 v4 v5 v6 v10 v13 v14 v18 v19)
variable {K:Kn} {n:Nat} {M:Nat→Prop} {w0:Base} {r:aa} {v1:ab} {v2:Int} {v3:bw} {v4:ay} {v5 v6:ah} {v9:Int} {v10:List aa} {v12 v13 v14 v18:Int} {v19:List aa} {m1:Nat} {L1:Int→(List aa)→Option aa}
theorem y8 (hK:KnOk K) (hL1:H32_1 M w0 r v1 v4 v5 v6 v10 v13 v14 m1 L1) (h:sF K n v1 v4 v5 v6 v10 v13 v14 L1 v18 v19=some r):VE (cx32 M w0) (q32 M w0 r) [cm p32_1,k32_1 M w0 r m1,.b 0,cm kh] .normal (s32_l3 v1 v4 v5 v6 v10 v13 v14 v18 v19):=by
  unfold sF at h
  refine ac (ks':=[cm p32_2,cm p32_3,k32_1 M w0 r m1,.b 0,cm kh]) 3 ?_
  rcases ao h with ⟨h21,h⟩ | ⟨h21,h⟩
  ·
   refine ak 106 h21 (ac (ks':=[cm p32_4,cm p32_5,.b 1,cm p32_6,k32_1 M w0 r m1,.b 0,cm kh]) 7 (bL [6,7,8,10,104,105] [6,7,8] [1040] ?_))
   obtain ⟨h22,h⟩:=aq h
   obtain ⟨h23,h⟩:=aq h
   refine bm 1 (nu 108 [.ptr 8 66,.ref 1040,iI v18,.eptr 1040 67 (v18.toNat) 0,.eptr 1040 67 (v18.toNat) 2,iI ((gD v19 v18).X),.ptr 7 4,.ptr 7 7,iI v4.Border.a3,.ptr 7 8,.ptr 7 11,iI v4.Padding.a3,iI (w64 (v4.Border.a3+v4.Padding.a3)),iI (w64 (((gD v19 v18).X)+(w64 (v4.Border.a3+v4.Padding.a3)))),.eptr 1040 67 (v18.toNat) 0,.eptr 1040 67 (v18.toNat) 2]) [] [] [strS 1040 ⟨67,67,lm au (List.set v19 v18.toNat ({ (gD v19 v18) with X:=(w64 (((gD v19 v18).X)+(w64 (v4.Border.a3+v4.Padding.a3)))) }:aa))⟩] (am (vz 3) (d_v (aN 1040 67 au (L:=v19) h22) (am [.v 0 1] (d_v (aJ 3 2 au az (aH h23).2 (cp)) (am (vz 8) (aj (k_v (lo:=0) (k:=2) (bP ⟨(by kernel_rfl),(bQ (aN 1040 67 au (L:=v19) h23) (by kernel_rfl))⟩ (bP ⟨(by kernel_rfl),(bQ (aN 1040 67 au (L:=(List.set v19 v18.toNat ({ (gD v19 v18) with X:=(w64 (((gD v19 v18).X)+(w64 (v4.Border.a3+v4.Padding.a3)))) }:aa))) h23) (by kernel_rfl))⟩ cF))) (am [.v 0 1] (aj (e_s (m:=0) (bV 1040 67 67 2 au az ({ (gD v19 v18) with X:=(w64 (((gD v19 v18).X)+(w64 (v4.Border.a3+v4.Padding.a3)))) }:aa) (aH h23).2 (cp))) bk)))))))) ?_
   obtain ⟨v20,h24,h⟩:=bind_some h
   have h24:=Option.some.inj h24
   refine aU (ks':=[cm p32_7,cm p32_8,.b 1,cm p32_6,k32_1 M w0 r m1,.b 0,cm kh]) 1 ⟨[(6,.ptr 6 0),(7,.ptr 7 0),(8,.ptr 8 0),(10,iI v18),(104,iI (v10.length:Int)),(105,iI v18)],[(6,List.set (az bv) 66 (.nils)),(7,bh v4),(8,List.set (az (⟨1,v1.Node,v4.Margin.a3,0,v13,v14,0,⟨#[]⟩,v1.Style,v5,v6,false,[]⟩:aa)) 66 (.ref 1040))],[(1040,⟨67,67,lm au v20⟩)],[6,7,8,1040]⟩ ?_ (by subst h24; kernel_rfl)
   obtain ⟨h25,h⟩:=aq h
   obtain ⟨h26,h⟩:=aq h
   refine bm 1 (nu 124 [.ptr 8 66,.ref 1040,iI v18,.eptr 1040 67 (v18.toNat) 0,.eptr 1040 67 (v18.toNat) 3,iI ((gD v20 v18).Y),.ptr 7 4,.ptr 7 4,iI v4.Border.a0,.ptr 7 8,.ptr 7 8,iI v4.Padding.a0,iI (w64 (v4.Border.a0+v4.Padding.a0)),iI (w64 (((gD v20 v18).Y)+(w64 (v4.Border.a0+v4.Padding.a0)))),.eptr 1040 67 (v18.toNat) 0,.eptr 1040 67 (v18.toNat) 3]) [] [] [strS 1040 ⟨67,67,lm au (List.set v20 v18.toNat ({ (gD v20 v18) with Y:=(w64 (((gD v20 v18).Y)+(w64 (v4.Border.a0+v4.Padding.a0)))) }:aa))⟩] (am (vz 3) (d_v (aN 1040 67 au (L:=v20) h25) (am [.v 0 1] (d_v (aJ 3 3 au az (aH h26).2 (cp)) (am (vz 8) (aj (k_v (lo:=0) (k:=2) (bP ⟨(by kernel_rfl),(bQ (aN 1040 67 au (L:=v20) h26) (by kernel_rfl))⟩ (bP ⟨(by kernel_rfl),(bQ (aN 1040 67 au (L:=(List.set v20 v18.toNat ({ (gD v20 v18) with Y:=(w64 (((gD v20 v18).Y)+(w64 (v4.Border.a0+v4.Padding.a0)))) }:aa))) h26) (by kernel_rfl))⟩ cF))) (am [.v 0 1] (aj (e_s (m:=0) (bV 1040 67 67 3 au az ({ (gD v20 v18) with Y:=(w64 (((gD v20 v18).Y)+(w64 (v4.Border.a0+v4.Padding.a0)))) }:aa) (aH h26).2 (cp))) bk)))))))) ?_
   obtain ⟨v21,h27,h⟩:=bind_some h
   have h27:=Option.some.inj h27
   refine aU (ks':=[cm p32_8,.b 1,cm p32_6,k32_1 M w0 r m1,.b 0,cm kh]) 0 ⟨[(6,.ptr 6 0),(7,.ptr 7 0),(8,.ptr 8 0),(10,iI v18),(104,iI (v10.length:Int)),(105,iI v18)],[(6,List.set (az bv) 66 (.nils)),(7,bh v4),(8,List.set (az (⟨1,v1.Node,v4.Margin.a3,0,v13,v14,0,⟨#[]⟩,v1.Style,v5,v6,false,[]⟩:aa)) 66 (.ref 1040))],[(1040,⟨67,67,lm au v21⟩)],[6,7,8,1040]⟩ ?_ (by subst h27; kernel_rfl)
   obtain ⟨h28,h⟩:=aq h
   obtain ⟨v22,h29,h⟩:=bind_some h
   obtain ⟨h30,h⟩:=aq h
   exact bm 1 (nu 140 [.ptr 8 66,.ref 1040,iI v18,.ptr 8 66,.ref 1040,iI v18,.eptr 1040 67 (v18.toNat) 0,.agg (az (gD v21 v18)),.ptr 7 12,iI v4.Content,.agg (az v22),.eptr 1040 67 (v18.toNat) 0]) [] [] [strS 1040 ⟨67,67,lm au (List.set v21 v18.toNat v22)⟩] (am (vz 6) (d_v (aN 1040 67 au (L:=v21) h28) (d_v (aJ 67 0 au az (aH h30).2 (cp)) (am (vz 2) (aj (e_c 0 1 150 (xl hK h29)) (d_v (aN 1040 67 au (L:=v21) h30) (aj (e_s (m:=0) (bV 1040 67 67 0 au az v22 (aH h30).2 (cp))) bk))))))) (ag 2 (aY (hL1 h)))
  ·
   refine ak 106 h21 (aM 8 ?_)
   cases h
   exact cP
theorem zd (hK:KnOk K) (m:Nat):H32_1 M w0 r v1 v4 v5 v6 v10 v13 v14 m (pM K n v1 v4 v5 v6 v10 v13 v14 m):=by
  induction m with
 | zero=>intro v18 v19 h; cases h
 | succ m ih=>intro v18 v19 h; have h:sF K n v1 v4 v5 v6 v10 v13 v14 (pM K n v1 v4 v5 v6 v10 v13 v14 m) v18 v19=some r:=h; exact aR (y8 hK ih h)
theorem yf (hK:KnOk K) (h:oO K n v1 v4 v5 v6 v10 v12=some r):VE (cx32 M w0) (q32 M w0 r) [cm p32_9] .normal (s32_j2 v1 v4 v5 v6 v10 v12):=by
  unfold oO at h
  obtain ⟨v13,h9,h⟩:=bind_some h
  have h9:=Option.some.inj h9
  obtain ⟨v14,h10,h⟩:=bind_some h
  have h10:=Option.some.inj h10
  refine aU (ks':=[cm p32_10,cm p32_11,cm kh]) 6 ⟨[(6,.ptr 6 0),(7,.ptr 7 0),(8,.ptr 8 0)],[(6,List.set (az bv) 66 (.nils)),(7,bh v4),(8,List.set (az (⟨1,v1.Node,v4.Margin.a3,0,v13,v14,0,⟨#[]⟩,v1.Style,v5,v6,false,[]⟩:aa)) 66 (.ref 1040))],[(1040,⟨67,67,lm au v10⟩)],[6,7,8,1040]⟩ ?_ (by subst h10; subst h9; kernel_rfl)
  exact ai 2 (ap (br au v10) (ae (ag 1 (bE (p:=p32_12) n (zd hK n h)))))
theorem xQ (hK:KnOk K) (h:ph K n v1 v4 v5 v6 v9 v10=some r):VE (cx32 M w0) (q32 M w0 r) [cm p32_13] .normal (s32_j1 v1 v4 v5 v6 v9 v10):=by
  unfold ph at h
  refine ac (ks':=[cm p32_14,cm p32_9]) 5 ?_
  rcases ao h with ⟨h7,h⟩ | ⟨h7,h⟩
  ·
   refine ak 59 h7 (ac (ks':=[cm p32_15,cm p32_9]) 1 (ai 3 ?_))
   obtain ⟨v11,h8,h⟩:=bind_some h
   exact aC (rD hK h8) (ae (ag 0 (yf hK h)))
  ·
   exact ak 59 h7 (ag 2 (yf hK h))
theorem Ar (hK:KnOk K) (h:rE K n v1 v2 v3=some r):ACalls Try.prog 32 [.agg (ax v1),iI v2,.agg (ce v3)] (fun v s=>v = .agg (List.set (az ({ r with Kids:=[] }:aa)) 66 (.ref 1040))∧look 1040 s.r=some ⟨67,67,lm au r.Kids⟩):=by
  refine bj (cat Try.f32 []) Try.func32 Try.ntmps32 fun M w0=>(bb ⟨[(0,.agg (ax v1)),(1,iI v2),(2,.agg (ce v3))],[],[],[]⟩ ?_)
  unfold rE at h
  refine ac (ks':=[cm [1,0],cm [1,1]]) 3 (ai 3 ?_)
  obtain ⟨v4,h1,h⟩:=bind_some h
  refine aC (vI hK h1) (ae (ac (ks':=[cm [1,1,0],cm [1,1,1]]) 1 (bL [3,5,6,7] [3,5,6,7] [] ?_)))
  obtain ⟨v5,h2,h⟩:=bind_some h
  obtain ⟨v6,h3,h⟩:=bind_some h
  refine bm 1 (nu 15 [.ptr 3 1,iI v1.Node,.ptr 3 2,.agg (aL v1.Style),.ptr 7 0,.ptr 7 3,iI v4.Margin.a3,.ptr 7 0,.ptr 7 0,iI v4.Margin.a0,.agg (bH v5),.ptr 7 0,.ptr 7 2,iI v4.Margin.a2,.agg (bH v6),.agg (List.set (az ({ bv with Kind:=1,Node:=v1.Node,X:=v4.Margin.a3,Style:=v1.Style,Before:=v5,After:=v6 }:aa)) 66 (.nils))]++nu 8 [.ptr 8 0]) [(8,List.set (az bv) 66 (.nils))] [] [stp Try.prog 154 Try.f32 [1,1,0] 17] (am (vz 10) (aj (e_c 0 1 25 (tr hK h2)) (am (vz 3) (aj (e_c 0 1 29 (tr hK h3)) (am [.v 0 1] (aj (e_a 0 1 67 8 (List.set (az bv) 66 (.nils))) (aj (e_d 0) bk))))))) (ac (ks':=[cm p32_16,cm p32_13]) 5 ?_)
  rcases ao h with ⟨h4,h⟩ | ⟨h4,h⟩
  ·
   refine ak 34 h4 (ac (ks':=[cm p32_17,cm p32_13]) 1 (ai 4 ?_))
   obtain ⟨v7,h5,h⟩:=bind_some h
   exact cv 1040 (Cq hK h5) (px (i:=0) rfl) (ae (ag 0 (xQ hK h)))
  ·
   refine ak 34 h4 (ac (ks':=[cm p32_18,cm p32_13]) 1 (ai 4 ?_))
   obtain ⟨v8,h6,h⟩:=bind_some h
   exact cv 1049 (g_flex_row_ok hK h6) (px (i:=0) rfl) (ae (kN 1049 1040 (ag 0 (xQ hK h))))
end
noncomputable section
abbrev cx46 (M:Nat→Prop) (w0:Base):Cx:=⟨Try.prog,12,M,w0⟩
abbrev q46 (M:Nat→Prop) (w0:Base) (r:Bool):=bodyPost Try.prog Try.f46 (RetQ M w0 (fun v _=>v = .bool r))
def s46_j1 (v2:Bool):AS:=⟨[(2,.bool v2)],[],[],[]⟩
variable {K:Kn} {n:Nat} {M:Nat→Prop} {w0:Base} {r:Bool} {v1:ab} {v2:Bool} 
abbrev cF46 (p:List Nat):Kont:=.c (cat Try.f46 p)
theorem xL (hK:KnOk K) (h:kI K n v2=some r):VE (cx46 M w0) (q46 M w0 r) [cF46 [1,1]] .normal (s46_j1 v2):=by
  unfold kI at h
  refine aM 1 ?_
  cases h
  exact bu
theorem wk (hK:KnOk K) (h:i7 K n v1=some r):ACalls Try.prog 46 [.agg (ax v1)] (fun v _=>v = .bool r):=by
  refine bj (cat Try.f46 []) Try.func46 Try.ntmps46 fun M w0=>(bb ⟨[(0,.agg (ax v1))],[],[],[]⟩ ?_)
  unfold i7 at h
  refine ac (ks':=[cF46 [1,0],cF46 [1,1]]) 3 (ai 4 ?_)
  rcases ao h with ⟨h1,h⟩ | ⟨h1,h⟩
  ·
   exact aK 6 h1 (ae (ag 0 (xL hK h)))
  ·
   exact aK 6 h1 (ae (ag 0 (xL hK h)))
end
end Go.Proofs.Ytlpndemhnpajiaa
