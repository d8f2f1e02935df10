/- The runs of the functions that InlineBreak reaches do what their plain forms say, part 1. Made by a program. -/
import Derived.Test.YtnpmlepplfaijaaIbGk
import Derived.Test.YtnpmlepplfaijaaIbP0
namespace Go.Proofs.Ytnpmlepplfaijaa
open Go.RowKit
set_option maxRecDepth 20000
set_option linter.all false
set_option linter.unusedVariables false
set_option linter.unusedSimpArgs false
noncomputable section
variable(M:Nat→Prop)(w0:aw)(r:Bool)(v1:aq)(v2:Bool)  
abbrev C8(n:Nat):aj:=.c (cat Try.f81 (pn n))
abbrev Cd:Cx:=⟨Try.prog,16,M,w0⟩
abbrev C2:=bodyPost Try.prog Try.f81 (bn M w0 (fun v _=>v=.bool r))
abbrev BQ(ks:List aj)(s:AS):=VE (Cd M w0) (C2 M w0 r) ks .normal s
def Ds:AS:=⟨[(2,.bool v2)],[],[],[]⟩
variable{M w0 r v1 v2}{K:Kn}{n:Nat}
theorem qm(hK:ai K)(h:j5 K n v2=some r):BQ M w0 r [C8 7] (Ds v2):=by
 unfold j5 at h;refine aI 1 ?_;cases h;exact ba
theorem wv(hK:ai K)(h:mN K n v1=some r):aJ Try.prog 81 [.agg (aW v1)] (fun v _=>v=.bool r):=by
 refine bd (cat Try.f81 (pn 1)) Try.func81 Try.ntmps81 fun M w0=>(aY ⟨[(0,.agg (aW v1))],[],[],[]⟩ ?_);unfold mN at h;refine ao 6 7 3 (ag 4 ?_);obtain⟨h1,h⟩|⟨h1,h⟩:=ah h
 ·exact ay 6 h1 (aa (ac 0 (qm hK h)))
 ·refine ay 6 h1 (aU 9 5 ?_);obtain⟨h2,h⟩|⟨h2,h⟩:=ah h
  ·exact ay 11 h2 (aa (ac 0 (qm hK h)))
  ·exact ay 11 h2 (aa (ac 0 (qm hK h)))
end
noncomputable section
variable(M:Nat→Prop)(w0:aw)(r:ae)(v1:aq)(v2:bq)(v3 v4:Bool)(v5:bU)(v6:(List aq)×Bool)(v9:Int)(v10:List ae)(v15:Int)(v16:Bool)(v17 v18:aE)(v19:List ae)(v20 v21:aE)(v23:Bool)(v25:Int)(v26:aE)(v27:Bool)(v32:Int)(v33 v34:aE)(v35:Bool)(v36:Int×Bool)(v37:Bool)(v38 v39 v40 v47:Int)(v48 v50:(List ae))(v52:Bool)(v54:List ae)(m1 m2:Nat)(L1 L2:Int→(List ae)→Option ae)
abbrev kw:Cx:=⟨Try.prog,259,M,w0⟩
abbrev jz:=bodyPost Try.prog Try.f62 (bn M w0 (fun v s=>v=.agg (List.set (aD ({ r with Kids:=[] }:ae)) 66 (.ref 1054))∧look 1054 s.r=some ⟨64,67,lm au r.Kids⟩))
abbrev dZ(ks:List aj)(s:AS):=VE (kw M w0) (jz M w0 r) ks .normal s
abbrev b8(n:Nat):aj:=.c (cat Try.f62 (pn n))
abbrev sI:List aj:=[.b 4,b8 131071]
abbrev jb:List aj:=kl (kw M w0) (jz M w0 r) sI (cat Try.f62 (pn 1048564)) m2::sI
abbrev sP:List aj:=[.b 0,b8 4075,b8 255]
abbrev yq:List aj:=kl (kw M w0) (jz M w0 r) sP (cat Try.f62 (pn 32596)) m1::sP
def AC:AS:=⟨[(6,.ptr 6 0),(10,.ptr 10 0),(11,.ptr 11 0),(12,.sl (lm aO v6.1)),(13,.bool v6.2),(15,iI v25),(199,iI (v19.length:Int)),(200,iI v47)],[(6,bm v2),(10,List.set (aD bh) 66 (.nils)),(11,List.set (aD (⟨1,v1.Node,v2.Margin.a3,0,(af (v2.Content+v39)),v40,0,⟨#[]⟩,v1.Style,v33,v34,v35,[]⟩:ae)) 66 (.ref 1054))],[(1054,⟨64,67,lm au v54⟩)],[6,10,11,1054]⟩
def DC:AS:=⟨[(6,.ptr 6 0),(10,.ptr 10 0),(11,.ptr 11 0),(12,.sl (lm aO v6.1)),(13,.bool v6.2),(15,iI v25),(24,iI v47),(199,iI (v19.length:Int)),(200,iI v47),(244,.bool v52)],[(6,bm v2),(10,List.set (aD bh) 66 (.nils)),(11,List.set (aD (⟨1,v1.Node,v2.Margin.a3,0,(af (v2.Content+v39)),v40,0,⟨#[]⟩,v1.Style,v33,v34,v35,[]⟩:ae)) 66 (.ref 1054))],[(1054,⟨64,67,lm au v50⟩)],[6,10,11,1054]⟩
def vU:AS:=⟨[(6,.ptr 6 0),(10,.ptr 10 0),(11,.ptr 11 0),(12,.sl (lm aO v6.1)),(13,.bool v6.2),(15,iI v25),(199,iI (v19.length:Int)),(200,iI v47)],[(6,bm v2),(10,List.set (aD bh) 66 (.nils)),(11,List.set (aD (⟨1,v1.Node,v2.Margin.a3,0,(af (v2.Content+v39)),v40,0,⟨#[]⟩,v1.Style,v33,v34,v35,[]⟩:ae)) 66 (.ref 1054))],[(1054,⟨64,67,lm au v48⟩)],[6,10,11,1054]⟩
def Dl:AS:=⟨[(6,.ptr 6 0),(10,.ptr 10 0),(11,.ptr 11 0),(12,.sl (lm aO v6.1)),(13,.bool v6.2),(14,iI v38),(15,iI v25)],[(6,bm v2),(10,List.set (aD bh) 66 (.nils)),(11,List.set (aD ({ bh with Kind:=1,Node:=v1.Node,Style:=v1.Style,Before:=v33,After:=v34,Empty:=v35 }:ae)) 66 (.ref 1054))],[(1054,⟨64,67,lm au v19⟩)],[6,10,11,1054]⟩
def EH:AS:=⟨[(6,.ptr 6 0),(10,.ptr 10 0),(11,.ptr 11 0),(12,.sl (lm aO v6.1)),(13,.bool v6.2),(14,iI (max v32 0)),(15,iI v25),(22,iI v36.1),(166,.bool v37)],[(6,bm v2),(10,List.set (aD bh) 66 (.nils)),(11,List.set (aD ({ bh with Kind:=1,Node:=v1.Node,Style:=v1.Style,Before:=v33,After:=v34,Empty:=v35 }:ae)) 66 (.ref 1054))],[(1054,⟨64,67,lm au v19⟩)],[6,10,11,1054]⟩
def Bl:AS:=⟨[(5,.ptr 5 0),(6,.ptr 6 0),(10,.ptr 10 0),(11,.ptr 11 0),(12,.sl (lm aO v6.1)),(13,.bool v6.2),(14,iI v32),(15,iI v25)],[(5,aW v1),(6,bm v2),(10,List.set (aD bh) 66 (.nils)),(11,List.set (aD ({ bh with Kind:=1,Node:=v1.Node,Style:=v1.Style,Before:=v33,After:=v34,Empty:=v35 }:ae)) 66 (.ref 1054))],[(1054,⟨64,67,lm au v19⟩)],[5,6,10,11,1054]⟩
def B1:AS:=⟨[(3,.bool v4),(5,.ptr 5 0),(6,.ptr 6 0),(10,.ptr 10 0),(11,.ptr 11 0),(12,.sl (lm aO v6.1)),(13,.bool v6.2),(14,iI v15),(15,iI v25),(16,.ptr 16 0),(17,.ptr 17 0),(18,.bool v16),(113,.bool v27)],[(5,aW v1),(6,bm v2),(10,List.set (aD bh) 66 (.nils)),(11,List.set (aD ({ bh with Kind:=1,Node:=v1.Node,Style:=v1.Style,Before:=v26,After:=v21 }:ae)) 66 (.ref 1054)),(16,bx v17),(17,bx v18)],[(1054,⟨64,67,lm au v19⟩)],[5,6,10,11,16,17,1054]⟩
def CK:AS:=⟨[(2,.bool v3),(3,.bool v4),(5,.ptr 5 0),(6,.ptr 6 0),(10,.ptr 10 0),(11,.ptr 11 0),(12,.sl (lm aO v6.1)),(13,.bool v6.2),(14,iI v15),(15,iI v25),(16,.ptr 16 0),(17,.ptr 17 0),(18,.bool v16)],[(5,aW v1),(6,bm v2),(10,List.set (aD bh) 66 (.nils)),(11,List.set (aD ({ bh with Kind:=1,Node:=v1.Node,Style:=v1.Style,Before:=v26,After:=v21 }:ae)) 66 (.ref 1054)),(16,bx v17),(17,bx v18)],[(1054,⟨64,67,lm au v19⟩)],[5,6,10,11,16,17,1054]⟩
def Ag:AS:=⟨[(2,.bool v3),(3,.bool v4),(5,.ptr 5 0),(6,.ptr 6 0),(10,.ptr 10 0),(11,.ptr 11 0),(12,.sl (lm aO v6.1)),(13,.bool v6.2),(14,iI v15),(15,iI 0),(16,.ptr 16 0),(17,.ptr 17 0),(18,.bool v16),(98,.bool v23)],[(5,aW v1),(6,bm v2),(10,List.set (aD bh) 66 (.nils)),(11,List.set (aD ({ bh with Kind:=1,Node:=v1.Node,Style:=v1.Style,Before:=v20,After:=v21 }:ae)) 66 (.ref 1054)),(16,bx v17),(17,bx v18)],[(1054,⟨64,67,lm au v19⟩)],[5,6,10,11,16,17,1054]⟩
def zk:AS:=⟨[(2,.bool v3),(3,.bool v4),(5,.ptr 5 0),(6,.ptr 6 0),(10,.ptr 10 0),(11,.ptr 11 0),(12,.sl (lm aO v6.1)),(13,.bool v6.2),(14,iI v15),(15,iI 0),(16,.ptr 16 0),(17,.ptr 17 0),(18,.bool v16)],[(5,aW v1),(6,bm v2),(10,List.set (aD bh) 66 (.nils)),(11,List.set (aD ({ bh with Kind:=1,Node:=v1.Node,Style:=v1.Style }:ae)) 66 (.ref 1054)),(16,bx v17),(17,bx v18)],[(1054,⟨64,67,lm au v19⟩)],[5,6,10,11,16,17,1054]⟩
def tk:AS:=⟨[(2,.bool v3),(3,.bool v4),(5,.ptr 5 0),(6,.ptr 6 0),(9,.ptr 9 0),(10,.ptr 10 0),(11,.ptr 11 0),(12,.sl (lm aO v6.1)),(13,.bool v6.2),(15,iI 0),(16,.ptr 16 0),(17,.ptr 17 0),(19,.ref 50),(36,.sl (lm aO v6.1)),(37,iI (v6.1.length:Int)),(38,iI v9)],[(5,aW v1),(6,bm v2),(9,bX v5),(10,List.set (aD bh) 66 (.nils)),(11,List.set (aD ({ bh with Kind:=1,Node:=v1.Node,Style:=v1.Style }:ae)) 66 (.nils)),(16,bx cb),(17,bx cb)],[(50,⟨64,67,lm au v10⟩)],[5,6,9,10,11,16,17,50]⟩
abbrev vF:Prop:=∀{v9:Int} {v10:(List ae)},L1 v9 v10=some r→LP (kw M w0) (jz M w0 r) sP (cat Try.f62 (pn 32596)) m1 (tk v1 v2 v3 v4 v5 v6 v9 v10)
abbrev m4:Prop:=∀{v47:Int} {v48:(List ae)},L2 v47 v48=some r→LP (kw M w0) (jz M w0 r) sI (cat Try.f62 (pn 1048564)) m2 (vU v1 v2 v6 v19 v25 v33 v34 v35 v39 v40 v47 v48)
variable{M w0 r v1 v2 v3 v4 v5 v6 v9 v10 v15 v16 v17 v18 v19 v20 v21 v23 v25 v26 v27 v32 v33 v34 v35 v36 v37 v38 v39 v40 v47 v48 v50 v52 v54 m1 m2 L1 L2}{K:Kn}{n:Nat}
theorem wT(hK:ai K)(hL2:m4 M w0 r v1 v2 v6 v19 v25 v33 v34 v35 v39 v40 m2 L2)(h:nC K n v1 v2 v6 v19 v25 v33 v34 v35 v39 v40 v47 L2 v54=some r):dZ M w0 r (.b 5::b8 8388519::jb M w0 r m2) (AC v1 v2 v6 v19 v25 v33 v34 v35 v39 v40 v47 v54):=by
 unfold nC at h;exact ac 2 (bp (hL2 h))
theorem yf(hK:ai K)(hL2:m4 M w0 r v1 v2 v6 v19 v25 v33 v34 v35 v39 v40 m2 L2)(h:kN K n v1 v2 v6 v19 v25 v33 v34 v35 v39 v40 v47 v50 L2 v52=some r):dZ M w0 r (b8 268432591 :: .b 5::b8 8388519::jb M w0 r m2) (DC v1 v2 v6 v19 v25 v33 v34 v35 v39 v40 v47 v50 v52):=by
 unfold kN at h;obtain⟨h64,h⟩|⟨h64,h⟩:=ah h
 ·refine ab 244 h64 (aS 2 1 (bB [6,10,11,12,13,15,24,199,200] [6,10,11] [1054] ?_));obtain⟨h65,h⟩:=aN h;obtain⟨v53,h66,h⟩:=bind_some h;obtain⟨h67,h⟩:=aN h;exact bL 1 (nu 245 [.ptr 11 66,.ref 1054,iI v47,.ptr 11 66,.ref 1054,iI v47,.eptr 1054 67 (v47.toNat) 0,.agg (aD (gD v50 v47)),.ptr 6 12,iI v2.Content,.agg (aD v53),.eptr 1054 67 (v47.toNat) 0]) [] [] [nt 1054 ⟨64,67,lm au (List.set v50 v47.toNat v53)⟩] (aB (vz 6) (bK (dK 1054 67 au (L:=v50) h65) (bK (cj 64 0 au aD (cU h67).2 (cr)) (aB (vz 2) (ak (bR 0 1 255 (wZ hK h66)) (bK (dK 1054 67 au (L:=v50) h67) (ak (eN (m:=0) (rY 1054 64 67 0 au aD v53 (cU h67).2 (cr))) bO))))))) (ac 0 (wT hK hL2 h))
 ·exact ab 244 h64 (ac 2 (wT hK hL2 h))
theorem zH(hK:ai K)(hL2:m4 M w0 r v1 v2 v6 v19 v25 v33 v34 v35 v39 v40 m2 L2)(h:l9 K n v1 v2 v6 v19 v25 v33 v34 v35 v39 v40 L2 v47 v48=some r):dZ M w0 r (b8 1048564::jb M w0 r m2) (vU v1 v2 v6 v19 v25 v33 v34 v35 v39 v40 v47 v48):=by
 unfold l9 at h;refine ao 6 7 3 ?_;obtain⟨h54,h⟩|⟨h54,h⟩:=ah h
 ·refine ab 201 h54 (cu 18 19 5 3 7 (bB [6,10,11,12,13,15,24,199,200] [6,10,11] [1054] ?_));obtain⟨h55,h⟩:=aN h;obtain⟨h56,h⟩:=aN h;refine bL 1 (nu 203 [.ptr 11 66,.ref 1054,iI v47,.eptr 1054 67 (v47.toNat) 0,.eptr 1054 67 (v47.toNat) 2,iI ((gD v48 v47).X),.ptr 6 4,.ptr 6 7,iI v2.Border.a3,.ptr 6 8,.ptr 6 11,iI v2.Padding.a3,iI (af (v2.Border.a3+v2.Padding.a3)),iI (af (((gD v48 v47).X)+(af (v2.Border.a3+v2.Padding.a3)))),.eptr 1054 67 (v47.toNat) 0,.eptr 1054 67 (v47.toNat) 2]) [] [] [nt 1054 ⟨64,67,lm au (List.set v48 v47.toNat ({ (gD v48 v47)with X:=(af (((gD v48 v47).X)+(af (v2.Border.a3+v2.Padding.a3)))) }:ae))⟩] (aB (vz 3) (bK (dK 1054 67 au (L:=v48) h55) (aB [.v 0 1] (bK (cj 3 2 au aD (cU h56).2 (cr)) (aB (vz 8) (ak (g8 (lo:=0) (k:=2) (fu ⟨(by kernel_rfl),(fN (dK 1054 67 au (L:=v48) h56) (by kernel_rfl))⟩ (fu ⟨(by kernel_rfl),(fN (dK 1054 67 au (L:=(List.set v48 v47.toNat ({ (gD v48 v47)with X:=(af (((gD v48 v47).X)+(af (v2.Border.a3+v2.Padding.a3)))) }:ae))) h56) (by kernel_rfl))⟩ kB))) (aB [.v 0 1] (ak (eN (m:=0) (rY 1054 64 67 2 au aD ({ (gD v48 v47)with X:=(af (((gD v48 v47).X)+(af (v2.Border.a3+v2.Padding.a3)))) }:ae) (cU h56).2 (cr))) bO)))))))) ?_
  obtain⟨v49,h57,h⟩:=bP h;refine bv (ks':=b8 134216294::b8 134216295 :: .b 5::b8 8388519::jb M w0 r m2) 1 ⟨[(6,.ptr 6 0),(10,.ptr 10 0),(11,.ptr 11 0),(12,.sl (lm aO v6.1)),(13,.bool v6.2),(15,iI v25),(24,iI v47),(199,iI (v19.length:Int)),(200,iI v47)],[(6,bm v2),(10,List.set (aD bh) 66 (.nils)),(11,List.set (aD (⟨1,v1.Node,v2.Margin.a3,0,(af (v2.Content+v39)),v40,0,⟨#[]⟩,v1.Style,v33,v34,v35,[]⟩:ae)) 66 (.ref 1054))],[(1054,⟨64,67,lm au v49⟩)],[6,10,11,1054]⟩ ?_ (by subst h57;kernel_rfl);obtain⟨h58,h⟩:=aN h;obtain⟨h59,h⟩:=aN h;refine bL 1 (nu 219 [.ptr 11 66,.ref 1054,iI v47,.eptr 1054 67 (v47.toNat) 0,.eptr 1054 67 (v47.toNat) 3,iI ((gD v49 v47).Y),.ptr 6 4,.ptr 6 4,iI v2.Border.a0,.ptr 6 8,.ptr 6 8,iI v2.Padding.a0,iI (af (v2.Border.a0+v2.Padding.a0)),iI v25,iI (af ((af (v2.Border.a0+v2.Padding.a0))+v25)),iI (af (((gD v49 v47).Y)+(af ((af (v2.Border.a0+v2.Padding.a0))+v25)))),.eptr 1054 67 (v47.toNat) 0,.eptr 1054 67 (v47.toNat) 3]) [] [] [nt 1054 ⟨64,67,lm au (List.set v49 v47.toNat ({ (gD v49 v47)with Y:=(af (((gD v49 v47).Y)+(af ((af (v2.Border.a0+v2.Padding.a0))+v25)))) }:ae))⟩] (aB (vz 3) (bK (dK 1054 67 au (L:=v49) h58) (aB [.v 0 1] (bK (cj 3 3 au aD (cU h59).2 (cr)) (aB (vz 10) (ak (g8 (lo:=0) (k:=2) (fu ⟨(by kernel_rfl),(fN (dK 1054 67 au (L:=v49) h59) (by kernel_rfl))⟩ (fu ⟨(by kernel_rfl),(fN (dK 1054 67 au (L:=(List.set v49 v47.toNat ({ (gD v49 v47)with Y:=(af (((gD v49 v47).Y)+(af ((af (v2.Border.a0+v2.Padding.a0))+v25)))) }:ae))) h59) (by kernel_rfl))⟩ kB))) (aB [.v 0 1] (ak (eN (m:=0) (rY 1054 64 67 3 au aD ({ (gD v49 v47)with Y:=(af (((gD v49 v47).Y)+(af ((af (v2.Border.a0+v2.Padding.a0))+v25)))) }:ae) (cU h59).2 (cr))) bO)))))))) ?_
  obtain⟨v50,h60,h⟩:=bP h;refine bv (ks':=b8 268432590::b8 268432591 :: .b 5::b8 8388519::jb M w0 r m2) 1 ⟨[(6,.ptr 6 0),(10,.ptr 10 0),(11,.ptr 11 0),(12,.sl (lm aO v6.1)),(13,.bool v6.2),(15,iI v25),(24,iI v47),(199,iI (v19.length:Int)),(200,iI v47)],[(6,bm v2),(10,List.set (aD bh) 66 (.nils)),(11,List.set (aD (⟨1,v1.Node,v2.Margin.a3,0,(af (v2.Content+v39)),v40,0,⟨#[]⟩,v1.Style,v33,v34,v35,[]⟩:ae)) 66 (.ref 1054))],[(1054,⟨64,67,lm au v50⟩)],[6,10,11,1054]⟩ ?_ (by subst h60;kernel_rfl);refine ag 2 ?_;obtain⟨h61,h⟩|⟨h61,h⟩:=ah h
  ·refine ay 238 h61 (aU 4 2 ?_);obtain⟨h62,h⟩:=aN h;refine ap (bw aO aW h62 (dS) (dC)) (aU 6 1 ?_);obtain⟨v51,h63,h⟩:=bind_some h;exact aL (wv hK h63) (aa (ac 0 (yf hK hL2 h)))
  ·exact ay 238 h61 (aa (ac 0 (yf hK hL2 h)))
 ·refine ab 201 h54 (aI 8 ?_);cases h;exact dB
theorem Df(hK:ai K)(m:Nat):m4 M w0 r v1 v2 v6 v19 v25 v33 v34 v35 v39 v40 m (kL K n v1 v2 v6 v19 v25 v33 v34 v35 v39 v40 m):=by
 induction m with
 | zero=>intro v47 v48 h;cases h
 | succ m ih=>intro v47 v48 h;have h:l9 K n v1 v2 v6 v19 v25 v33 v34 v35 v39 v40 (kL K n v1 v2 v6 v19 v25 v33 v34 v35 v39 v40 m) v47 v48=some r:=h;exact bo (zH hK ih h)
theorem uk(hK:ai K)(h:kT K n v1 v2 v6 v19 v25 v33 v34 v35 v38=some r):dZ M w0 r [b8 8191] (Dl v1 v2 v6 v19 v25 v33 v34 v35 v38):=by
 unfold kT at h;refine ao 6 7 3 (bB [6,10,11,12,13,14,15] [6,10,11] [1054] ?_);obtain⟨v39,h38,h⟩:=bind_some h;refine bL 1 (nu 173 [.ptr 6 12,iI v2.Content,.agg (bm v2),iI v39,iI (af (v2.Content+v39)),.ptr 11 4]) [] [] [bF Try.prog 259 Try.f62 (pn 32766) 6] (aB (vz 3) (ak (bR 0 1 176 (Ay hK h38)) (aB (vz 2) (ak (bI 0) bO)))) ?_;obtain⟨v40,h39,h⟩:=bP h;refine bv (ks':=[b8 262140,b8 262141,b8 131071]) 4 ⟨[(6,.ptr 6 0),(10,.ptr 10 0),(11,.ptr 11 0),(12,.sl (lm aO v6.1)),(13,.bool v6.2),(15,iI v25)],[(6,bm v2),(10,List.set (aD bh) 66 (.nils)),(11,List.set (aD (⟨1,v1.Node,v2.Margin.a3,0,(af (v2.Content+v39)),v40,0,⟨#[]⟩,v1.Style,v33,v34,v35,[]⟩:ae)) 66 (.ref 1054))],[(1054,⟨64,67,lm au v19⟩)],[6,10,11,1054]⟩ ?_ (by subst h39;kernel_rfl);exact ag 2 (ap (br au v19) (aa (ac 1 (bW (p:=pn 524282) n (Df hK n h)))))
theorem wI(hK:ai K)(h:nc K n v1 v2 v6 v19 v25 v32 v33 v34 v35 v36 v37=some r):dZ M w0 r [b8 32763,b8 8191] (EH v1 v2 v6 v19 v25 v32 v33 v34 v35 v36 v37):=by
 unfold nc at h;obtain⟨h37,h⟩|⟨h37,h⟩:=ah h
 ·exact ab 166 h37 (ac 2 (uk hK h))
 ·exact ab 166 h37 (ac 2 (uk hK h))
theorem j4(hK:ai K)(h:gt K n v1 v2 v6 v19 v25 v32 v33 v34 v35=some r):dZ M w0 r [.b 3,b8 2047] (Bl v1 v2 v6 v19 v25 v32 v33 v34 v35):=by
 unfold gt at h;refine gF 12 13 7 5 (ag 3 ?_);obtain⟨v36,h35,h⟩:=bind_some h;refine aL (cI hK h35) (aa (ao 2 3 1 (ag 2 ?_)));obtain⟨h36,h⟩|⟨h36,h⟩:=ah h
 ·exact ay 160 h36 (aa (ac 0 (wI hK h)))
 ·exact ay 160 h36 (aa (ac 0 (wI hK h)))
theorem sv(hK:ai K)(h:jD K n v1 v2 v4 v6 v15 v16 v17 v18 v19 v21 v25 v26 v27=some r):dZ M w0 r [b8 8185,.b 3,b8 2047] (B1 v1 v2 v4 v6 v15 v16 v17 v18 v19 v21 v25 v26 v27):=by
 unfold jD at h;obtain⟨h27,h⟩|⟨h27,h⟩:=ah h
 ·refine ab 113 h27 (ao 4 5 2 (ag 4 ?_));obtain⟨v28,h28,h⟩:=bind_some h;exact aL (j3 hK h28) (aa (ac 5 (j4 hK h)))
 ·refine ab 113 h27 (aS 7 3 ?_);obtain⟨h29,h⟩|⟨h29,h⟩:=ah h
  ·refine ab 131 h29 (aS 11 5 ?_);obtain⟨h30,h⟩|⟨h30,h⟩:=ah h
   ·refine ab 134 h30 (aS 2 1 (ag 3 ?_));obtain⟨v29,h31,h⟩:=bind_some h;exact aL (j3 hK h31) (aa (ac 0 (j4 hK h)))
   ·exact ab 134 h30 (ac 2 (j4 hK h))
  ·refine ab 131 h29 (aS 7 3 ?_);obtain⟨h32,h⟩|⟨h32,h⟩:=ah h
   ·refine ab 140 h32 (ao 4 5 2 (ag 3 ?_));obtain⟨v30,h33,h⟩:=bind_some h;exact aL (j3 hK h33) (aa (ac 1 (j4 hK h)))
   ·refine ab 140 h32 (aS 3 1 (ag 3 ?_));obtain⟨v31,h34,h⟩:=bind_some h;exact aL (g9 hK h34) (aa (ac 0 (j4 hK h)))
theorem pF(hK:ai K)(h:jG K n v1 v2 v3 v4 v6 v15 v16 v17 v18 v19 v21 v25 v26=some r):dZ M w0 r [.b 2,b8 1023] (CK v1 v2 v3 v4 v6 v15 v16 v17 v18 v19 v21 v25 v26):=by
 unfold jG at h;refine cu 8 9 3 3 4 (ag 2 ?_);obtain⟨h25,h⟩|⟨h25,h⟩:=ah h
 ·refine ay 115 h25 (aU 5 3 ?_);obtain⟨h26,h⟩|⟨h26,h⟩:=ah h
  ·exact ay 118 h26 (aa (ac 0 (sv hK h)))
  ·exact ay 118 h26 (aa (ac 0 (sv hK h)))
 ·exact ay 115 h25 (aa (ac 0 (sv hK h)))
theorem vG(hK:ai K)(h:nP K n v1 v2 v3 v4 v6 v15 v16 v17 v18 v19 v20 v21 v23=some r):dZ M w0 r [b8 16359,.b 2,b8 1023] (Ag v1 v2 v3 v4 v6 v15 v16 v17 v18 v19 v20 v21 v23):=by
 unfold nP at h;obtain⟨h23,h⟩|⟨h23,h⟩:=ah h
 ·refine ab 98 h23 (aS 2 1 (ag 1 ?_));obtain⟨v24,h24,h⟩:=bind_some h;exact aL (g9 hK h24) (aa (ac 0 (pF hK h)))
 ·exact ab 98 h23 (ac 2 (pF hK h))
theorem u7(hK:ai K)(h:nh K n v1 v2 v3 v4 v6 v15 v16 v17 v18 v19=some r):dZ M w0 r [b8 255] (zk v1 v2 v3 v4 v6 v15 v16 v17 v18 v19):=by
 unfold nh at h;refine ao 2 3 1 (bB [2,3,5,6,10,11,12,13,14,15,16,17,18] [5,6,10,11,16,17] [1054] ?_);obtain⟨v20,h18,h⟩:=bind_some h;obtain⟨v21,h19,h⟩:=bind_some h;refine bL 2 (nu 81 [.ptr 6 0,.ptr 6 0,iI v2.Margin.a0,.agg (bx v20),.ptr 6 0,.ptr 6 2,iI v2.Margin.a2,.agg (bx v21),.ptr 11 61,.ptr 11 63]) [] [] [bF Try.prog 259 Try.f62 (pn 510) 9,bF Try.prog 259 Try.f62 (pn 510) 11] (aB (vz 3) (ak (bR 0 1 84 (u3 hK h18)) (aB [.v 0 2,.v 0 2,.v 0 2] (ak (bR 0 1 88 (u3 hK h19)) (aB [.v 0 1] (ak (bI 0) (aB [.v 1 1] (ak (bI 1) bO)))))))) (eA 9 2 3 4 ?_);obtain⟨h20,h⟩|⟨h20,h⟩:=ah h
 ·refine ab 91 h20 (aS 2 1 (ag 3 ?_));obtain⟨v22,h21,h⟩:=bind_some h;exact aL (j3 hK h21) (aa (ac 0 (pF hK h)))
 ·refine ab 91 h20 (ao 6 7 2 (ag 3 ?_));obtain⟨h22,h⟩|⟨h22,h⟩:=ah h
  ·exact ay 101 h22 (aa (ac 0 (vG hK h)))
  ·exact ay 101 h22 (aa (ac 0 (vG hK h)))
theorem y2(hK:ai K)(hL1:vF M w0 r v1 v2 v3 v4 v5 v6 m1 L1)(h:lQ K n v1 v2 v3 v4 v5 v6 L1 v9 v10=some r):dZ M w0 r (b8 32596::yq M w0 r m1) (tk v1 v2 v3 v4 v5 v6 v9 v10):=by
 unfold lQ at h;refine ao 6 7 3 ?_;obtain⟨h11,h⟩|⟨h11,h⟩:=ah h
 ·refine ab 39 h11 (cu 8 9 1 3 5 (ag 0 ?_));obtain⟨h12,h⟩:=aN h;refine ap (bw aO aW h12 (dS) (dC)) (aa (ag 6 ?_));obtain⟨v11,h13,h⟩:=bind_some h;refine im (hK.lF h13) (ap (eO au ([v11]:List ae) (new:=[aD v11]) (by simp only[List.map_cons,List.map_nil,cr])) ?_);obtain⟨h14,h⟩:=aN h;exact ap (b9 50 50 64 67 au (rfl) (d8) h14) (aa (ac 2 (bp (hL1 h))))
 ·refine ab 39 h11 (bV (ks':=[b8 4075,b8 255]) 5 (ag 1 (kg 50 ?_)));obtain⟨v12,h15,h⟩:=bind_some h;exact d3 1054 (Eg hK h15) (uc (i:=0) rfl) (aa (ac 0 (u7 hK h)))
theorem Fk(hK:ai K)(m:Nat):vF M w0 r v1 v2 v3 v4 v5 v6 m (lC K n v1 v2 v3 v4 v5 v6 m):=by
 induction m with
 | zero=>intro v9 v10 h;cases h
 | succ m ih=>intro v9 v10 h;have h:lQ K n v1 v2 v3 v4 v5 v6 (lC K n v1 v2 v3 v4 v5 v6 m) v9 v10=some r:=h;exact bo (y2 hK ih h)
theorem wx(hK:ai K)(h:ln K n v1 v2 v3 v4 v5=some r):aJ Try.prog 62 [.agg (aW v1),.agg (bm v2),.bool v3,.bool v4,.agg (bX v5)] (fun v s=>v=.agg (List.set (aD ({ r with Kids:=[] }:ae)) 66 (.ref 1054))∧look 1054 s.r=some ⟨64,67,lm au r.Kids⟩):=by
 refine bd (cat Try.f62 (pn 1)) Try.func62 Try.ntmps62 fun M w0=>(aY ⟨[(0,.agg (aW v1)),(1,.agg (bm v2)),(2,.bool v3),(3,.bool v4),(4,.agg (bX v5))],[],[],[]⟩ ?_);unfold ln at h;refine ao 14 15 5 (ag 1 ?_);obtain⟨v6,h1,h⟩:=bind_some h;refine aL (xn hK h1) (aa (ao 61 31 9 ?_));obtain⟨h2,h⟩|⟨h2,h⟩:=ah h
 ·exact ab 35 h2 (bH 20 21 11 5 (ag 1 (ap (br aO v6.1) (aa (ec 2 0 1 (bB [2,3,5,6,9,10,11,12,13,15,16,17,19,36,37,38] [5,6,9,10,11,16,17] [] (d9 50 19 64 67 (ac 0 (bW (p:=pn 16298) n (Fk hK n h))))))))))
 ·refine ab 35 h2 (ao 6 7 2 (ag 7 ?_));obtain⟨v13,h16,h⟩:=bind_some h;refine im (hK.lc h16) (aa (ao 2 3 1 (ag 2 ?_)));obtain⟨v14,h17,h⟩:=bind_some h;exact d3 1075 (Cg hK h17) (ep 5) (aa (ag 2 (ap (br au v14) (aa (bB [2,3,5,6,10,11,12,13,14,15,16,17,18] [5,6,10,11,16,17] [1075] (Ac 1075 1054 (ac 0 (u7 hK h))))))))
end
noncomputable section
variable(M:Nat→Prop)(w0:aw)(r:ae)(v1:aq)(v2:bq)(v3:bU)  
variable{M w0 r v1 v2 v3}{K:Kn}{n:Nat}
theorem y6(hK:ai K)(h:pS K n v1 v2 v3=some r):aJ Try.prog 46 [.agg (aW v1),.agg (bm v2),.agg (bX v3)] (fun v s=>v=.agg (List.set (aD ({ r with Kids:=[] }:ae)) 66 (.ref 1010))∧look 1010 s.r=some ⟨64,67,lm au r.Kids⟩):=by
 refine bd (cat Try.f46 (pn 1)) Try.func46 Try.ntmps46 fun M w0=>(aY ⟨[(0,.agg (aW v1)),(1,.agg (bm v2)),(2,.agg (bX v3))],[],[],[]⟩ ?_);unfold pS at h;refine ao 6 7 3 (ag 3 ?_);obtain⟨v4,h1,h⟩:=bind_some h;refine d3 1010 (wx hK h1) (kR (i:=66) (by kernel_rfl)) (aa (aI 1 ?_));cases h;exact dB
end
noncomputable section
variable(M:Nat→Prop)(w0:aw)(r:av)(v1:aq)(v2:Int)(v3:bU)  
variable{M w0 r v1 v2 v3}{K:Kn}{n:Nat}
theorem Et(hK:ai K)(h:pB K n v1 v2 v3=some r):aJ Try.prog 42 [.agg (aW v1),.cptr ([iI v2]),.cptr (bX v3)] (fun v _=>v=.agg (ax r)):=by
 refine bd (cat Try.f42 (pn 1)) Try.func42 Try.ntmps42 fun M w0=>(aY ⟨[(0,.agg (aW v1)),(1,.cptr ([iI v2])),(2,.cptr (bX v3))],[],[],[]⟩ ?_);unfold pB at h;refine ao 6 7 3 (bB [1,2,3,4] [3,4] [] ?_);obtain⟨v4,h1,h⟩:=bind_some h;obtain⟨v5,h2,h⟩:=bind_some h;refine bL 1 (nu 7 [.ptr 3 2,.agg (aA v1.Style),iI v2,.agg (aW v1),iI v2,.agg (bX v3),iI v4,.agg (bm v5)]++nu 5 [.ptr 5 0]) [(5,bm dJ)] [] [bF Try.prog 36 Try.f42 (pn 6) 9] (aB (vz 6) (ak (bR 0 1 13 (Ce hK h1)) (ak (bR 0 1 14 (jE hK h2)) (ak (ss 0 1 84 5 (bm dJ)) (ak (bI 0) bO))))) (ao 2 3 1 (bB [1,2,3,4,5] [3,4,5] [] ?_));obtain⟨v7,h4,h⟩:=bind_some h;obtain⟨v8,h5,h⟩:=bind_some h;refine bL 1 (nu 15 [.agg (aW v1),.agg (bm v5),.agg (bX v3),.agg (aD v7),iI v2,.agg (aD v8)]++nu 6 [.ptr 6 0]) [(6,List.set (aD bh) 66 (.nils))] [] [bF Try.prog 36 Try.f42 (pn 14) 7] (aB (vz 3) (ak (bR 0 1 18 (aJ.bi (y6 hK h4) (V':=.agg (aD v7)) (by kernel_rfl))) (aB [.v 0 1] (ak (bR 0 1 20 (wZ hK h5)) (ak (ss 0 1 64 6 (List.set (aD bh) 66 (.nils))) (ak (bI 0) bO)))))) (ao 2 3 1 (bB [4,5,6] [4,5,6] [] ?_))
 obtain⟨v9,h6,h⟩:=bind_some h;obtain⟨v10,h7,h⟩:=bind_some h;obtain⟨v11,h8,h⟩:=bind_some h;refine bL 1 (nu 21 [.agg (bm v5),iI v9,.ptr 6 5,iI v8.H,.ptr 6 61,.agg (bx v8.Before),iI v10,iI (af (v8.H+v10)),.ptr 6 63,.agg (bx v8.After),iI v11,iI (af ((af (v8.H+v10))+v11)),.agg (aD v8),.sl (lm au [v8]),.agg (ax ({ cf with Width:=v9,Above:=(af ((af (v8.H+v10))+v11)),Box:=[v8] }:av))]) [] [] [bF Try.prog 36 Try.f42 (pn 30) 15] (aB [.v 0 1] (ak (bR 0 1 22 (hH hK h6)) (aB (vz 4) (ak (bR 0 1 27 (g9 hK h7)) (aB (vz 3) (ak (bR 0 1 31 (g9 hK h8)) (aB (vz 2) (bK (eO au ([v8]:List ae) (new:=[aD v8]) (by simp only[List.map_cons,List.map_nil,cr])) (aB [.v 0 1] (ak (bI 0) bO)))))))))) (aI 1 ?_);cases h;exact ba
end
noncomputable section
variable(M:Nat→Prop)(w0:aw)(r:List av)(v1:List aq)(v2:Int)(v3:bU)  
variable{M w0 r v1 v2 v3}{K:Kn}{n:Nat}
theorem BO(hK:ai K)(h:sB K n v1 v2 v3=some r):aJ Try.prog 22 [.sl (lm aO v1),iI v2,.agg (bX v3)] (fun v s=>v=.ref 1009∧look 1009 s.r=some ⟨41,62,lm ax r⟩):=by
 refine bd (cat Try.f22 (pn 1)) Try.func22 Try.ntmps22 fun M w0=>(aY ⟨[(0,.sl (lm aO v1)),(1,iI v2),(2,.agg (bX v3))],[],[],[]⟩ ?_);unfold sB at h;refine ao 6 7 3 (ag 1 (va 4 4 ([iI v2]) (va 5 5 (bX v3) (Ch 42 #[(.tmp 4),(.tmp 5)] [.cptr ([iI v2]),.cptr (bX v3)] ?_))));obtain⟨v4,h1,h⟩:=bind_some h;refine d3 1009 (yH hK h1) (ep 117) (aa (aI 1 ?_));cases h;exact dB
end
noncomputable section
variable(M:Nat→Prop)(w0:aw)(r:Int)(v1:aK)(v2 v3:Int)  
variable{M w0 r v1 v2 v3}{K:Kn}{n:Nat}
theorem Fd(hK:ai K)(h:oQ K n v1 v2 v3=some r):aJ Try.prog 11 [.agg (aA v1),iI v2,iI v3] (fun v _=>v=iI r):=by
 refine bd (cat Try.f11 (pn 1)) Try.func11 Try.ntmps11 fun M w0=>(aY ⟨[(0,.agg (aA v1)),(1,iI v2),(2,iI v3)],[],[],[]⟩ ?_);unfold oQ at h;refine ao 13 7 5 ?_;obtain⟨h1,h⟩|⟨h1,h⟩:=ah h
 ·refine ab 9 h1 (aI 5 ?_);cases h;exact ba
 ·refine ab 9 h1 (zI 21 0 3 8 ?_);obtain⟨h2,h⟩|⟨h2,h⟩:=ah h
  ·refine ab 12 h2 (aI 6 ?_);cases h;exact ba
  ·refine ab 12 h2 (aS 7 3 ?_);obtain⟨h3,h⟩|⟨h3,h⟩:=ah h
   ·refine ab 18 h3 (aI 6 ?_);cases h;exact ba
   ·refine ab 18 h3 (aI 6 ?_);cases h;exact ba
end
noncomputable section
variable(M:Nat→Prop)(w0:aw)(r:Bool)(v1 v2:ByteArray)(v3:Bool)  
abbrev ze(n:Nat):aj:=.c (cat Try.f63 (pn n))
abbrev Fw:Cx:=⟨Try.prog,21,M,w0⟩
abbrev Av:=bodyPost Try.prog Try.f63 (bn M w0 (fun v _=>v=.bool r))
abbrev zl(ks:List aj)(s:AS):=VE (Fw M w0) (Av M w0 r) ks .normal s
def FE:AS:=⟨[(4,.bool v3)],[],[],[]⟩
variable{M w0 r v1 v2 v3}{K:Kn}{n:Nat}
theorem wA(hK:ai K)(h:ni K n v3=some r):zl M w0 r [ze 7] (FE v3):=by
 unfold ni at h;refine aI 1 ?_;cases h;exact ba
theorem EZ(hK:ai K)(h:pa K n v1 v2=some r):aJ Try.prog 63 [.str v1,.str v2] (fun v _=>v=.bool r):=by
 refine bd (cat Try.f63 (pn 1)) Try.func63 Try.ntmps63 fun M w0=>(aY ⟨[(0,.str v1),(1,.str v2)],[],[],[]⟩ ?_);unfold pa at h;refine ao 6 7 3 (ag 6 ?_);obtain⟨h1,h⟩|⟨h1,h⟩:=ah h
 ·refine ay 10 h1 (aU 12 6 ?_);obtain⟨h2,h⟩:=aN h;exact ap (mU h2) (aa (ac 0 (wA hK h)))
 ·exact ay 10 h1 (aa (ac 0 (wA hK h)))
end
noncomputable section
variable(M:Nat→Prop)(w0:aw)(r:Bool)(v1 v2:ByteArray)  
variable{M w0 r v1 v2}{K:Kn}{n:Nat}
theorem CB(hK:ai K)(h:pK K n v1 v2=some r):aJ Try.prog 52 [.str v1,.str v2] (fun v _=>v=.bool r):=by
 refine bd (cat Try.f52 (pn 1)) Try.func52 Try.ntmps52 fun M w0=>(aY ⟨[(0,.str v1),(1,.str v2)],[],[],[]⟩ ?_);unfold pK at h;refine ao 6 7 3 (ag 2 ?_);obtain⟨v3,h1,h⟩:=bind_some h;refine aL (EZ hK h1) (aa (aI 1 ?_));cases h;exact ba
end
noncomputable section
variable(M:Nat→Prop)(w0:aw)(r:ae)(v1:List av)(v2:aK)(v3 v8 v9 v10 v11 v12 v15 v78 v79:Int)(v80:List ae)(v82:Bool)(v83:av)(v87:List ae)(v104:Int)(v105:List ae)(m1 m2 m3:Nat)(L1:Int→Int→Int→Option ae)(L2:Int→Int→(List ae)→Option ae)(L3:Int→(List ae)→Option ae)
abbrev fP:Cx:=⟨Try.prog,156,M,w0⟩
abbrev fT:=bodyPost Try.prog Try.f35 (bn M w0 (fun v s=>v=.agg (List.set (aD ({ r with Kids:=[] }:ae)) 66 (.ref 114))∧look 114 s.r=some ⟨64,67,lm au r.Kids⟩))
abbrev gm(ks:List aj)(s:AS):=VE (fP M w0) (fT M w0 r) ks .normal s
abbrev cm(n:Nat):aj:=.c (cat Try.f35 (pn n))
abbrev qH:List aj:=[.b 2,cm 255]
abbrev hZ:List aj:=kl (fP M w0) (fT M w0 r) qH (cat Try.f35 (pn 2036)) m2::qH
abbrev qy:List aj:=[.b 0,cm 15]
abbrev xW:List aj:=kl (fP M w0) (fT M w0 r) qy (cat Try.f35 (pn 116)) m1::qy
abbrev sF:List aj:=.b 4::cm 521423 :: .b 3::cm 16295::hZ M w0 r m2
abbrev pN:List aj:=kl (fP M w0) (fT M w0 r) (sF M w0 r m2) (cat Try.f35 (pn 4171380)) m3::(sF M w0 r m2)
def zQ:AS:=⟨[(0,.sl (lm ax v1)),(2,iI v3),(4,.ptr 4 0),(6,.ptr 6 0),(7,iI v11),(8,iI v12),(24,.sl (lm ax v1)),(25,iI (v1.length:Int)),(26,iI v10)],[(4,aA v2),(6,List.set (aD bh) 66 (.nils))],[],[4,6]⟩
def sV:AS:=⟨[(6,.ptr 6 0),(7,iI v8),(11,.ptr 11 0),(12,iI v78),(13,iI v15),(15,.ptr 15 0),(56,.sl (lm ax v1)),(57,iI (v1.length:Int)),(58,iI v79),(117,.sl (lm au v83.Box)),(118,iI (v83.Box.length:Int)),(119,iI v104)],[(6,List.set (aD bh) 66 (.nils)),(11,List.set (aD ({ bh with Kind:=2,W:=v3,H:=(af (v8+v9)),aw:=v8,Style:=v2 }:ae)) 66 (.ref 114)),(15,ax v83)],[(114,⟨64,67,lm au v105⟩)],[6,11,15,114]⟩
def Ft:AS:=⟨[(6,.ptr 6 0),(7,iI v8),(11,.ptr 11 0),(12,iI v78),(13,iI v15),(15,.ptr 15 0),(56,.sl (lm ax v1)),(57,iI (v1.length:Int)),(58,iI v79)],[(6,List.set (aD bh) 66 (.nils)),(11,List.set (aD ({ bh with Kind:=2,W:=v3,H:=(af (v8+v9)),aw:=v8,Style:=v2 }:ae)) 66 (.ref 114)),(15,ax v83)],[(114,⟨64,67,lm au v87⟩)],[6,11,15,114]⟩
def B4:AS:=⟨[(6,.ptr 6 0),(7,iI v8),(11,.ptr 11 0),(12,iI v78),(13,iI v15),(15,.ptr 15 0),(56,.sl (lm ax v1)),(57,iI (v1.length:Int)),(58,iI v79)],[(6,List.set (aD bh) 66 (.nils)),(11,List.set (aD ({ bh with Kind:=2,W:=v3,H:=(af (v8+v9)),aw:=v8,Style:=v2 }:ae)) 66 (.ref 114)),(15,ax v83)],[(114,⟨64,67,lm au v80⟩)],[6,11,15,114]⟩
def Cu:AS:=⟨[(6,.ptr 6 0),(7,iI v8),(11,.ptr 11 0),(12,iI v78),(13,iI v15),(15,.ptr 15 0),(56,.sl (lm ax v1)),(57,iI (v1.length:Int)),(58,iI v79),(76,.bool v82)],[(6,List.set (aD bh) 66 (.nils)),(11,List.set (aD ({ bh with Kind:=2,W:=v3,H:=(af (v8+v9)),aw:=v8,Style:=v2 }:ae)) 66 (.ref 114)),(15,ax (gD v1 v79))],[(114,⟨64,67,lm au v80⟩)],[6,11,15,114]⟩
def uu:AS:=⟨[(6,.ptr 6 0),(7,iI v8),(11,.ptr 11 0),(12,iI v78),(13,iI v15),(56,.sl (lm ax v1)),(57,iI (v1.length:Int)),(58,iI v79)],[(6,List.set (aD bh) 66 (.nils)),(11,List.set (aD ({ bh with Kind:=2,W:=v3,H:=(af (v8+v9)),aw:=v8,Style:=v2 }:ae)) 66 (.ref 114))],[(114,⟨64,67,lm au v80⟩)],[6,11,114]⟩
def vg:AS:=⟨[(0,.sl (lm ax v1)),(2,iI v3),(4,.ptr 4 0),(6,.ptr 6 0),(7,iI v8),(8,iI v9),(24,.sl (lm ax v1)),(25,iI (v1.length:Int)),(26,iI v10)],[(4,aA v2),(6,List.set (aD bh) 66 (.nils))],[],[4,6]⟩
abbrev sk:Prop:=∀{v8:Int} {v9:Int} {v10:Int},L1 v8 v9 v10=some r→LP (fP M w0) (fT M w0 r) qy (cat Try.f35 (pn 116)) m1 (vg v1 v2 v3 v8 v9 v10)
abbrev gd:Prop:=∀{v78:Int} {v79:Int} {v80:(List ae)},L2 v78 v79 v80=some r→LP (fP M w0) (fT M w0 r) qH (cat Try.f35 (pn 2036)) m2 (uu v1 v2 v3 v8 v9 v15 v78 v79 v80)
abbrev wJ:Prop:=∀{v104:Int} {v105:(List ae)},L3 v104 v105=some r→LP (fP M w0) (fT M w0 r) (sF M w0 r m2) (cat Try.f35 (pn 4171380)) m3 (sV v1 v2 v3 v8 v9 v15 v78 v79 v83 v104 v105)
variable{M w0 r v1 v2 v3 v8 v9 v10 v11 v12 v15 v78 v79 v80 v82 v83 v87 v104 v105 m1 m2 m3 L1 L2 L3}{K:Kn}{n:Nat}
theorem vw(hK:ai K)(hL1:sk M w0 r v1 v2 v3 m1 L1)(h:kW K n v1 v2 v3 v10 L1 v11 v12=some r):gm M w0 r (.b 1::cm 935::xW M w0 r m1) (zQ v1 v2 v3 v10 v11 v12):=by
 unfold kW at h;exact ac 2 (bp (hL1 h))
theorem DH(hK:ai K)(hL2:gd M w0 r v1 v2 v3 v8 v9 v15 m2 L2)(hL3:wJ M w0 r v1 v2 v3 v8 v9 v15 v78 v79 v83 m2 m3 L3)(h:m5 K n v1 v2 v3 v8 v9 v15 v78 v79 v83 L2 L3 v104 v105=some r):gm M w0 r (cm 4171380::pN M w0 r m2 m3) (sV v1 v2 v3 v8 v9 v15 v78 v79 v83 v104 v105):=by
 unfold m5 at h;refine ao 6 7 3 ?_;obtain⟨h123,h⟩|⟨h123,h⟩:=ah h
 ·refine ab 120 h123 (cu 8 9 5 3 5 (ag 0 ?_));obtain⟨h124,h⟩:=aN h;refine ap (bw au aD h124 (d8) (cr)) (aa ?_);obtain⟨v106,h125,h⟩:=bP h;obtain⟨v107,h126,h⟩:=bP h;obtain⟨v108,h127,h⟩:=bP h;obtain⟨v109,h128,h⟩:=bP h;obtain⟨v110,h129,h⟩:=bP h;obtain⟨v111,h130,h⟩:=bP h;obtain⟨v112,h131,h⟩:=bP h;obtain⟨v113,h132,h⟩:=bP h;obtain⟨v114,h133,h⟩:=bP h;obtain⟨v115,h134,h⟩:=bP h;refine bv (ks':=cm 533936742::cm 533936743 :: .b 5::cm 33371047::pN M w0 r m2 m3) 3 ⟨[(6,.ptr 6 0),(7,iI v8),(11,.ptr 11 0),(12,iI v78),(13,iI v15),(15,.ptr 15 0),(18,.ptr 18 0),(56,.sl (lm ax v1)),(57,iI (v1.length:Int)),(58,iI v79),(117,.sl (lm au v83.Box)),(118,iI (v83.Box.length:Int)),(119,iI v104)],[(6,List.set (aD bh) 66 (.nils)),(11,List.set (aD ({ bh with Kind:=2,W:=v3,H:=(af (v8+v9)),aw:=v8,Style:=v2 }:ae)) 66 (.ref 114)),(15,ax v83),(18,aD (⟨v106,v107,v108,(gD v83.Box v104).Y,(gD v83.Box v104).W,(gD v83.Box v104).H,v109,v110,v111,v112,v113,v114,v115⟩:ae))],[(114,⟨64,67,lm au v105⟩)],[6,11,15,18,114]⟩ ?_ (by subst h134;subst h133;subst h132;subst h131;subst h130;subst h129;subst h128;subst h127;subst h126;subst h125;kernel_rfl)
  obtain⟨v116,h135,h⟩:=bind_some h;refine bL 1 (nu 128 [.ptr 18 3,iI ((gD v83.Box v104).Y),iI v8,.ptr 18 5,iI ((gD v83.Box v104).H),iI (af (v8-((gD v83.Box v104).H))),.ptr 18 63,.agg (bx v113),iI v116,iI (af ((af (v8-((gD v83.Box v104).H)))-v116)),iI (af (((gD v83.Box v104).Y)+(af ((af (v8-((gD v83.Box v104).H)))-v116)))),.ptr 18 3]) [] [] [bF Try.prog 156 Try.f35 (pn 533936742) 12] (aB (vz 8) (ak (bR 0 1 136 (g9 hK h135)) (aB (vz 3) (ak (bI 0) bO)))) ?_;obtain⟨v117,h136,h⟩:=bP h;refine bv (ks':=cm 533936743 :: .b 5::cm 33371047::pN M w0 r m2 m3) 0 ⟨[(6,.ptr 6 0),(7,iI v8),(11,.ptr 11 0),(12,iI v78),(13,iI v15),(15,.ptr 15 0),(18,.ptr 18 0),(56,.sl (lm ax v1)),(57,iI (v1.length:Int)),(58,iI v79),(117,.sl (lm au v83.Box)),(118,iI (v83.Box.length:Int)),(119,iI v104)],[(6,List.set (aD bh) 66 (.nils)),(11,List.set (aD ({ bh with Kind:=2,W:=v3,H:=(af (v8+v9)),aw:=v8,Style:=v2 }:ae)) 66 (.ref 114)),(15,ax v83),(18,aD (⟨v106,v107,v108,v117,(gD v83.Box v104).W,(gD v83.Box v104).H,v109,v110,v111,v112,v113,v114,v115⟩:ae))],[(114,⟨64,67,lm au v105⟩)],[6,11,15,18,114]⟩ ?_ (by subst h136;kernel_rfl)
  refine ag 3 (ap (eO au ([(⟨v106,v107,v108,v117,(gD v83.Box v104).W,(gD v83.Box v104).H,v109,v110,v111,v112,v113,v114,v115⟩:ae)]:List ae) (new:=[aD (⟨v106,v107,v108,v117,(gD v83.Box v104).W,(gD v83.Box v104).H,v109,v110,v111,v112,v113,v114,v115⟩:ae)]) (by simp only[List.map_cons,List.map_nil,cr])) ?_);obtain⟨h137,h⟩:=aN h;exact ap (b9 144 114 64 67 au (rfl) (d8) h137) (aa (ac 2 (bp (hL3 h))))
 ·exact ab 120 h123 (ac 8 (bp (hL2 h)))
theorem yK(hK:ai K)(hL2:gd M w0 r v1 v2 v3 v8 v9 v15 m2 L2)(m:Nat):wJ M w0 r v1 v2 v3 v8 v9 v15 v78 v79 v83 m2 m (ng K n v1 v2 v3 v8 v9 v15 v78 v79 v83 L2 m):=by
 induction m with
 | zero=>intro v104 v105 h;cases h
 | succ m ih=>intro v104 v105 h;have h:m5 K n v1 v2 v3 v8 v9 v15 v78 v79 v83 L2 (ng K n v1 v2 v3 v8 v9 v15 v78 v79 v83 L2 m) v104 v105=some r:=h;exact bo (DH hK hL2 ih h)
theorem tr(hK:ai K)(hL2:gd M w0 r v1 v2 v3 v8 v9 v15 m2 L2)(h:mA K n v1 v2 v3 v8 v9 v15 v78 v79 v83 L2 v87=some r):gm M w0 r (cm 260711 :: .b 3::cm 16295::hZ M w0 r m2) (Ft v1 v2 v3 v8 v9 v15 v78 v79 v83 v87):=by
 unfold mA at h;exact bH 4 5 3 2 (ag 2 (ap (br au v83.Box) (aa (ac 1 (bW (p:=pn 2085690) n (yK hK hL2 n h))))))
theorem xl(hK:ai K)(hL2:gd M w0 r v1 v2 v3 v8 v9 v15 m2 L2)(h:lv K n v1 v2 v3 v8 v9 v15 v78 v79 v80 L2 v83=some r):gm M w0 r (cm 130355 :: .b 3::cm 16295::hZ M w0 r m2) (B4 v1 v2 v3 v8 v9 v15 v78 v79 v80 v83):=by
 unfold lv at h;obtain⟨v84,h99,h⟩:=bP h;refine bv (ks':=cm 521421::cm 260711 :: .b 3::cm 16295::hZ M w0 r m2) 3 ⟨[(6,.ptr 6 0),(7,iI v8),(11,.ptr 11 0),(12,iI v78),(13,iI v15),(15,.ptr 15 0),(56,.sl (lm ax v1)),(57,iI (v1.length:Int)),(58,iI v79),(88,.bool v84)],[(6,List.set (aD bh) 66 (.nils)),(11,List.set (aD ({ bh with Kind:=2,W:=v3,H:=(af (v8+v9)),aw:=v8,Style:=v2 }:ae)) 66 (.ref 114)),(15,ax v83)],[(114,⟨64,67,lm au v80⟩)],[6,11,15,114]⟩ ?_ (by subst h99;kernel_rfl);obtain⟨h100,h⟩|⟨h100,h⟩:=ah h
 ·refine ab 88 h100 (aS 5 3 (bB [6,7,11,12,13,15,16,56,57,58] [6,11,15] [114] ?_));obtain⟨v85,h101,h⟩:=bind_some h;obtain⟨v86,h102,h⟩:=bind_some h;obtain⟨h103,h⟩:=aN h;exact bL 2 (nu 92 [.ptr 11 66,.ref 114,.ptr 15 0,iI v83.Node,.ptr 15 2,.agg (aA v83.Style),.ptr 15 1,.str v83.Text,iI v78,iI v8,iI v83.Style.FontSize,iI v85,iI (af (v8-v85)),.ptr 15 55,iI v83.Width,.ptr 15 56,iI v83.Space,iI (af (v83.Width+v83.Space)),iI v83.Style.FontSize,iI v86,.agg (List.set (aD (⟨3,v83.Node,v78,(af (v8-v85)),(af (v83.Width+v83.Space)),v86,0,v83.Text,v83.Style,cb,cb,false,[]⟩:ae)) 66 (.nils)),.sl (lm au [(⟨3,v83.Node,v78,(af (v8-v85)),(af (v83.Width+v83.Space)),v86,0,v83.Text,v83.Style,cb,cb,false,[]⟩:ae)])]++nu 115 [.ptr 11 66]) [] [] [fY 114 114 ⟨64,67,lm au (v80++[(⟨3,v83.Node,v78,(af (v8-v85)),(af (v83.Width+v83.Space)),v86,0,v83.Text,v83.Style,cb,cb,false,[]⟩:ae)])⟩,bF Try.prog 156 Try.f35 (pn 2085685) 24] (aB [.v 0 2,.v 0 1,.v 0 2,.v 0 2,.v 0 2,.v 0 2,.v 0 2,.v 0 2,.v 0 2,.v 0 2,.v 0 2] (ak (bR 0 2 103 (tU hK h101)) (aB [.v 0 2,.v 0 2,.v 0 2,.v 0 2,.v 0 2,.v 0 2,.v 0 2] (ak (bR 0 1 111 (tT hK h102)) (aB [.v 0 2] (bK (eO au ([(⟨3,v83.Node,v78,(af (v8-v85)),(af (v83.Width+v83.Space)),v86,0,v83.Text,v83.Style,cb,cb,false,[]⟩:ae)]:List ae) (new:=[aD (⟨3,v83.Node,v78,(af (v8-v85)),(af (v83.Width+v83.Space)),v86,0,v83.Text,v83.Style,cb,cb,false,[]⟩:ae)]) (by simp only[List.map_cons,List.map_nil,cr])) (ak (eN (m:=0) (b9 114 114 64 67 au (rfl) (d8) h103)) (aB [.v 1 1] (ak (bI 1) bO))))))))) (ac 0 (tr hK hL2 h))
 ·exact ab 88 h100 (ac 2 (tr hK hL2 h))
theorem q8(hK:ai K)(hL2:gd M w0 r v1 v2 v3 v8 v9 v15 m2 L2)(h:jr K n v1 v2 v3 v8 v9 v15 v78 v79 v80 L2 v82=some r):gm M w0 r (cm 260709::cm 130355 :: .b 3::cm 16295::hZ M w0 r m2) (Cu v1 v2 v3 v8 v9 v15 v78 v79 v80 v82):=by
 unfold jr at h;obtain⟨h97,h⟩|⟨h97,h⟩:=ah h
 ·refine ab 76 h97 (ao 4 5 2 (ag 6 ?_));obtain⟨h98,h⟩:=aN h;exact ap (mU h98) (aa (ac 1 (xl hK hL2 h)))
 ·exact ab 76 h97 (ac 2 (xl hK hL2 h))
theorem BI(hK:ai K)(hL2:gd M w0 r v1 v2 v3 v8 v9 v15 m2 L2)(h:lX K n v1 v2 v3 v8 v9 v15 L2 v78 v79 v80=some r):gm M w0 r (cm 2036::hZ M w0 r m2) (uu v1 v2 v3 v8 v9 v15 v78 v79 v80):=by
 unfold lX at h;refine ao 6 7 3 ?_;obtain⟨h92,h⟩|⟨h92,h⟩:=ah h
 ·refine ab 59 h92 (cu 8 9 3 3 5 (ag 1 ?_));obtain⟨h93,h⟩:=aN h;refine ap (bw ax ax h93 (dR) (fun _=>rfl)) (aa (bH 4 5 3 2 (ag 4 ?_)));obtain⟨h94,h⟩|⟨h94,h⟩:=ah h
  ·refine ay 66 h94 (aU 6 2 ?_);obtain⟨v81,h95,h⟩:=bind_some h;refine aL (CB hK h95) (aU 9 2 ?_);obtain⟨h96,h⟩|⟨h96,h⟩:=ah h
   ·exact ay 71 h96 (aa (ac 0 (q8 hK hL2 h)))
   ·exact ay 71 h96 (aa (ac 0 (q8 hK hL2 h)))
  ·exact ay 66 h94 (aa (ac 0 (q8 hK hL2 h)))
 ·refine ab 59 h92 (aI 8 ?_);cases h;exact dB
theorem ER(hK:ai K)(m:Nat):gd M w0 r v1 v2 v3 v8 v9 v15 m (lY K n v1 v2 v3 v8 v9 v15 m):=by
 induction m with
 | zero=>intro v78 v79 v80 h;cases h
 | succ m ih=>intro v78 v79 v80 h;have h:lX K n v1 v2 v3 v8 v9 v15 (lY K n v1 v2 v3 v8 v9 v15 m) v78 v79 v80=some r:=h;exact bo (BI hK ih h)
theorem zr(hK:ai K)(hL1:sk M w0 r v1 v2 v3 m1 L1)(h:nN K n v1 v2 v3 L1 v8 v9 v10=some r):gm M w0 r (cm 116::xW M w0 r m1) (vg v1 v2 v3 v8 v9 v10):=by
 unfold nN at h;refine ao 6 7 3 ?_;obtain⟨h6,h⟩|⟨h6,h⟩:=ah h
 ·refine ab 27 h6 (cu 8 9 1 3 5 (ag 0 ?_));obtain⟨h7,h⟩:=aN h;refine ap (bw ax ax h7 (dR) (fun _=>rfl)) (aa (aS 3 2 ?_));obtain⟨h8,h⟩|⟨h8,h⟩:=ah h
  ·exact ab 32 h8 (aS 2 1 (bB [0,2,4,6,7,8,10,24,25,26] [4,6,10] [] (bL 2 (nu 33 [iI v8,.ptr 10 57,iI ((gD v1 v10).Above),iI (max v8 ((gD v1 v10).Above)),iI v9,.ptr 10 58,iI ((gD v1 v10).Below),iI (max v9 ((gD v1 v10).Below))]) [] [] [bF Try.prog 156 Try.f35 (pn 14950) 8,bF Try.prog 156 Try.f35 (pn 14950) 9] (aB [.v 0 1,.v 0 1,.v 0 1,.v 0 1,.v 0 2,.v 0 2,.v 0 2,.v 0 2] (ak (bI 0) (ak (bI 1) bO))) (ac 0 (vw hK hL1 h)))))
  ·exact ab 32 h8 (ac 2 (vw hK hL1 h))
 ·refine ab 27 h6 (jQ 6 7 8 (bB [0,2,4,6,7,11] [4,6,11] [] ?_));obtain⟨v13,h9,h⟩:=bind_some h;obtain⟨v14,h10,h⟩:=bind_some h;refine bL 1 (nu 49 [.agg (aA v2),iI v3,.sl (lm ax v1),iI v13,iI v14]) [] [] [bF Try.prog 156 Try.f35 (pn 62) 5] (aB (vz 3) (ak (bR 0 1 52 (ux hK h9)) (ak (bR 0 1 53 (Fd hK h10)) (ak (bI 0) bO)))) (ao 2 3 1 (ag 1 ?_));obtain⟨v15,h11,h⟩:=bind_some h;exact aL (w5 hK h11) (aa (bH 4 5 3 2 (ag 1 (ap (br ax v1) (aa (ec 2 2 1 (bB [6,7,11,12,13,56,57,58] [6,11] [] (wh 114 11 66 64 67 (ac 0 (bW (p:=pn 1018) n (ER hK n h)))))))))))
theorem A4(hK:ai K)(m:Nat):sk M w0 r v1 v2 v3 m (nn K n v1 v2 v3 m):=by
 induction m with
 | zero=>intro v8 v9 v10 h;cases h
 | succ m ih=>intro v8 v9 v10 h;have h:nN K n v1 v2 v3 (nn K n v1 v2 v3 m) v8 v9 v10=some r:=h;exact bo (zr hK ih h)
theorem Fx(hK:ai K)(h:oE K n v1 v2 v3=some r):aJ Try.prog 35 [.sl (lm ax v1),.agg (aA v2),iI v3] (fun v s=>v=.agg (List.set (aD ({ r with Kids:=[] }:ae)) 66 (.ref 114))∧look 114 s.r=some ⟨64,67,lm au r.Kids⟩):=by
 refine bd (cat Try.f35 (pn 1)) Try.func35 Try.ntmps35 fun M w0=>(aY ⟨[(0,.sl (lm ax v1)),(1,.agg (aA v2)),(2,iI v3)],[],[],[]⟩ ?_);unfold oE at h;refine ao 6 7 3 (ag 1 ?_);obtain⟨v4,h1,h⟩:=bind_some h;exact aL (n8 hK h1) (aa (bH 4 5 3 2 (ag 1 (ap (br ax v1) (aa (ac 1 (bW (p:=pn 58) n (A4 hK n h))))))))
end
noncomputable section
variable(M:Nat→Prop)(w0:aw)(r:(List ae)×Int)(v1:List aq)(v2:aK)(v3:Int)(v4:bU)(v5:List av)(v6:List Int)(v13 v14 v15:Int)(v16:List ae)(m1:Nat)(L1:Int→Int→Int→(List ae)→Option ((List ae)×Int))
abbrev rT:Cx:=⟨Try.prog,61,M,w0⟩
abbrev rD:=bodyPost Try.prog Try.f16 (bn M w0 (fun v s=>v=.tup [.ref 57,iI r.2]∧look 57 s.r=some ⟨64,67,lm au r.1⟩))
abbrev En(ks:List aj)(s:AS):=VE (rT M w0) (rD M w0 r) ks .normal s
abbrev uL(n:Nat):aj:=.c (cat Try.f16 (pn n))
abbrev qz:List aj:=[.b 0,uL 63]
abbrev z5:List aj:=kl (rT M w0) (rD M w0 r) qz (cat Try.f16 (pn 500)) m1::qz
def wC:AS:=⟨[(2,iI (min (max v3 0) 1048576)),(5,.ptr 5 0),(8,.ref 57),(9,iI v13),(10,.sl (lm ax v5)),(11,.ref 1023),(30,iI v14),(31,iI v15)],[(5,aA v2)],[(57,⟨64,67,lm au v16⟩),(1023,⟨3,1,lm (aX .i64) (v6++[(v5.length:Int)])⟩)],[5,57,1023]⟩
abbrev tJ:Prop:=∀{v13:Int} {v14:Int} {v15:Int} {v16:(List ae)},L1 v13 v14 v15 v16=some r→LP (rT M w0) (rD M w0 r) qz (cat Try.f16 (pn 500)) m1 (wC v2 v3 v5 v6 v13 v14 v15 v16)
variable{M w0 r v1 v2 v3 v4 v5 v6 v13 v14 v15 v16 m1 L1}{K:Kn}{n:Nat}
theorem CP(hK:ai K)(hL1:tJ M w0 r v2 v3 v5 v6 m1 L1)(h:l3 K n v2 v3 v5 v6 L1 v13 v14 v15 v16=some r):En M w0 r (uL 500::z5 M w0 r m1) (wC v2 v3 v5 v6 v13 v14 v15 v16):=by
 unfold l3 at h;refine ao 6 7 3 ?_;obtain⟨h20,h⟩|⟨h20,h⟩:=ah h
 ·refine ab 32 h20 (cu 18 19 1 3 7 (bB [2,5,8,9,10,11,12,30,31] [5] [57,1023] ?_));obtain⟨h21,h⟩:=aN h;obtain⟨h22,h⟩:=aN h;obtain⟨h23,h⟩:=aN h;obtain⟨v17,h24,h⟩:=bind_some h;refine bL 1 (nu 34 [.sl (lm ax v5),.ref 1023,iI v15,.eptr 1023 1 (v15.toNat) 0,iI (gD (v6++[(v5.length:Int)]) v15),.ref 1023,iI v15,iI (af (v15+1)),.eptr 1023 1 (((af (v15+1))).toNat) 0,iI (gD (v6++[(v5.length:Int)]) ((af (v15+1)))),.sl (lm ax (List.drop ((gD (v6++[(v5.length:Int)]) v15)).toNat (List.take ((gD (v6++[(v5.length:Int)]) ((af (v15+1))))).toNat v5))),.agg (aA v2),iI (min (max v3 0) 1048576),.agg (List.set (aD ({ v17 with Kids:=[] }:ae)) 66 (.ref 47))]++nu 13 [.ptr 13 0]) [(13,List.set (aD bh) 66 (.nils))] [(47,⟨64,67,lm au v17.Kids⟩)] [bF Try.prog 61 Try.f16 (pn 32050) 15] (aB (vz 3) (bK (dK 1023 1 (aX .i64) (L:=(v6++[(v5.length:Int)])) h21) (bK (cj 3 0 (aX .i64) (aX .i64) (cU h21).2 (fun _=>rfl)) (aB (vz 3) (bK (dK 1023 1 (aX .i64) (L:=(v6++[(v5.length:Int)])) h22) (bK (cj 3 0 (aX .i64) (aX .i64) (cU h22).2 (fun _=>rfl)) (bK (oo ax v5 (gD (v6++[(v5.length:Int)]) v15) (gD (v6++[(v5.length:Int)]) ((af (v15+1)))) 37 (.tmp 34) (some (.tmp 38)) (some (.tmp 43)) 44 (e:=41) (sz:=62) (by kernel_rfl) (by kernel_rfl) (by kernel_rfl) (by kernel_rfl) (by kernel_rfl) (by kernel_rfl) (dR) (fun k hk=>by subst hk;kernel_rfl) h23) (aB (vz 2) (ak (rX 0 1 47 (Fx hK h24) (kR (i:=66) (by kernel_rfl))) (ak (ss 0 1 64 13 (List.set (aD bh) 66 (.nils))) (ak (bI 0) bO))))))))))) (aS 7 4 (ag 2 (kg 47 (ap (eO au ([({ v17 with Y:=v13 }:ae)]:List ae) (new:=[aD ({ v17 with Y:=v13 }:ae)]) (by simp only[List.map_cons,List.map_nil,cr])) ?_))))
  obtain⟨h25,h⟩:=aN h;exact ap (b9 57 57 64 67 au (rfl) (d8) h25) (aa (ac 2 (bp (hL1 h))))
 ·refine ab 32 h20 (aI 8 ?_);cases h;exact o7
theorem DS(hK:ai K)(m:Nat):tJ M w0 r v2 v3 v5 v6 m (nz K n v2 v3 v5 v6 m):=by
 induction m with
 | zero=>intro v13 v14 v15 v16 h;cases h
 | succ m ih=>intro v13 v14 v15 v16 h;have h:l3 K n v2 v3 v5 v6 (nz K n v2 v3 v5 v6 m) v13 v14 v15 v16=some r:=h;exact bo (CP hK ih h)
theorem Ct(hK:ai K)(h:sq K n v1 v2 v3 v4=some r):aJ Try.prog 16 [.sl (lm aO v1),.agg (aA v2),iI v3,.agg (bX v4)] (fun v s=>v=.tup [.ref 57,iI r.2]∧look 57 s.r=some ⟨64,67,lm au r.1⟩):=by
 refine bd (cat Try.f16 (pn 1)) Try.func16 Try.ntmps16 fun M w0=>(aY ⟨[(0,.sl (lm aO v1)),(1,.agg (aA v2)),(2,iI v3),(3,.agg (bX v4))],[],[],[]⟩ ?_);unfold sq at h;refine ao 14 15 5 (ag 3 ?_);obtain⟨v5,h1,h⟩:=bind_some h;refine d3 1020 (BO hK h1) (ep 1009) (aa (ao 2 3 1 (ag 2 (kg 1020 ?_))));obtain⟨v6,h2,h⟩:=bind_some h;refine d3 1023 (xt hK h2) (ep 16) (aU 4 1 (ap (br ax v5) (aU 6 1 ?_)));obtain⟨h3,h⟩:=aN h;exact ap (b9 27 1023 3 1 (aX .i64) (rfl) (fun _=>rfl) h3) (aa (bH 4 5 3 2 (ag 1 (ap (br (aX .i64) (v6++[(v5.length:Int)])) (aa (ec 2 0 1 (bB [2,5,8,9,10,11,30,31] [5] [1023] (d9 57 8 64 67 (ac 0 (bW (p:=pn 250) n (DS hK n h)))))))))))
end
noncomputable section
variable(M:Nat→Prop)(w0:aw)(r:bU)   
variable{M w0 r }{K:Kn}{n:Nat}
theorem rx(hK:ai K)(h:jS K n=some r):aJ Try.prog 18 [] (fun v _=>v=.agg (bX r)):=by
 refine bd (cat Try.f18 (pn 1)) Try.func18 Try.ntmps18 fun M w0=>(aY ⟨[],[],[],[]⟩ ?_);unfold jS at h;refine aI 5 ?_;cases h;exact ba
end
noncomputable section
variable(M:Nat→Prop)(w0:aw)(r v4:Bool)  
abbrev BT(n:Nat):aj:=.c (cat Try.f7 (pn n))
abbrev Bf:Cx:=⟨Try.prog,64,M,w0⟩
abbrev q7:=bodyPost Try.prog Try.f7 (bn M w0 (fun v _=>v=.bool r))
abbrev y7(ks:List aj)(s:AS):=VE (Bf M w0) (q7 M w0 r) ks .normal s
def Eh:AS:=⟨[(0,.bool v4)],[],[],[]⟩
variable{M w0 r v4}{K:Kn}{n:Nat}
theorem gf(hK:ai K)(h:eI K n v4=some r):y7 M w0 r [BT 63] (Eh v4):=by
 unfold eI at h;refine aI 1 ?_;cases h;exact ba
theorem yw(hK:ai K)(h:nl K n=some r):aJ Try.prog 7 [] (fun v _=>v=.bool r):=by
 refine bd (cat Try.f7 (pn 1)) Try.func7 Try.ntmps7 fun M w0=>(aY ⟨[],[],[],[]⟩ ?_);unfold nl at h;refine ao 14 15 5 (ag 1 ?_);obtain⟨v1,h1,h⟩:=bind_some h;refine aL (n8 hK h1) (aa (ao 2 3 1 (bB [1,2,3] [1] [] ?_)));obtain⟨v2,h2,h⟩:=bind_some h;obtain⟨v3,h3,h⟩:=bind_some h;refine bL 2 (nu 13 [.agg (aA ({ bG with FontSize:=16,LineHeight:=30 }:aK)),.agg (List.set (aW ({ gq with Kind:=3,Style:=({ bG with FontSize:=16,LineHeight:=30 }:aK),Text:=⟨#[97,98,32,32,99,100]⟩ }:aq)) 58 (.nils)),.sl (lm aO [({ gq with Kind:=3,Style:=({ bG with FontSize:=16,LineHeight:=30 }:aK),Text:=⟨#[97,98,32,32,99,100]⟩ }:aq)]),.agg (aA ({ bG with FontSize:=16,LineHeight:=30 }:aK)),.agg (bX v2),.tup [.ref 18,iI v3.2]]++nu 12 [.tup [.ref 18,iI v3.2]]++nu 19 [.ref 18,iI v3.2]) [] [(18,⟨64,67,lm au v3.1⟩)] [bF Try.prog 64 Try.f7 (pn 30) 9,bF Try.prog 64 Try.f7 (pn 30) 10] (aB (vz 2) (bK (eO aO ([({ gq with Kind:=3,Style:=({ bG with FontSize:=16,LineHeight:=30 }:aK),Text:=⟨#[97,98,32,32,99,100]⟩ }:aq)]:List aq) (new:=[aW ({ gq with Kind:=3,Style:=({ bG with FontSize:=16,LineHeight:=30 }:aK),Text:=⟨#[97,98,32,32,99,100]⟩ }:aq)]) (by simp only[List.map_cons,List.map_nil,dC])) (aB [.v 0 1] (ak (bR 0 1 17 (rx hK h2)) (ak (rX 0 1 18 (Ct hK h3) (uc (i:=0) rfl)) (aB [.v 0 1,.v 0 1,.v 0 2] (ak (bI 0) (ak (bI 1) bO)))))))) (ao 2 3 1 (ag 3 ?_))
 obtain⟨h4,h⟩|⟨h4,h⟩:=ah h
 ·refine ay 23 h4 (aU 7 4 ?_);obtain⟨h5,h⟩|⟨h5,h⟩:=ah h
  ·refine ay 27 h5 (aU 8 1 (ap (br au v3.1) (aU 12 3 ?_)));obtain⟨h6,h⟩|⟨h6,h⟩:=ah h
   ·refine ay 32 h6 (aU 16 4 ?_);obtain⟨h7,h⟩|⟨h7,h⟩:=ah h
    ·refine ay 36 h7 (aU 17 1 ?_);obtain⟨h8,h⟩:=aN h;refine ap (cV 18 67 au h8) (aU 19 1 (ap (cj 39 66 au aD (cU h8).2 (cr)) (ap (br au ((gD v3.1 (0:Int)).Kids)) (aU 24 3 ?_))));obtain⟨h9,h⟩|⟨h9,h⟩:=ah h
     ·refine ay 44 h9 (aU 25 1 ?_);obtain⟨h10,h⟩:=aN h;refine ap (cV 18 67 au h10) (aU 27 1 (ap (cj 39 66 au aD (cU h10).2 (cr)) ?_));obtain⟨h11,h⟩:=aN h;refine ap (bw au aD h11 (d8) (cr)) (aU 34 5 ?_);obtain⟨h12,h⟩|⟨h12,h⟩:=ah h
      ·refine ay 54 h12 (aU 35 1 ?_);obtain⟨h13,h⟩:=aN h;refine ap (cV 18 67 au h13) (aU 37 1 (ap (cj 39 66 au aD (cU h13).2 (cr)) ?_));obtain⟨h14,h⟩:=aN h;exact ap (bw au aD h14 (d8) (cr)) (aa (ac 0 (gf hK h)))
      ·exact ay 54 h12 (aa (ac 0 (gf hK h)))
     ·exact ay 44 h9 (aa (ac 0 (gf hK h)))
    ·exact ay 36 h7 (aa (ac 0 (gf hK h)))
   ·exact ay 32 h6 (aa (ac 0 (gf hK h)))
  ·exact ay 27 h5 (aa (ac 0 (gf hK h)))
 ·exact ay 23 h4 (aa (ac 0 (gf hK h)))
end
noncomputable section
variable(M:Nat→Prop)(w0:aw)(r:Int)(v1:List bJ)(v2 v4:Int)(v5:Bool)(m1:Nat)(L1:Int→Option Int)
abbrev qM:Cx:=⟨Try.prog,21,M,w0⟩
abbrev si:=bodyPost Try.prog Try.f32 (bn M w0 (fun v _=>v=iI r))
abbrev vZ(ks:List aj)(s:AS):=VE (qM M w0) (si M w0 r) ks .normal s
abbrev kS(n:Nat):aj:=.c (cat Try.f32 (pn n))
abbrev qa:List aj:=[.b 0,kS 15]
abbrev uB:List aj:=kl (qM M w0) (si M w0 r) qa (cat Try.f32 (pn 56)) m1::qa
def Az:AS:=⟨[(0,.sl (lm bC v1)),(1,iI v4),(17,.bool v5)],[],[],[]⟩
def vT:AS:=⟨[(0,.sl (lm bC v1)),(1,iI v4)],[],[],[]⟩
abbrev pO:Prop:=∀{v4:Int},L1 v4=some r→LP (qM M w0) (si M w0 r) qa (cat Try.f32 (pn 56)) m1 (vT v1 v4)
variable{M w0 r v1 v2 v4 v5 m1 L1}{K:Kn}{n:Nat}
theorem sY(hK:ai K)(hL1:pO M w0 r v1 m1 L1)(h:iV K n v1 v4 L1 v5=some r):vZ M w0 r (kS 225::kS 113::uB M w0 r m1) (Az v1 v4 v5):=by
 unfold iV at h;obtain⟨h6,h⟩|⟨h6,h⟩:=ah h
 ·exact ab 17 h6 (ac 5 (bp (hL1 h)))
 ·refine ab 17 h6 (aI 8 ?_);cases h;exact ba
theorem DW(hK:ai K)(hL1:pO M w0 r v1 m1 L1)(h:iC K n v1 L1 v4=some r):vZ M w0 r (kS 56::uB M w0 r m1) (vT v1 v4):=by
 unfold iC at h;refine bH 4 5 3 2 (ag 2 (ap (br bC v1) (aU 5 2 ?_)));obtain⟨h4,h⟩|⟨h4,h⟩:=ah h
 ·refine ay 11 h4 (aU 7 2 ?_);obtain⟨h5,h⟩:=aN h;exact ap (bw bC bC h5 (eV) (fun _=>rfl)) (aa (ac 0 (sY hK hL1 h)))
 ·exact ay 11 h4 (aa (ac 0 (sY hK hL1 h)))
theorem zO(hK:ai K)(m:Nat):pO M w0 r v1 m (g0 K n v1 m):=by
 induction m with
 | zero=>intro v4 h;cases h
 | succ m ih=>intro v4 h;have h:iC K n v1 (g0 K n v1 m) v4=some r:=h;exact bo (DW hK ih h)
theorem qT(hK:ai K)(h:fW K n v1 v2=some r):aJ Try.prog 32 [.sl (lm bC v1),iI v2] (fun v _=>v=iI r):=by
 refine bd (cat Try.f32 (pn 1)) Try.func32 Try.ntmps32 fun M w0=>(aY ⟨[(0,.sl (lm bC v1)),(1,iI v2)],[],[],[]⟩ ?_);unfold fW at h;exact ac 6 (bW (p:=pn 28) n (zO hK n h))
end
noncomputable section
variable(M:Nat→Prop)(w0:aw)(r:Int)(v1:List bJ)(v5 v6 v7 v8 v9:Int)(m1:Nat)(L1:Int→Int→Int→Option Int)
abbrev pI:Cx:=⟨Try.prog,39,M,w0⟩
abbrev pL:=bodyPost Try.prog Try.f33 (bn M w0 (fun v _=>v=iI r))
abbrev sX(ks:List aj)(s:AS):=VE (pI M w0) (pL M w0 r) ks .normal s
abbrev gB(n:Nat):aj:=.c (cat Try.f33 (pn n))
abbrev pM:List aj:=[.b 0,gB 31]
abbrev rP:List aj:=kl (pI M w0) (pL M w0 r) pM (cat Try.f33 (pn 244)) m1::pM
def Ej:AS:=⟨[(0,.sl (lm bC v1)),(3,iI v8),(4,iI v9),(5,iI v7)],[],[],[]⟩
def xw:AS:=⟨[(0,.sl (lm bC v1)),(3,iI v5),(4,iI v6),(5,iI v7)],[],[],[]⟩
abbrev rO:Prop:=∀{v5:Int} {v6:Int} {v7:Int},L1 v5 v6 v7=some r→LP (pI M w0) (pL M w0 r) pM (cat Try.f33 (pn 244)) m1 (xw v1 v5 v6 v7)
variable{M w0 r v1 v5 v6 v7 v8 v9 m1 L1}{K:Kn}{n:Nat}
theorem wa(hK:ai K)(hL1:rO M w0 r v1 m1 L1)(h:jy K n v1 v7 v8 L1 v9=some r):sX M w0 r (.b 1::gB 979::rP M w0 r m1) (Ej v1 v7 v8 v9):=by
 unfold jy at h;exact ac 2 (bp (hL1 h))
theorem C4(hK:ai K)(hL1:rO M w0 r v1 m1 L1)(h:iU K n v1 L1 v5 v6 v7=some r):sX M w0 r (gB 244::rP M w0 r m1) (xw v1 v5 v6 v7):=by
 unfold iU at h;refine bH 4 5 3 2 (ag 2 (ap (br bC v1) (aa ?_)));obtain⟨h9,h⟩|⟨h9,h⟩:=ah h
 ·refine ab 9 h9 (cu 8 9 1 3 5 (bB [0,3,4,5] [] [] ?_));obtain⟨h10,h⟩:=aN h;obtain⟨h11,h⟩:=aN h;refine bL 1 (nu 12 [iI v5,.sl (lm bC v1),iI v7,.cptr (bC (gD v1 v7)),.cptr (List.drop 2 (bC (gD v1 v7))),iI ((gD v1 v7).Width),.sl (lm bC v1),iI v7,.cptr (bC (gD v1 v7)),.cptr (List.drop 3 (bC (gD v1 v7))),iI ((gD v1 v7).Space),iI (af (((gD v1 v7).Width)+((gD v1 v7).Space))),iI (af (v5+(af (((gD v1 v7).Width)+((gD v1 v7).Space)))))]) [] [] [bF Try.prog 39 Try.f33 (pn 3912) 13] (aB (vz 3) (bK (bw bC bC h10 (eV) (fun _=>rfl)) (aB (vz 4) (bK (bw bC bC h11 (eV) (fun _=>rfl)) (aB (vz 4) (ak (bI 0) bO)))))) ?_;obtain⟨v8,h12,h⟩:=bP h;refine bv (ks':=gB 7826::gB 7827 :: .b 1::gB 979::rP M w0 r m1) 1 ⟨[(0,.sl (lm bC v1)),(3,iI v8),(4,iI v6),(5,iI v7)],[],[],[]⟩ ?_ (by subst h12;kernel_rfl);refine ag 2 ?_;obtain⟨h13,h⟩:=aN h;refine ap (bw bC bC h13 (eV) (fun _=>rfl)) (aa ?_);obtain⟨h14,h⟩|⟨h14,h⟩:=ah h
  ·refine ab 30 h14 (aS 2 1 (ag 2 ?_));obtain⟨h15,h⟩:=aN h;exact ap (bw bC bC h15 (eV) (fun _=>rfl)) (aa (ac 0 (wa hK hL1 h)))
  ·exact ab 30 h14 (ac 2 (wa hK hL1 h))
 ·refine ab 9 h9 (aI 8 ?_);cases h;exact ba
theorem BE(hK:ai K)(m:Nat):rO M w0 r v1 m (gC K n v1 m):=by
 induction m with
 | zero=>intro v5 v6 v7 h;cases h
 | succ m ih=>intro v5 v6 v7 h;have h:iU K n v1 (gC K n v1 m) v5 v6 v7=some r:=h;exact bo (C4 hK ih h)
theorem zW(hK:ai K)(h:jJ K n v1=some r):aJ Try.prog 33 [.sl (lm bC v1)] (fun v _=>v=iI r):=by
 refine bd (cat Try.f33 (pn 1)) Try.func33 Try.ntmps33 fun M w0=>(aY ⟨[(0,.sl (lm bC v1))],[],[],[]⟩ ?_);unfold jJ at h;exact ac 10 (bW (p:=pn 122) n (BE hK n h))
end
noncomputable section
variable(M:Nat→Prop)(w0:aw)(r:List Int)(v1:List bJ)(v2 v23:Int)(v24:List Int)(v30:Int)(v33:Bool)(m1 m2:Nat)(L1:Int→(List Int)→Option (List Int))(L2:Int→Option (List Int))
abbrev jV:Cx:=⟨Try.prog,48,M,w0⟩
abbrev kk:=bodyPost Try.prog Try.f14 (bn M w0 (fun v s=>v=.ref 15∧look 15 s.r=some ⟨3,1,lm (aX .i64) r⟩))
abbrev pc(ks:List aj)(s:AS):=VE (jV M w0) (kk M w0 r) ks .normal s
abbrev eH(n:Nat):aj:=.c (cat Try.f14 (pn n))
abbrev ry:List aj:=[.b 0,eH 31]
abbrev pf:List aj:=kl (jV M w0) (kk M w0 r) ry (cat Try.f14 (pn 120)) m1::ry
abbrev rS:List aj:=.b 2::eH 3863 :: .b 1::pf M w0 r m1
abbrev qY:List aj:=kl (jV M w0) (kk M w0 r) (rS M w0 r m1) (cat Try.f14 (pn 15448)) m2::(rS M w0 r m1)
def Ed:AS:=⟨[(0,.sl (lm bC v1)),(1,iI v2),(5,.ref 15),(6,iI v23),(7,iI v30),(42,.bool v33)],[],[(15,⟨3,1,lm (aX .i64) (v24++[v23])⟩)],[15]⟩
def w6:AS:=⟨[(0,.sl (lm bC v1)),(1,iI v2),(5,.ref 15),(6,iI v23),(7,iI v30)],[],[(15,⟨3,1,lm (aX .i64) (v24++[v23])⟩)],[15]⟩
def sZ:AS:=⟨[(0,.sl (lm bC v1)),(1,iI v2),(5,.ref 15),(6,iI v23)],[],[(15,⟨3,1,lm (aX .i64) v24⟩)],[15]⟩
abbrev j0:Prop:=∀{v23:Int} {v24:(List Int)},L1 v23 v24=some r→LP (jV M w0) (kk M w0 r) ry (cat Try.f14 (pn 120)) m1 (sZ v1 v2 v23 v24)
abbrev ri:Prop:=∀{v30:Int},L2 v30=some r→LP (jV M w0) (kk M w0 r) (rS M w0 r m1) (cat Try.f14 (pn 15448)) m2 (w6 v1 v2 v23 v24 v30)
variable{M w0 r v1 v2 v23 v24 v30 v33 m1 m2 L1 L2}{K:Kn}{n:Nat}
theorem rm(hK:ai K)(hL1:j0 M w0 r v1 v2 m1 L1)(hL2:ri M w0 r v1 v2 v23 v24 m1 m2 L2)(h:fw K n v1 v2 v23 v24 v30 L1 L2 v33=some r):pc M w0 r (eH 61793::eH 30897::qY M w0 r m1 m2) (Ed v1 v2 v23 v24 v30 v33):=by
 unfold fw at h;obtain⟨h56,h⟩|⟨h56,h⟩:=ah h
 ·refine ab 42 h56 (bV (ks':=eH 61794 :: .b 3::qY M w0 r m1 m2) 3 (ag 2 ?_));obtain⟨v34,h57,h⟩:=bind_some h;exact aL (qT hK h57) (aa (ac 1 (bp (hL2 h))))
 ·exact ab 42 h56 (ac 7 (bp (hL1 h)))
theorem Fm(hK:ai K)(hL1:j0 M w0 r v1 v2 m1 L1)(hL2:ri M w0 r v1 v2 v23 v24 m1 m2 L2)(h:iL K n v1 v2 v23 v24 L1 L2 v30=some r):pc M w0 r (eH 15448::qY M w0 r m1 m2) (w6 v1 v2 v23 v24 v30):=by
 unfold iL at h;refine bH 4 5 3 2 (ag 2 (ap (br bC v1) (aU 5 2 ?_)));obtain⟨h50,h⟩|⟨h50,h⟩:=ah h
 ·refine ay 23 h50 (aU 8 3 ?_);obtain⟨h51,h⟩:=aN h;refine ap (bw bC bC h51 (eV) (fun _=>rfl)) (aU 14 5 ?_);obtain⟨h52,h⟩|⟨h52,h⟩:=ah h
  ·refine ay 32 h52 (aU 18 4 ?_);obtain⟨v31,h53,h⟩:=bind_some h;refine aL (qT hK h53) ?_;obtain⟨h54,h⟩:=aN h;refine ap (oo bC v1 v23 v31 38 (.tmp 33) (some (.tmp 34)) (some (.tmp 37)) 38 (e:=44) (sz:=9) (by kernel_rfl) (by kernel_rfl) (by kernel_rfl) (by kernel_rfl) (by kernel_rfl) (by kernel_rfl) (eV) (fun k hk=>by subst hk;kernel_rfl) h54) ?_;obtain⟨v32,h55,h⟩:=bind_some h;exact aL (zW hK h55) (aa (ac 0 (rm hK hL1 hL2 h)))
  ·exact ay 32 h52 (aa (ac 0 (rm hK hL1 hL2 h)))
 ·exact ay 23 h50 (aa (ac 0 (rm hK hL1 hL2 h)))
theorem zM(hK:ai K)(hL1:j0 M w0 r v1 v2 m1 L1)(m:Nat):ri M w0 r v1 v2 v23 v24 m1 m (iX K n v1 v2 v23 v24 L1 m):=by
 induction m with
 | zero=>intro v30 h;cases h
 | succ m ih=>intro v30 h;have h:iL K n v1 v2 v23 v24 L1 (iX K n v1 v2 v23 v24 L1 m) v30=some r:=h;exact bo (Fm hK hL1 ih h)
theorem Aj(hK:ai K)(hL1:j0 M w0 r v1 v2 m1 L1)(h:gO K n v1 v2 L1 v23 v24=some r):pc M w0 r (eH 120::pf M w0 r m1) (sZ v1 v2 v23 v24):=by
 unfold gO at h;refine bH 4 5 3 2 (ag 2 (ap (br bC v1) (aa ?_)));obtain⟨h39,h⟩|⟨h39,h⟩:=ah h
 ·refine ab 11 h39 (bV (ks':=eH 964::eH 965 :: .b 1::pf M w0 r m1) 4 (ag 3 ?_));obtain⟨h40,h⟩:=aN h;refine ap (b9 15 15 3 1 (aX .i64) (rfl) (fun _=>rfl) h40) (aa (ao 2 3 1 (ag 2 ?_)));obtain⟨v25,h41,h⟩:=bind_some h;exact aL (qT hK h41) (aa (ac 2 (bW (p:=pn 7724) n (zM hK hL1 n h))))
 ·refine ab 11 h39 (aI 8 ?_);cases h;exact dB
theorem BW(hK:ai K)(m:Nat):j0 M w0 r v1 v2 m (ik K n v1 v2 m):=by
 induction m with
 | zero=>intro v23 v24 h;cases h
 | succ m ih=>intro v23 v24 h;have h:gO K n v1 v2 (ik K n v1 v2 m) v23 v24=some r:=h;exact bo (Aj hK ih h)
theorem EC(hK:ai K)(h:km K n v1 v2=some r):aJ Try.prog 14 [.sl (lm bC v1),iI v2] (fun v s=>v=.ref 15∧look 15 s.r=some ⟨3,1,lm (aX .i64) r⟩):=by
 refine bd (cat Try.f14 (pn 1)) Try.func14 Try.ntmps14 fun M w0=>(aY ⟨[(0,.sl (lm bC v1)),(1,iI v2)],[],[],[]⟩ ?_);unfold km at h;exact eA 60 0 31 8 (bB [0,1,5,6] [] [] (d9 15 5 3 1 (ac 0 (bW (p:=pn 60) n (BW hK n h)))))
end
noncomputable section
variable(M:Nat→Prop)(w0:aw)(r:Bool)(v1:List av)(v2 v6:Int)(v7:List bJ)(v8:Bool)(v9 v10:(List Int))(v12:Int)(m1 m2:Nat)(L1:Int→(List bJ)→Option Bool)(L2:Int→Option Bool)
abbrev j8:Cx:=⟨Try.prog,79,M,w0⟩
abbrev q4:=bodyPost Try.prog Try.f4 (bn M w0 (fun v _=>v=.bool r))
abbrev rM(ks:List aj)(s:AS):=VE (j8 M w0) (q4 M w0 r) ks .normal s
abbrev d6(n:Nat):aj:=.c (cat Try.f4 (pn n))
abbrev qc:List aj:=[.b 2,d6 511]
abbrev vx:List aj:=kl (j8 M w0) (q4 M w0 r) qc (cat Try.f4 (pn 4084)) m2::qc
abbrev pm:List aj:=[.b 0,d6 63]
abbrev pY:List aj:=kl (j8 M w0) (q4 M w0 r) pm (cat Try.f4 (pn 500)) m1::pm
def AU:AS:=⟨[(0,.sl (lm ax v1)),(1,iI v2),(5,.ref 51),(7,.ptr 7 0),(16,.sl (lm ax v1)),(17,iI (v1.length:Int)),(18,iI v6),(39,.bool v8)],[(7,ax (gD v1 v6))],[(51,⟨44,9,lm bC v7⟩)],[7,51]⟩
def tE:AS:=⟨[(8,.ref 1055),(9,.ref 1058),(65,iI (v9.length:Int)),(66,iI v12)],[],[(1055,⟨3,1,lm (aX .i64) v9⟩),(1058,⟨3,1,lm (aX .i64) v10⟩)],[1055,1058]⟩
def td:AS:=⟨[(0,.sl (lm ax v1)),(1,iI v2),(5,.ref 51),(16,.sl (lm ax v1)),(17,iI (v1.length:Int)),(18,iI v6)],[],[(51,⟨44,9,lm bC v7⟩)],[51]⟩
abbrev qS:Prop:=∀{v6:Int} {v7:(List bJ)},L1 v6 v7=some r→LP (j8 M w0) (q4 M w0 r) pm (cat Try.f4 (pn 500)) m1 (td v1 v2 v6 v7)
abbrev xg:Prop:=∀{v12:Int},L2 v12=some r→LP (j8 M w0) (q4 M w0 r) qc (cat Try.f4 (pn 4084)) m2 (tE v9 v10 v12)
variable{M w0 r v1 v2 v6 v7 v8 v9 v10 v12 m1 m2 L1 L2}{K:Kn}{n:Nat}
theorem mB(hK:ai K)(hL1:qS M w0 r v1 v2 m1 L1)(h:ee K n v1 v2 v6 v7 L1 v8=some r):rM M w0 r (d6 64101::d6 32051 :: .b 1::d6 4007::pY M w0 r m1) (AU v1 v2 v6 v7 v8):=by
 unfold ee at h;obtain⟨h23,h⟩|⟨h23,h⟩:=ah h
 ·refine ab 39 h23 (aI 10 ?_);cases h;exact ba
 ·refine ab 39 h23 (bV (ks':=d6 32051 :: .b 1::d6 4007::pY M w0 r m1) 2 (ag 11 ?_));obtain⟨h24,h⟩:=aN h;exact ap (b9 51 51 44 9 bC (rfl) (eV) h24) (aa (ac 2 (bp (hL1 h))))
theorem zy(hK:ai K)(hL2:xg M w0 r v9 v10 m2 L2)(h:iq K n v9 v10 L2 v12=some r):rM M w0 r (d6 4084::vx M w0 r m2) (tE v9 v10 v12):=by
 unfold iq at h;refine ao 6 7 3 ?_;obtain⟨h33,h⟩|⟨h33,h⟩:=ah h
 ·refine ab 67 h33 (cu 18 19 3 3 7 (bB [8,9,10,65,66] [] [1055,1058] ?_));obtain⟨h34,h⟩:=aN h;obtain⟨h35,h⟩:=aN h;refine bL 0 (nu 69 [.ref 1055,iI v12,.eptr 1055 1 (v12.toNat) 0,iI (gD v9 v12),.ref 1058,iI v12,.eptr 1058 1 (v12.toNat) 0,iI (gD v10 v12),.bool ((gD v9 v12) != (gD v10 v12))]) [] [] [] (aB (vz 2) (bK (dK 1055 1 (aX .i64) (L:=v9) h34) (bK (cj 3 0 (aX .i64) (aX .i64) (cU h34).2 (fun _=>rfl)) (aB (vz 2) (bK (dK 1058 1 (aX .i64) (L:=v10) h35) (bK (cj 3 0 (aX .i64) (aX .i64) (cU h35).2 (fun _=>rfl)) (aB [.v 0 1] bO))))))) ?_;obtain⟨v13,h36,h⟩:=bP h;refine bv (ks':=d6 261427 :: .b 3::d6 32679::vx M w0 r m2) 0 ⟨[(8,.ref 1055),(9,.ref 1058),(65,iI (v9.length:Int)),(66,iI v12),(77,.bool v13)],[],[(1055,⟨3,1,lm (aX .i64) v9⟩),(1058,⟨3,1,lm (aX .i64) v10⟩)],[1055,1058]⟩ ?_ (by subst h36;kernel_rfl);obtain⟨h37,h⟩|⟨h37,h⟩:=ah h
  ·refine ab 77 h37 (aI 9 ?_);cases h;exact ba
  ·exact ab 77 h37 (ac 4 (bp (hL2 h)))
 ·refine ab 67 h33 (aI 8 ?_);cases h;exact ba
theorem DT(hK:ai K)(m:Nat):xg M w0 r v9 v10 m (iA K n v9 v10 m):=by
 induction m with
 | zero=>intro v12 h;cases h
 | succ m ih=>intro v12 h;have h:iq K n v9 v10 (iA K n v9 v10 m) v12=some r:=h;exact bo (zy hK ih h)
theorem Dv(hK:ai K)(hL1:qS M w0 r v1 v2 m1 L1)(h:iS K n v1 v2 L1 v6 v7=some r):rM M w0 r (d6 500::pY M w0 r m1) (td v1 v2 v6 v7):=by
 unfold iS at h;refine ao 6 7 3 ?_;obtain⟨h18,h⟩|⟨h18,h⟩:=ah h
 ·refine ab 19 h18 (cu 8 9 1 3 5 (ag 0 ?_));obtain⟨h19,h⟩:=aN h;refine ap (bw ax ax h19 (dR) (fun _=>rfl)) (aa (bH 4 5 3 2 (ag 4 ?_)));obtain⟨h20,h⟩|⟨h20,h⟩:=ah h
  ·exact ay 25 h20 (aa (ac 0 (mB hK hL1 h)))
  ·refine ay 25 h20 (aU 9 5 ?_);obtain⟨h21,h⟩|⟨h21,h⟩:=ah h
   ·exact ay 30 h21 (aa (ac 0 (mB hK hL1 h)))
   ·refine ay 30 h21 (aU 14 5 ?_);obtain⟨h22,h⟩|⟨h22,h⟩:=ah h
    ·exact ay 35 h22 (aa (ac 0 (mB hK hL1 h)))
    ·exact ay 35 h22 (aa (ac 0 (mB hK hL1 h)))
 ·refine ab 19 h18 (jQ 2 3 6 (ag 2 ?_));obtain⟨v9,h25,h⟩:=bind_some h;refine d3 1055 (xt hK h25) (ep 16) (aU 5 2 (kg 51 ?_));obtain⟨v10,h26,h⟩:=bind_some h;refine d3 1058 (EC hK h26) (ep 15) (aa (bH 4 5 3 2 (ag 1 (ap (br (aX .i64) v9) (aU 3 1 (ap (br (aX .i64) v10) (aa ?_)))))));obtain⟨h27,h⟩|⟨h27,h⟩:=ah h
  ·refine ab 63 h27 (aI 5 ?_);cases h;exact ba
  ·exact ab 63 h27 (gF 4 5 3 4 (ag 1 (ap (br (aX .i64) v9) (aa (ac 1 (bW (p:=pn 2042) n (DT hK n h)))))))
theorem AG(hK:ai K)(m:Nat):qS M w0 r v1 v2 m (eP K n v1 v2 m):=by
 induction m with
 | zero=>intro v6 v7 h;cases h
 | succ m ih=>intro v6 v7 h;have h:iS K n v1 v2 (eP K n v1 v2 m) v6 v7=some r:=h;exact bo (Dv hK ih h)
theorem Aq(hK:ai K)(h:nk K n v1 v2=some r):aJ Try.prog 4 [.sl (lm ax v1),iI v2] (fun v _=>v=.bool r):=by
 refine bd (cat Try.f4 (pn 1)) Try.func4 Try.ntmps4 fun M w0=>(aY ⟨[(0,.sl (lm ax v1)),(1,iI v2)],[],[],[]⟩ ?_);unfold nk at h;refine bH 12 13 7 4 (ag 0 ?_);obtain⟨v3,h1,h⟩:=bind_some h;refine aL (yw hK h1) (aa ?_);obtain⟨h2,h⟩|⟨h2,h⟩:=ah h
 ·refine ab 12 h2 (aI 5 ?_);cases h;exact ba
 ·refine ab 12 h2 (gF 4 5 3 4 (ag 1 (ap (br ax v1) (aa ?_))));obtain⟨h3,h⟩|⟨h3,h⟩:=ah h
  ·refine ab 15 h3 (aI 5 ?_);cases h;exact ba
  ·exact ab 15 h3 (gF 12 13 7 6 (ag 1 (ap (br ax v1) (aa (ec 2 0 1 (bB [0,1,5,16,17,18] [] [] (d9 51 5 44 9 (ac 0 (bW (p:=pn 250) n (AG hK n h))))))))))
end
noncomputable section
variable(M:Nat→Prop)(w0:aw)(r:bq)(v1:aK)(v2 v3:Int)(v4:bq)(v7 v8 v9:Int)(v10 v11:(Int×Bool))(v12:Bool)(v13:V4 Int)  
abbrev mb(n:Nat):aj:=.c (cat Try.f64 (pn n))
abbrev Ef:Cx:=⟨Try.prog,89,M,w0⟩
abbrev zw:=bodyPost Try.prog Try.f64 (bn M w0 (fun v _=>v=.agg (bm r)))
abbrev qZ(ks:List aj)(s:AS):=VE (Ef M w0) (zw M w0 r) ks .normal s
def D7:AS:=⟨[(4,.ptr 4 0),(5,.ptr 5 0)],[(4,bm dJ),(5,bm ({ v4 with Margin:=v13,Content:=v8 }:bq))],[],[4,5]⟩
def E7:AS:=⟨[(4,.ptr 4 0),(5,.ptr 5 0),(8,iI (af (v3-v9))),(10,.bool v10.2),(12,.bool v11.2),(59,.bool v12)],[(4,bm dJ),(5,bm ({ v4 with Content:=v8 }:bq))],[],[4,5]⟩
def Bt:AS:=⟨[(1,iI v3),(2,.ptr 2 0),(4,.ptr 4 0),(5,.ptr 5 0),(6,iI v7)],[(2,aA v1),(4,bm dJ),(5,bm v4)],[],[2,4,5]⟩
variable{M w0 r v1 v2 v3 v4 v7 v8 v9 v10 v11 v12 v13}{K:Kn}{n:Nat}
theorem kY(hK:ai K)(h:il K n v4 v8 v13=some r):qZ M w0 r [.b 0,mb 4095] (D7 v4 v8 v13):=by
 unfold il at h;refine aI 4 ?_;cases h;exact ba
theorem vn(hK:ai K)(h:lp K n v3 v4 v8 v9 v10 v11 v12=some r):qZ M w0 r [mb 16377,.b 0,mb 4095] (E7 v3 v4 v8 v9 v10 v11 v12):=by
 unfold lp at h;obtain⟨h12,h⟩|⟨h12,h⟩:=ah h
 ·exact ab 59 h12 (ac 4 (kY hK h))
 ·refine ab 59 h12 (aS 7 3 ?_);obtain⟨h13,h⟩|⟨h13,h⟩:=ah h
  ·exact ab 76 h13 (ac 2 (kY hK h))
  ·refine ab 76 h13 (aS 7 3 ?_);obtain⟨h14,h⟩|⟨h14,h⟩:=ah h
   ·exact ab 82 h14 (ac 2 (kY hK h))
   ·exact ab 82 h14 (ac 2 (kY hK h))
theorem w2(hK:ai K)(h:ow K n v1 v3 v4 v7=some r):qZ M w0 r [mb 63] (Bt v1 v3 v4 v7):=by
 unfold ow at h;refine ao 2 3 1 (ag 3 ?_);obtain⟨v8,h6,h⟩:=bind_some h;refine aL (lT hK h6) (aa (ao 2 3 1 (ag 2 ?_)));obtain⟨v9,h7,h⟩:=bind_some h;refine aL (hH hK h7) (aa (ao 5 3 3 ?_));obtain⟨h8,h⟩|⟨h8,h⟩:=ah h
 ·refine ab 41 h8 (aI 5 ?_);cases h;exact ba
 ·refine ab 41 h8 (eZ 2 3 3 (ag 4 ?_));obtain⟨v10,h9,h⟩:=bind_some h;refine aL (cI hK h9) (aa (ao 2 3 1 (ag 4 ?_)));obtain⟨v11,h10,h⟩:=bind_some h;refine aL (cI hK h10) (aa (cM 8 9 0 3 3 (ag 3 ?_)));obtain⟨h11,h⟩|⟨h11,h⟩:=ah h
  ·exact ay 62 h11 (aa (ac 0 (vn hK h)))
  ·exact ay 62 h11 (aa (ac 0 (vn hK h)))
theorem EM(hK:ai K)(h:sM K n v1 v2=some r):aJ Try.prog 64 [.agg (aA v1),iI v2] (fun v _=>v=.agg (bm r)):=by
 refine bd (cat Try.f64 (pn 1)) Try.func64 Try.ntmps64 fun M w0=>(aY ⟨[(0,.agg (aA v1)),(1,iI v2)],[],[],[]⟩ ?_);unfold sM at h;refine ao 6 7 3 (ag 1 ?_);obtain⟨v3,h1,h⟩:=bind_some h;refine aL (dL hK h1) (aa (ao 2 3 1 (ag 2 ?_)));obtain⟨v4,h2,h⟩:=bind_some h;refine aL (jE hK h2) (aa (ao 2 3 1 (ag 3 ?_)));obtain⟨v5,h3,h⟩:=bind_some h;refine aL (cI hK h3) (aa (ao 5 3 3 ?_));obtain⟨h4,h⟩|⟨h4,h⟩:=ah h
 ·refine ab 26 h4 (aS 2 1 (ag 2 ?_));obtain⟨v6,h5,h⟩:=bind_some h;exact aL (hH hK h5) (aa (ac 0 (w2 hK h)))
 ·exact ab 26 h4 (ac 2 (w2 hK h))
end
noncomputable section
variable(M:Nat→Prop)(w0:aw)(r:ae)(v1:aq)(v2:Int)(v3:bU)(v4:bq)(v5 v6:Bool)  
abbrev yh(n:Nat):aj:=.c (cat Try.f53 (pn n))
abbrev EO:Cx:=⟨Try.prog,58,M,w0⟩
abbrev y8:=bodyPost Try.prog Try.f53 (bn M w0 (fun v s=>v=.agg (List.set (aD ({ r with Kids:=[] }:ae)) 66 (.ref 1057))∧look 1057 s.r=some ⟨64,67,lm au r.Kids⟩))
abbrev w4(ks:List aj)(s:AS):=VE (EO M w0) (y8 M w0 r) ks .normal s
def yy:AS:=⟨[(3,.ptr 3 0),(5,.ptr 5 0),(6,.ptr 6 0),(7,.ptr 7 0),(9,.bool v5),(10,.bool v6)],[(3,aW v1),(5,bX v3),(6,List.set (aD bh) 66 (.nils)),(7,bm v4)],[],[3,5,6,7]⟩
def Ab:AS:=⟨[(3,.ptr 3 0),(5,.ptr 5 0),(6,.ptr 6 0),(7,.ptr 7 0),(8,.bool (v1.Style.Overflow == 0)),(9,.bool v5)],[(3,aW v1),(5,bX v3),(6,List.set (aD bh) 66 (.nils)),(7,bm v4)],[],[3,5,6,7]⟩
variable{M w0 r v1 v2 v3 v4 v5 v6}{K:Kn}{n:Nat}
theorem k8(hK:ai K)(h:i0 K n v1 v3 v4 v5 v6=some r):w4 M w0 r [yh 63] (yy v1 v3 v4 v5 v6):=by
 unfold i0 at h;refine ao 2 3 1 (ag 5 ?_);obtain⟨v7,h7,h⟩:=bind_some h;refine d3 1057 (wx hK h7) (kR (i:=66) (by kernel_rfl)) (aa (aI 1 ?_));cases h;exact dB
theorem oJ(hK:ai K)(h:kz K n v1 v3 v4 v5=some r):w4 M w0 r [yh 31] (Ab v1 v3 v4 v5):=by
 unfold kz at h;refine ao 2 3 1 (ag 2 ?_);obtain⟨h4,h⟩|⟨h4,h⟩:=ah h
 ·refine ay 33 h4 (aU 8 6 ?_);obtain⟨h5,h⟩|⟨h5,h⟩:=ah h
  ·refine ay 39 h5 (aU 14 6 ?_);obtain⟨h6,h⟩|⟨h6,h⟩:=ah h
   ·exact ay 45 h6 (aa (ac 0 (k8 hK h)))
   ·exact ay 45 h6 (aa (ac 0 (k8 hK h)))
  ·exact ay 39 h5 (aa (ac 0 (k8 hK h)))
 ·exact ay 33 h4 (aa (ac 0 (k8 hK h)))
theorem Ek(hK:ai K)(h:qd K n v1 v2 v3=some r):aJ Try.prog 53 [.agg (aW v1),iI v2,.agg (bX v3)] (fun v s=>v=.agg (List.set (aD ({ r with Kids:=[] }:ae)) 66 (.ref 1057))∧look 1057 s.r=some ⟨64,67,lm au r.Kids⟩):=by
 refine bd (cat Try.f53 (pn 1)) Try.func53 Try.ntmps53 fun M w0=>(aY ⟨[(0,.agg (aW v1)),(1,iI v2),(2,.agg (bX v3))],[],[],[]⟩ ?_);unfold qd at h;refine ao 6 7 3 (ag 3 ?_);obtain⟨v4,h1,h⟩:=bind_some h;refine aL (EM hK h1) (aa (ao 6 7 3 (ag 2 ?_)));obtain⟨h2,h⟩|⟨h2,h⟩:=ah h
 ·refine ay 20 h2 (aU 8 6 ?_);obtain⟨h3,h⟩|⟨h3,h⟩:=ah h
  ·exact ay 26 h3 (aa (ac 0 (oJ hK h)))
  ·exact ay 26 h3 (aa (ac 0 (oJ hK h)))
 ·exact ay 20 h2 (aa (ac 0 (oJ hK h)))
end
noncomputable section
variable(M:Nat→Prop)(w0:aw)(r:ae)(v1:aq)(v2:Int)  
variable{M w0 r v1 v2}{K:Kn}{n:Nat}
theorem AW(hK:ai K)(h:qw K n v1 v2=some r):aJ Try.prog 36 [.agg (aW v1),iI v2] (fun v s=>v=.agg (List.set (aD ({ r with Kids:=[] }:ae)) 66 (.ref 8))∧look 8 s.r=some ⟨64,67,lm au r.Kids⟩):=by
 refine bd (cat Try.f36 (pn 1)) Try.func36 Try.ntmps36 fun M w0=>(aY ⟨[(0,.agg (aW v1)),(1,iI v2)],[],[],[]⟩ ?_);unfold qw at h;refine ao 6 7 3 (bB [1,2,4] [2,4] [] ?_);obtain⟨v3,h1,h⟩:=bind_some h;obtain⟨v4,h2,h⟩:=bind_some h;refine bL 1 (nu 5 [.agg (aW v1),iI v2,.agg (bX v3),.agg (List.set (aD ({ v4 with Kids:=[] }:ae)) 66 (.ref 8))]) [] [(8,⟨64,67,lm au v4.Kids⟩)] [bF Try.prog 9 Try.f36 (pn 6) 4] (aB (vz 2) (ak (bR 0 1 7 (rx hK h1)) (ak (rX 0 1 8 (Ek hK h2) (kR (i:=66) (by kernel_rfl))) (ak (bI 0) bO)))) (aI 1 ?_);cases h;exact dB
end
noncomputable section
variable(M:Nat→Prop)(w0:aw)(r:Int×Int)(v1:aq)(v2:bU)  
variable{M w0 r v1 v2}{K:Kn}{n:Nat}
theorem Ez(hK:ai K)(h:pA K n v1 v2=some r):aJ Try.prog 54 [.agg (aW v1),.agg (bX v2)] (fun v _=>v=.tup [iI r.1,iI r.2]):=by
 refine bd (cat Try.f54 (pn 1)) Try.func54 Try.ntmps54 fun M w0=>(aY ⟨[(0,.agg (aW v1)),(1,.agg (bX v2))],[],[],[]⟩ ?_);unfold pA at h;refine ao 6 7 3 (ag 2 ?_);obtain⟨v3,h1,h⟩:=bind_some h;refine aL (tz hK h1) (aa (ao 2 3 1 (ag 2 ?_)));obtain⟨v4,h2,h⟩:=bind_some h;refine aL (xv hK h2) (aa (ao 2 3 1 (bB [4,5,6] [6] [] ?_)));obtain⟨v5,h3,h⟩:=bind_some h;obtain⟨v6,h4,h⟩:=bind_some h;obtain⟨v7,h5,h⟩:=bind_some h;obtain⟨v8,h6,h⟩:=bind_some h;obtain⟨v9,h7,h⟩:=bind_some h;obtain⟨v10,h8,h⟩:=bind_some h;refine bL 2 (nu 16 [.agg (aA v4),.agg (aA v4),iI v3.1,iI v5,.agg (bm v6),iI v7,.agg (aA v4),.agg (aA v4),iI v3.2,iI v8,.agg (bm v9),iI v10]) [] [] [bF Try.prog 28 Try.f54 (pn 30) 12,bF Try.prog 28 Try.f54 (pn 30) 13] (aB (vz 3) (ak (bR 0 1 19 (lT hK h3)) (ak (bR 0 1 20 (jE hK h4)) (ak (bR 0 1 21 (hH hK h5)) (aB [.v 0 2,.v 0 2,.v 0 2] (ak (bR 0 2 25 (lT hK h6)) (ak (bR 0 2 26 (jE hK h7)) (ak (bR 0 1 27 (hH hK h8)) (ak (bI 0) (ak (bI 1) bO)))))))))) (aI 1 ?_)
 cases h;exact eu
end
noncomputable section
variable(M:Nat→Prop)(w0:aw)(r:Int×Int)(v1:aq)  
variable{M w0 r v1}{K:Kn}{n:Nat}
theorem C6(hK:ai K)(h:o1 K n v1=some r):aJ Try.prog 37 [.agg (aW v1)] (fun v _=>v=.tup [iI r.1,iI r.2]):=by
 refine bd (cat Try.f37 (pn 1)) Try.func37 Try.ntmps37 fun M w0=>(aY ⟨[(0,.agg (aW v1))],[],[],[]⟩ ?_);unfold o1 at h;refine ao 6 7 3 (bB [1] [1] [] ?_);obtain⟨v2,h1,h⟩:=bind_some h;obtain⟨v3,h2,h⟩:=bind_some h;refine bL 2 (nu 4 [.agg (aW v1),.agg (bX v2),.tup [iI v3.1,iI v3.2],iI v3.1,iI v3.2]) [] [] [bF Try.prog 9 Try.f37 (pn 6) 5,bF Try.prog 9 Try.f37 (pn 6) 6] (aB [.v 0 1] (ak (bR 0 1 5 (rx hK h1)) (ak (bR 0 1 6 (Ez hK h2)) (aB (vz 2) (ak (bI 0) (ak (bI 1) bO)))))) (aI 1 ?_);cases h;exact eu
end
noncomputable section
variable(M:Nat→Prop)(w0:aw)(r:(List ae)×Int)(v1:List aq)(v2:aK)(v3 v10 v11:Int)(v12:List ae)(v14:Int)(v15:List ae)(m1:Nat)(L1:Int→Int→(List ae)→Option ((List ae)×Int))
abbrev qg:Cx:=⟨Try.prog,42,M,w0⟩
abbrev rf:=bodyPost Try.prog Try.f38 (bn M w0 (fun v s=>v=.tup [.ref 35,iI r.2]∧look 35 s.r=some ⟨64,67,lm au r.1⟩))
abbrev wX(ks:List aj)(s:AS):=VE (qg M w0) (rf M w0 r) ks .normal s
abbrev jg(n:Nat):aj:=.c (cat Try.f38 (pn n))
abbrev sw:List aj:=[.b 0,jg 31]
abbrev qU:List aj:=kl (qg M w0) (rf M w0 r) sw (cat Try.f38 (pn 244)) m1::sw
def yI:AS:=⟨[(0,.sl (lm aO v1)),(2,iI v3),(4,.ptr 4 0),(8,.ref 35),(9,iI v14),(10,iI v11)],[(4,aA v2)],[(35,⟨64,67,lm au v15⟩)],[4,35]⟩
def uC:AS:=⟨[(0,.sl (lm aO v1)),(2,iI v3),(4,.ptr 4 0),(8,.ref 35),(9,iI v10),(10,iI v11)],[(4,aA v2)],[(35,⟨64,67,lm au v12⟩)],[4,35]⟩
abbrev qO:Prop:=∀{v10:Int} {v11:Int} {v12:(List ae)},L1 v10 v11 v12=some r→LP (qg M w0) (rf M w0 r) sw (cat Try.f38 (pn 244)) m1 (uC v1 v2 v3 v10 v11 v12)
variable{M w0 r v1 v2 v3 v10 v11 v12 v14 v15 m1 L1}{K:Kn}{n:Nat}
theorem xi(hK:ai K)(hL1:qO M w0 r v1 v2 v3 m1 L1)(h:mT K n v1 v2 v3 v11 L1 v14 v15=some r):wX M w0 r (.b 1::jg 979::qU M w0 r m1) (yI v1 v2 v3 v11 v14 v15):=by
 unfold mT at h;exact ac 2 (bp (hL1 h))
theorem DU(hK:ai K)(hL1:qO M w0 r v1 v2 v3 m1 L1)(h:md K n v1 v2 v3 L1 v10 v11 v12=some r):wX M w0 r (jg 244::qU M w0 r m1) (uC v1 v2 v3 v10 v11 v12):=by
 unfold md at h;refine bH 4 5 3 2 (ag 2 (ap (br aO v1) (aa ?_)));obtain⟨h13,h⟩|⟨h13,h⟩:=ah h
 ·refine ab 14 h13 (cu 8 9 1 3 5 (ag 2 ?_));obtain⟨h14,h⟩:=aN h;refine ap (bw aO aW h14 (dS) (dC)) (aa ?_);obtain⟨v13,h15,h⟩:=bP h;refine bv (ks':=jg 3913 :: .b 1::jg 979::qU M w0 r m1) 0 ⟨[(0,.sl (lm aO v1)),(2,iI v3),(4,.ptr 4 0),(8,.ref 35),(9,iI v10),(10,iI v11),(22,.bool v13)],[(4,aA v2)],[(35,⟨64,67,lm au v12⟩)],[4,35]⟩ ?_ (by subst h15;kernel_rfl);obtain⟨h16,h⟩|⟨h16,h⟩:=ah h
  ·refine ab 22 h16 (ao 4 5 2 (bB [0,2,4,8,9,10] [4] [35] ?_));obtain⟨h17,h⟩:=aN h;obtain⟨h18,h⟩:=aN h;exact bL 2 (nu 23 [.ref 35,iI v10,iI v3,.ptr 4 38,iI v2.LineHeight,.sl (lm aO v1),iI v11,.cptr (aW (gD v1 v11)),.cptr (List.drop 55 (aW (gD v1 v11))),.str ((gD v1 v11).Text),.agg (List.set (aD ({ bh with Kind:=2,Y:=v10,W:=v3,H:=v2.LineHeight,Text:=(gD v1 v11).Text }:ae)) 66 (.nils)),.sl (lm au [({ bh with Kind:=2,Y:=v10,W:=v3,H:=v2.LineHeight,Text:=(gD v1 v11).Text }:ae)])]) [] [] [fY 35 35 ⟨64,67,lm au (v12++[({ bh with Kind:=2,Y:=v10,W:=v3,H:=v2.LineHeight,Text:=(gD v1 v11).Text }:ae)])⟩,bF Try.prog 42 Try.f38 (pn 15652) 13] (aB [.v 0 1,.v 0 2,.v 0 2,.v 0 2,.v 0 2,.v 0 2,.v 0 2] (ak (g8 (lo:=0) (k:=2) (fu ⟨(by kernel_rfl),(fN (bw aO aW h17 (dS) (dC)) (by kernel_rfl))⟩ (fu ⟨(by kernel_rfl),(fN (bw aO aW h17 (dS) (dC)) (by kernel_rfl))⟩ kB))) (aB [.v 0 2,.v 0 2,.v 0 2] (bK (eO au ([({ bh with Kind:=2,Y:=v10,W:=v3,H:=v2.LineHeight,Text:=(gD v1 v11).Text }:ae)]:List ae) (new:=[aD ({ bh with Kind:=2,Y:=v10,W:=v3,H:=v2.LineHeight,Text:=(gD v1 v11).Text }:ae)]) (by simp only[List.map_cons,List.map_nil,cr])) (ak (eN (m:=0) (b9 35 35 64 67 au (rfl) (d8) h18)) (ak (bI 1) bO)))))) (ac 1 (xi hK hL1 h))
  ·exact ab 22 h16 (ac 2 (xi hK hL1 h))
 ·refine ab 14 h13 (aI 8 ?_);cases h;exact o7
theorem B3(hK:ai K)(m:Nat):qO M w0 r v1 v2 v3 m (lf K n v1 v2 v3 m):=by
 induction m with
 | zero=>intro v10 v11 v12 h;cases h
 | succ m ih=>intro v10 v11 v12 h;have h:md K n v1 v2 v3 (lf K n v1 v2 v3 m) v10 v11 v12=some r:=h;exact bo (DU hK ih h)
theorem ED(hK:ai K)(h:rZ K n v1 v2 v3=some r):aJ Try.prog 38 [.sl (lm aO v1),.agg (aA v2),iI v3] (fun v s=>v=.tup [.ref 35,iI r.2]∧look 35 s.r=some ⟨64,67,lm au r.1⟩):=by
 refine bd (cat Try.f38 (pn 1)) Try.func38 Try.ntmps38 fun M w0=>(aY ⟨[(0,.sl (lm aO v1)),(1,.agg (aA v2)),(2,iI v3)],[],[],[]⟩ ?_);unfold rZ at h;exact eA 122 0 31 10 (bB [0,2,4,8,9,10] [4] [] (d9 35 8 64 67 (ac 0 (bW (p:=pn 122) n (B3 hK n h)))))
end
noncomputable section
variable(M:Nat→Prop)(w0:aw)(r:Int×Int)(v1:List aq)(v2:aK)(v3 v4 v5:Int)(m1:Nat)(L1:Int→Int→Int→Option (Int×Int))
abbrev pg:Cx:=⟨Try.prog,31,M,w0⟩
abbrev so:=bodyPost Try.prog Try.f39 (bn M w0 (fun v _=>v=.tup [iI r.1,iI r.2]))
abbrev A5(ks:List aj)(s:AS):=VE (pg M w0) (so M w0 r) ks .normal s
abbrev ye(n:Nat):aj:=.c (cat Try.f39 (pn n))
abbrev qL:List aj:=[.b 0,ye 31]
abbrev Bk:List aj:=kl (pg M w0) (so M w0 r) qL (cat Try.f39 (pn 244)) m1::qL
def u6:AS:=⟨[(0,.sl (lm aO v1)),(6,iI v3),(7,iI v4),(8,iI v5)],[],[],[]⟩
abbrev vm:Prop:=∀{v3:Int} {v4:Int} {v5:Int},L1 v3 v4 v5=some r→LP (pg M w0) (so M w0 r) qL (cat Try.f39 (pn 244)) m1 (u6 v1 v3 v4 v5)
variable{M w0 r v1 v2 v3 v4 v5 m1 L1}{K:Kn}{n:Nat}
theorem Fa(hK:ai K)(hL1:vm M w0 r v1 m1 L1)(h:nJ K n v1 L1 v3 v4 v5=some r):A5 M w0 r (ye 244::Bk M w0 r m1) (u6 v1 v3 v4 v5):=by
 unfold nJ at h;refine bH 4 5 3 2 (ag 2 (ap (br aO v1) (aa ?_)));obtain⟨h3,h⟩|⟨h3,h⟩:=ah h
 ·refine ab 13 h3 (cu 8 9 1 3 5 (ag 2 ?_));obtain⟨h4,h⟩:=aN h;exact ap (bw aO aW h4 (dS) (dC)) (aa (ac 5 (bp (hL1 h))))
 ·refine ab 13 h3 (aI 8 ?_);cases h;exact eu
theorem D8(hK:ai K)(m:Nat):vm M w0 r v1 m (lI K n v1 m):=by
 induction m with
 | zero=>intro v3 v4 v5 h;cases h
 | succ m ih=>intro v3 v4 v5 h;have h:nJ K n v1 (lI K n v1 m) v3 v4 v5=some r:=h;exact bo (Fa hK ih h)
theorem z4(hK:ai K)(h:pX K n v1 v2=some r):aJ Try.prog 39 [.sl (lm aO v1),.agg (aA v2)] (fun v _=>v=.tup [iI r.1,iI r.2]):=by
 refine bd (cat Try.f39 (pn 1)) Try.func39 Try.ntmps39 fun M w0=>(aY ⟨[(0,.sl (lm aO v1)),(1,.agg (aA v2))],[],[],[]⟩ ?_);unfold pX at h;exact ac 10 (bW (p:=pn 122) n (D8 hK n h))
end
end Go.Proofs.Ytnpmlepplfaijaa
