/- The runs of the functions that InlineFits reaches do what their plain forms say, part 1. Made by a program. -/
import Derived.Test.YtnpmlepplfaijaaIvGk
import Derived.Test.YtnpmlepplfaijaaIvP0
namespace Go.Proofs.Ytnpmlepplfaijaa
open Go.RowKit
set_option maxRecDepth 20000
set_option linter.all false
set_option linter.unusedVariables false
set_option linter.unusedSimpArgs false
noncomputable section
variable(M:Nat→Prop)(w0:az)(r:Bool)(v1:ai)(v2:Bool)  
abbrev JW(n:Nat):ak:=.c (cat Try.f81 (pn n))
abbrev Bq:Cx:=⟨Try.prog,16,M,w0⟩
abbrev CB:=bodyPost Try.prog Try.f81 (br M w0 (fun v _=>v=.bool r))
abbrev Ii(ks:List ak)(s:AS):=VE (Bq M w0) (CB M w0 r) ks .normal s
def Jw:AS:=⟨[(2,.bool v2)],[],[],[]⟩
variable{M w0 r v1 v2}{K:Kn}{n:Nat}
theorem sh(hK:aj K)(h:kB K n v2=some r):Ii M w0 r [JW 7] (Jw v2):=by
 unfold kB at h;refine aD 1 ?_;cases h;exact aZ
theorem xl(hK:aj K)(h:kn K n v1=some r):aN Try.prog 81 [.agg (aV v1)] (fun v _=>v=.bool r):=by
 refine bd (cat Try.f81 (pn 1)) Try.func81 Try.ntmps81 fun M w0=>(ba ⟨[(0,.agg (aV v1))],[],[],[]⟩ ?_);unfold kn at h;refine aw 6 7 3 (ag 4 ?_);obtain⟨h1,h⟩|⟨h1,h⟩:=ah h
 ·exact au 6 h1 (ab (ac 0 (sh hK h)))
 ·refine au 6 h1 (aE 9 5 ?_);obtain⟨h2,h⟩|⟨h2,h⟩:=ah h
  ·exact au 11 h2 (ab (ac 0 (sh hK h)))
  ·exact au 11 h2 (ab (ac 0 (sh hK h)))
end
noncomputable section
variable(M:Nat→Prop)(w0:az)(r:af)(v1:ai)(v2:bn)(v3 v4:Bool)(v5:bW)(v6:(List ai)×Bool)(v9:Int)(v10:List af)(v15:Int)(v16:Bool)(v17 v18:aJ)(v19:List af)(v20 v21:aJ)(v23:Bool)(v25:Int)(v26:aJ)(v27:Bool)(v32:Int)(v33 v34:aJ)(v35:Bool)(v36:Int×Bool)(v37:Bool)(v38 v39 v40 v47:Int)(v48 v50:(List af))(v52:Bool)(v54:List af)(m1 m2:Nat)(L1 L2:Int→(List af)→Option af)
abbrev mM:Cx:=⟨Try.prog,259,M,w0⟩
abbrev mW:=bodyPost Try.prog Try.f62 (br M w0 (fun v s=>v=.agg (List.set (aK ({ r with Kids:=[] }:af)) 66 (.ref 1054))∧look 1054 s.r=some ⟨64,67,lm aB r.Kids⟩))
abbrev eU(ks:List ak)(s:AS):=VE (mM M w0) (mW M w0 r) ks .normal s
abbrev cn(n:Nat):ak:=.c (cat Try.f62 (pn n))
abbrev tV:List ak:=[.b 4,cn 131071]
abbrev mF:List ak:=kl (mM M w0) (mW M w0 r) tV (cat Try.f62 (pn 1048564)) m2::tV
abbrev sA:List ak:=[.b 0,cn 4075,cn 255]
abbrev HX:List ak:=kl (mM M w0) (mW M w0 r) sA (cat Try.f62 (pn 32596)) m1::sA
def IM:AS:=⟨[(6,.ptr 6 0),(10,.ptr 10 0),(11,.ptr 11 0),(12,.sl (lm aP v6.1)),(13,.bool v6.2),(15,iI v25),(199,iI (v19.length:Int)),(200,iI v47)],[(6,bq v2),(10,List.set (aK bl) 66 (.nils)),(11,List.set (aK (⟨1,v1.Node,v2.Margin.a3,0,(aa (v2.Content+v39)),v40,0,⟨#[]⟩,v1.Style,v33,v34,v35,[]⟩:af)) 66 (.ref 1054))],[(1054,⟨64,67,lm aB v54⟩)],[6,10,11,1054]⟩
def Ed:AS:=⟨[(6,.ptr 6 0),(10,.ptr 10 0),(11,.ptr 11 0),(12,.sl (lm aP v6.1)),(13,.bool v6.2),(15,iI v25),(24,iI v47),(199,iI (v19.length:Int)),(200,iI v47),(244,.bool v52)],[(6,bq v2),(10,List.set (aK bl) 66 (.nils)),(11,List.set (aK (⟨1,v1.Node,v2.Margin.a3,0,(aa (v2.Content+v39)),v40,0,⟨#[]⟩,v1.Style,v33,v34,v35,[]⟩:af)) 66 (.ref 1054))],[(1054,⟨64,67,lm aB v50⟩)],[6,10,11,1054]⟩
def yB:AS:=⟨[(6,.ptr 6 0),(10,.ptr 10 0),(11,.ptr 11 0),(12,.sl (lm aP v6.1)),(13,.bool v6.2),(15,iI v25),(199,iI (v19.length:Int)),(200,iI v47)],[(6,bq v2),(10,List.set (aK bl) 66 (.nils)),(11,List.set (aK (⟨1,v1.Node,v2.Margin.a3,0,(aa (v2.Content+v39)),v40,0,⟨#[]⟩,v1.Style,v33,v34,v35,[]⟩:af)) 66 (.ref 1054))],[(1054,⟨64,67,lm aB v48⟩)],[6,10,11,1054]⟩
def Bv:AS:=⟨[(6,.ptr 6 0),(10,.ptr 10 0),(11,.ptr 11 0),(12,.sl (lm aP v6.1)),(13,.bool v6.2),(14,iI v38),(15,iI v25)],[(6,bq v2),(10,List.set (aK bl) 66 (.nils)),(11,List.set (aK ({ bl with Kind:=1,Node:=v1.Node,Style:=v1.Style,Before:=v33,After:=v34,Empty:=v35 }:af)) 66 (.ref 1054))],[(1054,⟨64,67,lm aB v19⟩)],[6,10,11,1054]⟩
def Ih:AS:=⟨[(6,.ptr 6 0),(10,.ptr 10 0),(11,.ptr 11 0),(12,.sl (lm aP v6.1)),(13,.bool v6.2),(14,iI (max v32 0)),(15,iI v25),(22,iI v36.1),(166,.bool v37)],[(6,bq v2),(10,List.set (aK bl) 66 (.nils)),(11,List.set (aK ({ bl with Kind:=1,Node:=v1.Node,Style:=v1.Style,Before:=v33,After:=v34,Empty:=v35 }:af)) 66 (.ref 1054))],[(1054,⟨64,67,lm aB v19⟩)],[6,10,11,1054]⟩
def Gz:AS:=⟨[(5,.ptr 5 0),(6,.ptr 6 0),(10,.ptr 10 0),(11,.ptr 11 0),(12,.sl (lm aP v6.1)),(13,.bool v6.2),(14,iI v32),(15,iI v25)],[(5,aV v1),(6,bq v2),(10,List.set (aK bl) 66 (.nils)),(11,List.set (aK ({ bl with Kind:=1,Node:=v1.Node,Style:=v1.Style,Before:=v33,After:=v34,Empty:=v35 }:af)) 66 (.ref 1054))],[(1054,⟨64,67,lm aB v19⟩)],[5,6,10,11,1054]⟩
def DM:AS:=⟨[(3,.bool v4),(5,.ptr 5 0),(6,.ptr 6 0),(10,.ptr 10 0),(11,.ptr 11 0),(12,.sl (lm aP v6.1)),(13,.bool v6.2),(14,iI v15),(15,iI v25),(16,.ptr 16 0),(17,.ptr 17 0),(18,.bool v16),(113,.bool v27)],[(5,aV v1),(6,bq v2),(10,List.set (aK bl) 66 (.nils)),(11,List.set (aK ({ bl with Kind:=1,Node:=v1.Node,Style:=v1.Style,Before:=v26,After:=v21 }:af)) 66 (.ref 1054)),(16,bA v17),(17,bA v18)],[(1054,⟨64,67,lm aB v19⟩)],[5,6,10,11,16,17,1054]⟩
def I9:AS:=⟨[(2,.bool v3),(3,.bool v4),(5,.ptr 5 0),(6,.ptr 6 0),(10,.ptr 10 0),(11,.ptr 11 0),(12,.sl (lm aP v6.1)),(13,.bool v6.2),(14,iI v15),(15,iI v25),(16,.ptr 16 0),(17,.ptr 17 0),(18,.bool v16)],[(5,aV v1),(6,bq v2),(10,List.set (aK bl) 66 (.nils)),(11,List.set (aK ({ bl with Kind:=1,Node:=v1.Node,Style:=v1.Style,Before:=v26,After:=v21 }:af)) 66 (.ref 1054)),(16,bA v17),(17,bA v18)],[(1054,⟨64,67,lm aB v19⟩)],[5,6,10,11,16,17,1054]⟩
def FY:AS:=⟨[(2,.bool v3),(3,.bool v4),(5,.ptr 5 0),(6,.ptr 6 0),(10,.ptr 10 0),(11,.ptr 11 0),(12,.sl (lm aP v6.1)),(13,.bool v6.2),(14,iI v15),(15,iI 0),(16,.ptr 16 0),(17,.ptr 17 0),(18,.bool v16),(98,.bool v23)],[(5,aV v1),(6,bq v2),(10,List.set (aK bl) 66 (.nils)),(11,List.set (aK ({ bl with Kind:=1,Node:=v1.Node,Style:=v1.Style,Before:=v20,After:=v21 }:af)) 66 (.ref 1054)),(16,bA v17),(17,bA v18)],[(1054,⟨64,67,lm aB v19⟩)],[5,6,10,11,16,17,1054]⟩
def D8:AS:=⟨[(2,.bool v3),(3,.bool v4),(5,.ptr 5 0),(6,.ptr 6 0),(10,.ptr 10 0),(11,.ptr 11 0),(12,.sl (lm aP v6.1)),(13,.bool v6.2),(14,iI v15),(15,iI 0),(16,.ptr 16 0),(17,.ptr 17 0),(18,.bool v16)],[(5,aV v1),(6,bq v2),(10,List.set (aK bl) 66 (.nils)),(11,List.set (aK ({ bl with Kind:=1,Node:=v1.Node,Style:=v1.Style }:af)) 66 (.ref 1054)),(16,bA v17),(17,bA v18)],[(1054,⟨64,67,lm aB v19⟩)],[5,6,10,11,16,17,1054]⟩
def zd:AS:=⟨[(2,.bool v3),(3,.bool v4),(5,.ptr 5 0),(6,.ptr 6 0),(9,.ptr 9 0),(10,.ptr 10 0),(11,.ptr 11 0),(12,.sl (lm aP v6.1)),(13,.bool v6.2),(15,iI 0),(16,.ptr 16 0),(17,.ptr 17 0),(19,.ref 50),(36,.sl (lm aP v6.1)),(37,iI (v6.1.length:Int)),(38,iI v9)],[(5,aV v1),(6,bq v2),(9,cg v5),(10,List.set (aK bl) 66 (.nils)),(11,List.set (aK ({ bl with Kind:=1,Node:=v1.Node,Style:=v1.Style }:af)) 66 (.nils)),(16,bA cr),(17,bA cr)],[(50,⟨64,67,lm aB v10⟩)],[5,6,9,10,11,16,17,50]⟩
abbrev Bc:Prop:=∀{v9:Int} {v10:(List af)},L1 v9 v10=some r→LP (mM M w0) (mW M w0 r) sA (cat Try.f62 (pn 32596)) m1 (zd v1 v2 v3 v4 v5 v6 v9 v10)
abbrev pe:Prop:=∀{v47:Int} {v48:(List af)},L2 v47 v48=some r→LP (mM M w0) (mW M w0 r) tV (cat Try.f62 (pn 1048564)) m2 (yB v1 v2 v6 v19 v25 v33 v34 v35 v39 v40 v47 v48)
variable{M w0 r v1 v2 v3 v4 v5 v6 v9 v10 v15 v16 v17 v18 v19 v20 v21 v23 v25 v26 v27 v32 v33 v34 v35 v36 v37 v38 v39 v40 v47 v48 v50 v52 v54 m1 m2 L1 L2}{K:Kn}{n:Nat}
theorem Bi(hK:aj K)(hL2:pe M w0 r v1 v2 v6 v19 v25 v33 v34 v35 v39 v40 m2 L2)(h:l5 K n v1 v2 v6 v19 v25 v33 v34 v35 v39 v40 v47 L2 v54=some r):eU M w0 r (.b 5::cn 8388519::mF M w0 r m2) (IM v1 v2 v6 v19 v25 v33 v34 v35 v39 v40 v47 v54):=by
 unfold l5 at h;exact ac 2 (bo (hL2 h))
theorem vO(hK:aj K)(hL2:pe M w0 r v1 v2 v6 v19 v25 v33 v34 v35 v39 v40 m2 L2)(h:n0 K n v1 v2 v6 v19 v25 v33 v34 v35 v39 v40 v47 v50 L2 v52=some r):eU M w0 r (cn 268432591 :: .b 5::cn 8388519::mF M w0 r m2) (Ed v1 v2 v6 v19 v25 v33 v34 v35 v39 v40 v47 v50 v52):=by
 unfold n0 at h;obtain⟨h64,h⟩|⟨h64,h⟩:=ah h
 ·refine ae 244 h64 (aU 2 1 (bJ [6,10,11,12,13,15,24,199,200] [6,10,11] [1054] ?_));obtain⟨h65,h⟩:=aQ h;obtain⟨v53,h66,h⟩:=bind_some h;obtain⟨h67,h⟩:=aQ h;exact bT 1 (nu 245 [.ptr 11 66,.ref 1054,iI v47,.ptr 11 66,.ref 1054,iI v47,.eptr 1054 67 (v47.toNat) 0,.agg (aK (gD v50 v47)),.ptr 6 12,iI v2.Content,.agg (aK v53),.eptr 1054 67 (v47.toNat) 0]) [] [] [qW 1054 ⟨64,67,lm aB (List.set v50 v47.toNat v53)⟩] (aL (vz 6) (ca (ez 1054 67 aB (L:=v50) h65) (ca (cA 64 0 aB aK (db h67).2 (cT)) (aL (vz 2) (am (bX 0 1 255 (xF hK h66)) (ca (ez 1054 67 aB (L:=v50) h67) (am (gt (m:=0) (sN 1054 64 67 0 aB aK v53 (db h67).2 (cT))) bV))))))) (ac 0 (Bi hK hL2 h))
 ·exact ae 244 h64 (ac 2 (Bi hK hL2 h))
theorem BU(hK:aj K)(hL2:pe M w0 r v1 v2 v6 v19 v25 v33 v34 v35 v39 v40 m2 L2)(h:li K n v1 v2 v6 v19 v25 v33 v34 v35 v39 v40 L2 v47 v48=some r):eU M w0 r (cn 1048564::mF M w0 r m2) (yB v1 v2 v6 v19 v25 v33 v34 v35 v39 v40 v47 v48):=by
 unfold li at h;refine aw 6 7 3 ?_;obtain⟨h54,h⟩|⟨h54,h⟩:=ah h
 ·refine ae 201 h54 (cG 18 19 5 3 7 (bJ [6,10,11,12,13,15,24,199,200] [6,10,11] [1054] ?_));obtain⟨h55,h⟩:=aQ h;obtain⟨h56,h⟩:=aQ h;refine bT 1 (nu 203 [.ptr 11 66,.ref 1054,iI v47,.eptr 1054 67 (v47.toNat) 0,.eptr 1054 67 (v47.toNat) 2,iI ((gD v48 v47).X),.ptr 6 4,.ptr 6 7,iI v2.Border.a3,.ptr 6 8,.ptr 6 11,iI v2.Padding.a3,iI (aa (v2.Border.a3+v2.Padding.a3)),iI (aa (((gD v48 v47).X)+(aa (v2.Border.a3+v2.Padding.a3)))),.eptr 1054 67 (v47.toNat) 0,.eptr 1054 67 (v47.toNat) 2]) [] [] [qW 1054 ⟨64,67,lm aB (List.set v48 v47.toNat ({ (gD v48 v47)with X:=(aa (((gD v48 v47).X)+(aa (v2.Border.a3+v2.Padding.a3)))) }:af))⟩] (aL (vz 3) (ca (ez 1054 67 aB (L:=v48) h55) (aL [.v 0 1] (ca (cA 3 2 aB aK (db h56).2 (cT)) (aL (vz 8) (am (im (lo:=0) (k:=2) (eL ⟨(by kernel_rfl),(ff (ez 1054 67 aB (L:=v48) h56) (by kernel_rfl))⟩ (eL ⟨(by kernel_rfl),(ff (ez 1054 67 aB (L:=(List.set v48 v47.toNat ({ (gD v48 v47)with X:=(aa (((gD v48 v47).X)+(aa (v2.Border.a3+v2.Padding.a3)))) }:af))) h56) (by kernel_rfl))⟩ jz))) (aL [.v 0 1] (am (gt (m:=0) (sN 1054 64 67 2 aB aK ({ (gD v48 v47)with X:=(aa (((gD v48 v47).X)+(aa (v2.Border.a3+v2.Padding.a3)))) }:af) (db h56).2 (cT))) bV)))))))) ?_
  obtain⟨v49,h57,h⟩:=bP h;refine bt (ks':=cn 134216294::cn 134216295 :: .b 5::cn 8388519::mF M w0 r m2) 1 ⟨[(6,.ptr 6 0),(10,.ptr 10 0),(11,.ptr 11 0),(12,.sl (lm aP v6.1)),(13,.bool v6.2),(15,iI v25),(24,iI v47),(199,iI (v19.length:Int)),(200,iI v47)],[(6,bq v2),(10,List.set (aK bl) 66 (.nils)),(11,List.set (aK (⟨1,v1.Node,v2.Margin.a3,0,(aa (v2.Content+v39)),v40,0,⟨#[]⟩,v1.Style,v33,v34,v35,[]⟩:af)) 66 (.ref 1054))],[(1054,⟨64,67,lm aB v49⟩)],[6,10,11,1054]⟩ ?_ (by subst h57;kernel_rfl);obtain⟨h58,h⟩:=aQ h;obtain⟨h59,h⟩:=aQ h;refine bT 1 (nu 219 [.ptr 11 66,.ref 1054,iI v47,.eptr 1054 67 (v47.toNat) 0,.eptr 1054 67 (v47.toNat) 3,iI ((gD v49 v47).Y),.ptr 6 4,.ptr 6 4,iI v2.Border.a0,.ptr 6 8,.ptr 6 8,iI v2.Padding.a0,iI (aa (v2.Border.a0+v2.Padding.a0)),iI v25,iI (aa ((aa (v2.Border.a0+v2.Padding.a0))+v25)),iI (aa (((gD v49 v47).Y)+(aa ((aa (v2.Border.a0+v2.Padding.a0))+v25)))),.eptr 1054 67 (v47.toNat) 0,.eptr 1054 67 (v47.toNat) 3]) [] [] [qW 1054 ⟨64,67,lm aB (List.set v49 v47.toNat ({ (gD v49 v47)with Y:=(aa (((gD v49 v47).Y)+(aa ((aa (v2.Border.a0+v2.Padding.a0))+v25)))) }:af))⟩] (aL (vz 3) (ca (ez 1054 67 aB (L:=v49) h58) (aL [.v 0 1] (ca (cA 3 3 aB aK (db h59).2 (cT)) (aL (vz 10) (am (im (lo:=0) (k:=2) (eL ⟨(by kernel_rfl),(ff (ez 1054 67 aB (L:=v49) h59) (by kernel_rfl))⟩ (eL ⟨(by kernel_rfl),(ff (ez 1054 67 aB (L:=(List.set v49 v47.toNat ({ (gD v49 v47)with Y:=(aa (((gD v49 v47).Y)+(aa ((aa (v2.Border.a0+v2.Padding.a0))+v25)))) }:af))) h59) (by kernel_rfl))⟩ jz))) (aL [.v 0 1] (am (gt (m:=0) (sN 1054 64 67 3 aB aK ({ (gD v49 v47)with Y:=(aa (((gD v49 v47).Y)+(aa ((aa (v2.Border.a0+v2.Padding.a0))+v25)))) }:af) (db h59).2 (cT))) bV)))))))) ?_
  obtain⟨v50,h60,h⟩:=bP h;refine bt (ks':=cn 268432590::cn 268432591 :: .b 5::cn 8388519::mF M w0 r m2) 1 ⟨[(6,.ptr 6 0),(10,.ptr 10 0),(11,.ptr 11 0),(12,.sl (lm aP v6.1)),(13,.bool v6.2),(15,iI v25),(24,iI v47),(199,iI (v19.length:Int)),(200,iI v47)],[(6,bq v2),(10,List.set (aK bl) 66 (.nils)),(11,List.set (aK (⟨1,v1.Node,v2.Margin.a3,0,(aa (v2.Content+v39)),v40,0,⟨#[]⟩,v1.Style,v33,v34,v35,[]⟩:af)) 66 (.ref 1054))],[(1054,⟨64,67,lm aB v50⟩)],[6,10,11,1054]⟩ ?_ (by subst h60;kernel_rfl);refine ag 2 ?_;obtain⟨h61,h⟩|⟨h61,h⟩:=ah h
  ·refine au 238 h61 (aE 4 2 ?_);obtain⟨h62,h⟩:=aQ h;refine ax (bv aP aV h62 (ey) (dM)) (aE 6 1 ?_);obtain⟨v51,h63,h⟩:=bind_some h;exact aG (xl hK h63) (ab (ac 0 (vO hK hL2 h)))
  ·exact au 238 h61 (ab (ac 0 (vO hK hL2 h)))
 ·refine ae 201 h54 (aD 8 ?_);cases h;exact eu
theorem ET(hK:aj K)(m:Nat):pe M w0 r v1 v2 v6 v19 v25 v33 v34 v35 v39 v40 m (lw K n v1 v2 v6 v19 v25 v33 v34 v35 v39 v40 m):=by
 induction m with
 | zero=>intro v47 v48 h;cases h
 | succ m ih=>intro v47 v48 h;have h:li K n v1 v2 v6 v19 v25 v33 v34 v35 v39 v40 (lw K n v1 v2 v6 v19 v25 v33 v34 v35 v39 v40 m) v47 v48=some r:=h;exact bi (BU hK ih h)
theorem Ae(hK:aj K)(h:mu K n v1 v2 v6 v19 v25 v33 v34 v35 v38=some r):eU M w0 r [cn 8191] (Bv v1 v2 v6 v19 v25 v33 v34 v35 v38):=by
 unfold mu at h;refine aw 6 7 3 (bJ [6,10,11,12,13,14,15] [6,10,11] [1054] ?_);obtain⟨v39,h38,h⟩:=bind_some h;refine bT 1 (nu 173 [.ptr 6 12,iI v2.Content,.agg (bq v2),iI v39,iI (aa (v2.Content+v39)),.ptr 11 4]) [] [] [bN Try.prog 259 Try.f62 (pn 32766) 6] (aL (vz 3) (am (bX 0 1 176 (EI hK h38)) (aL (vz 2) (am (bO 0) bV)))) ?_;obtain⟨v40,h39,h⟩:=bP h;refine bt (ks':=[cn 262140,cn 262141,cn 131071]) 4 ⟨[(6,.ptr 6 0),(10,.ptr 10 0),(11,.ptr 11 0),(12,.sl (lm aP v6.1)),(13,.bool v6.2),(15,iI v25)],[(6,bq v2),(10,List.set (aK bl) 66 (.nils)),(11,List.set (aK (⟨1,v1.Node,v2.Margin.a3,0,(aa (v2.Content+v39)),v40,0,⟨#[]⟩,v1.Style,v33,v34,v35,[]⟩:af)) 66 (.ref 1054))],[(1054,⟨64,67,lm aB v19⟩)],[6,10,11,1054]⟩ ?_ (by subst h39;kernel_rfl);exact ag 2 (ax (bu aB v19) (ab (ac 1 (cf (p:=pn 524282) n (ET hK n h)))))
theorem AW(hK:aj K)(h:om K n v1 v2 v6 v19 v25 v32 v33 v34 v35 v36 v37=some r):eU M w0 r [cn 32763,cn 8191] (Ih v1 v2 v6 v19 v25 v32 v33 v34 v35 v36 v37):=by
 unfold om at h;obtain⟨h37,h⟩|⟨h37,h⟩:=ah h
 ·exact ae 166 h37 (ac 2 (Ae hK h))
 ·exact ae 166 h37 (ac 2 (Ae hK h))
theorem nW(hK:aj K)(h:ft K n v1 v2 v6 v19 v25 v32 v33 v34 v35=some r):eU M w0 r [.b 3,cn 2047] (Gz v1 v2 v6 v19 v25 v32 v33 v34 v35):=by
 unfold ft at h;refine l8 12 13 7 5 (ag 3 ?_);obtain⟨v36,h35,h⟩:=bind_some h;refine aG (dd hK h35) (ab (aw 2 3 1 (ag 2 ?_)));obtain⟨h36,h⟩|⟨h36,h⟩:=ah h
 ·exact au 160 h36 (ab (ac 0 (AW hK h)))
 ·exact au 160 h36 (ab (ac 0 (AW hK h)))
theorem rS(hK:aj K)(h:jg K n v1 v2 v4 v6 v15 v16 v17 v18 v19 v21 v25 v26 v27=some r):eU M w0 r [cn 8185,.b 3,cn 2047] (DM v1 v2 v4 v6 v15 v16 v17 v18 v19 v21 v25 v26 v27):=by
 unfold jg at h;obtain⟨h27,h⟩|⟨h27,h⟩:=ah h
 ·refine ae 113 h27 (aw 4 5 2 (ag 4 ?_));obtain⟨v28,h28,h⟩:=bind_some h;exact aG (mJ hK h28) (ab (ac 5 (nW hK h)))
 ·refine ae 113 h27 (aU 7 3 ?_);obtain⟨h29,h⟩|⟨h29,h⟩:=ah h
  ·refine ae 131 h29 (aU 11 5 ?_);obtain⟨h30,h⟩|⟨h30,h⟩:=ah h
   ·refine ae 134 h30 (aU 2 1 (ag 3 ?_));obtain⟨v29,h31,h⟩:=bind_some h;exact aG (mJ hK h31) (ab (ac 0 (nW hK h)))
   ·exact ae 134 h30 (ac 2 (nW hK h))
  ·refine ae 131 h29 (aU 7 3 ?_);obtain⟨h32,h⟩|⟨h32,h⟩:=ah h
   ·refine ae 140 h32 (aw 4 5 2 (ag 3 ?_));obtain⟨v30,h33,h⟩:=bind_some h;exact aG (mJ hK h33) (ab (ac 1 (nW hK h)))
   ·refine ae 140 h32 (aU 3 1 (ag 3 ?_));obtain⟨v31,h34,h⟩:=bind_some h;exact aG (kC hK h34) (ab (ac 0 (nW hK h)))
theorem rY(hK:aj K)(h:jx K n v1 v2 v3 v4 v6 v15 v16 v17 v18 v19 v21 v25 v26=some r):eU M w0 r [.b 2,cn 1023] (I9 v1 v2 v3 v4 v6 v15 v16 v17 v18 v19 v21 v25 v26):=by
 unfold jx at h;refine cG 8 9 3 3 4 (ag 2 ?_);obtain⟨h25,h⟩|⟨h25,h⟩:=ah h
 ·refine au 115 h25 (aE 5 3 ?_);obtain⟨h26,h⟩|⟨h26,h⟩:=ah h
  ·exact au 118 h26 (ab (ac 0 (rS hK h)))
  ·exact au 118 h26 (ab (ac 0 (rS hK h)))
 ·exact au 115 h25 (ab (ac 0 (rS hK h)))
theorem Ak(hK:aj K)(h:kT K n v1 v2 v3 v4 v6 v15 v16 v17 v18 v19 v20 v21 v23=some r):eU M w0 r [cn 16359,.b 2,cn 1023] (FY v1 v2 v3 v4 v6 v15 v16 v17 v18 v19 v20 v21 v23):=by
 unfold kT at h;obtain⟨h23,h⟩|⟨h23,h⟩:=ah h
 ·refine ae 98 h23 (aU 2 1 (ag 1 ?_));obtain⟨v24,h24,h⟩:=bind_some h;exact aG (kC hK h24) (ab (ac 0 (rY hK h)))
 ·exact ae 98 h23 (ac 2 (rY hK h))
theorem xx(hK:aj K)(h:nK K n v1 v2 v3 v4 v6 v15 v16 v17 v18 v19=some r):eU M w0 r [cn 255] (D8 v1 v2 v3 v4 v6 v15 v16 v17 v18 v19):=by
 unfold nK at h;refine aw 2 3 1 (bJ [2,3,5,6,10,11,12,13,14,15,16,17,18] [5,6,10,11,16,17] [1054] ?_);obtain⟨v20,h18,h⟩:=bind_some h;obtain⟨v21,h19,h⟩:=bind_some h;refine bT 2 (nu 81 [.ptr 6 0,.ptr 6 0,iI v2.Margin.a0,.agg (bA v20),.ptr 6 0,.ptr 6 2,iI v2.Margin.a2,.agg (bA v21),.ptr 11 61,.ptr 11 63]) [] [] [bN Try.prog 259 Try.f62 (pn 510) 9,bN Try.prog 259 Try.f62 (pn 510) 11] (aL (vz 3) (am (bX 0 1 84 (xg hK h18)) (aL [.v 0 2,.v 0 2,.v 0 2] (am (bX 0 1 88 (xg hK h19)) (aL [.v 0 1] (am (bO 0) (aL [.v 1 1] (am (bO 1) bV)))))))) (gi 9 2 3 4 ?_);obtain⟨h20,h⟩|⟨h20,h⟩:=ah h
 ·refine ae 91 h20 (aU 2 1 (ag 3 ?_));obtain⟨v22,h21,h⟩:=bind_some h;exact aG (mJ hK h21) (ab (ac 0 (rY hK h)))
 ·refine ae 91 h20 (aw 6 7 2 (ag 3 ?_));obtain⟨h22,h⟩|⟨h22,h⟩:=ah h
  ·exact au 101 h22 (ab (ac 0 (Ak hK h)))
  ·exact au 101 h22 (ab (ac 0 (Ak hK h)))
theorem CX(hK:aj K)(hL1:Bc M w0 r v1 v2 v3 v4 v5 v6 m1 L1)(h:qq K n v1 v2 v3 v4 v5 v6 L1 v9 v10=some r):eU M w0 r (cn 32596::HX M w0 r m1) (zd v1 v2 v3 v4 v5 v6 v9 v10):=by
 unfold qq at h;refine aw 6 7 3 ?_;obtain⟨h11,h⟩|⟨h11,h⟩:=ah h
 ·refine ae 39 h11 (cG 8 9 1 3 5 (ag 0 ?_));obtain⟨h12,h⟩:=aQ h;refine ax (bv aP aV h12 (ey) (dM)) (ab (ag 6 ?_));obtain⟨v11,h13,h⟩:=bind_some h;refine jR (hK.oH h13) (ax (eV aB ([v11]:List af) (new:=[aK v11]) (by simp only[List.map_cons,List.map_nil,cT])) ?_);obtain⟨h14,h⟩:=aQ h;exact ax (ct 50 50 64 67 aB (rfl) (eY) h14) (ab (ac 2 (bo (hL1 h))))
 ·refine ae 39 h11 (b8 (ks':=[cn 4075,cn 255]) 5 (ag 1 (kY 50 ?_)));obtain⟨v12,h15,h⟩:=bind_some h;exact eh 1054 (IG hK h15) (rG (i:=0) rfl) (ab (ac 0 (xx hK h)))
theorem Gl(hK:aj K)(m:Nat):Bc M w0 r v1 v2 v3 v4 v5 v6 m (q8 K n v1 v2 v3 v4 v5 v6 m):=by
 induction m with
 | zero=>intro v9 v10 h;cases h
 | succ m ih=>intro v9 v10 h;have h:qq K n v1 v2 v3 v4 v5 v6 (q8 K n v1 v2 v3 v4 v5 v6 m) v9 v10=some r:=h;exact bi (CX hK ih h)
theorem yQ(hK:aj K)(h:jI K n v1 v2 v3 v4 v5=some r):aN Try.prog 62 [.agg (aV v1),.agg (bq v2),.bool v3,.bool v4,.agg (cg v5)] (fun v s=>v=.agg (List.set (aK ({ r with Kids:=[] }:af)) 66 (.ref 1054))∧look 1054 s.r=some ⟨64,67,lm aB r.Kids⟩):=by
 refine bd (cat Try.f62 (pn 1)) Try.func62 Try.ntmps62 fun M w0=>(ba ⟨[(0,.agg (aV v1)),(1,.agg (bq v2)),(2,.bool v3),(3,.bool v4),(4,.agg (cg v5))],[],[],[]⟩ ?_);unfold jI at h;refine aw 14 15 5 (ag 1 ?_);obtain⟨v6,h1,h⟩:=bind_some h;refine aG (yt hK h1) (ab (aw 61 31 9 ?_));obtain⟨h2,h⟩|⟨h2,h⟩:=ah h
 ·exact ae 35 h2 (bL 20 21 11 5 (ag 1 (ax (bu aP v6.1) (ab (fQ 2 0 1 (bJ [2,3,5,6,9,10,11,12,13,15,16,17,19,36,37,38] [5,6,9,10,11,16,17] [] (fr 50 19 64 67 (ac 0 (cf (p:=pn 16298) n (Gl hK n h))))))))))
 ·refine ae 35 h2 (aw 6 7 2 (ag 7 ?_));obtain⟨v13,h16,h⟩:=bind_some h;refine jR (hK.lY h16) (ab (aw 2 3 1 (ag 2 ?_)));obtain⟨v14,h17,h⟩:=bind_some h;exact eh 1075 (FW hK h17) (eO 5) (ab (ag 2 (ax (bu aB v14) (ab (bJ [2,3,5,6,10,11,12,13,14,15,16,17,18] [5,6,10,11,16,17] [1075] (JD 1075 1054 (ac 0 (xx hK h))))))))
end
noncomputable section
variable(M:Nat→Prop)(w0:az)(r:af)(v1:ai)(v2:bn)(v3:bW)  
variable{M w0 r v1 v2 v3}{K:Kn}{n:Nat}
theorem Hp(hK:aj K)(h:qM K n v1 v2 v3=some r):aN Try.prog 46 [.agg (aV v1),.agg (bq v2),.agg (cg v3)] (fun v s=>v=.agg (List.set (aK ({ r with Kids:=[] }:af)) 66 (.ref 1010))∧look 1010 s.r=some ⟨64,67,lm aB r.Kids⟩):=by
 refine bd (cat Try.f46 (pn 1)) Try.func46 Try.ntmps46 fun M w0=>(ba ⟨[(0,.agg (aV v1)),(1,.agg (bq v2)),(2,.agg (cg v3))],[],[],[]⟩ ?_);unfold qM at h;refine aw 6 7 3 (ag 3 ?_);obtain⟨v4,h1,h⟩:=bind_some h;refine eh 1010 (yQ hK h1) (oX (i:=66) (by kernel_rfl)) (ab (aD 1 ?_));cases h;exact eu
end
noncomputable section
variable(M:Nat→Prop)(w0:az)(r:aq)(v1:ai)(v2:Int)(v3:bW)  
variable{M w0 r v1 v2 v3}{K:Kn}{n:Nat}
theorem Bw(hK:aj K)(h:gM K n v1 v2 v3=some r):aN Try.prog 42 [.agg (aV v1),.cptr ([iI v2]),.cptr (cg v3)] (fun v _=>v=.agg (ay r)):=by
 refine bd (cat Try.f42 (pn 1)) Try.func42 Try.ntmps42 fun M w0=>(ba ⟨[(0,.agg (aV v1)),(1,.cptr ([iI v2])),(2,.cptr (cg v3))],[],[],[]⟩ ?_);unfold gM at h;refine aw 6 7 3 (bJ [1,2,3,4] [3,4] [] ?_);obtain⟨v4,h1,h⟩:=bind_some h;obtain⟨v5,h2,h⟩:=bind_some h;refine bT 1 (nu 7 [.ptr 3 2,.agg (aA v1.Style),iI v2,.agg (aV v1),iI v2,.agg (cg v3),iI v4,.agg (bq v5)]++nu 5 [.ptr 5 0]) [(5,bq eD)] [] [bN Try.prog 36 Try.f42 (pn 6) 9] (aL (vz 6) (am (bX 0 1 13 (Gn hK h1)) (am (bX 0 1 14 (nn hK h2)) (am (tr 0 1 84 5 (bq eD)) (am (bO 0) bV))))) (aw 2 3 1 (bJ [1,2,3,4,5] [3,4,5] [] ?_));obtain⟨v7,h4,h⟩:=bind_some h;obtain⟨v8,h5,h⟩:=bind_some h;refine bT 1 (nu 15 [.agg (aV v1),.agg (bq v5),.agg (cg v3),.agg (aK v7),iI v2,.agg (aK v8)]++nu 6 [.ptr 6 0]) [(6,List.set (aK bl) 66 (.nils))] [] [bN Try.prog 36 Try.f42 (pn 14) 7] (aL (vz 3) (am (bX 0 1 18 (aN.bj (Hp hK h4) (V':=.agg (aK v7)) (by kernel_rfl))) (aL [.v 0 1] (am (bX 0 1 20 (xF hK h5)) (am (tr 0 1 64 6 (List.set (aK bl) 66 (.nils))) (am (bO 0) bV)))))) (aw 2 3 1 (bJ [4,5,6] [4,5,6] [] ?_))
 obtain⟨v9,h6,h⟩:=bind_some h;obtain⟨v10,h7,h⟩:=bind_some h;obtain⟨v11,h8,h⟩:=bind_some h;refine bT 1 (nu 21 [.agg (bq v5),iI v9,.ptr 6 5,iI v8.H,.ptr 6 61,.agg (bA v8.Before),iI v10,iI (aa (v8.H+v10)),.ptr 6 63,.agg (bA v8.After),iI v11,iI (aa ((aa (v8.H+v10))+v11)),.agg (aK v8),.sl (lm aB [v8]),.agg (ay ({ cm with Width:=v9,Above:=(aa ((aa (v8.H+v10))+v11)),Box:=[v8] }:aq))]) [] [] [bN Try.prog 36 Try.f42 (pn 30) 15] (aL [.v 0 1] (am (bX 0 1 22 (kD hK h6)) (aL (vz 4) (am (bX 0 1 27 (kC hK h7)) (aL (vz 3) (am (bX 0 1 31 (kC hK h8)) (aL (vz 2) (ca (eV aB ([v8]:List af) (new:=[aK v8]) (by simp only[List.map_cons,List.map_nil,cT])) (aL [.v 0 1] (am (bO 0) bV)))))))))) (aD 1 ?_);cases h;exact aZ
end
noncomputable section
variable(M:Nat→Prop)(w0:az)(r:List aq)(v1:List ai)(v2:Int)(v3:bW)  
variable{M w0 r v1 v2 v3}{K:Kn}{n:Nat}
theorem zm(hK:aj K)(h:iB K n v1 v2 v3=some r):aN Try.prog 22 [.sl (lm aP v1),iI v2,.agg (cg v3)] (fun v s=>v=.ref 1009∧look 1009 s.r=some ⟨41,62,lm ay r⟩):=by
 refine bd (cat Try.f22 (pn 1)) Try.func22 Try.ntmps22 fun M w0=>(ba ⟨[(0,.sl (lm aP v1)),(1,iI v2),(2,.agg (cg v3))],[],[],[]⟩ ?_);unfold iB at h;refine aw 6 7 3 (ag 1 (xA 4 4 ([iI v2]) (xA 5 5 (cg v3) (Gm 42 #[(.tmp 4),(.tmp 5)] [.cptr ([iI v2]),.cptr (cg v3)] ?_))));obtain⟨v4,h1,h⟩:=bind_some h;refine eh 1009 (EG hK h1) (eO 117) (ab (aD 1 ?_));cases h;exact eu
end
noncomputable section
variable(M:Nat→Prop)(w0:az)(r:Int)(v1:aF)(v2 v3:Int)  
variable{M w0 r v1 v2 v3}{K:Kn}{n:Nat}
theorem CP(hK:aj K)(h:tN K n v1 v2 v3=some r):aN Try.prog 11 [.agg (aA v1),iI v2,iI v3] (fun v _=>v=iI r):=by
 refine bd (cat Try.f11 (pn 1)) Try.func11 Try.ntmps11 fun M w0=>(ba ⟨[(0,.agg (aA v1)),(1,iI v2),(2,iI v3)],[],[],[]⟩ ?_);unfold tN at h;refine aw 13 7 5 ?_;obtain⟨h1,h⟩|⟨h1,h⟩:=ah h
 ·refine ae 9 h1 (aD 5 ?_);cases h;exact aZ
 ·refine ae 9 h1 (JU 21 0 3 8 ?_);obtain⟨h2,h⟩|⟨h2,h⟩:=ah h
  ·refine ae 12 h2 (aD 6 ?_);cases h;exact aZ
  ·refine ae 12 h2 (aU 7 3 ?_);obtain⟨h3,h⟩|⟨h3,h⟩:=ah h
   ·refine ae 18 h3 (aD 6 ?_);cases h;exact aZ
   ·refine ae 18 h3 (aD 6 ?_);cases h;exact aZ
end
noncomputable section
variable(M:Nat→Prop)(w0:az)(r:Bool)(v1 v2:ByteArray)(v3:Bool)  
abbrev Ch(n:Nat):ak:=.c (cat Try.f63 (pn n))
abbrev H8:Cx:=⟨Try.prog,21,M,w0⟩
abbrev H4:=bodyPost Try.prog Try.f63 (br M w0 (fun v _=>v=.bool r))
abbrev F0(ks:List ak)(s:AS):=VE (H8 M w0) (H4 M w0 r) ks .normal s
def HN:AS:=⟨[(4,.bool v3)],[],[],[]⟩
variable{M w0 r v1 v2 v3}{K:Kn}{n:Nat}
theorem y4(hK:aj K)(h:oG K n v3=some r):F0 M w0 r [Ch 7] (HN v3):=by
 unfold oG at h;refine aD 1 ?_;cases h;exact aZ
theorem EQ(hK:aj K)(h:ua K n v1 v2=some r):aN Try.prog 63 [.str v1,.str v2] (fun v _=>v=.bool r):=by
 refine bd (cat Try.f63 (pn 1)) Try.func63 Try.ntmps63 fun M w0=>(ba ⟨[(0,.str v1),(1,.str v2)],[],[],[]⟩ ?_);unfold ua at h;refine aw 6 7 3 (ag 6 ?_);obtain⟨h1,h⟩|⟨h1,h⟩:=ah h
 ·refine au 10 h1 (aE 12 6 ?_);obtain⟨h2,h⟩:=aQ h;exact ax (oI h2) (ab (ac 0 (y4 hK h)))
 ·exact au 10 h1 (ab (ac 0 (y4 hK h)))
end
noncomputable section
variable(M:Nat→Prop)(w0:az)(r:Bool)(v1 v2:ByteArray)  
variable{M w0 r v1 v2}{K:Kn}{n:Nat}
theorem DJ(hK:aj K)(h:sX K n v1 v2=some r):aN Try.prog 52 [.str v1,.str v2] (fun v _=>v=.bool r):=by
 refine bd (cat Try.f52 (pn 1)) Try.func52 Try.ntmps52 fun M w0=>(ba ⟨[(0,.str v1),(1,.str v2)],[],[],[]⟩ ?_);unfold sX at h;refine aw 6 7 3 (ag 2 ?_);obtain⟨v3,h1,h⟩:=bind_some h;refine aG (EQ hK h1) (ab (aD 1 ?_));cases h;exact aZ
end
noncomputable section
variable(M:Nat→Prop)(w0:az)(r:af)(v1:List aq)(v2:aF)(v3 v8 v9 v10 v11 v12 v15 v78 v79:Int)(v80:List af)(v82:Bool)(v83:aq)(v87:List af)(v104:Int)(v105:List af)(m1 m2 m3:Nat)(L1:Int→Int→Int→Option af)(L2:Int→Int→(List af)→Option af)(L3:Int→(List af)→Option af)
abbrev iy:Cx:=⟨Try.prog,156,M,w0⟩
abbrev iU:=bodyPost Try.prog Try.f35 (br M w0 (fun v s=>v=.agg (List.set (aK ({ r with Kids:=[] }:af)) 66 (.ref 114))∧look 114 s.r=some ⟨64,67,lm aB r.Kids⟩))
abbrev iR(ks:List ak)(s:AS):=VE (iy M w0) (iU M w0 r) ks .normal s
abbrev cC(n:Nat):ak:=.c (cat Try.f35 (pn n))
abbrev tL:List ak:=[.b 2,cC 255]
abbrev j9:List ak:=kl (iy M w0) (iU M w0 r) tL (cat Try.f35 (pn 2036)) m2::tL
abbrev tO:List ak:=[.b 0,cC 15]
abbrev vP:List ak:=kl (iy M w0) (iU M w0 r) tO (cat Try.f35 (pn 116)) m1::tO
abbrev sM:List ak:=.b 4::cC 521423 :: .b 3::cC 16295::j9 M w0 r m2
abbrev uP:List ak:=kl (iy M w0) (iU M w0 r) (sM M w0 r m2) (cat Try.f35 (pn 4171380)) m3::(sM M w0 r m2)
def Hu:AS:=⟨[(0,.sl (lm ay v1)),(2,iI v3),(4,.ptr 4 0),(6,.ptr 6 0),(7,iI v11),(8,iI v12),(24,.sl (lm ay v1)),(25,iI (v1.length:Int)),(26,iI v10)],[(4,aA v2),(6,List.set (aK bl) 66 (.nils))],[],[4,6]⟩
def AB:AS:=⟨[(6,.ptr 6 0),(7,iI v8),(11,.ptr 11 0),(12,iI v78),(13,iI v15),(15,.ptr 15 0),(56,.sl (lm ay v1)),(57,iI (v1.length:Int)),(58,iI v79),(117,.sl (lm aB v83.Box)),(118,iI (v83.Box.length:Int)),(119,iI v104)],[(6,List.set (aK bl) 66 (.nils)),(11,List.set (aK ({ bl with Kind:=2,W:=v3,H:=(aa (v8+v9)),az:=v8,Style:=v2 }:af)) 66 (.ref 114)),(15,ay v83)],[(114,⟨64,67,lm aB v105⟩)],[6,11,15,114]⟩
def GY:AS:=⟨[(6,.ptr 6 0),(7,iI v8),(11,.ptr 11 0),(12,iI v78),(13,iI v15),(15,.ptr 15 0),(56,.sl (lm ay v1)),(57,iI (v1.length:Int)),(58,iI v79)],[(6,List.set (aK bl) 66 (.nils)),(11,List.set (aK ({ bl with Kind:=2,W:=v3,H:=(aa (v8+v9)),az:=v8,Style:=v2 }:af)) 66 (.ref 114)),(15,ay v83)],[(114,⟨64,67,lm aB v87⟩)],[6,11,15,114]⟩
def Hg:AS:=⟨[(6,.ptr 6 0),(7,iI v8),(11,.ptr 11 0),(12,iI v78),(13,iI v15),(15,.ptr 15 0),(56,.sl (lm ay v1)),(57,iI (v1.length:Int)),(58,iI v79)],[(6,List.set (aK bl) 66 (.nils)),(11,List.set (aK ({ bl with Kind:=2,W:=v3,H:=(aa (v8+v9)),az:=v8,Style:=v2 }:af)) 66 (.ref 114)),(15,ay v83)],[(114,⟨64,67,lm aB v80⟩)],[6,11,15,114]⟩
def IS:AS:=⟨[(6,.ptr 6 0),(7,iI v8),(11,.ptr 11 0),(12,iI v78),(13,iI v15),(15,.ptr 15 0),(56,.sl (lm ay v1)),(57,iI (v1.length:Int)),(58,iI v79),(76,.bool v82)],[(6,List.set (aK bl) 66 (.nils)),(11,List.set (aK ({ bl with Kind:=2,W:=v3,H:=(aa (v8+v9)),az:=v8,Style:=v2 }:af)) 66 (.ref 114)),(15,ay (gD v1 v79))],[(114,⟨64,67,lm aB v80⟩)],[6,11,15,114]⟩
def Au:AS:=⟨[(6,.ptr 6 0),(7,iI v8),(11,.ptr 11 0),(12,iI v78),(13,iI v15),(56,.sl (lm ay v1)),(57,iI (v1.length:Int)),(58,iI v79)],[(6,List.set (aK bl) 66 (.nils)),(11,List.set (aK ({ bl with Kind:=2,W:=v3,H:=(aa (v8+v9)),az:=v8,Style:=v2 }:af)) 66 (.ref 114))],[(114,⟨64,67,lm aB v80⟩)],[6,11,114]⟩
def xP:AS:=⟨[(0,.sl (lm ay v1)),(2,iI v3),(4,.ptr 4 0),(6,.ptr 6 0),(7,iI v8),(8,iI v9),(24,.sl (lm ay v1)),(25,iI (v1.length:Int)),(26,iI v10)],[(4,aA v2),(6,List.set (aK bl) 66 (.nils))],[],[4,6]⟩
abbrev sy:Prop:=∀{v8:Int} {v9:Int} {v10:Int},L1 v8 v9 v10=some r→LP (iy M w0) (iU M w0 r) tO (cat Try.f35 (pn 116)) m1 (xP v1 v2 v3 v8 v9 v10)
abbrev jr:Prop:=∀{v78:Int} {v79:Int} {v80:(List af)},L2 v78 v79 v80=some r→LP (iy M w0) (iU M w0 r) tL (cat Try.f35 (pn 2036)) m2 (Au v1 v2 v3 v8 v9 v15 v78 v79 v80)
abbrev y5:Prop:=∀{v104:Int} {v105:(List af)},L3 v104 v105=some r→LP (iy M w0) (iU M w0 r) (sM M w0 r m2) (cat Try.f35 (pn 4171380)) m3 (AB v1 v2 v3 v8 v9 v15 v78 v79 v83 v104 v105)
variable{M w0 r v1 v2 v3 v8 v9 v10 v11 v12 v15 v78 v79 v80 v82 v83 v87 v104 v105 m1 m2 m3 L1 L2 L3}{K:Kn}{n:Nat}
theorem wb(hK:aj K)(hL1:sy M w0 r v1 v2 v3 m1 L1)(h:pV K n v1 v2 v3 v10 L1 v11 v12=some r):iR M w0 r (.b 1::cC 935::vP M w0 r m1) (Hu v1 v2 v3 v10 v11 v12):=by
 unfold pV at h;exact ac 2 (bo (hL1 h))
theorem DR(hK:aj K)(hL2:jr M w0 r v1 v2 v3 v8 v9 v15 m2 L2)(hL3:y5 M w0 r v1 v2 v3 v8 v9 v15 v78 v79 v83 m2 m3 L3)(h:qO K n v1 v2 v3 v8 v9 v15 v78 v79 v83 L2 L3 v104 v105=some r):iR M w0 r (cC 4171380::uP M w0 r m2 m3) (AB v1 v2 v3 v8 v9 v15 v78 v79 v83 v104 v105):=by
 unfold qO at h;refine aw 6 7 3 ?_;obtain⟨h123,h⟩|⟨h123,h⟩:=ah h
 ·refine ae 120 h123 (cG 8 9 5 3 5 (ag 0 ?_));obtain⟨h124,h⟩:=aQ h;refine ax (bv aB aK h124 (eY) (cT)) (ab ?_);obtain⟨v106,h125,h⟩:=bP h;obtain⟨v107,h126,h⟩:=bP h;obtain⟨v108,h127,h⟩:=bP h;obtain⟨v109,h128,h⟩:=bP h;obtain⟨v110,h129,h⟩:=bP h;obtain⟨v111,h130,h⟩:=bP h;obtain⟨v112,h131,h⟩:=bP h;obtain⟨v113,h132,h⟩:=bP h;obtain⟨v114,h133,h⟩:=bP h;obtain⟨v115,h134,h⟩:=bP h;refine bt (ks':=cC 533936742::cC 533936743 :: .b 5::cC 33371047::uP M w0 r m2 m3) 3 ⟨[(6,.ptr 6 0),(7,iI v8),(11,.ptr 11 0),(12,iI v78),(13,iI v15),(15,.ptr 15 0),(18,.ptr 18 0),(56,.sl (lm ay v1)),(57,iI (v1.length:Int)),(58,iI v79),(117,.sl (lm aB v83.Box)),(118,iI (v83.Box.length:Int)),(119,iI v104)],[(6,List.set (aK bl) 66 (.nils)),(11,List.set (aK ({ bl with Kind:=2,W:=v3,H:=(aa (v8+v9)),az:=v8,Style:=v2 }:af)) 66 (.ref 114)),(15,ay v83),(18,aK (⟨v106,v107,v108,(gD v83.Box v104).Y,(gD v83.Box v104).W,(gD v83.Box v104).H,v109,v110,v111,v112,v113,v114,v115⟩:af))],[(114,⟨64,67,lm aB v105⟩)],[6,11,15,18,114]⟩ ?_ (by subst h134;subst h133;subst h132;subst h131;subst h130;subst h129;subst h128;subst h127;subst h126;subst h125;kernel_rfl)
  obtain⟨v116,h135,h⟩:=bind_some h;refine bT 1 (nu 128 [.ptr 18 3,iI ((gD v83.Box v104).Y),iI v8,.ptr 18 5,iI ((gD v83.Box v104).H),iI (aa (v8-((gD v83.Box v104).H))),.ptr 18 63,.agg (bA v113),iI v116,iI (aa ((aa (v8-((gD v83.Box v104).H)))-v116)),iI (aa (((gD v83.Box v104).Y)+(aa ((aa (v8-((gD v83.Box v104).H)))-v116)))),.ptr 18 3]) [] [] [bN Try.prog 156 Try.f35 (pn 533936742) 12] (aL (vz 8) (am (bX 0 1 136 (kC hK h135)) (aL (vz 3) (am (bO 0) bV)))) ?_;obtain⟨v117,h136,h⟩:=bP h;refine bt (ks':=cC 533936743 :: .b 5::cC 33371047::uP M w0 r m2 m3) 0 ⟨[(6,.ptr 6 0),(7,iI v8),(11,.ptr 11 0),(12,iI v78),(13,iI v15),(15,.ptr 15 0),(18,.ptr 18 0),(56,.sl (lm ay v1)),(57,iI (v1.length:Int)),(58,iI v79),(117,.sl (lm aB v83.Box)),(118,iI (v83.Box.length:Int)),(119,iI v104)],[(6,List.set (aK bl) 66 (.nils)),(11,List.set (aK ({ bl with Kind:=2,W:=v3,H:=(aa (v8+v9)),az:=v8,Style:=v2 }:af)) 66 (.ref 114)),(15,ay v83),(18,aK (⟨v106,v107,v108,v117,(gD v83.Box v104).W,(gD v83.Box v104).H,v109,v110,v111,v112,v113,v114,v115⟩:af))],[(114,⟨64,67,lm aB v105⟩)],[6,11,15,18,114]⟩ ?_ (by subst h136;kernel_rfl)
  refine ag 3 (ax (eV aB ([(⟨v106,v107,v108,v117,(gD v83.Box v104).W,(gD v83.Box v104).H,v109,v110,v111,v112,v113,v114,v115⟩:af)]:List af) (new:=[aK (⟨v106,v107,v108,v117,(gD v83.Box v104).W,(gD v83.Box v104).H,v109,v110,v111,v112,v113,v114,v115⟩:af)]) (by simp only[List.map_cons,List.map_nil,cT])) ?_);obtain⟨h137,h⟩:=aQ h;exact ax (ct 144 114 64 67 aB (rfl) (eY) h137) (ab (ac 2 (bo (hL3 h))))
 ·exact ae 120 h123 (ac 8 (bo (hL2 h)))
theorem Ct(hK:aj K)(hL2:jr M w0 r v1 v2 v3 v8 v9 v15 m2 L2)(m:Nat):y5 M w0 r v1 v2 v3 v8 v9 v15 v78 v79 v83 m2 m (qP K n v1 v2 v3 v8 v9 v15 v78 v79 v83 L2 m):=by
 induction m with
 | zero=>intro v104 v105 h;cases h
 | succ m ih=>intro v104 v105 h;have h:qO K n v1 v2 v3 v8 v9 v15 v78 v79 v83 L2 (qP K n v1 v2 v3 v8 v9 v15 v78 v79 v83 L2 m) v104 v105=some r:=h;exact bi (DR hK hL2 ih h)
theorem AH(hK:aj K)(hL2:jr M w0 r v1 v2 v3 v8 v9 v15 m2 L2)(h:qi K n v1 v2 v3 v8 v9 v15 v78 v79 v83 L2 v87=some r):iR M w0 r (cC 260711 :: .b 3::cC 16295::j9 M w0 r m2) (GY v1 v2 v3 v8 v9 v15 v78 v79 v83 v87):=by
 unfold qi at h;exact bL 4 5 3 2 (ag 2 (ax (bu aB v83.Box) (ab (ac 1 (cf (p:=pn 2085690) n (Ct hK hL2 n h))))))
theorem yX(hK:aj K)(hL2:jr M w0 r v1 v2 v3 v8 v9 v15 m2 L2)(h:oC K n v1 v2 v3 v8 v9 v15 v78 v79 v80 L2 v83=some r):iR M w0 r (cC 130355 :: .b 3::cC 16295::j9 M w0 r m2) (Hg v1 v2 v3 v8 v9 v15 v78 v79 v80 v83):=by
 unfold oC at h;obtain⟨v84,h99,h⟩:=bP h;refine bt (ks':=cC 521421::cC 260711 :: .b 3::cC 16295::j9 M w0 r m2) 3 ⟨[(6,.ptr 6 0),(7,iI v8),(11,.ptr 11 0),(12,iI v78),(13,iI v15),(15,.ptr 15 0),(56,.sl (lm ay v1)),(57,iI (v1.length:Int)),(58,iI v79),(88,.bool v84)],[(6,List.set (aK bl) 66 (.nils)),(11,List.set (aK ({ bl with Kind:=2,W:=v3,H:=(aa (v8+v9)),az:=v8,Style:=v2 }:af)) 66 (.ref 114)),(15,ay v83)],[(114,⟨64,67,lm aB v80⟩)],[6,11,15,114]⟩ ?_ (by subst h99;kernel_rfl);obtain⟨h100,h⟩|⟨h100,h⟩:=ah h
 ·refine ae 88 h100 (aU 5 3 (bJ [6,7,11,12,13,15,16,56,57,58] [6,11,15] [114] ?_));obtain⟨v85,h101,h⟩:=bind_some h;obtain⟨v86,h102,h⟩:=bind_some h;obtain⟨h103,h⟩:=aQ h;exact bT 2 (nu 92 [.ptr 11 66,.ref 114,.ptr 15 0,iI v83.Node,.ptr 15 2,.agg (aA v83.Style),.ptr 15 1,.str v83.Text,iI v78,iI v8,iI v83.Style.FontSize,iI v85,iI (aa (v8-v85)),.ptr 15 55,iI v83.Width,.ptr 15 56,iI v83.Space,iI (aa (v83.Width+v83.Space)),iI v83.Style.FontSize,iI v86,.agg (List.set (aK (⟨3,v83.Node,v78,(aa (v8-v85)),(aa (v83.Width+v83.Space)),v86,0,v83.Text,v83.Style,cr,cr,false,[]⟩:af)) 66 (.nils)),.sl (lm aB [(⟨3,v83.Node,v78,(aa (v8-v85)),(aa (v83.Width+v83.Space)),v86,0,v83.Text,v83.Style,cr,cr,false,[]⟩:af)])]++nu 115 [.ptr 11 66]) [] [] [jy 114 114 ⟨64,67,lm aB (v80++[(⟨3,v83.Node,v78,(aa (v8-v85)),(aa (v83.Width+v83.Space)),v86,0,v83.Text,v83.Style,cr,cr,false,[]⟩:af)])⟩,bN Try.prog 156 Try.f35 (pn 2085685) 24] (aL [.v 0 2,.v 0 1,.v 0 2,.v 0 2,.v 0 2,.v 0 2,.v 0 2,.v 0 2,.v 0 2,.v 0 2,.v 0 2] (am (bX 0 2 103 (A7 hK h101)) (aL [.v 0 2,.v 0 2,.v 0 2,.v 0 2,.v 0 2,.v 0 2,.v 0 2] (am (bX 0 1 111 (vY hK h102)) (aL [.v 0 2] (ca (eV aB ([(⟨3,v83.Node,v78,(aa (v8-v85)),(aa (v83.Width+v83.Space)),v86,0,v83.Text,v83.Style,cr,cr,false,[]⟩:af)]:List af) (new:=[aK (⟨3,v83.Node,v78,(aa (v8-v85)),(aa (v83.Width+v83.Space)),v86,0,v83.Text,v83.Style,cr,cr,false,[]⟩:af)]) (by simp only[List.map_cons,List.map_nil,cT])) (am (gt (m:=0) (ct 114 114 64 67 aB (rfl) (eY) h103)) (aL [.v 1 1] (am (bO 1) bV))))))))) (ac 0 (AH hK hL2 h))
 ·exact ae 88 h100 (ac 2 (AH hK hL2 h))
theorem rb(hK:aj K)(hL2:jr M w0 r v1 v2 v3 v8 v9 v15 m2 L2)(h:m9 K n v1 v2 v3 v8 v9 v15 v78 v79 v80 L2 v82=some r):iR M w0 r (cC 260709::cC 130355 :: .b 3::cC 16295::j9 M w0 r m2) (IS v1 v2 v3 v8 v9 v15 v78 v79 v80 v82):=by
 unfold m9 at h;obtain⟨h97,h⟩|⟨h97,h⟩:=ah h
 ·refine ae 76 h97 (aw 4 5 2 (ag 6 ?_));obtain⟨h98,h⟩:=aQ h;exact ax (oI h98) (ab (ac 1 (yX hK hL2 h)))
 ·exact ae 76 h97 (ac 2 (yX hK hL2 h))
theorem Ju(hK:aj K)(hL2:jr M w0 r v1 v2 v3 v8 v9 v15 m2 L2)(h:pZ K n v1 v2 v3 v8 v9 v15 L2 v78 v79 v80=some r):iR M w0 r (cC 2036::j9 M w0 r m2) (Au v1 v2 v3 v8 v9 v15 v78 v79 v80):=by
 unfold pZ at h;refine aw 6 7 3 ?_;obtain⟨h92,h⟩|⟨h92,h⟩:=ah h
 ·refine ae 59 h92 (cG 8 9 3 3 5 (ag 1 ?_));obtain⟨h93,h⟩:=aQ h;refine ax (bv ay ay h93 (dj) ((fun _=>rfl))) (ab (bL 4 5 3 2 (ag 4 ?_)));obtain⟨h94,h⟩|⟨h94,h⟩:=ah h
  ·refine au 66 h94 (aE 6 2 ?_);obtain⟨v81,h95,h⟩:=bind_some h;refine aG (DJ hK h95) (aE 9 2 ?_);obtain⟨h96,h⟩|⟨h96,h⟩:=ah h
   ·exact au 71 h96 (ab (ac 0 (rb hK hL2 h)))
   ·exact au 71 h96 (ab (ac 0 (rb hK hL2 h)))
  ·exact au 66 h94 (ab (ac 0 (rb hK hL2 h)))
 ·refine ae 59 h92 (aD 8 ?_);cases h;exact eu
theorem Ho(hK:aj K)(m:Nat):jr M w0 r v1 v2 v3 v8 v9 v15 m (qF K n v1 v2 v3 v8 v9 v15 m):=by
 induction m with
 | zero=>intro v78 v79 v80 h;cases h
 | succ m ih=>intro v78 v79 v80 h;have h:pZ K n v1 v2 v3 v8 v9 v15 (qF K n v1 v2 v3 v8 v9 v15 m) v78 v79 v80=some r:=h;exact bi (Ju hK ih h)
theorem Et(hK:aj K)(hL1:sy M w0 r v1 v2 v3 m1 L1)(h:qG K n v1 v2 v3 L1 v8 v9 v10=some r):iR M w0 r (cC 116::vP M w0 r m1) (xP v1 v2 v3 v8 v9 v10):=by
 unfold qG at h;refine aw 6 7 3 ?_;obtain⟨h6,h⟩|⟨h6,h⟩:=ah h
 ·refine ae 27 h6 (cG 8 9 1 3 5 (ag 0 ?_));obtain⟨h7,h⟩:=aQ h;refine ax (bv ay ay h7 (dj) ((fun _=>rfl))) (ab (aU 3 2 ?_));obtain⟨h8,h⟩|⟨h8,h⟩:=ah h
  ·exact ae 32 h8 (aU 2 1 (bJ [0,2,4,6,7,8,10,24,25,26] [4,6,10] [] (bT 2 (nu 33 [iI v8,.ptr 10 57,iI ((gD v1 v10).Above),iI (max v8 ((gD v1 v10).Above)),iI v9,.ptr 10 58,iI ((gD v1 v10).Below),iI (max v9 ((gD v1 v10).Below))]) [] [] [bN Try.prog 156 Try.f35 (pn 14950) 8,bN Try.prog 156 Try.f35 (pn 14950) 9] (aL [.v 0 1,.v 0 1,.v 0 1,.v 0 1,.v 0 2,.v 0 2,.v 0 2,.v 0 2] (am (bO 0) (am (bO 1) bV))) (ac 0 (wb hK hL1 h)))))
  ·exact ae 32 h8 (ac 2 (wb hK hL1 h))
 ·refine ae 27 h6 (km 6 7 8 (bJ [0,2,4,6,7,11] [4,6,11] [] ?_));obtain⟨v13,h9,h⟩:=bind_some h;obtain⟨v14,h10,h⟩:=bind_some h;refine bT 1 (nu 49 [.agg (aA v2),iI v3,.sl (lm ay v1),iI v13,iI v14]) [] [] [bN Try.prog 156 Try.f35 (pn 62) 5] (aL (vz 3) (am (bX 0 1 52 (wj hK h9)) (am (bX 0 1 53 (CP hK h10)) (am (bO 0) bV)))) (aw 2 3 1 (ag 1 ?_));obtain⟨v15,h11,h⟩:=bind_some h;exact aG (yo hK h11) (ab (bL 4 5 3 2 (ag 1 (ax (bu ay v1) (ab (fQ 2 2 1 (bJ [6,7,11,12,13,56,57,58] [6,11] [] (yr 114 11 66 64 67 (ac 0 (cf (p:=pn 1018) n (Ho hK n h)))))))))))
theorem JA(hK:aj K)(m:Nat):sy M w0 r v1 v2 v3 m (qU K n v1 v2 v3 m):=by
 induction m with
 | zero=>intro v8 v9 v10 h;cases h
 | succ m ih=>intro v8 v9 v10 h;have h:qG K n v1 v2 v3 (qU K n v1 v2 v3 m) v8 v9 v10=some r:=h;exact bi (Et hK ih h)
theorem Gs(hK:aj K)(h:uq K n v1 v2 v3=some r):aN Try.prog 35 [.sl (lm ay v1),.agg (aA v2),iI v3] (fun v s=>v=.agg (List.set (aK ({ r with Kids:=[] }:af)) 66 (.ref 114))∧look 114 s.r=some ⟨64,67,lm aB r.Kids⟩):=by
 refine bd (cat Try.f35 (pn 1)) Try.func35 Try.ntmps35 fun M w0=>(ba ⟨[(0,.sl (lm ay v1)),(1,.agg (aA v2)),(2,iI v3)],[],[],[]⟩ ?_);unfold uq at h;refine aw 6 7 3 (ag 1 ?_);obtain⟨v4,h1,h⟩:=bind_some h;exact aG (qH hK h1) (ab (bL 4 5 3 2 (ag 1 (ax (bu ay v1) (ab (ac 1 (cf (p:=pn 58) n (JA hK n h))))))))
end
noncomputable section
variable(M:Nat→Prop)(w0:az)(r:(List af)×Int)(v1:List ai)(v2:aF)(v3:Int)(v4:bW)(v5:List aq)(v6:List Int)(v13 v14 v15:Int)(v16:List af)(m1:Nat)(L1:Int→Int→Int→(List af)→Option ((List af)×Int))
abbrev rp:Cx:=⟨Try.prog,61,M,w0⟩
abbrev rK:=bodyPost Try.prog Try.f16 (br M w0 (fun v s=>v=.tup [.ref 57,iI r.2]∧look 57 s.r=some ⟨64,67,lm aB r.1⟩))
abbrev E3(ks:List ak)(s:AS):=VE (rp M w0) (rK M w0 r) ks .normal s
abbrev zu(n:Nat):ak:=.c (cat Try.f16 (pn n))
abbrev rz:List ak:=[.b 0,zu 63]
abbrev CK:List ak:=kl (rp M w0) (rK M w0 r) rz (cat Try.f16 (pn 500)) m1::rz
def vA:AS:=⟨[(2,iI (min (max v3 0) 1048576)),(5,.ptr 5 0),(8,.ref 57),(9,iI v13),(10,.sl (lm ay v5)),(11,.ref 1023),(30,iI v14),(31,iI v15)],[(5,aA v2)],[(57,⟨64,67,lm aB v16⟩),(1023,⟨3,1,lm (aW .i64) (v6++[(v5.length:Int)])⟩)],[5,57,1023]⟩
abbrev Ac:Prop:=∀{v13:Int} {v14:Int} {v15:Int} {v16:(List af)},L1 v13 v14 v15 v16=some r→LP (rp M w0) (rK M w0 r) rz (cat Try.f16 (pn 500)) m1 (vA v2 v3 v5 v6 v13 v14 v15 v16)
variable{M w0 r v1 v2 v3 v4 v5 v6 v13 v14 v15 v16 m1 L1}{K:Kn}{n:Nat}
theorem HH(hK:aj K)(hL1:Ac M w0 r v2 v3 v5 v6 m1 L1)(h:qj K n v2 v3 v5 v6 L1 v13 v14 v15 v16=some r):E3 M w0 r (zu 500::CK M w0 r m1) (vA v2 v3 v5 v6 v13 v14 v15 v16):=by
 unfold qj at h;refine aw 6 7 3 ?_;obtain⟨h20,h⟩|⟨h20,h⟩:=ah h
 ·refine ae 32 h20 (cG 18 19 1 3 7 (bJ [2,5,8,9,10,11,12,30,31] [5] [57,1023] ?_));obtain⟨h21,h⟩:=aQ h;obtain⟨h22,h⟩:=aQ h;obtain⟨h23,h⟩:=aQ h;obtain⟨v17,h24,h⟩:=bind_some h;refine bT 1 (nu 34 [.sl (lm ay v5),.ref 1023,iI v15,.eptr 1023 1 (v15.toNat) 0,iI (gD (v6++[(v5.length:Int)]) v15),.ref 1023,iI v15,iI (aa (v15+1)),.eptr 1023 1 (((aa (v15+1))).toNat) 0,iI (gD (v6++[(v5.length:Int)]) ((aa (v15+1)))),.sl (lm ay (List.drop ((gD (v6++[(v5.length:Int)]) v15)).toNat (List.take ((gD (v6++[(v5.length:Int)]) ((aa (v15+1))))).toNat v5))),.agg (aA v2),iI (min (max v3 0) 1048576),.agg (List.set (aK ({ v17 with Kids:=[] }:af)) 66 (.ref 47))]++nu 13 [.ptr 13 0]) [(13,List.set (aK bl) 66 (.nils))] [(47,⟨64,67,lm aB v17.Kids⟩)] [bN Try.prog 61 Try.f16 (pn 32050) 15] (aL (vz 3) (ca (ez 1023 1 (aW .i64) (L:=(v6++[(v5.length:Int)])) h21) (ca (cA 3 0 (aW .i64) (aW .i64) (db h21).2 ((fun _=>rfl))) (aL (vz 3) (ca (ez 1023 1 (aW .i64) (L:=(v6++[(v5.length:Int)])) h22) (ca (cA 3 0 (aW .i64) (aW .i64) (db h22).2 ((fun _=>rfl))) (ca (kv ay v5 (gD (v6++[(v5.length:Int)]) v15) (gD (v6++[(v5.length:Int)]) ((aa (v15+1)))) 37 (.tmp 34) (some (.tmp 38)) (some (.tmp 43)) 44 (e:=41) (sz:=62) (by kernel_rfl) (by kernel_rfl) (by kernel_rfl) (by kernel_rfl) (by kernel_rfl) (by kernel_rfl) (dj) (fun k hk=>by subst hk;kernel_rfl) h23) (aL (vz 2) (am (vb 0 1 47 (Gs hK h24) (oX (i:=66) (by kernel_rfl))) (am (tr 0 1 64 13 (List.set (aK bl) 66 (.nils))) (am (bO 0) bV))))))))))) (aU 7 4 (ag 2 (kY 47 (ax (eV aB ([({ v17 with Y:=v13 }:af)]:List af) (new:=[aK ({ v17 with Y:=v13 }:af)]) (by simp only[List.map_cons,List.map_nil,cT])) ?_))))
  obtain⟨h25,h⟩:=aQ h;exact ax (ct 57 57 64 67 aB (rfl) (eY) h25) (ab (ac 2 (bo (hL1 h))))
 ·refine ae 32 h20 (aD 8 ?_);cases h;exact pM
theorem CM(hK:aj K)(m:Nat):Ac M w0 r v2 v3 v5 v6 m (oY K n v2 v3 v5 v6 m):=by
 induction m with
 | zero=>intro v13 v14 v15 v16 h;cases h
 | succ m ih=>intro v13 v14 v15 v16 h;have h:qj K n v2 v3 v5 v6 (oY K n v2 v3 v5 v6 m) v13 v14 v15 v16=some r:=h;exact bi (HH hK ih h)
theorem FV(hK:aj K)(h:rN K n v1 v2 v3 v4=some r):aN Try.prog 16 [.sl (lm aP v1),.agg (aA v2),iI v3,.agg (cg v4)] (fun v s=>v=.tup [.ref 57,iI r.2]∧look 57 s.r=some ⟨64,67,lm aB r.1⟩):=by
 refine bd (cat Try.f16 (pn 1)) Try.func16 Try.ntmps16 fun M w0=>(ba ⟨[(0,.sl (lm aP v1)),(1,.agg (aA v2)),(2,iI v3),(3,.agg (cg v4))],[],[],[]⟩ ?_);unfold rN at h;refine aw 14 15 5 (ag 3 ?_);obtain⟨v5,h1,h⟩:=bind_some h;refine eh 1020 (zm hK h1) (eO 1009) (ab (aw 2 3 1 (ag 2 (kY 1020 ?_))));obtain⟨v6,h2,h⟩:=bind_some h;refine eh 1023 (yF hK h2) (eO 16) (aE 4 1 (ax (bu ay v5) (aE 6 1 ?_)));obtain⟨h3,h⟩:=aQ h;exact ax (ct 27 1023 3 1 (aW .i64) (rfl) ((fun _=>rfl)) h3) (ab (bL 4 5 3 2 (ag 1 (ax (bu (aW .i64) (v6++[(v5.length:Int)])) (ab (fQ 2 0 1 (bJ [2,5,8,9,10,11,30,31] [5] [1023] (fr 57 8 64 67 (ac 0 (cf (p:=pn 250) n (CM hK n h)))))))))))
end
noncomputable section
variable(M:Nat→Prop)(w0:az)(r:bW)   
variable{M w0 r }{K:Kn}{n:Nat}
theorem qI(hK:aj K)(h:js K n=some r):aN Try.prog 18 [] (fun v _=>v=.agg (cg r)):=by
 refine bd (cat Try.f18 (pn 1)) Try.func18 Try.ntmps18 fun M w0=>(ba ⟨[],[],[],[]⟩ ?_);unfold js at h;refine aD 5 ?_;cases h;exact aZ
end
noncomputable section
variable(M:Nat→Prop)(w0:az)(r v4:Bool)  
abbrev Bz(n:Nat):ak:=.c (cat Try.f7 (pn n))
abbrev FA:Cx:=⟨Try.prog,64,M,w0⟩
abbrev q7:=bodyPost Try.prog Try.f7 (br M w0 (fun v _=>v=.bool r))
abbrev Dm(ks:List ak)(s:AS):=VE (FA M w0) (q7 M w0 r) ks .normal s
def Ex:AS:=⟨[(0,.bool v4)],[],[],[]⟩
variable{M w0 r v4}{K:Kn}{n:Nat}
theorem iS(hK:aj K)(h:gl K n v4=some r):Dm M w0 r [Bz 63] (Ex v4):=by
 unfold gl at h;refine aD 1 ?_;cases h;exact aZ
theorem F5(hK:aj K)(h:mR K n=some r):aN Try.prog 7 [] (fun v _=>v=.bool r):=by
 refine bd (cat Try.f7 (pn 1)) Try.func7 Try.ntmps7 fun M w0=>(ba ⟨[],[],[],[]⟩ ?_);unfold mR at h;refine aw 14 15 5 (ag 1 ?_);obtain⟨v1,h1,h⟩:=bind_some h;refine aG (qH hK h1) (ab (aw 2 3 1 (bJ [1,2,3] [1] [] ?_)));obtain⟨v2,h2,h⟩:=bind_some h;obtain⟨v3,h3,h⟩:=bind_some h;refine bT 2 (nu 13 [.agg (aA ({ bQ with FontSize:=16,LineHeight:=30 }:aF)),.agg (List.set (aV ({ dX with Kind:=3,Style:=({ bQ with FontSize:=16,LineHeight:=30 }:aF),Text:=⟨#[97,98,32,32,99,100]⟩ }:ai)) 58 (.nils)),.sl (lm aP [({ dX with Kind:=3,Style:=({ bQ with FontSize:=16,LineHeight:=30 }:aF),Text:=⟨#[97,98,32,32,99,100]⟩ }:ai)]),.agg (aA ({ bQ with FontSize:=16,LineHeight:=30 }:aF)),.agg (cg v2),.tup [.ref 18,iI v3.2]]++nu 12 [.tup [.ref 18,iI v3.2]]++nu 19 [.ref 18,iI v3.2]) [] [(18,⟨64,67,lm aB v3.1⟩)] [bN Try.prog 64 Try.f7 (pn 30) 9,bN Try.prog 64 Try.f7 (pn 30) 10] (aL (vz 2) (ca (eV aP ([({ dX with Kind:=3,Style:=({ bQ with FontSize:=16,LineHeight:=30 }:aF),Text:=⟨#[97,98,32,32,99,100]⟩ }:ai)]:List ai) (new:=[aV ({ dX with Kind:=3,Style:=({ bQ with FontSize:=16,LineHeight:=30 }:aF),Text:=⟨#[97,98,32,32,99,100]⟩ }:ai)]) (by simp only[List.map_cons,List.map_nil,dM])) (aL [.v 0 1] (am (bX 0 1 17 (qI hK h2)) (am (vb 0 1 18 (FV hK h3) (rG (i:=0) rfl)) (aL [.v 0 1,.v 0 1,.v 0 2] (am (bO 0) (am (bO 1) bV)))))))) (aw 2 3 1 (ag 3 ?_))
 obtain⟨h4,h⟩|⟨h4,h⟩:=ah h
 ·refine au 23 h4 (aE 7 4 ?_);obtain⟨h5,h⟩|⟨h5,h⟩:=ah h
  ·refine au 27 h5 (aE 8 1 (ax (bu aB v3.1) (aE 12 3 ?_)));obtain⟨h6,h⟩|⟨h6,h⟩:=ah h
   ·refine au 32 h6 (aE 16 4 ?_);obtain⟨h7,h⟩|⟨h7,h⟩:=ah h
    ·refine au 36 h7 (aE 17 1 ?_);obtain⟨h8,h⟩:=aQ h;refine ax (dh 18 67 aB h8) (aE 19 1 (ax (cA 39 66 aB aK (db h8).2 (cT)) (ax (bu aB ((gD v3.1 (0:Int)).Kids)) (aE 24 3 ?_))));obtain⟨h9,h⟩|⟨h9,h⟩:=ah h
     ·refine au 44 h9 (aE 25 1 ?_);obtain⟨h10,h⟩:=aQ h;refine ax (dh 18 67 aB h10) (aE 27 1 (ax (cA 39 66 aB aK (db h10).2 (cT)) ?_));obtain⟨h11,h⟩:=aQ h;refine ax (bv aB aK h11 (eY) (cT)) (aE 34 5 ?_);obtain⟨h12,h⟩|⟨h12,h⟩:=ah h
      ·refine au 54 h12 (aE 35 1 ?_);obtain⟨h13,h⟩:=aQ h;refine ax (dh 18 67 aB h13) (aE 37 1 (ax (cA 39 66 aB aK (db h13).2 (cT)) ?_));obtain⟨h14,h⟩:=aQ h;exact ax (bv aB aK h14 (eY) (cT)) (ab (ac 0 (iS hK h)))
      ·exact au 54 h12 (ab (ac 0 (iS hK h)))
     ·exact au 44 h9 (ab (ac 0 (iS hK h)))
    ·exact au 36 h7 (ab (ac 0 (iS hK h)))
   ·exact au 32 h6 (ab (ac 0 (iS hK h)))
  ·exact au 27 h5 (ab (ac 0 (iS hK h)))
 ·exact au 23 h4 (ab (ac 0 (iS hK h)))
end
noncomputable section
variable(M:Nat→Prop)(w0:az)(r:Bool)(v1:cL)(v2:Bool)  
abbrev CN(n:Nat):ak:=.c (cat Try.f49 (pn n))
abbrev Dk:Cx:=⟨Try.prog,11,M,w0⟩
abbrev DZ:=bodyPost Try.prog Try.f49 (br M w0 (fun v _=>v=.bool r))
abbrev Dj(ks:List ak)(s:AS):=VE (Dk M w0) (DZ M w0 r) ks .normal s
def F2:AS:=⟨[(2,.bool v2)],[],[],[]⟩
variable{M w0 r v1 v2}{K:Kn}{n:Nat}
theorem xd(hK:aj K)(h:ny K n v2=some r):Dj M w0 r [CN 7] (F2 v2):=by
 unfold ny at h;refine aD 1 ?_;cases h;exact aZ
theorem dS(hK:aj K)(h:dc K n v1=some r):aN Try.prog 49 [.agg (jF v1)] (fun v _=>v=.bool r):=by
 refine bd (cat Try.f49 (pn 1)) Try.func49 Try.ntmps49 fun M w0=>(ba ⟨[(0,.agg (jF v1))],[],[],[]⟩ ?_);unfold dc at h;refine aw 6 7 3 (ag 4 ?_);obtain⟨h1,h⟩|⟨h1,h⟩:=ah h
 ·exact au 6 h1 (ab (ac 0 (xd hK h)))
 ·exact au 6 h1 (ab (ac 0 (xd hK h)))
end
noncomputable section
variable(M:Nat→Prop)(w0:az)(r:Bool)(v1:List bG)(v2 v23:Int)(v31 v34 v37 v40 v43:Bool)(m1:Nat)(L1:Int→Option Bool)
abbrev pq:Cx:=⟨Try.prog,130,M,w0⟩
abbrev pY:=bodyPost Try.prog Try.f24 (br M w0 (fun v _=>v=.bool r))
abbrev lr(ks:List ak)(s:AS):=VE (pq M w0) (pY M w0 r) ks .normal s
abbrev cX(n:Nat):ak:=.c (cat Try.f24 (pn n))
abbrev sd:List ak:=[.b 0,cX 7]
abbrev nq:List ak:=kl (pq M w0) (pY M w0 r) sd (cat Try.f24 (pn 52)) m1::sd
def Gw:AS:=⟨[(0,.sl (lm bC v1)),(1,iI v2),(5,iI v23),(6,.ptr 6 0),(7,iI 3),(125,.bool v43)],[(6,aA ((gD v1 v23).Style))],[],[6]⟩
def B6:AS:=⟨[(0,.sl (lm bC v1)),(1,iI v2),(5,iI v23),(6,.ptr 6 0),(7,iI 2),(125,.bool v40)],[(6,aA ((gD v1 v23).Style))],[],[6]⟩
def HD:AS:=⟨[(0,.sl (lm bC v1)),(1,iI v2),(5,iI v23),(6,.ptr 6 0),(7,iI 1),(125,.bool v37)],[(6,aA ((gD v1 v23).Style))],[],[6]⟩
def Hb:AS:=⟨[(0,.sl (lm bC v1)),(1,iI v2),(5,iI v23),(6,.ptr 6 0),(7,iI 0),(125,.bool v34)],[(6,aA ((gD v1 v23).Style))],[],[6]⟩
def Ir:AS:=⟨[(0,.sl (lm bC v1)),(1,iI v2),(5,iI v23),(6,.ptr 6 0),(107,.bool v31)],[(6,aA ((gD v1 v23).Style))],[],[6]⟩
def wi:AS:=⟨[(0,.sl (lm bC v1)),(1,iI v2),(5,iI v23)],[],[],[]⟩
abbrev jb:Prop:=∀{v23:Int},L1 v23=some r→LP (pq M w0) (pY M w0 r) sd (cat Try.f24 (pn 52)) m1 (wi v1 v2 v23)
abbrev gg(m:Nat):List ak:=kl (pq M w0) (pY M w0 r) (.b 2 :: .b 1::cX 211::nq M w0 r m1) (cat Try.f24 (pn 13468)) m::(.b 2 :: .b 1::cX 211::nq M w0 r m1)
variable{M w0 r v1 v2 v23 v31 v34 v37 v40 v43 m1 L1}{K:Kn}{n:Nat}
theorem yM(hK:aj K)(hL1:jb M w0 r v1 v2 m1 L1)(h:lG K n v1 v2 v23 L1 v43=some r):lr M w0 r (cX 215497 :: .b 3::cX 53875::gg M w0 r m1 36) (Gw v1 v2 v23 v43):=by
 unfold lG at h;obtain⟨h84,h⟩|⟨h84,h⟩:=ah h
 ·refine ae 125 h84 (aD 13 ?_);cases h;exact aZ
 ·exact ae 125 h84 (bt (ks':=gg M w0 r m1 36) 4 ⟨[(0,.sl (lm bC v1)),(1,iI v2),(5,iI v23),(6,.ptr 6 0),(7,iI 4)],[(6,aA ((gD v1 v23).Style))],[],[6]⟩ (bo (bi (ac 10 (bo (hL1 h))))))
theorem zl(hK:aj K)(hL1:jb M w0 r v1 v2 m1 L1)(h:mA K n v1 v2 v23 L1 v40=some r):lr M w0 r (cX 215497 :: .b 3::cX 53875::gg M w0 r m1 37) (B6 v1 v2 v23 v40):=by
 unfold mA at h;obtain⟨h80,h⟩|⟨h80,h⟩:=ah h
 ·refine ae 125 h80 (aD 13 ?_);cases h;exact aZ
 ·refine ae 125 h80 (bt (ks':=gg M w0 r m1 37) 4 ⟨[(0,.sl (lm bC v1)),(1,iI v2),(5,iI v23),(6,.ptr 6 0),(7,iI 3)],[(6,aA ((gD v1 v23).Style))],[],[6]⟩ (bo (bi (cU 24 25 3 7 8 (ag 4 ?_)))));obtain⟨v41,h81,h⟩:=bind_some h;refine aG (dS hK h81) (aE 7 2 ?_);obtain⟨h82,h⟩|⟨h82,h⟩:=ah h
  ·exact au 118 h82 (ab (ac 0 (yM hK hL1 h)))
  ·refine au 118 h82 (aE 11 4 ?_);obtain⟨v42,h83,h⟩:=bind_some h;exact aG (dS hK h83) (ab (ac 0 (yM hK hL1 h)))
theorem xt(hK:aj K)(hL1:jb M w0 r v1 v2 m1 L1)(h:n3 K n v1 v2 v23 L1 v37=some r):lr M w0 r (cX 215497 :: .b 3::cX 53875::gg M w0 r m1 38) (HD v1 v2 v23 v37):=by
 unfold n3 at h;obtain⟨h76,h⟩|⟨h76,h⟩:=ah h
 ·refine ae 125 h76 (aD 13 ?_);cases h;exact aZ
 ·refine ae 125 h76 (bt (ks':=gg M w0 r m1 38) 4 ⟨[(0,.sl (lm bC v1)),(1,iI v2),(5,iI v23),(6,.ptr 6 0),(7,iI 2)],[(6,aA ((gD v1 v23).Style))],[],[6]⟩ (bo (bi (cU 24 25 3 7 8 (ag 4 ?_)))));obtain⟨v38,h77,h⟩:=bind_some h;refine aG (dS hK h77) (aE 7 2 ?_);obtain⟨h78,h⟩|⟨h78,h⟩:=ah h
  ·exact au 118 h78 (ab (ac 0 (zl hK hL1 h)))
  ·refine au 118 h78 (aE 11 4 ?_);obtain⟨v39,h79,h⟩:=bind_some h;exact aG (dS hK h79) (ab (ac 0 (zl hK hL1 h)))
theorem Bf(hK:aj K)(hL1:jb M w0 r v1 v2 m1 L1)(h:mC K n v1 v2 v23 L1 v34=some r):lr M w0 r (cX 215497 :: .b 3::cX 53875::gg M w0 r m1 39) (Hb v1 v2 v23 v34):=by
 unfold mC at h;obtain⟨h72,h⟩|⟨h72,h⟩:=ah h
 ·refine ae 125 h72 (aD 13 ?_);cases h;exact aZ
 ·refine ae 125 h72 (bt (ks':=gg M w0 r m1 39) 4 ⟨[(0,.sl (lm bC v1)),(1,iI v2),(5,iI v23),(6,.ptr 6 0),(7,iI 1)],[(6,aA ((gD v1 v23).Style))],[],[6]⟩ (bo (bi (cU 24 25 3 7 8 (ag 4 ?_)))));obtain⟨v35,h73,h⟩:=bind_some h;refine aG (dS hK h73) (aE 7 2 ?_);obtain⟨h74,h⟩|⟨h74,h⟩:=ah h
  ·exact au 118 h74 (ab (ac 0 (xt hK hL1 h)))
  ·refine au 118 h74 (aE 11 4 ?_);obtain⟨v36,h75,h⟩:=bind_some h;exact aG (dS hK h75) (ab (ac 0 (xt hK hL1 h)))
theorem dH(hK:aj K)(hL1:jb M w0 r v1 v2 m1 L1)(h:cK K n v1 v2 v23 L1 v31=some r):lr M w0 r (cX 3365::cX 1683 :: .b 1::cX 211::nq M w0 r m1) (Ir v1 v2 v23 v31):=by
 unfold cK at h;obtain⟨h68,h⟩|⟨h68,h⟩:=ah h
 ·refine ae 107 h68 (aD 10 ?_);cases h;exact aZ
 ·refine ae 107 h68 (bt (ks':=cX 6734 :: .b 2 :: .b 1::cX 211::nq M w0 r m1) 5 ⟨[(0,.sl (lm bC v1)),(1,iI v2),(5,iI v23),(6,.ptr 6 0),(7,iI 0)],[(6,aA ((gD v1 v23).Style))],[],[6]⟩ (mD 40 (c:=cat Try.f24 [1,0,1,0,0,1,0,0,1,1,1,0,0]) (by kernel_rfl) (bi (b8 (ks':=cX 215496::cX 215497 :: .b 3::cX 53875::gg M w0 r m1 39) 8 (ag 4 ?_)))));obtain⟨v32,h69,h⟩:=bind_some h;refine aG (dS hK h69) (aE 7 2 ?_);obtain⟨h70,h⟩|⟨h70,h⟩:=ah h
  ·exact au 118 h70 (ab (ac 0 (Bf hK hL1 h)))
  ·refine au 118 h70 (aE 11 4 ?_);obtain⟨v33,h71,h⟩:=bind_some h;exact aG (dS hK h71) (ab (ac 0 (Bf hK hL1 h)))
theorem Jc(hK:aj K)(hL1:jb M w0 r v1 v2 m1 L1)(h:gb K n v1 v2 L1 v23=some r):lr M w0 r (cX 52::nq M w0 r m1) (wi v1 v2 v23):=by
 unfold gb at h;refine bL 4 5 3 2 (ag 2 (ax (bu bC v1) (ab ?_)));obtain⟨h43,h⟩|⟨h43,h⟩:=ah h
 ·refine ae 11 h43 (cG 8 9 1 3 5 (ag 2 ?_));obtain⟨h44,h⟩:=aQ h;refine ax (bv bC bC h44 (qZ) ((fun _=>rfl))) (ab (bL 4 5 3 2 (ag 2 ?_)));obtain⟨h45,h⟩:=aQ h;refine ax (bv bC bC h45 (qZ) ((fun _=>rfl))) (aE 8 5 ?_);obtain⟨h46,h⟩|⟨h46,h⟩:=ah h
  ·exact au 26 h46 (ab (ac 0 (dH hK hL1 h)))
  ·refine au 26 h46 (aE 10 2 ?_);obtain⟨v24,h47,h⟩:=bind_some h;refine aG (dS hK h47) (aE 14 3 ?_);obtain⟨h48,h⟩|⟨h48,h⟩:=ah h
   ·exact au 32 h48 (ab (ac 0 (dH hK hL1 h)))
   ·refine au 32 h48 (aE 16 2 ?_);obtain⟨v25,h49,h⟩:=bind_some h;refine aG (dS hK h49) (aE 20 3 ?_);obtain⟨h50,h⟩|⟨h50,h⟩:=ah h
    ·exact au 38 h50 (ab (ac 0 (dH hK hL1 h)))
    ·refine au 38 h50 (aE 22 2 ?_);obtain⟨v26,h51,h⟩:=bind_some h;refine aG (dS hK h51) (aE 26 3 ?_);obtain⟨h52,h⟩|⟨h52,h⟩:=ah h
     ·exact au 44 h52 (ab (ac 0 (dH hK hL1 h)))
     ·refine au 44 h52 (aE 28 2 ?_);obtain⟨v27,h53,h⟩:=bind_some h;refine aG (dS hK h53) (aE 32 3 ?_);obtain⟨h54,h⟩|⟨h54,h⟩:=ah h
      ·exact au 50 h54 (ab (ac 0 (dH hK hL1 h)))
      ·refine au 50 h54 (aE 34 2 ?_);obtain⟨v28,h55,h⟩:=bind_some h;refine aG (dS hK h55) (aE 38 3 ?_);obtain⟨h56,h⟩|⟨h56,h⟩:=ah h
       ·exact au 56 h56 (ab (ac 0 (dH hK hL1 h)))
       ·refine au 56 h56 (aE 40 2 ?_);obtain⟨v29,h57,h⟩:=bind_some h;refine aG (dS hK h57) (aE 44 3 ?_);obtain⟨h58,h⟩|⟨h58,h⟩:=ah h
        ·exact au 62 h58 (ab (ac 0 (dH hK hL1 h)))
        ·refine au 62 h58 (aE 46 2 ?_);obtain⟨v30,h59,h⟩:=bind_some h;refine aG (dS hK h59) (aE 50 3 ?_);obtain⟨h60,h⟩|⟨h60,h⟩:=ah h
         ·exact au 68 h60 (ab (ac 0 (dH hK hL1 h)))
         ·refine au 68 h60 (aE 55 5 ?_);obtain⟨h61,h⟩|⟨h61,h⟩:=ah h
          ·exact au 73 h61 (ab (ac 0 (dH hK hL1 h)))
          ·refine au 73 h61 (aE 60 5 ?_);obtain⟨h62,h⟩|⟨h62,h⟩:=ah h
           ·exact au 78 h62 (ab (ac 0 (dH hK hL1 h)))
           ·refine au 78 h62 (aE 65 5 ?_);obtain⟨h63,h⟩|⟨h63,h⟩:=ah h
            ·exact au 83 h63 (ab (ac 0 (dH hK hL1 h)))
            ·refine au 83 h63 (aE 70 5 ?_);obtain⟨h64,h⟩|⟨h64,h⟩:=ah h
             ·exact au 88 h64 (ab (ac 0 (dH hK hL1 h)))
             ·refine au 88 h64 (aE 75 5 ?_);obtain⟨h65,h⟩|⟨h65,h⟩:=ah h
              ·exact au 93 h65 (ab (ac 0 (dH hK hL1 h)))
              ·refine au 93 h65 (aE 80 5 ?_);obtain⟨h66,h⟩|⟨h66,h⟩:=ah h
               ·exact au 98 h66 (ab (ac 0 (dH hK hL1 h)))
               ·refine au 98 h66 (aE 85 5 ?_);obtain⟨h67,h⟩|⟨h67,h⟩:=ah h
                ·exact au 103 h67 (ab (ac 0 (dH hK hL1 h)))
                ·exact au 103 h67 (ab (ac 0 (dH hK hL1 h)))
 ·refine ae 11 h43 (km 2 3 6 (ag 1 (ax (bu bC v1) (ab (aD 1 ?_)))));cases h;exact aZ
theorem EL(hK:aj K)(m:Nat):jb M w0 r v1 v2 m (iZ K n v1 v2 m):=by
 induction m with
 | zero=>intro v23 h;cases h
 | succ m ih=>intro v23 h;have h:gb K n v1 v2 (iZ K n v1 v2 m) v23=some r:=h;exact bi (Jc hK ih h)
theorem IY(hK:aj K)(h:pg K n v1 v2=some r):aN Try.prog 24 [.sl (lm bC v1),iI v2] (fun v _=>v=.bool r):=by
 refine bd (cat Try.f24 (pn 1)) Try.func24 Try.ntmps24 fun M w0=>(ba ⟨[(0,.sl (lm bC v1)),(1,iI v2)],[],[],[]⟩ ?_);unfold pg at h;exact ac 6 (cf (p:=pn 26) n (EL hK n h))
end
noncomputable section
variable(M:Nat→Prop)(w0:az)(r:Bool)(v1:List bG)  
variable{M w0 r v1}{K:Kn}{n:Nat}
theorem Ie(hK:aj K)(h:qw K n v1=some r):aN Try.prog 8 [.sl (lm bC v1)] (fun v _=>v=.bool r):=by
 refine bd (cat Try.f8 (pn 1)) Try.func8 Try.ntmps8 fun M w0=>(ba ⟨[(0,.sl (lm bC v1))],[],[],[]⟩ ?_);unfold qw at h;refine aw 6 7 3 (ag 1 ?_);obtain⟨v2,h1,h⟩:=bind_some h;refine aG (IY hK h1) (ab (aD 1 ?_));cases h;exact aZ
end
noncomputable section
variable(M:Nat→Prop)(w0:az)(r:(List ai)×Int)(v1:List bG)(v2 v3 v20:Int)(v21:List ai)(v22:Bool)(v26 v27:Int)(v28:ByteArray)(v29:List ai)(m1:Nat)(L1:Int→(List ai)→Option ((List ai)×Int))
abbrev uH:Cx:=⟨Try.prog,84,M,w0⟩
abbrev rJ:=bodyPost Try.prog Try.f34 (br M w0 (fun v s=>v=.tup [.ref 81,iI r.2]∧look 81 s.r=some ⟨72,59,lm aP r.1⟩))
abbrev tM(ks:List ak)(s:AS):=VE (uH M w0) (rJ M w0 r) ks .normal s
abbrev eF(n:Nat):ak:=.c (cat Try.f34 (pn n))
abbrev uy:List ak:=[.b 0,eF 15]
abbrev gN:List ak:=kl (uH M w0) (rJ M w0 r) uy (cat Try.f34 (pn 56)) m1::uy
def Jz:AS:=⟨[(0,.sl (lm bC v1)),(1,iI v26),(2,.int .u8 v3),(8,.ref 81),(10,.ptr 10 0)],[(10,aV (⟨v27,(aa (10+v20)),(gD v1 v20).Style,v28,0,0,v29⟩:ai))],[(81,⟨72,59,lm aP v21⟩)],[10,81]⟩
def Cb:AS:=⟨[(0,.sl (lm bC v1)),(1,iI v20),(2,.int .u8 v3),(8,.ref 81),(26,.bool v22)],[],[(81,⟨72,59,lm aP v21⟩)],[81]⟩
def zR:AS:=⟨[(0,.sl (lm bC v1)),(1,iI v20),(2,.int .u8 v3),(8,.ref 81)],[],[(81,⟨72,59,lm aP v21⟩)],[81]⟩
abbrev pU:Prop:=∀{v20:Int} {v21:(List ai)},L1 v20 v21=some r→LP (uH M w0) (rJ M w0 r) uy (cat Try.f34 (pn 56)) m1 (zR v1 v3 v20 v21)
variable{M w0 r v1 v2 v3 v20 v21 v22 v26 v27 v28 v29 m1 L1}{K:Kn}{n:Nat}
theorem qa(hK:aj K)(hL1:pU M w0 r v1 v3 m1 L1)(h:g9 K n v1 v3 v20 v21 L1 v26 v27 v28 v29=some r):tM M w0 r (.b 2::eF 3631 :: .b 1::gN M w0 r m1) (Jz v1 v3 v20 v21 v26 v27 v28 v29):=by
 unfold g9 at h;refine b8 (ks':=eF 3631 :: .b 1::gN M w0 r m1) 1 (ag 2 (ax (eV aP ([(⟨v27,(aa (10+v20)),(gD v1 v20).Style,v28,0,0,v29⟩:ai)]:List ai) (new:=[aV (⟨v27,(aa (10+v20)),(gD v1 v20).Style,v28,0,0,v29⟩:ai)]) (by simp only[List.map_cons,List.map_nil,dM])) ?_));obtain⟨h36,h⟩:=aQ h;exact ax (ct 81 81 72 59 aP (rfl) (ey) h36) (ab (ac 1 (bo (hL1 h))))
theorem xG(hK:aj K)(hL1:pU M w0 r v1 v3 m1 L1)(h:hZ K n v1 v3 v20 v21 L1 v22=some r):tM M w0 r (eF 225::eF 113::gN M w0 r m1) (Cb v1 v3 v20 v21 v22):=by
 unfold hZ at h;obtain⟨h27,h⟩|⟨h27,h⟩:=ah h
 ·refine ae 26 h27 (b8 (ks':=eF 452::eF 453 :: .b 1::gN M w0 r m1) 4 (ag 2 ?_));obtain⟨h28,h⟩:=aQ h;refine ax (bv bC bC h28 (qZ) ((fun _=>rfl))) (ab ?_);obtain⟨v23,h29,h⟩:=bP h;obtain⟨v24,h30,h⟩:=bP h;refine bt (ks':=eF 29045 :: .b 2::eF 3631 :: .b 1::gN M w0 r m1) 10 ⟨[(0,.sl (lm bC v1)),(1,iI (aa (v20+1))),(2,.int .u8 v3),(8,.ref 81),(9,.ptr 9 0),(10,.ptr 10 0),(42,.int .u8 v23),(43,.bool v24)],[(9,bC (gD v1 v20)),(10,List.set (aV (⟨3,(aa (10+v20)),(gD v1 v20).Style,(gD v1 v20).Text,0,0,[]⟩:ai)) 58 (.nils))],[(81,⟨72,59,lm aP v21⟩)],[9,10,81]⟩ ?_ (by subst h30;subst h29;kernel_rfl);obtain⟨h31,h⟩|⟨h31,h⟩:=ah h
  ·exact ae 43 h31 (b8 (ks':=.b 2::eF 3631 :: .b 1::gN M w0 r m1) 4 (mo 10 (ac 0 (qa hK hL1 h))))
  ·refine ae 43 h31 (aU 7 3 ?_);obtain⟨h32,h⟩|⟨h32,h⟩:=ah h
   ·refine ae 47 h32 (aU 23 7 (ag 3 (ax (eV aP ([({ dX with Kind:=3,Style:=(gD v1 v20).Style,Text:=(gD v1 v20).Text }:ai)]:List ai) (new:=[aV ({ dX with Kind:=3,Style:=(gD v1 v20).Style,Text:=(gD v1 v20).Text }:ai)]) (by simp only[List.map_cons,List.map_nil,dM])) ?_)));obtain⟨h33,h⟩:=aQ h;exact ax (EN 60 72 59 aP (rfl) (ey) h33) (ab (wO 60 (ac 0 (qa hK hL1 h))))
   ·refine ae 47 h32 (aU 7 3 ?_);obtain⟨h34,h⟩|⟨h34,h⟩:=ah h
    ·refine ae 62 h34 (aw 4 5 2 (ag 5 ?_));obtain⟨v25,h35,h⟩:=bind_some h;exact aG (hK.qE h35) (ab (ac 7 (qa hK hL1 h)))
    ·exact ae 62 h34 (b8 (ks':=.b 2::eF 3631 :: .b 1::gN M w0 r m1) 2 (mo 10 (ac 0 (qa hK hL1 h))))
 ·refine ae 26 h27 (aD 8 ?_);cases h;exact pM
theorem BZ(hK:aj K)(hL1:pU M w0 r v1 v3 m1 L1)(h:gB K n v1 v3 L1 v20 v21=some r):tM M w0 r (eF 56::gN M w0 r m1) (zR v1 v3 v20 v21):=by
 unfold gB at h;refine bL 4 5 3 2 (ag 2 (ax (bu bC v1) (aE 5 2 ?_)));obtain⟨h25,h⟩|⟨h25,h⟩:=ah h
 ·refine au 18 h25 (aE 7 2 ?_);obtain⟨h26,h⟩:=aQ h;exact ax (bv bC bC h26 (qZ) ((fun _=>rfl))) (ab (ac 0 (xG hK hL1 h)))
 ·exact au 18 h25 (ab (ac 0 (xG hK hL1 h)))
theorem GT(hK:aj K)(m:Nat):pU M w0 r v1 v3 m (gk K n v1 v3 m):=by
 induction m with
 | zero=>intro v20 v21 h;cases h
 | succ m ih=>intro v20 v21 h;have h:gB K n v1 v3 (gk K n v1 v3 m) v20 v21=some r:=h;exact bi (BZ hK ih h)
theorem Am(hK:aj K)(h:fP K n v1 v2 v3=some r):aN Try.prog 34 [.sl (lm bC v1),iI v2,.int .u8 v3] (fun v s=>v=.tup [.ref 81,iI r.2]∧look 81 s.r=some ⟨72,59,lm aP r.1⟩):=by
 refine bd (cat Try.f34 (pn 1)) Try.func34 Try.ntmps34 fun M w0=>(ba ⟨[(0,.sl (lm bC v1)),(1,iI v2),(2,.int .u8 v3)],[],[],[]⟩ ?_);unfold fP at h;exact gi 28 0 15 6 (bJ [0,1,2,8] [] [] (fr 81 8 72 59 (ac 0 (cf (p:=pn 28) n (GT hK n h)))))
end
noncomputable section
variable(M:Nat→Prop)(w0:az)(r:List ai)(v1:List bG)  
variable{M w0 r v1}{K:Kn}{n:Nat}
theorem GV(hK:aj K)(h:nH K n v1=some r):aN Try.prog 15 [.sl (lm bC v1)] (fun v s=>v=.ref 1007∧look 1007 s.r=some ⟨72,59,lm aP r⟩):=by
 refine bd (cat Try.f15 (pn 1)) Try.func15 Try.ntmps15 fun M w0=>(ba ⟨[(0,.sl (lm bC v1))],[],[],[]⟩ ?_);unfold nH at h;refine aw 6 7 3 (ag 1 ?_);obtain⟨v2,h1,h⟩:=bind_some h;refine eh 1007 (Am hK h1) (rG (i:=0) rfl) (ab (aD 3 ?_));cases h;exact eu
end
noncomputable section
variable(M:Nat→Prop)(w0:az)(r:Int)(v1:List aq)(v5 v6 v7 v8 v9:Int)(m1:Nat)(L1:Int→Int→Int→Option Int)
abbrev rr:Cx:=⟨Try.prog,29,M,w0⟩
abbrev uS:=bodyPost Try.prog Try.f23 (br M w0 (fun v _=>v=iI r))
abbrev xj(ks:List ak)(s:AS):=VE (rr M w0) (uS M w0 r) ks .normal s
abbrev nC(n:Nat):ak:=.c (cat Try.f23 (pn n))
abbrev tF:List ak:=[.b 0,nC 15]
abbrev sI:List ak:=kl (rr M w0) (uS M w0 r) tF (cat Try.f23 (pn 116)) m1::tF
def Jj:AS:=⟨[(3,iI v8),(4,iI v9),(7,.sl (lm ay v1)),(8,iI (v1.length:Int)),(9,iI v7)],[],[],[]⟩
def xp:AS:=⟨[(3,iI v5),(4,iI v6),(7,.sl (lm ay v1)),(8,iI (v1.length:Int)),(9,iI v7)],[],[],[]⟩
abbrev rq:Prop:=∀{v5:Int} {v6:Int} {v7:Int},L1 v5 v6 v7=some r→LP (rr M w0) (uS M w0 r) tF (cat Try.f23 (pn 116)) m1 (xp v1 v5 v6 v7)
variable{M w0 r v1 v5 v6 v7 v8 v9 m1 L1}{K:Kn}{n:Nat}
theorem wa(hK:aj K)(hL1:rq M w0 r v1 m1 L1)(h:mc K n v1 v7 v8 L1 v9=some r):xj M w0 r (.b 1::nC 935::sI M w0 r m1) (Jj v1 v7 v8 v9):=by
 unfold mc at h;exact ac 2 (bo (hL1 h))
theorem IP(hK:aj K)(hL1:rq M w0 r v1 m1 L1)(h:lO K n v1 L1 v5 v6 v7=some r):xj M w0 r (nC 116::sI M w0 r m1) (xp v1 v5 v6 v7):=by
 unfold lO at h;refine aw 6 7 3 ?_;obtain⟨h6,h⟩|⟨h6,h⟩:=ah h
 ·refine ae 10 h6 (cG 8 9 1 3 5 (ag 0 ?_));obtain⟨h7,h⟩:=aQ h;refine ax (bv ay ay h7 (dj) ((fun _=>rfl))) (ab ?_);obtain⟨v8,h8,h⟩:=bP h;refine bt (ks':=nC 14951 :: .b 1::nC 935::sI M w0 r m1) 4 ⟨[(3,iI v8),(4,iI v6),(6,.ptr 6 0),(7,.sl (lm ay v1)),(8,iI (v1.length:Int)),(9,iI v7),(22,.bool (!(gD v1 v7).Forced))],[(6,ay (gD v1 v7))],[],[6]⟩ ?_ (by subst h8;kernel_rfl);obtain⟨h9,h⟩|⟨h9,h⟩:=ah h
  ·exact ae 22 h9 (ac 2 (wa hK hL1 h))
  ·exact ae 22 h9 (ac 2 (wa hK hL1 h))
 ·refine ae 10 h6 (aD 8 ?_);cases h;exact aZ
theorem BA(hK:aj K)(m:Nat):rq M w0 r v1 m (jN K n v1 m):=by
 induction m with
 | zero=>intro v5 v6 v7 h;cases h
 | succ m ih=>intro v5 v6 v7 h;have h:lO K n v1 (jN K n v1 m) v5 v6 v7=some r:=h;exact bi (IP hK ih h)
theorem yy(hK:aj K)(h:kG K n v1=some r):aN Try.prog 23 [.sl (lm ay v1)] (fun v _=>v=iI r):=by
 refine bd (cat Try.f23 (pn 1)) Try.func23 Try.ntmps23 fun M w0=>(ba ⟨[(0,.sl (lm ay v1))],[],[],[]⟩ ?_);unfold kG at h;exact bL 28 29 15 6 (ag 1 (ax (bu ay v1) (ab (ac 1 (cf (p:=pn 58) n (BA hK n h))))))
end
noncomputable section
variable(M:Nat→Prop)(w0:az)(r:Bool)(v1:List bG)(v2:Int)(v7:List aq)(v8:List Int)(v9:Bool)(v31 v33 v34:Int)(v35:Bool)(v41:Int)(v42:List aq)(v43 v44 v45:Int)(v47:Bool)(v49:Int)(v50 v52:Bool)(m1 m2 m3:Nat)(L1:Int→Option Bool)(L2:Int→(List aq)→Int→Int→Option Bool)(L3:Int→Option Bool)
abbrev iK:Cx:=⟨Try.prog,133,M,w0⟩
abbrev q6:=bodyPost Try.prog Try.f6 (br M w0 (fun v _=>v=.bool r))
abbrev f0(ks:List ak)(s:AS):=VE (iK M w0) (q6 M w0 r) ks .normal s
abbrev cq(n:Nat):ak:=.c (cat Try.f6 (pn n))
abbrev sf:List ak:=[.b 0,cq 255]
abbrev gA:List ak:=kl (iK M w0) (q6 M w0 r) sf (cat Try.f6 (pn 2036)) m1::sf
abbrev tI:List ak:=.b 4::cq 2085503 :: .b 1::cq 8147::gA M w0 r m1
abbrev wW:List ak:=kl (iK M w0) (q6 M w0 r) (tI M w0 r m1) (cat Try.f6 (pn 8342008)) m3::(tI M w0 r m1)
abbrev um:List ak:=.b 2::cq 260687 :: .b 1::cq 8147::gA M w0 r m1
abbrev zK:List ak:=kl (iK M w0) (q6 M w0 r) (um M w0 r m1) (cat Try.f6 (pn 2085492)) m2::(um M w0 r m1)
def Jx:AS:=⟨[(1,iI v2),(5,.sl (lm ay v7)),(6,.ref 1026),(7,iI v31),(8,iI v33),(9,iI v34),(10,iI v45),(73,.sl (lm ay v42)),(74,iI v43),(75,iI v44)],[],[(1026,⟨3,1,lm (aW .i64) (v8++[(v7.length:Int)])⟩)],[1026]⟩
def Ff:AS:=⟨[(1,iI v2),(5,.sl (lm ay v7)),(6,.ref 1026),(7,iI v31),(132,.bool v52)],[],[(1026,⟨3,1,lm (aW .i64) (v8++[(v7.length:Int)])⟩)],[1026]⟩
def Fa:AS:=⟨[(1,iI v2),(5,.sl (lm ay v7)),(6,.ref 1026),(7,iI v31),(8,iI v33),(9,iI v34),(13,iI v49),(108,.bool v50)],[],[(1026,⟨3,1,lm (aW .i64) (v8++[(v7.length:Int)])⟩)],[1026]⟩
def wk:AS:=⟨[(1,iI v2),(5,.sl (lm ay v7)),(6,.ref 1026),(7,iI v31),(8,iI v33),(9,iI v34),(13,iI v49)],[],[(1026,⟨3,1,lm (aW .i64) (v8++[(v7.length:Int)])⟩)],[1026]⟩
def Cg:AS:=⟨[(1,iI v2),(5,.sl (lm ay v7)),(6,.ref 1026),(7,iI v31),(8,iI v33),(9,iI v34),(95,.bool v47)],[],[(1026,⟨3,1,lm (aW .i64) (v8++[(v7.length:Int)])⟩)],[1026]⟩
def Ap:AS:=⟨[(1,iI v2),(5,.sl (lm ay v7)),(6,.ref 1026),(7,iI v31),(8,iI v33),(9,iI v34),(10,iI v41),(73,.sl (lm ay v42)),(74,iI v43),(75,iI v44)],[],[(1026,⟨3,1,lm (aW .i64) (v8++[(v7.length:Int)])⟩)],[1026]⟩
def C7:AS:=⟨[(1,iI v2),(5,.sl (lm ay v7)),(6,.ref 1026),(7,iI v31),(8,iI v33),(9,iI v34),(69,.bool v35)],[],[(1026,⟨3,1,lm (aW .i64) (v8++[(v7.length:Int)])⟩)],[1026]⟩
def xE:AS:=⟨[(1,iI v2),(5,.sl (lm ay v7)),(6,.ref 1026),(7,iI v31)],[],[(1026,⟨3,1,lm (aW .i64) (v8++[(v7.length:Int)])⟩)],[1026]⟩
def Hm:AS:=⟨[(1,iI v2),(5,.sl (lm ay v7)),(6,.ref 1026),(39,.bool v9)],[],[(1026,⟨3,1,lm (aW .i64) (v8++[(v7.length:Int)])⟩)],[1026]⟩
abbrev eQ:Prop:=∀{v31:Int},L1 v31=some r→LP (iK M w0) (q6 M w0 r) sf (cat Try.f6 (pn 2036)) m1 (xE v2 v7 v8 v31)
abbrev tm:Prop:=∀{v41:Int} {v42:(List aq)} {v43:Int} {v44:Int},L2 v41 v42 v43 v44=some r→LP (iK M w0) (q6 M w0 r) (um M w0 r m1) (cat Try.f6 (pn 2085492)) m2 (Ap v2 v7 v8 v31 v33 v34 v41 v42 v43 v44)
abbrev tc:Prop:=∀{v49:Int},L3 v49=some r→LP (iK M w0) (q6 M w0 r) (tI M w0 r m1) (cat Try.f6 (pn 8342008)) m3 (wk v2 v7 v8 v31 v33 v34 v49)
variable{M w0 r v1 v2 v7 v8 v9 v31 v33 v34 v35 v41 v42 v43 v44 v45 v47 v49 v50 v52 m1 m2 m3 L1 L2 L3}{K:Kn}{n:Nat}
theorem xJ(hK:aj K)(hL1:eQ M w0 r v2 v7 v8 m1 L1)(hL2:tm M w0 r v2 v7 v8 v31 v33 v34 m1 m2 L2)(h:ou K n v2 v7 v8 v31 v33 v34 v42 v43 v44 L1 L2 v45=some r):f0 M w0 r (.b 3::cq 16683943::zK M w0 r m1 m2) (Jx v2 v7 v8 v31 v33 v34 v42 v43 v44 v45):=by
 unfold ou at h;exact ac 2 (bo (hL2 h))
theorem sa(hK:aj K)(hL1:eQ M w0 r v2 v7 v8 m1 L1)(h:ir K n v2 v7 v8 v31 L1 v52=some r):f0 M w0 r (cq 4171007 :: .b 1::cq 8147::gA M w0 r m1) (Ff v2 v7 v8 v31 v52):=by
 unfold ir at h;obtain⟨h86,h⟩|⟨h86,h⟩:=ah h
 ·refine ae 132 h86 (aD 9 ?_);cases h;exact aZ
 ·exact ae 132 h86 (ac 4 (bo (hL1 h)))
theorem yz(hK:aj K)(hL1:eQ M w0 r v2 v7 v8 m1 L1)(hL3:tc M w0 r v2 v7 v8 v31 v33 v34 m1 m3 L3)(h:jn K n v2 v7 v8 v31 v33 v34 v49 L1 L3 v50=some r):f0 M w0 r (cq 33368033::cq 16684017::wW M w0 r m1 m3) (Fa v2 v7 v8 v31 v33 v34 v49 v50):=by
 unfold jn at h;obtain⟨h80,h⟩|⟨h80,h⟩:=ah h
 ·exact ae 108 h80 (ac 5 (bo (hL3 h)))
 ·refine ae 108 h80 (km 2 3 6 (ag 2 (ax (bu ay v7) (aE 5 2 ?_))));obtain⟨h81,h⟩|⟨h81,h⟩:=ah h
  ·refine au 115 h81 (aE 8 3 ?_);obtain⟨h82,h⟩:=aQ h;refine ax (bv ay ay h82 (dj) ((fun _=>rfl))) (aE 14 5 ?_);obtain⟨h83,h⟩|⟨h83,h⟩:=ah h
   ·refine au 124 h83 (aE 17 3 ?_);obtain⟨h84,h⟩:=aQ h;refine ax (kv ay v7 v33 v49 37 (.tmp 125) (some (.tmp 126)) (some (.tmp 127)) 128 (e:=41) (sz:=62) (by kernel_rfl) (by kernel_rfl) (by kernel_rfl) (by kernel_rfl) (by kernel_rfl) (by kernel_rfl) (dj) (fun k hk=>by subst hk;kernel_rfl) h84) ?_;obtain⟨v51,h85,h⟩:=bind_some h;exact aG (yy hK h85) (ab (ac 0 (sa hK hL1 h)))
   ·exact au 124 h83 (ab (ac 0 (sa hK hL1 h)))
  ·exact au 115 h81 (ab (ac 0 (sa hK hL1 h)))
theorem Fk(hK:aj K)(hL1:eQ M w0 r v2 v7 v8 m1 L1)(hL3:tc M w0 r v2 v7 v8 v31 v33 v34 m1 m3 L3)(h:kp K n v2 v7 v8 v31 v33 v34 L1 L3 v49=some r):f0 M w0 r (cq 8342008::wW M w0 r m1 m3) (wk v2 v7 v8 v31 v33 v34 v49):=by
 unfold kp at h;refine bL 4 5 3 2 (ag 2 (ax (bu ay v7) (aE 5 2 ?_)));obtain⟨h78,h⟩|⟨h78,h⟩:=ah h
 ·refine au 102 h78 (aE 7 2 ?_);obtain⟨h79,h⟩:=aQ h;exact ax (bv ay ay h79 (dj) ((fun _=>rfl))) (ab (ac 0 (yz hK hL1 hL3 h)))
 ·exact au 102 h78 (ab (ac 0 (yz hK hL1 hL3 h)))
theorem Fl(hK:aj K)(hL1:eQ M w0 r v2 v7 v8 m1 L1)(m:Nat):tc M w0 r v2 v7 v8 v31 v33 v34 m1 m (jw K n v2 v7 v8 v31 v33 v34 L1 m):=by
 induction m with
 | zero=>intro v49 h;cases h
 | succ m ih=>intro v49 h;have h:kp K n v2 v7 v8 v31 v33 v34 L1 (jw K n v2 v7 v8 v31 v33 v34 L1 m) v49=some r:=h;exact bi (Fk hK hL1 ih h)
theorem xB(hK:aj K)(hL1:eQ M w0 r v2 v7 v8 m1 L1)(h:jG K n v2 v7 v8 v31 v33 v34 L1 v47=some r):f0 M w0 r (cq 1042749::cq 521375 :: .b 1::cq 8147::gA M w0 r m1) (Cg v2 v7 v8 v31 v33 v34 v47):=by
 unfold jG at h;obtain⟨h74,h⟩|⟨h74,h⟩:=ah h
 ·refine ae 95 h74 (aD 10 ?_);cases h;exact aZ
 ·exact ae 95 h74 (ac 6 (cf (p:=pn 4171004) n (Fl hK hL1 n h)))
theorem Hi(hK:aj K)(hL1:eQ M w0 r v2 v7 v8 m1 L1)(hL2:tm M w0 r v2 v7 v8 v31 v33 v34 m1 m2 L2)(h:kq K n v2 v7 v8 v31 v33 v34 L1 L2 v41 v42 v43 v44=some r):f0 M w0 r (cq 2085492::zK M w0 r m1 m2) (Ap v2 v7 v8 v31 v33 v34 v41 v42 v43 v44):=by
 unfold kq at h;refine aw 6 7 3 ?_;obtain⟨h68,h⟩|⟨h68,h⟩:=ah h
 ·refine ae 76 h68 (cG 8 9 3 3 5 (ag 0 ?_));obtain⟨h69,h⟩:=aQ h;refine ax (bv ay ay h69 (dj) ((fun _=>rfl))) (ab (aU 3 2 ?_));obtain⟨h70,h⟩|⟨h70,h⟩:=ah h
  ·exact ae 81 h70 (ac 2 (xJ hK hL1 hL2 h))
  ·exact ae 81 h70 (ac 2 (xJ hK hL1 hL2 h))
 ·refine ae 76 h68 (vV 4 5 3 7 (ag 3 ?_));obtain⟨h71,h⟩:=aQ h;refine ax (kv ay v7 v33 v34 37 (.tmp 85) (some (.tmp 86)) (some (.tmp 87)) 88 (e:=41) (sz:=62) (by kernel_rfl) (by kernel_rfl) (by kernel_rfl) (by kernel_rfl) (by kernel_rfl) (by kernel_rfl) (dj) (fun k hk=>by subst hk;kernel_rfl) h71) ?_;obtain⟨v46,h72,h⟩:=bind_some h;refine aG (yy hK h72) (aE 8 3 ?_);obtain⟨h73,h⟩|⟨h73,h⟩:=ah h
  ·exact au 92 h73 (ab (ac 0 (xB hK hL1 h)))
  ·exact au 92 h73 (ab (ac 0 (xB hK hL1 h)))
theorem I2(hK:aj K)(hL1:eQ M w0 r v2 v7 v8 m1 L1)(m:Nat):tm M w0 r v2 v7 v8 v31 v33 v34 m1 m (kI K n v2 v7 v8 v31 v33 v34 L1 m):=by
 induction m with
 | zero=>intro v41 v42 v43 v44 h;cases h
 | succ m ih=>intro v41 v42 v43 v44 h;have h:kq K n v2 v7 v8 v31 v33 v34 L1 (kI K n v2 v7 v8 v31 v33 v34 L1 m) v41 v42 v43 v44=some r:=h;exact bi (Hi hK hL1 ih h)
theorem rU(hK:aj K)(hL1:eQ M w0 r v2 v7 v8 m1 L1)(h:i9 K n v2 v7 v8 v31 v33 v34 L1 v35=some r):f0 M w0 r (cq 130341::cq 65171 :: .b 1::cq 8147::gA M w0 r m1) (C7 v2 v7 v8 v31 v33 v34 v35):=by
 unfold i9 at h;obtain⟨h59,h⟩|⟨h59,h⟩:=ah h
 ·refine ae 69 h59 (aD 10 ?_);cases h;exact aZ
 ·refine ae 69 h59 (l8 12 13 7 6 (ag 3 ?_));obtain⟨h60,h⟩:=aQ h;exact ax (kv ay v7 v33 v34 37 (.tmp 70) (some (.tmp 71)) (some (.tmp 72)) 73 (e:=41) (sz:=62) (by kernel_rfl) (by kernel_rfl) (by kernel_rfl) (by kernel_rfl) (by kernel_rfl) (by kernel_rfl) (dj) (fun k hk=>by subst hk;kernel_rfl) h60) (ax (bu ay (List.drop v33.toNat (List.take v34.toNat v7))) (ab (ac 1 (cf (p:=pn 1042746) n (I2 hK hL1 n h)))))
theorem F3(hK:aj K)(hL1:eQ M w0 r v2 v7 v8 m1 L1)(h:lp K n v2 v7 v8 L1 v31=some r):f0 M w0 r (cq 2036::gA M w0 r m1) (xE v2 v7 v8 v31):=by
 unfold lp at h;refine bL 4 5 3 2 (ag 3 (ax (bu (aW .i64) (v8++[(v7.length:Int)])) (ab ?_)));obtain⟨v32,h50,h⟩:=bP h;refine bt (ks':=cq 8145::cq 4073::gA M w0 r m1) 0 ⟨[(1,iI v2),(5,.sl (lm ay v7)),(6,.ref 1026),(7,iI v31),(44,.bool v32)],[],[(1026,⟨3,1,lm (aW .i64) (v8++[(v7.length:Int)])⟩)],[1026]⟩ ?_ (by subst h50;kernel_rfl);obtain⟨h51,h⟩|⟨h51,h⟩:=ah h
 ·refine ae 44 h51 (cG 8 9 1 3 5 (bJ [1,5,6,7] [] [1026] ?_));obtain⟨h52,h⟩:=aQ h;obtain⟨h53,h⟩:=aQ h;refine bT 2 (nu 47 [.ref 1026,iI v31,.eptr 1026 1 (v31.toNat) 0,iI (gD (v8++[(v7.length:Int)]) v31),.ref 1026,iI v31,iI (aa (v31+1)),.eptr 1026 1 (((aa (v31+1))).toNat) 0,iI (gD (v8++[(v7.length:Int)]) ((aa (v31+1))))]) [] [] [bN Try.prog 133 Try.f6 (pn 32584) 9,bN Try.prog 133 Try.f6 (pn 32584) 10] (aL (vz 2) (ca (ez 1026 1 (aW .i64) (L:=(v8++[(v7.length:Int)])) h52) (ca (cA 3 0 (aW .i64) (aW .i64) (db h52).2 ((fun _=>rfl))) (aL [.v 0 2,.v 0 2,.v 0 2] (am (im (lo:=0) (k:=2) (eL ⟨(by kernel_rfl),(ff (ez 1026 1 (aW .i64) (L:=(v8++[(v7.length:Int)])) h53) (by kernel_rfl))⟩ (eL ⟨(by kernel_rfl),(ff (ez 1026 1 (aW .i64) (L:=(v8++[(v7.length:Int)])) h53) (by kernel_rfl))⟩ jz))) (am (im (lo:=0) (k:=2) (eL ⟨(by kernel_rfl),(ff (cA 3 0 (aW .i64) (aW .i64) (db h53).2 ((fun _=>rfl))) (by kernel_rfl))⟩ (eL ⟨(by kernel_rfl),(ff (cA 3 0 (aW .i64) (aW .i64) (db h53).2 ((fun _=>rfl))) (by kernel_rfl))⟩ jz))) (am (bO 0) (am (bO 1) bV)))))))) ?_
  obtain⟨v33,h54,h⟩:=bP h;obtain⟨v34,h55,h⟩:=bP h;refine bt (ks':=cq 130340::cq 130341::cq 65171 :: .b 1::cq 8147::gA M w0 r m1) 2 ⟨[(1,iI v2),(5,.sl (lm ay v7)),(6,.ref 1026),(7,iI v31),(8,iI v33),(9,iI v34)],[],[(1026,⟨3,1,lm (aW .i64) (v8++[(v7.length:Int)])⟩)],[1026]⟩ ?_ (by subst h55;subst h54;kernel_rfl);refine ag 4 ?_;obtain⟨h56,h⟩|⟨h56,h⟩:=ah h
  ·exact au 59 h56 (ab (ac 0 (rU hK hL1 h)))
  ·refine au 59 h56 (aE 6 2 ?_);obtain⟨h57,h⟩:=aQ h;refine ax (bv ay ay h57 (dj) ((fun _=>rfl))) (aE 10 3 ?_);obtain⟨h58,h⟩|⟨h58,h⟩:=ah h
   ·exact au 65 h58 (ab (ac 0 (rU hK hL1 h)))
   ·exact au 65 h58 (ab (ac 0 (rU hK hL1 h)))
 ·refine ae 44 h51 (aD 8 ?_);cases h;exact aZ
theorem D1(hK:aj K)(m:Nat):eQ M w0 r v2 v7 v8 m (jj K n v2 v7 v8 m):=by
 induction m with
 | zero=>intro v31 h;cases h
 | succ m ih=>intro v31 h;have h:lp K n v2 v7 v8 (jj K n v2 v7 v8 m) v31=some r:=h;exact bi (F3 hK ih h)
theorem xS(hK:aj K)(h:kH K n v2 v7 v8 v9=some r):f0 M w0 r [cq 253,cq 127] (Hm v2 v7 v8 v9):=by
 unfold kH at h;obtain⟨h12,h⟩|⟨h12,h⟩:=ah h
 ·refine ae 39 h12 (aD 5 ?_);cases h;exact aZ
 ·exact ae 39 h12 (ac 6 (cf (p:=pn 1018) n (D1 hK n h)))
theorem FM(hK:aj K)(h:oE K n v1 v2=some r):aN Try.prog 6 [.sl (lm bC v1),iI v2] (fun v _=>v=.bool r):=by
 refine bd (cat Try.f6 (pn 1)) Try.func6 Try.ntmps6 fun M w0=>(ba ⟨[(0,.sl (lm bC v1)),(1,iI v2)],[],[],[]⟩ ?_);unfold oE at h;refine bL 12 13 7 4 (ag 0 ?_);obtain⟨v3,h1,h⟩:=bind_some h;refine aG (F5 hK h1) (ab ?_);obtain⟨h2,h⟩|⟨h2,h⟩:=ah h
 ·refine ae 15 h2 (aD 5 ?_);cases h;exact aZ
 ·refine ae 15 h2 (l8 4 5 3 4 (ag 1 ?_));obtain⟨v4,h3,h⟩:=bind_some h;refine aG (Ie hK h3) (ab ?_);obtain⟨h4,h⟩|⟨h4,h⟩:=ah h
  ·refine ae 18 h4 (aD 5 ?_);cases h;exact aZ
  ·refine ae 18 h4 (fM 2 3 3 (ag 1 ?_));obtain⟨v5,h5,h⟩:=bind_some h;refine eh 1020 (GV hK h5) (eO 1007) (aE 3 1 ?_);obtain⟨v6,h6,h⟩:=bind_some h;refine aG (qI hK h6) (kY 1020 ?_);obtain⟨v7,h7,h⟩:=bind_some h;refine eh 1023 (zm hK h7) (eO 1009) (ab (aw 2 3 1 (ag 2 (kY 1023 ?_))));obtain⟨v8,h8,h⟩:=bind_some h;refine eh 1026 (yF hK h8) (eO 16) (aE 4 1 (ax (bu ay v7) (aE 6 1 ?_)));obtain⟨h9,h⟩:=aQ h;refine ax (ct 30 1026 3 1 (aW .i64) (rfl) ((fun _=>rfl)) h9) (ab (bL 4 5 3 2 (ag 1 (ax (bu ay v7) (aE 4 2 ?_)))));obtain⟨h10,h⟩|⟨h10,h⟩:=ah h
   ·refine au 34 h10 (aE 5 1 ?_);obtain⟨h11,h⟩:=aQ h;exact ax (dh 1026 1 (aW .i64) h11) (ax (cA 3 0 (aW .i64) (aW .i64) (db h11).2 ((fun _=>rfl))) (ab (ac 0 (xS hK h))))
   ·exact au 34 h10 (ab (ac 0 (xS hK h)))
end
noncomputable section
variable(M:Nat→Prop)(w0:az)(r:bn)(v1:aF)(v2 v3:Int)(v4:bn)(v7 v8 v9:Int)(v10 v11:(Int×Bool))(v12:Bool)(v13:V4 Int)  
abbrev qA(n:Nat):ak:=.c (cat Try.f64 (pn n))
abbrev GA:Cx:=⟨Try.prog,89,M,w0⟩
abbrev Fj:=bodyPost Try.prog Try.f64 (br M w0 (fun v _=>v=.agg (bq r)))
abbrev rZ(ks:List ak)(s:AS):=VE (GA M w0) (Fj M w0 r) ks .normal s
def DP:AS:=⟨[(4,.ptr 4 0),(5,.ptr 5 0)],[(4,bq eD),(5,bq ({ v4 with Margin:=v13,Content:=v8 }:bn))],[],[4,5]⟩
def Ef:AS:=⟨[(4,.ptr 4 0),(5,.ptr 5 0),(8,iI (aa (v3-v9))),(10,.bool v10.2),(12,.bool v11.2),(59,.bool v12)],[(4,bq eD),(5,bq ({ v4 with Content:=v8 }:bn))],[],[4,5]⟩
def IT:AS:=⟨[(1,iI v3),(2,.ptr 2 0),(4,.ptr 4 0),(5,.ptr 5 0),(6,iI v7)],[(2,aA v1),(4,bq eD),(5,bq v4)],[],[2,4,5]⟩
variable{M w0 r v1 v2 v3 v4 v7 v8 v9 v10 v11 v12 v13}{K:Kn}{n:Nat}
theorem ra(hK:aj K)(h:lD K n v4 v8 v13=some r):rZ M w0 r [.b 0,qA 4095] (DP v4 v8 v13):=by
 unfold lD at h;refine aD 4 ?_;cases h;exact aZ
theorem zH(hK:aj K)(h:pH K n v3 v4 v8 v9 v10 v11 v12=some r):rZ M w0 r [qA 16377,.b 0,qA 4095] (Ef v3 v4 v8 v9 v10 v11 v12):=by
 unfold pH at h;obtain⟨h12,h⟩|⟨h12,h⟩:=ah h
 ·exact ae 59 h12 (ac 4 (ra hK h))
 ·refine ae 59 h12 (aU 7 3 ?_);obtain⟨h13,h⟩|⟨h13,h⟩:=ah h
  ·exact ae 76 h13 (ac 2 (ra hK h))
  ·refine ae 76 h13 (aU 7 3 ?_);obtain⟨h14,h⟩|⟨h14,h⟩:=ah h
   ·exact ae 82 h14 (ac 2 (ra hK h))
   ·exact ae 82 h14 (ac 2 (ra hK h))
theorem A6(hK:aj K)(h:qb K n v1 v3 v4 v7=some r):rZ M w0 r [qA 63] (IT v1 v3 v4 v7):=by
 unfold qb at h;refine aw 2 3 1 (ag 3 ?_);obtain⟨v8,h6,h⟩:=bind_some h;refine aG (oO hK h6) (ab (aw 2 3 1 (ag 2 ?_)));obtain⟨v9,h7,h⟩:=bind_some h;refine aG (kD hK h7) (ab (aw 5 3 3 ?_));obtain⟨h8,h⟩|⟨h8,h⟩:=ah h
 ·refine ae 41 h8 (aD 5 ?_);cases h;exact aZ
 ·refine ae 41 h8 (fM 2 3 3 (ag 4 ?_));obtain⟨v10,h9,h⟩:=bind_some h;refine aG (dd hK h9) (ab (aw 2 3 1 (ag 4 ?_)));obtain⟨v11,h10,h⟩:=bind_some h;refine aG (dd hK h10) (ab (cU 8 9 0 3 3 (ag 3 ?_)));obtain⟨h11,h⟩|⟨h11,h⟩:=ah h
  ·exact au 62 h11 (ab (ac 0 (zH hK h)))
  ·exact au 62 h11 (ab (ac 0 (zH hK h)))
theorem Fr(hK:aj K)(h:sv K n v1 v2=some r):aN Try.prog 64 [.agg (aA v1),iI v2] (fun v _=>v=.agg (bq r)):=by
 refine bd (cat Try.f64 (pn 1)) Try.func64 Try.ntmps64 fun M w0=>(ba ⟨[(0,.agg (aA v1)),(1,iI v2)],[],[],[]⟩ ?_);unfold sv at h;refine aw 6 7 3 (ag 1 ?_);obtain⟨v3,h1,h⟩:=bind_some h;refine aG (eC hK h1) (ab (aw 2 3 1 (ag 2 ?_)));obtain⟨v4,h2,h⟩:=bind_some h;refine aG (nn hK h2) (ab (aw 2 3 1 (ag 3 ?_)));obtain⟨v5,h3,h⟩:=bind_some h;refine aG (dd hK h3) (ab (aw 5 3 3 ?_));obtain⟨h4,h⟩|⟨h4,h⟩:=ah h
 ·refine ae 26 h4 (aU 2 1 (ag 2 ?_));obtain⟨v6,h5,h⟩:=bind_some h;exact aG (kD hK h5) (ab (ac 0 (A6 hK h)))
 ·exact ae 26 h4 (ac 2 (A6 hK h))
end
noncomputable section
variable(M:Nat→Prop)(w0:az)(r:af)(v1:ai)(v2:Int)(v3:bW)(v4:bn)(v5 v6:Bool)  
abbrev wA(n:Nat):ak:=.c (cat Try.f53 (pn n))
abbrev FO:Cx:=⟨Try.prog,58,M,w0⟩
abbrev Cu:=bodyPost Try.prog Try.f53 (br M w0 (fun v s=>v=.agg (List.set (aK ({ r with Kids:=[] }:af)) 66 (.ref 1057))∧look 1057 s.r=some ⟨64,67,lm aB r.Kids⟩))
abbrev zV(ks:List ak)(s:AS):=VE (FO M w0) (Cu M w0 r) ks .normal s
def Hl:AS:=⟨[(3,.ptr 3 0),(5,.ptr 5 0),(6,.ptr 6 0),(7,.ptr 7 0),(9,.bool v5),(10,.bool v6)],[(3,aV v1),(5,cg v3),(6,List.set (aK bl) 66 (.nils)),(7,bq v4)],[],[3,5,6,7]⟩
def Ge:AS:=⟨[(3,.ptr 3 0),(5,.ptr 5 0),(6,.ptr 6 0),(7,.ptr 7 0),(8,.bool (v1.Style.Overflow == 0)),(9,.bool v5)],[(3,aV v1),(5,cg v3),(6,List.set (aK bl) 66 (.nils)),(7,bq v4)],[],[3,5,6,7]⟩
variable{M w0 r v1 v2 v3 v4 v5 v6}{K:Kn}{n:Nat}
theorem oU(hK:aj K)(h:kx K n v1 v3 v4 v5 v6=some r):zV M w0 r [wA 63] (Hl v1 v3 v4 v5 v6):=by
 unfold kx at h;refine aw 2 3 1 (ag 5 ?_);obtain⟨v7,h7,h⟩:=bind_some h;refine eh 1057 (yQ hK h7) (oX (i:=66) (by kernel_rfl)) (ab (aD 1 ?_));cases h;exact eu
theorem uY(hK:aj K)(h:nT K n v1 v3 v4 v5=some r):zV M w0 r [wA 31] (Ge v1 v3 v4 v5):=by
 unfold nT at h;refine aw 2 3 1 (ag 2 ?_);obtain⟨h4,h⟩|⟨h4,h⟩:=ah h
 ·refine au 33 h4 (aE 8 6 ?_);obtain⟨h5,h⟩|⟨h5,h⟩:=ah h
  ·refine au 39 h5 (aE 14 6 ?_);obtain⟨h6,h⟩|⟨h6,h⟩:=ah h
   ·exact au 45 h6 (ab (ac 0 (oU hK h)))
   ·exact au 45 h6 (ab (ac 0 (oU hK h)))
  ·exact au 39 h5 (ab (ac 0 (oU hK h)))
 ·exact au 33 h4 (ab (ac 0 (oU hK h)))
theorem JB(hK:aj K)(h:rL K n v1 v2 v3=some r):aN Try.prog 53 [.agg (aV v1),iI v2,.agg (cg v3)] (fun v s=>v=.agg (List.set (aK ({ r with Kids:=[] }:af)) 66 (.ref 1057))∧look 1057 s.r=some ⟨64,67,lm aB r.Kids⟩):=by
 refine bd (cat Try.f53 (pn 1)) Try.func53 Try.ntmps53 fun M w0=>(ba ⟨[(0,.agg (aV v1)),(1,iI v2),(2,.agg (cg v3))],[],[],[]⟩ ?_);unfold rL at h;refine aw 6 7 3 (ag 3 ?_);obtain⟨v4,h1,h⟩:=bind_some h;refine aG (Fr hK h1) (ab (aw 6 7 3 (ag 2 ?_)));obtain⟨h2,h⟩|⟨h2,h⟩:=ah h
 ·refine au 20 h2 (aE 8 6 ?_);obtain⟨h3,h⟩|⟨h3,h⟩:=ah h
  ·exact au 26 h3 (ab (ac 0 (uY hK h)))
  ·exact au 26 h3 (ab (ac 0 (uY hK h)))
 ·exact au 20 h2 (ab (ac 0 (uY hK h)))
end
noncomputable section
variable(M:Nat→Prop)(w0:az)(r:af)(v1:ai)(v2:Int)  
variable{M w0 r v1 v2}{K:Kn}{n:Nat}
theorem B3(hK:aj K)(h:un K n v1 v2=some r):aN Try.prog 36 [.agg (aV v1),iI v2] (fun v s=>v=.agg (List.set (aK ({ r with Kids:=[] }:af)) 66 (.ref 8))∧look 8 s.r=some ⟨64,67,lm aB r.Kids⟩):=by
 refine bd (cat Try.f36 (pn 1)) Try.func36 Try.ntmps36 fun M w0=>(ba ⟨[(0,.agg (aV v1)),(1,iI v2)],[],[],[]⟩ ?_);unfold un at h;refine aw 6 7 3 (bJ [1,2,4] [2,4] [] ?_);obtain⟨v3,h1,h⟩:=bind_some h;obtain⟨v4,h2,h⟩:=bind_some h;refine bT 1 (nu 5 [.agg (aV v1),iI v2,.agg (cg v3),.agg (List.set (aK ({ v4 with Kids:=[] }:af)) 66 (.ref 8))]) [] [(8,⟨64,67,lm aB v4.Kids⟩)] [bN Try.prog 9 Try.f36 (pn 6) 4] (aL (vz 2) (am (bX 0 1 7 (qI hK h1)) (am (vb 0 1 8 (JB hK h2) (oX (i:=66) (by kernel_rfl))) (am (bO 0) bV)))) (aD 1 ?_);cases h;exact eu
end
noncomputable section
variable(M:Nat→Prop)(w0:az)(r:Int×Int)(v1:ai)(v2:bW)  
variable{M w0 r v1 v2}{K:Kn}{n:Nat}
theorem DH(hK:aj K)(h:ru K n v1 v2=some r):aN Try.prog 54 [.agg (aV v1),.agg (cg v2)] (fun v _=>v=.tup [iI r.1,iI r.2]):=by
 refine bd (cat Try.f54 (pn 1)) Try.func54 Try.ntmps54 fun M w0=>(ba ⟨[(0,.agg (aV v1)),(1,.agg (cg v2))],[],[],[]⟩ ?_);unfold ru at h;refine aw 6 7 3 (ag 2 ?_);obtain⟨v3,h1,h⟩:=bind_some h;refine aG (wF hK h1) (ab (aw 2 3 1 (ag 2 ?_)));obtain⟨v4,h2,h⟩:=bind_some h;refine aG (xv hK h2) (ab (aw 2 3 1 (bJ [4,5,6] [6] [] ?_)));obtain⟨v5,h3,h⟩:=bind_some h;obtain⟨v6,h4,h⟩:=bind_some h;obtain⟨v7,h5,h⟩:=bind_some h;obtain⟨v8,h6,h⟩:=bind_some h;obtain⟨v9,h7,h⟩:=bind_some h;obtain⟨v10,h8,h⟩:=bind_some h;refine bT 2 (nu 16 [.agg (aA v4),.agg (aA v4),iI v3.1,iI v5,.agg (bq v6),iI v7,.agg (aA v4),.agg (aA v4),iI v3.2,iI v8,.agg (bq v9),iI v10]) [] [] [bN Try.prog 28 Try.f54 (pn 30) 12,bN Try.prog 28 Try.f54 (pn 30) 13] (aL (vz 3) (am (bX 0 1 19 (oO hK h3)) (am (bX 0 1 20 (nn hK h4)) (am (bX 0 1 21 (kD hK h5)) (aL [.v 0 2,.v 0 2,.v 0 2] (am (bX 0 2 25 (oO hK h6)) (am (bX 0 2 26 (nn hK h7)) (am (bX 0 1 27 (kD hK h8)) (am (bO 0) (am (bO 1) bV)))))))))) (aD 1 ?_)
 cases h;exact fj
end
noncomputable section
variable(M:Nat→Prop)(w0:az)(r:Int×Int)(v1:ai)  
variable{M w0 r v1}{K:Kn}{n:Nat}
theorem BT(hK:aj K)(h:rI K n v1=some r):aN Try.prog 37 [.agg (aV v1)] (fun v _=>v=.tup [iI r.1,iI r.2]):=by
 refine bd (cat Try.f37 (pn 1)) Try.func37 Try.ntmps37 fun M w0=>(ba ⟨[(0,.agg (aV v1))],[],[],[]⟩ ?_);unfold rI at h;refine aw 6 7 3 (bJ [1] [1] [] ?_);obtain⟨v2,h1,h⟩:=bind_some h;obtain⟨v3,h2,h⟩:=bind_some h;refine bT 2 (nu 4 [.agg (aV v1),.agg (cg v2),.tup [iI v3.1,iI v3.2],iI v3.1,iI v3.2]) [] [] [bN Try.prog 9 Try.f37 (pn 6) 5,bN Try.prog 9 Try.f37 (pn 6) 6] (aL [.v 0 1] (am (bX 0 1 5 (qI hK h1)) (am (bX 0 1 6 (DH hK h2)) (aL (vz 2) (am (bO 0) (am (bO 1) bV)))))) (aD 1 ?_);cases h;exact fj
end
noncomputable section
variable(M:Nat→Prop)(w0:az)(r:(List af)×Int)(v1:List ai)(v2:aF)(v3 v10 v11:Int)(v12:List af)(v14:Int)(v15:List af)(m1:Nat)(L1:Int→Int→(List af)→Option ((List af)×Int))
abbrev u9:Cx:=⟨Try.prog,42,M,w0⟩
abbrev ss:=bodyPost Try.prog Try.f38 (br M w0 (fun v s=>v=.tup [.ref 35,iI r.2]∧look 35 s.r=some ⟨64,67,lm aB r.1⟩))
abbrev Bn(ks:List ak)(s:AS):=VE (u9 M w0) (ss M w0 r) ks .normal s
abbrev oh(n:Nat):ak:=.c (cat Try.f38 (pn n))
abbrev ud:List ak:=[.b 0,oh 31]
abbrev rX:List ak:=kl (u9 M w0) (ss M w0 r) ud (cat Try.f38 (pn 244)) m1::ud
def JE:AS:=⟨[(0,.sl (lm aP v1)),(2,iI v3),(4,.ptr 4 0),(8,.ref 35),(9,iI v14),(10,iI v11)],[(4,aA v2)],[(35,⟨64,67,lm aB v15⟩)],[4,35]⟩
def yP:AS:=⟨[(0,.sl (lm aP v1)),(2,iI v3),(4,.ptr 4 0),(8,.ref 35),(9,iI v10),(10,iI v11)],[(4,aA v2)],[(35,⟨64,67,lm aB v12⟩)],[4,35]⟩
abbrev uZ:Prop:=∀{v10:Int} {v11:Int} {v12:(List af)},L1 v10 v11 v12=some r→LP (u9 M w0) (ss M w0 r) ud (cat Try.f38 (pn 244)) m1 (yP v1 v2 v3 v10 v11 v12)
variable{M w0 r v1 v2 v3 v10 v11 v12 v14 v15 m1 L1}{K:Kn}{n:Nat}
theorem yI(hK:aj K)(hL1:uZ M w0 r v1 v2 v3 m1 L1)(h:jZ K n v1 v2 v3 v11 L1 v14 v15=some r):Bn M w0 r (.b 1::oh 979::rX M w0 r m1) (JE v1 v2 v3 v11 v14 v15):=by
 unfold jZ at h;exact ac 2 (bo (hL1 h))
theorem JP(hK:aj K)(hL1:uZ M w0 r v1 v2 v3 m1 L1)(h:ii K n v1 v2 v3 L1 v10 v11 v12=some r):Bn M w0 r (oh 244::rX M w0 r m1) (yP v1 v2 v3 v10 v11 v12):=by
 unfold ii at h;refine bL 4 5 3 2 (ag 2 (ax (bu aP v1) (ab ?_)));obtain⟨h13,h⟩|⟨h13,h⟩:=ah h
 ·refine ae 14 h13 (cG 8 9 1 3 5 (ag 2 ?_));obtain⟨h14,h⟩:=aQ h;refine ax (bv aP aV h14 (ey) (dM)) (ab ?_);obtain⟨v13,h15,h⟩:=bP h;refine bt (ks':=oh 3913 :: .b 1::oh 979::rX M w0 r m1) 0 ⟨[(0,.sl (lm aP v1)),(2,iI v3),(4,.ptr 4 0),(8,.ref 35),(9,iI v10),(10,iI v11),(22,.bool v13)],[(4,aA v2)],[(35,⟨64,67,lm aB v12⟩)],[4,35]⟩ ?_ (by subst h15;kernel_rfl);obtain⟨h16,h⟩|⟨h16,h⟩:=ah h
  ·refine ae 22 h16 (aw 4 5 2 (bJ [0,2,4,8,9,10] [4] [35] ?_));obtain⟨h17,h⟩:=aQ h;obtain⟨h18,h⟩:=aQ h;exact bT 2 (nu 23 [.ref 35,iI v10,iI v3,.ptr 4 38,iI v2.LineHeight,.sl (lm aP v1),iI v11,.cptr (aV (gD v1 v11)),.cptr (List.drop 55 (aV (gD v1 v11))),.str ((gD v1 v11).Text),.agg (List.set (aK ({ bl with Kind:=2,Y:=v10,W:=v3,H:=v2.LineHeight,Text:=(gD v1 v11).Text }:af)) 66 (.nils)),.sl (lm aB [({ bl with Kind:=2,Y:=v10,W:=v3,H:=v2.LineHeight,Text:=(gD v1 v11).Text }:af)])]) [] [] [jy 35 35 ⟨64,67,lm aB (v12++[({ bl with Kind:=2,Y:=v10,W:=v3,H:=v2.LineHeight,Text:=(gD v1 v11).Text }:af)])⟩,bN Try.prog 42 Try.f38 (pn 15652) 13] (aL [.v 0 1,.v 0 2,.v 0 2,.v 0 2,.v 0 2,.v 0 2,.v 0 2] (am (im (lo:=0) (k:=2) (eL ⟨(by kernel_rfl),(ff (bv aP aV h17 (ey) (dM)) (by kernel_rfl))⟩ (eL ⟨(by kernel_rfl),(ff (bv aP aV h17 (ey) (dM)) (by kernel_rfl))⟩ jz))) (aL [.v 0 2,.v 0 2,.v 0 2] (ca (eV aB ([({ bl with Kind:=2,Y:=v10,W:=v3,H:=v2.LineHeight,Text:=(gD v1 v11).Text }:af)]:List af) (new:=[aK ({ bl with Kind:=2,Y:=v10,W:=v3,H:=v2.LineHeight,Text:=(gD v1 v11).Text }:af)]) (by simp only[List.map_cons,List.map_nil,cT])) (am (gt (m:=0) (ct 35 35 64 67 aB (rfl) (eY) h18)) (am (bO 1) bV)))))) (ac 1 (yI hK hL1 h))
  ·exact ae 22 h16 (ac 2 (yI hK hL1 h))
 ·refine ae 14 h13 (aD 8 ?_);cases h;exact pM
theorem IQ(hK:aj K)(m:Nat):uZ M w0 r v1 v2 v3 m (jm K n v1 v2 v3 m):=by
 induction m with
 | zero=>intro v10 v11 v12 h;cases h
 | succ m ih=>intro v10 v11 v12 h;have h:ii K n v1 v2 v3 (jm K n v1 v2 v3 m) v10 v11 v12=some r:=h;exact bi (JP hK ih h)
theorem HR(hK:aj K)(h:nz K n v1 v2 v3=some r):aN Try.prog 38 [.sl (lm aP v1),.agg (aA v2),iI v3] (fun v s=>v=.tup [.ref 35,iI r.2]∧look 35 s.r=some ⟨64,67,lm aB r.1⟩):=by
 refine bd (cat Try.f38 (pn 1)) Try.func38 Try.ntmps38 fun M w0=>(ba ⟨[(0,.sl (lm aP v1)),(1,.agg (aA v2)),(2,iI v3)],[],[],[]⟩ ?_);unfold nz at h;exact gi 122 0 31 10 (bJ [0,2,4,8,9,10] [4] [] (fr 35 8 64 67 (ac 0 (cf (p:=pn 122) n (IQ hK n h)))))
end
noncomputable section
variable(M:Nat→Prop)(w0:az)(r:Int×Int)(v1:List ai)(v2:aF)(v3 v4 v5:Int)(m1:Nat)(L1:Int→Int→Int→Option (Int×Int))
abbrev ta:Cx:=⟨Try.prog,31,M,w0⟩
abbrev uW:=bodyPost Try.prog Try.f39 (br M w0 (fun v _=>v=.tup [iI r.1,iI r.2]))
abbrev Ft(ks:List ak)(s:AS):=VE (ta M w0) (uW M w0 r) ks .normal s
abbrev yO(n:Nat):ak:=.c (cat Try.f39 (pn n))
abbrev rc:List ak:=[.b 0,yO 31]
abbrev DX:List ak:=kl (ta M w0) (uW M w0 r) rc (cat Try.f39 (pn 244)) m1::rc
def vF:AS:=⟨[(0,.sl (lm aP v1)),(6,iI v3),(7,iI v4),(8,iI v5)],[],[],[]⟩
abbrev yU:Prop:=∀{v3:Int} {v4:Int} {v5:Int},L1 v3 v4 v5=some r→LP (ta M w0) (uW M w0 r) rc (cat Try.f39 (pn 244)) m1 (vF v1 v3 v4 v5)
variable{M w0 r v1 v2 v3 v4 v5 m1 L1}{K:Kn}{n:Nat}
theorem Iy(hK:aj K)(hL1:yU M w0 r v1 m1 L1)(h:gU K n v1 L1 v3 v4 v5=some r):Ft M w0 r (yO 244::DX M w0 r m1) (vF v1 v3 v4 v5):=by
 unfold gU at h;refine bL 4 5 3 2 (ag 2 (ax (bu aP v1) (ab ?_)));obtain⟨h3,h⟩|⟨h3,h⟩:=ah h
 ·refine ae 13 h3 (cG 8 9 1 3 5 (ag 2 ?_));obtain⟨h4,h⟩:=aQ h;exact ax (bv aP aV h4 (ey) (dM)) (ab (ac 5 (bo (hL1 h))))
 ·refine ae 13 h3 (aD 8 ?_);cases h;exact fj
theorem DU(hK:aj K)(m:Nat):yU M w0 r v1 m (jJ K n v1 m):=by
 induction m with
 | zero=>intro v3 v4 v5 h;cases h
 | succ m ih=>intro v3 v4 v5 h;have h:gU K n v1 (jJ K n v1 m) v3 v4 v5=some r:=h;exact bi (Iy hK ih h)
theorem BB(hK:aj K)(h:l7 K n v1 v2=some r):aN Try.prog 39 [.sl (lm aP v1),.agg (aA v2)] (fun v _=>v=.tup [iI r.1,iI r.2]):=by
 refine bd (cat Try.f39 (pn 1)) Try.func39 Try.ntmps39 fun M w0=>(ba ⟨[(0,.sl (lm aP v1)),(1,.agg (aA v2))],[],[],[]⟩ ?_);unfold l7 at h;exact ac 10 (cf (p:=pn 122) n (DU hK n h))
end
end Go.Proofs.Ytnpmlepplfaijaa
