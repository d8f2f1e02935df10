/- InlineRuns returns true for every input. Made by a program, but for what it leans on. -/
import Derived.Test.YtnpmlepplfaijaaGreatRows
import Derived.Test.YtnpmlepplfaijaaGreatIrGop
import Derived.Test.YtnpmlepplfaijaaGreatIrGn
import Derived.Test.YtnpmlepplfaijaaGreatIrZ46
namespace Go.Proofs.YtnpmlepplfaijaaGreat.inlineRuns
open Go.ChangeShapes Go.WideShapes Go.ChangeAt Go.RowKit
set_option maxRecDepth 100000
set_option linter.all false
theorem own:ownKnob Tryz.prog.godebug=none:=by kernel_rfl
theorem laid:laidOutB Tryz.prog=true:=by kernel_rfl
theorem Vr:∀ t∈Tryz.f3.params.toList,Tryz.prog.readableRec t=true∧t<Tryz.prog.types.size:=by
  intro t ht
  rw [Tryz.params3] at ht
  simp only [List.mem_cons,List.not_mem_nil,or_false] at ht
  rcases ht with rfl | rfl
  all_goals exact ⟨by kernel_rfl,of_decide_eq_true (by kernel_rfl)⟩
theorem lifted (os:Os) (started:os.Started) (H:Type) (enc:TypeId×Value→H) :
    ReturnsInHanded {} Tryz.checked os 3 .any (Rows.inlineRunsSpec.pre6 enc Tryz.prog Tryz.f3 Rows.inlineRunsRow.domain false) (Rows.inlineRunsSpec.post enc Tryz.prog Tryz.f3 false true false false):=by
  refine returnsInHanded_of_change (C:=Tryz.checked) own started (by kernel_rfl) Tryz.func3
    (ChangeSpec.witness6 (enc:=enc) (C:=Tryz.checked) false ⟨#[],#[.slice none 0 0,.int .i64 0],[]⟩ 8 (by kernel_rfl) (by kernel_rfl) (by kernel_rfl) (by kernel_rfl)) ?_
  intro W base args ds gs before hval0 hW hcnd _
  have hval:∀ (j:Nat) t v,Tryz.f3.params[j]?=some t→args[j]?=some v→Value.okWide Tryz.prog W .any base t v:=hval0
  have hW':=hW
  obtain ⟨p,q,hA0,hV,hbq,hfz,hnd⟩:=hW
  have hA:DataW.TrodAll enc Tryz.prog W 0 (fun _=>true) true Tryz.f3.params.toList args.toList ds p:=hA0
  obtain ⟨rfl,rfl⟩:=trodVars_none hV
  have hbp:before=p:=by simpa using hbq
  subst hbp
  have hdl:=Fl _ _ _ _ hA
  rw [Tryz.params3] at hdl
  obtain ⟨avs,hT,hlen,hrel⟩:=D4 (ts:=[22,65,5,9,43,3,39,40,41,4]) (base:=base) (by kernel_rfl) _ _ _ _ (by rw [Tryz.params3]; intro t ht; simp only [List.mem_cons,List.not_mem_nil,or_false] at ht; rcases ht with rfl | rfl<;>decide) hA (fun j t v h1 h2=>hval j t v (by simpa using h1) (by simpa using h2))
  rw [Tryz.params3] at hT
  match avs,ds,hdl,hlen,hrel,hT,hW',hA with
  | [a0,a1],[d0,d1],_,hlen,hrel,hT,hW',hA =>
    obtain ⟨h0,h1,_⟩:=hT
    unfold pk at h0; rw [if_neg (by rw [show nL Tryz.prog 22=false from by kernel_rfl]; exact fun h=>by cases h)] at h0
    obtain ⟨x0,hx0⟩:=PD h0
    cases hx0
    unfold pk at h1; rw [if_neg (by rw [show nL Tryz.prog 3=false from by kernel_rfl]; exact fun h=>by cases h)] at h1
    obtain ⟨x1,hx1⟩:=dL h1
    cases hx1
    obtain ⟨n,hn⟩:=QInlineRuns.holds x0 x1 h0 h1
    have hc:=Pj (VW (GH n) hn) hlen hrel
    rw [Array.toArray_toList] at hc
    refine hc.mono fun e W' ⟨he,hb⟩=>?_
    subst he
    exact ⟨_,rfl,S7 laid rfl (tb:=4) (by kernel_rfl) Tryz.underlying4 rfl rfl rfl Vr hW' hA hb⟩
theorem proved:Rows.InlineRunsSaid :=
  OpenClaim.holds_of_wide 3 Tryz.f3 rfl rfl rfl rfl rfl rfl rfl ⟨rfl,rfl,rfl,rfl,rfl⟩ rfl rfl rfl rfl rfl (by kernel_rfl) Tryz.func3 (by kernel_rfl)
    (of_decide_eq_true (by kernel_rfl)) (by unfold Func.isWrapper; first | (rw [if_pos (by decide +kernel)]; kernel_rfl) | (rw [if_neg (by decide +kernel)]; exact ⟨rfl,rfl⟩))
    (fun os started H enc _=>lifted os started H enc)
#print axioms proved
end Go.Proofs.YtnpmlepplfaijaaGreat.inlineRuns
