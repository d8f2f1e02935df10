/- InlineBreak returns true for every input. Made by a program, but for what it leans on. -/
import Derived.Test.YtnpmlepplfaijaaRows
import Derived.Test.YtnpmlepplfaijaaIbGop
import Derived.Test.YtnpmlepplfaijaaIbGn
import Derived.Test.YtnpmlepplfaijaaIbZ37
namespace Go.Proofs.Ytnpmlepplfaijaa.inlineBreak
open Go.ChangeShapes Go.WideShapes Go.ChangeAt Go.RowKit
set_option maxRecDepth 100000
set_option linter.all false
theorem own:ownKnob Try.prog.godebug=none:=by kernel_rfl
theorem laid:laidOutB Try.prog=true:=by kernel_rfl
theorem Ew:∀ t∈Try.f4.params.toList,Try.prog.readableRec t=true∧t<Try.prog.types.size:=by
  intro t ht
  rw [Try.params4] at ht
  simp only [List.mem_cons,List.not_mem_nil,or_false] at ht
  rcases ht with rfl | rfl
  all_goals exact ⟨by kernel_rfl,of_decide_eq_true (by kernel_rfl)⟩
theorem lifted (os:Os) (started:os.Started) (H:Type) (enc:TypeId×Value→H) :
    ReturnsInHanded {} Try.checked os 4 .any (Rows.inlineBreakSpec.pre6 enc Try.prog Try.f4 Rows.inlineBreakRow.domain false) (Rows.inlineBreakSpec.post enc Try.prog Try.f4 false true false false):=by
  refine returnsInHanded_of_change (C:=Try.checked) own started (by kernel_rfl) Try.func4
    (ChangeSpec.witness6 (enc:=enc) (C:=Try.checked) false ⟨#[],#[.slice none 0 0,.int .i64 0],[]⟩ 8 (by kernel_rfl) (by kernel_rfl) (by kernel_rfl) (by kernel_rfl)) ?_
  intro W base args ds gs before hval0 hW hcnd _
  have hval:∀ (j:Nat) t v,Try.f4.params[j]?=some t→args[j]?=some v→Value.okWide Try.prog W .any base t v:=hval0
  have hW':=hW
  obtain ⟨p,q,hA0,hV,hbq,hfz,hnd⟩:=hW
  have hA:DataW.TrodAll enc Try.prog W 0 (fun _=>true) true Try.f4.params.toList args.toList ds p:=hA0
  obtain ⟨rfl,rfl⟩:=trodVars_none hV
  have hbp:before=p:=by simpa using hbq
  subst hbp
  have hdl:=wE _ _ _ _ hA
  rw [Try.params4] at hdl
  obtain ⟨avs,hT,hlen,hrel⟩:=vL (ts:=[37,41,3,9,27,23,24,25,4,39,64,62]) (base:=base) (by kernel_rfl) _ _ _ _ (by rw [Try.params4]; intro t ht; simp only [List.mem_cons,List.not_mem_nil,or_false] at ht; rcases ht with rfl | rfl<;>decide) hA (fun j t v h1 h2=>hval j t v (by simpa using h1) (by simpa using h2))
  rw [Try.params4] at hT
  match avs,ds,hdl,hlen,hrel,hT,hW',hA with
  | [a0,a1],[d0,d1],_,hlen,hrel,hT,hW',hA =>
    obtain ⟨h0,h1,_⟩:=hT
    unfold gX at h0; rw [if_neg (by rw [show gk Try.prog 37=false from by kernel_rfl]; exact fun h=>by cases h)] at h0
    obtain ⟨x0,hx0⟩:=yv h0
    cases hx0
    unfold gX at h1; rw [if_neg (by rw [show gk Try.prog 3=false from by kernel_rfl]; exact fun h=>by cases h)] at h1
    obtain ⟨x1,hx1⟩:=bN h1
    cases hx1
    obtain ⟨n,hn⟩:=QInlineBreak.holds x0 x1 h0 h1
    have hc:=Bj (Aq (s5 n) hn) hlen hrel
    rw [Array.toArray_toList] at hc
    refine hc.mono fun e W' ⟨he,hb⟩=>?_
    subst he
    exact ⟨_,rfl,Ci laid rfl (tb:=4) (by kernel_rfl) Try.underlying4 rfl rfl rfl Ew hW' hA hb⟩
theorem proved:Rows.InlineBreakSaid :=
  OpenClaim.holds_of_wide 4 Try.f4 rfl rfl rfl rfl rfl rfl rfl ⟨rfl,rfl,rfl,rfl,rfl⟩ rfl rfl rfl rfl rfl (by kernel_rfl) Try.func4 (by kernel_rfl)
    (of_decide_eq_true (by kernel_rfl)) (by unfold Func.isWrapper; first | (rw [if_pos (by decide +kernel)]; kernel_rfl) | (rw [if_neg (by decide +kernel)]; exact ⟨rfl,rfl⟩))
    (fun os started H enc _=>lifted os started H enc)
#print axioms proved
end Go.Proofs.Ytnpmlepplfaijaa.inlineBreak
