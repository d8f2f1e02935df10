/- InlineText returns true for every input. Made by a program, but for what it leans on. -/
import Derived.Test.YtnpmlepplfaijaaRows
import Derived.Test.YtnpmlepplfaijaaItGop
import Derived.Test.YtnpmlepplfaijaaItGn
import Derived.Test.YtnpmlepplfaijaaItZ37
namespace Go.Proofs.Ytnpmlepplfaijaa.inlineText
open Go.ChangeShapes Go.WideShapes Go.ChangeAt Go.RowKit
set_option maxRecDepth 100000
set_option linter.all false
theorem own:ownKnob Try.prog.godebug=none:=by kernel_rfl
theorem laid:laidOutB Try.prog=true:=by kernel_rfl
theorem FJ:∀ t∈Try.f5.params.toList,Try.prog.readableRec t=true∧t<Try.prog.types.size:=by
  intro t ht
  rw [Try.params5] at ht
  simp only [List.mem_cons,List.not_mem_nil,or_false] at ht
  rcases ht with rfl | rfl
  all_goals exact ⟨by kernel_rfl,of_decide_eq_true (by kernel_rfl)⟩
theorem lifted (os:Os) (started:os.Started) (H:Type) (enc:TypeId×Value→H) :
    ReturnsInHanded {} Try.checked os 5 .any (Rows.inlineTextSpec.pre6 enc Try.prog Try.f5 Rows.inlineTextRow.domain false) (Rows.inlineTextSpec.post enc Try.prog Try.f5 false true false false):=by
  refine returnsInHanded_of_change (C:=Try.checked) own started (by kernel_rfl) Try.func5
    (ChangeSpec.witness6 (enc:=enc) (C:=Try.checked) false ⟨#[],#[.slice none 0 0,.int .i64 0],[]⟩ 8 (by kernel_rfl) (by kernel_rfl) (by kernel_rfl) (by kernel_rfl)) ?_
  intro W base args ds gs before hval0 hW hcnd _
  have hval:∀ (j:Nat) t v,Try.f5.params[j]?=some t→args[j]?=some v→Value.okWide Try.prog W .any base t v:=hval0
  have hW':=hW
  obtain ⟨p,q,hA0,hV,hbq,hfz,hnd⟩:=hW
  have hA:DataW.TrodAll enc Try.prog W 0 (fun _=>true) true Try.f5.params.toList args.toList ds p:=hA0
  obtain ⟨rfl,rfl⟩:=trodVars_none hV
  have hbp:before=p:=by simpa using hbq
  subst hbp
  have hdl:=zS _ _ _ _ hA
  rw [Try.params5] at hdl
  obtain ⟨avs,hT,hlen,hrel⟩:=xn (ts:=[32,29,5,9,27,3,23,24,25,4]) (base:=base) (by kernel_rfl) _ _ _ _ (by rw [Try.params5]; intro t ht; simp only [List.mem_cons,List.not_mem_nil,or_false] at ht; rcases ht with rfl | rfl<;>decide) hA (fun j t v h1 h2=>hval j t v (by simpa using h1) (by simpa using h2))
  rw [Try.params5] at hT
  match avs,ds,hdl,hlen,hrel,hT,hW',hA with
  | [a0,a1],[d0,d1],_,hlen,hrel,hT,hW',hA =>
    obtain ⟨h0,h1,_⟩:=hT
    unfold mI at h0; rw [if_neg (by rw [show jF Try.prog 32=false from by kernel_rfl]; exact fun h=>by cases h)] at h0
    obtain ⟨x0,hx0⟩:=Lv h0
    cases hx0
    unfold mI at h1; rw [if_neg (by rw [show jF Try.prog 3=false from by kernel_rfl]; exact fun h=>by cases h)] at h1
    obtain ⟨x1,hx1⟩:=c9 h1
    cases hx1
    obtain ⟨n,hn⟩:=QInlineText.holds x0 x1 h0 h1
    have hc:=K4 (G2 (xy n) hn) hlen hrel
    rw [Array.toArray_toList] at hc
    refine hc.mono fun e W' ⟨he,hb⟩=>?_
    subst he
    exact ⟨_,rfl,KO laid rfl (tb:=4) (by kernel_rfl) Try.underlying4 rfl rfl rfl FJ hW' hA hb⟩
theorem proved:Rows.InlineTextSaid :=
  OpenClaim.holds_of_wide 5 Try.f5 rfl rfl rfl rfl rfl rfl rfl ⟨rfl,rfl,rfl,rfl,rfl⟩ rfl rfl rfl rfl rfl (by kernel_rfl) Try.func5 (by kernel_rfl)
    (of_decide_eq_true (by kernel_rfl)) (by unfold Func.isWrapper; first | (rw [if_pos (by decide +kernel)]; kernel_rfl) | (rw [if_neg (by decide +kernel)]; exact ⟨rfl,rfl⟩))
    (fun os started H enc _=>lifted os started H enc)
#print axioms proved
end Go.Proofs.Ytnpmlepplfaijaa.inlineText
