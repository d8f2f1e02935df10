/- InlineStyles returns true for every input. Made by a program, but for what it leans on. -/
import Derived.Test.YtnpmlepplfaijaaRows
import Derived.Test.YtnpmlepplfaijaaIsGop
import Derived.Test.YtnpmlepplfaijaaIsGn
import Derived.Test.YtnpmlepplfaijaaIsZ37
namespace Go.Proofs.Ytnpmlepplfaijaa.inlineStyles
open Go.ChangeShapes Go.WideShapes Go.ChangeAt Go.RowKit
set_option maxRecDepth 100000
set_option linter.all false
theorem own:ownKnob Try.prog.godebug=none:=by kernel_rfl
theorem laid:laidOutB Try.prog=true:=by kernel_rfl
theorem CA:∀ t∈Try.f3.params.toList,Try.prog.readableRec t=true∧t<Try.prog.types.size:=by
  intro t ht
  rw [Try.params3] at ht
  simp only [List.mem_cons,List.not_mem_nil,or_false] at ht
  rcases ht with rfl | rfl | rfl
  all_goals exact ⟨by kernel_rfl,of_decide_eq_true (by kernel_rfl)⟩
theorem lifted (os:Os) (started:os.Started) (H:Type) (enc:TypeId×Value→H) :
    ReturnsInHanded {} Try.checked os 3 .any (Rows.inlineStylesSpec.pre6 enc Try.prog Try.f3 Rows.inlineStylesRow.domain false) (Rows.inlineStylesSpec.post enc Try.prog Try.f3 false true false false):=by
  refine returnsInHanded_of_change (C:=Try.checked) own started (by kernel_rfl) Try.func3
    (ChangeSpec.witness6 (enc:=enc) (C:=Try.checked) false ⟨#[],#[.agg #[.int .u8 0,.int .u8 0,.string ⟨#[]⟩,.int .u8 0,.int .u8 0,.int .i64 0,.int .i64 0,.int .i64 0,.int .i64 0,.int .i64 0,.int .i64 0,.int .i64 0,.int .i64 0,.int .i64 0,.int .i64 0,.int .i64 0,.int .i64 0,.int .i64 0,.int .i64 0,.int .i64 0,.int .i64 0,.int .i64 0,.int .i64 0,.int .i64 0,.int .i64 0,.int .i64 0,.int .i64 0,.int .i64 0,.int .i64 0,.int .i64 0,.int .i64 0,.int .i64 0,.int .i64 0,.int .i64 0,.int .i64 0,.int .i64 0,.int .i64 0,.int .i64 0,.int .i64 0,.string ⟨#[]⟩,.string ⟨#[]⟩,.string ⟨#[]⟩,.int .i64 0,.int .i64 0,.int .i64 0,.int .i64 0,.int .i64 0,.int .i64 0,.bool false,.int .i64 0,.int .i64 0,.int .i64 0,.int .i64 0,.int .i64 0,.int .i64 0,.bool false,.int .i64 0,.int .i64 0],.int .i64 0,.int .i64 0],[]⟩ 8 (by kernel_rfl) (by kernel_rfl) (by kernel_rfl) (by kernel_rfl)) ?_
  intro W base args ds gs before hval0 hW hcnd _
  have hval:∀ (j:Nat) t v,Try.f3.params[j]?=some t→args[j]?=some v→Value.okWide Try.prog W .any base t v:=hval0
  have hW':=hW
  obtain ⟨p,q,hA0,hV,hbq,hfz,hnd⟩:=hW
  have hA:DataW.TrodAll enc Try.prog W 0 (fun _=>true) true Try.f3.params.toList args.toList ds p:=hA0
  obtain ⟨rfl,rfl⟩:=trodVars_none hV
  have hbp:before=p:=by simpa using hbq
  subst hbp
  have hdl:=tk _ _ _ _ hA
  rw [Try.params3] at hdl
  obtain ⟨avs,hT,hlen,hrel⟩:=wC (ts:=[29,5,9,27,3,23,24,25,4]) (base:=base) (by kernel_rfl) _ _ _ _ (by rw [Try.params3]; intro t ht; simp only [List.mem_cons,List.not_mem_nil,or_false] at ht; rcases ht with rfl | rfl | rfl<;>decide) hA (fun j t v h1 h2=>hval j t v (by simpa using h1) (by simpa using h2))
  rw [Try.params3] at hT
  match avs,ds,hdl,hlen,hrel,hT,hW',hA with
  | [a0,a1,a2],[d0,d1,d2],_,hlen,hrel,hT,hW',hA =>
    obtain ⟨h0,h1,h2,_⟩:=hT
    unfold fW at h0; rw [if_pos (by kernel_rfl)] at h0
    obtain ⟨cs0,rfl,h0⟩:=h0
    obtain ⟨x0,rfl⟩:=Bm h0
    unfold fW at h1; rw [if_neg (by rw [show gp Try.prog 3=false from by kernel_rfl]; exact fun h=>by cases h)] at h1
    obtain ⟨x1,hx1⟩:=cu h1
    cases hx1
    unfold fW at h2; rw [if_neg (by rw [show gp Try.prog 3=false from by kernel_rfl]; exact fun h=>by cases h)] at h2
    obtain ⟨x2,hx2⟩:=cu h2
    cases hx2
    obtain ⟨n,hn⟩:=QInlineStyles.holds x0 x1 x2 h0 h1 h2
    have hc:=El (EM (wR n) hn) hlen hrel
    rw [Array.toArray_toList] at hc
    refine hc.mono fun e W' ⟨he,hb⟩=>?_
    subst he
    exact ⟨_,rfl,Ev laid rfl (tb:=4) (by kernel_rfl) Try.underlying4 rfl rfl rfl CA hW' hA hb⟩
theorem proved:Rows.InlineStylesSaid :=
  OpenClaim.holds_of_wide 3 Try.f3 rfl rfl rfl rfl rfl rfl rfl ⟨rfl,rfl,rfl,rfl,rfl⟩ rfl rfl rfl rfl rfl (by kernel_rfl) Try.func3 (by kernel_rfl)
    (of_decide_eq_true (by kernel_rfl)) (by unfold Func.isWrapper; first | (rw [if_pos (by decide +kernel)]; kernel_rfl) | (rw [if_neg (by decide +kernel)]; exact ⟨rfl,rfl⟩))
    (fun os started H enc _=>lifted os started H enc)
#print axioms proved
end Go.Proofs.Ytnpmlepplfaijaa.inlineStyles
