/- BlockMoved returns true for every input. Made by a program, but for what it leans on. -/
import Derived.Test.YtkciiamllegclaaRows
import Derived.Test.YtkciiamllegclaaSvGn
import Derived.Test.YtkciiamllegclaaSvZ8
namespace Go.Proofs.Ytkciiamllegclaa.blockMoved
open Go.ChangeShapes Go.WideShapes Go.ChangeAt Go.RowKit
set_option maxRecDepth 100000
set_option linter.all false
theorem own:ownKnob Try.prog.godebug=none:=by kernel_rfl
theorem laid:laidOutB Try.prog=true:=by kernel_rfl
theorem yX:∀ t∈Try.f8.params.toList,Try.prog.readableRec t=true∧t<Try.prog.types.size:=by
  intro t ht
  rw [Try.params8] at ht
  simp only [List.mem_cons,List.not_mem_nil,or_false] at ht
  rcases ht with rfl | rfl | rfl
  all_goals exact ⟨by kernel_rfl,of_decide_eq_true (by kernel_rfl)⟩
theorem lifted (os:Os) (started:os.Started) (H:Type) (enc:TypeId×Value→H) :
    ReturnsInHanded {} Try.checked os 8 .any (Rows.blockMovedSpec.pre6 enc Try.prog Try.f8 Rows.blockMovedRow.domain false) (Rows.blockMovedSpec.post enc Try.prog Try.f8 false true false false):=by
  refine returnsInHanded_of_change_sized (C:=Try.checked) own started (by kernel_rfl) Try.func8
    (ChangeSpec.witness6 (enc:=enc) (C:=Try.checked) false ⟨#[],#[.slice none 0 0,.int .i64 0,.int .u8 0],[]⟩ 8 (by kernel_rfl) (by kernel_rfl) (by kernel_rfl) (by kernel_rfl)) ?_
  intro W base args ds gs before hval0 hW hcnd hsized _
  letI z1:ZX:=⟨true⟩
  haveI n1 : @NZ z1 := @NZ.mk z1 rfl
  have hval:∀ (j:Nat) t v,Try.f8.params[j]?=some t→args[j]?=some v→Value.okWide Try.prog W .any base t v:=hval0
  have hW':=hW
  obtain ⟨p,q,hA0,hV,hbq,hfz,hnd⟩:=hW
  have hA:DataW.TrodAll enc Try.prog W 0 (fun _=>true) true Try.f8.params.toList args.toList ds p:=hA0
  obtain ⟨rfl,rfl⟩:=trodVars_none hV
  have hbp:before=p:=by simpa using hbq
  subst hbp
  have hdl:=qU _ _ _ _ hA
  rw [Try.params8] at hdl
  obtain ⟨avs,hT,hlen,hrel⟩:=sy (ts:=[39,37,5,9,35,3,31,32,33,4]) (base:=base) (by kernel_rfl) _ _ _ _ (by rw [Try.params8]; intro t ht; simp only [List.mem_cons,List.not_mem_nil,or_false] at ht; rcases ht with rfl | rfl | rfl<;>decide) hA (fun j t v h1 h2=>hval j t v (by simpa using h1) (by simpa using h2)) (by have e:Rows.blockMovedSpec.plain.varTypes Try.checked.prog=[]:=rfl; rw [e,List.append_nil,List.append_nil] at hsized; exact hsized)
  rw [Try.params8] at hT
  match avs,ds,hdl,hlen,hrel,hT,hW',hA with
  | [a0,a1,a2],[d0,d1,d2],_,hlen,hrel,hT,hW',hA =>
    obtain ⟨h0,h1,h2,_⟩:=hT
    unfold fI at h0; rw [if_neg (by rw [show fb Try.prog 39=false from by kernel_rfl]; exact fun h=>by cases h)] at h0
    obtain ⟨x0,hx0⟩:=y7 h0
    cases hx0
    unfold fI at h1; rw [if_neg (by rw [show fb Try.prog 3=false from by kernel_rfl]; exact fun h=>by cases h)] at h1
    obtain ⟨x1,hx1⟩:=cb h1
    cases hx1
    unfold fI at h2; rw [if_neg (by rw [show fb Try.prog 5=false from by kernel_rfl]; exact fun h=>by cases h)] at h2
    obtain ⟨x2,hx2⟩:=jl h2
    cases hx2
    letI z2:ZX:=⟨x0.isEmpty⟩
    obtain ⟨n,hn⟩:=QBlockMoved.holds x0 x1 x2 h0 h2 (fun h=>by cases x0 with | nil=>exact (h rfl).elim | cons x r=>rfl)
    have hrel2:∀ (i:Nat) (a:AV) (v:Value),[AV.sl (List.map aJ x0),AV.int .i64 x1,AV.int .u8 x2][i]?=some a→args.toList[i]?=some v → @Rel z2 cB W aG a v:=fun i a v ha hv=>by
      refine uY (z1:=z1) (z2:=z2) (hrel i a v ha hv) ?_
      match i,ha with
      | 0,ha =>
        simp only [List.getElem?_cons_zero,Option.some.injEq] at ha
        subst ha
        simp only [ls,List.isEmpty_map,List.all_map,Bool.and_eq_true,List.all_eq_true]
        exact ⟨by show (x0.isEmpty || !x0.isEmpty)=true; cases x0.isEmpty<;>rfl,fun x _=>rfl⟩
      | 1,ha=>simp at ha; subst ha; rfl
      | 2,ha=>simp at ha; subst ha; rfl
      | i+3,ha=>simp at ha
    have hc:=xw (wD (o4 n) hn) hlen hrel2
    rw [Array.toArray_toList] at hc
    refine hc.mono fun e W' ⟨he,hb⟩=>?_
    subst he
    exact ⟨_,rfl,xW laid rfl (tb:=4) (by kernel_rfl) Try.underlying4 rfl rfl rfl yX hW' hA hb⟩
theorem proved:Rows.BlockMovedSaid :=
  OpenClaim.holds_of_wide 8 Try.f8 rfl rfl rfl rfl rfl rfl rfl ⟨rfl,rfl,rfl,rfl,rfl⟩ rfl rfl rfl rfl rfl (by kernel_rfl) Try.func8 (by kernel_rfl)
    (of_decide_eq_true (by kernel_rfl)) (by unfold Func.isWrapper; first | (rw [if_pos (by decide +kernel)]; kernel_rfl) | (rw [if_neg (by decide +kernel)]; exact ⟨rfl,rfl⟩))
    (fun os started H enc _=>lifted os started H enc)
#print axioms proved
end Go.Proofs.Ytkciiamllegclaa.blockMoved
