/- TablePlaces returns true for every input. Made by a program, but for what it leans on. -/
import Derived.Test.YtolhpahjgddjkaaRows
import Derived.Test.YtolhpahjgddjkaaCpGop
import Derived.Test.YtolhpahjgddjkaaCpGn
import Derived.Test.YtolhpahjgddjkaaCpZ34
namespace Go.Proofs.Ytolhpahjgddjkaa.tablePlaces
open Go.ChangeShapes Go.WideShapes Go.ChangeAt Go.RowKit
set_option maxRecDepth 100000
set_option linter.all false
theorem own:ownKnob Try.prog.godebug=none:=by kernel_rfl
theorem laid:laidOutB Try.prog=true:=by kernel_rfl
theorem read_ok:∀ t∈Try.f3.params.toList,Try.prog.readableRec t=true∧t<Try.prog.types.size:=by
  intro t ht
  rw [Try.params3] at ht
  simp only [List.mem_cons,List.not_mem_nil,or_false] at ht
  subst ht
  all_goals exact ⟨by kernel_rfl,of_decide_eq_true (by kernel_rfl)⟩
theorem lifted (os:Os) (started:os.Started) (H:Type) (enc:TypeId×Value→H) :
    ReturnsInHanded {} Try.checked os 3 .any (Rows.tablePlacesSpec.pre6 enc Try.prog Try.f3 Rows.tablePlacesRow.domain false) (Rows.tablePlacesSpec.post enc Try.prog Try.f3 false true false false):=by
  refine returnsInHanded_of_change (C:=Try.checked) own started (by kernel_rfl) Try.func3
    (ChangeSpec.witness6 (enc:=enc) (C:=Try.checked) false ⟨#[],#[.slice none 0 0],[]⟩ 8 (by kernel_rfl) (by kernel_rfl) (by kernel_rfl) (by kernel_rfl)) ?_
  intro W base args ds gs before hval0 hW hcnd _
  have hval:∀ (j:Nat) t v,Try.f3.params[j]?=some t→args[j]?=some v→Value.okWide Try.prog W .any base t v:=hval0
  have hW':=hW
  obtain ⟨p,q,hA0,hV,hbq,hfz,hnd⟩:=hW
  have hA:DataW.TrodAll enc Try.prog W 0 (fun _=>true) true Try.f3.params.toList args.toList ds p:=hA0
  obtain ⟨rfl,rfl⟩:=trodVars_none hV
  have hbp:before=p:=by simpa using hbq
  subst hbp
  have hdl:=iz _ _ _ _ hA
  rw [Try.params3] at hdl
  obtain ⟨avs,hT,hlen,hrel⟩:=open_args2 (ts:=[22,24,73,3]) (base:=base) (by kernel_rfl) _ _ _ _ (by rw [Try.params3]; intro t ht; simp only [List.mem_cons,List.not_mem_nil,or_false] at ht; subst ht; decide) hA (fun j t v h1 h2=>hval j t v (by simpa using h1) (by simpa using h2))
  rw [Try.params3] at hT
  match avs,ds,hdl,hlen,hrel,hT,hW',hA with
  | [a0],[d0],_,hlen,hrel,hT,hW',hA =>
    obtain ⟨h0,_⟩:=hT
    unfold HasV at h0; rw [if_neg (by rw [show rowT Try.prog 22=false from by kernel_rfl]; exact fun h=>by cases h)] at h0
    obtain ⟨x0,hx0⟩:=op_t22 h0
    cases hx0
    obtain ⟨n,hn⟩:=QTablePlaces.holds x0 h0
    have hc:=acalls_law (jA (KN_ok n) hn) hlen hrel
    rw [Array.toArray_toList] at hc
    refine hc.mono fun e W' ⟨he,hb⟩=>?_
    subst he
    exact ⟨_,rfl,law_post laid rfl (tb:=4) (by kernel_rfl) Try.underlying4 rfl rfl rfl read_ok hW' hA hb⟩
theorem proved:Rows.TablePlacesSaid :=
  OpenClaim.holds_of_wide 3 Try.f3 rfl rfl rfl rfl rfl rfl rfl ⟨rfl,rfl,rfl,rfl,rfl⟩ rfl rfl rfl rfl rfl (by kernel_rfl) Try.func3 (by kernel_rfl)
    (of_decide_eq_true (by kernel_rfl)) (by unfold Func.isWrapper; first | (rw [if_pos (by decide +kernel)]; kernel_rfl) | (rw [if_neg (by decide +kernel)]; exact ⟨rfl,rfl⟩))
    (fun os started H enc _=>lifted os started H enc)
#print axioms proved
end Go.Proofs.Ytolhpahjgddjkaa.tablePlaces
