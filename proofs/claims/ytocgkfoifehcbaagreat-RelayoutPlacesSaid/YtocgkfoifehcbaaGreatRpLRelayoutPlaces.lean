/- RelayoutPlaces returns true for every input. Made by a program, but for what it leans on. -/
import Derived.Test.YtocgkfoifehcbaaGreatRows
import Derived.Test.YtocgkfoifehcbaaGreatRpGn
import Derived.Test.YtocgkfoifehcbaaGreatRpZ17
namespace Go.Proofs.YtocgkfoifehcbaaGreat.relayoutPlaces
open Go.ChangeShapes Go.WideShapes Go.ChangeAt Go.RowKit
set_option maxRecDepth 100000
set_option linter.all false
theorem own:ownKnob Tryz.prog.godebug=none:=by kernel_rfl
theorem laid:laidOutB Tryz.prog=true:=by kernel_rfl
theorem ZW:∀ t∈Tryz.f9.params.toList,Tryz.prog.readableRec t=true∧t<Tryz.prog.types.size:=by
  intro t ht
  rw [Tryz.params9] at ht
  simp only [List.mem_cons,List.not_mem_nil,or_false] at ht
  rcases ht with rfl | rfl | rfl
  all_goals exact ⟨by kernel_rfl,of_decide_eq_true (by kernel_rfl)⟩
theorem lifted (os:Os) (started:os.Started) (H:Type) (enc:TypeId×Value→H) :
    ReturnsInHanded {} Tryz.checked os 9 .any (Rows.relayoutPlacesSpec.pre6 enc Tryz.prog Tryz.f9 Rows.relayoutPlacesRow.domain false) (Rows.relayoutPlacesSpec.post enc Tryz.prog Tryz.f9 false true false false):=by
  refine returnsInHanded_of_change (C:=Tryz.checked) own started (by kernel_rfl) Tryz.func9
    (ChangeSpec.witness6 (enc:=enc) (C:=Tryz.checked) false ⟨#[],#[.slice none 0 0,.slice none 0 0,.int .i64 0],[]⟩ 8 (by kernel_rfl) (by kernel_rfl) (by kernel_rfl) (by kernel_rfl)) ?_
  intro W base args ds gs before hval0 hW hcnd _
  have hval:∀ (j:Nat) t v,Tryz.f9.params[j]?=some t→args[j]?=some v→Value.okWide Tryz.prog W .any base t v:=hval0
  have hW':=hW
  obtain ⟨p,q,hA0,hV,hbq,hfz,hnd⟩:=hW
  have hA:DataW.TrodAll enc Tryz.prog W 0 (fun _=>true) true Tryz.f9.params.toList args.toList ds p:=hA0
  obtain ⟨rfl,rfl⟩:=trodVars_none hV
  have hbp:before=p:=by simpa using hbq
  subst hbp
  have hdl:=NO _ _ _ _ hA
  rw [Tryz.params9] at hdl
  obtain ⟨avs,hT,hlen,hrel⟩:=Vd (ts:=[22,37,5,9,35,3,31,32,33,4,23,39]) (base:=base) (by kernel_rfl) _ _ _ _ (by rw [Tryz.params9]; intro t ht; simp only [List.mem_cons,List.not_mem_nil,or_false] at ht; rcases ht with rfl | rfl | rfl<;>decide) hA (fun j t v h1 h2=>hval j t v (by simpa using h1) (by simpa using h2))
  rw [Tryz.params9] at hT
  match avs,ds,hdl,hlen,hrel,hT,hW',hA with
  | [a0,a1,a2],[d0,d1,d2],_,hlen,hrel,hT,hW',hA =>
    obtain ⟨h0,h1,h2,_⟩:=hT
    unfold re at h0; rw [if_neg (by rw [show oM Tryz.prog 22=false from by kernel_rfl]; exact fun h=>by cases h)] at h0
    obtain ⟨x0,hx0⟩:=ajZ h0
    cases hx0
    unfold re at h1; rw [if_neg (by rw [show oM Tryz.prog 23=false from by kernel_rfl]; exact fun h=>by cases h)] at h1
    obtain ⟨x1,hx1⟩:=abm h1
    cases hx1
    unfold re at h2; rw [if_neg (by rw [show oM Tryz.prog 3=false from by kernel_rfl]; exact fun h=>by cases h)] at h2
    obtain ⟨x2,hx2⟩:=fH h2
    cases hx2
    obtain ⟨n,hn⟩:=QRelayoutPlaces.holds x0 x1 x2 h0 h1 h2
    have hc:=Zu (ail (RV n) hn) hlen hrel
    rw [Array.toArray_toList] at hc
    refine hc.mono fun e W' ⟨he,hb⟩=>?_
    subst he
    exact ⟨_,rfl,ad1 laid rfl (tb:=4) (by kernel_rfl) Tryz.underlying4 rfl rfl rfl ZW hW' hA hb⟩
theorem proved:Rows.RelayoutPlacesSaid :=
  OpenClaim.holds_of_wide 9 Tryz.f9 rfl rfl rfl rfl rfl rfl rfl ⟨rfl,rfl,rfl,rfl,rfl⟩ rfl rfl rfl rfl rfl (by kernel_rfl) Tryz.func9 (by kernel_rfl)
    (of_decide_eq_true (by kernel_rfl)) (by unfold Func.isWrapper; first | (rw [if_pos (by decide +kernel)]; kernel_rfl) | (rw [if_neg (by decide +kernel)]; exact ⟨rfl,rfl⟩))
    (fun os started H enc _=>lifted os started H enc)
#print axioms proved
end Go.Proofs.YtocgkfoifehcbaaGreat.relayoutPlaces
