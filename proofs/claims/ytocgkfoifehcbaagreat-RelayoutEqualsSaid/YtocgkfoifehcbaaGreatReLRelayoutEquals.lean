/- RelayoutEquals returns true for every input. Made by a program, but for what it leans on. -/
import Derived.Test.YtocgkfoifehcbaaGreatRows
import Derived.Test.YtocgkfoifehcbaaGreatReGn
import Derived.Test.YtocgkfoifehcbaaGreatReZ14
namespace Go.Proofs.YtocgkfoifehcbaaGreat.relayoutEquals
open Go.ChangeShapes Go.WideShapes Go.ChangeAt Go.RowKit
set_option maxRecDepth 100000
set_option linter.all false
theorem own:ownKnob Tryz.prog.godebug=none:=by kernel_rfl
theorem laid:laidOutB Tryz.prog=true:=by kernel_rfl
theorem aiP:∀ t∈Tryz.f6.params.toList,Tryz.prog.readableRec t=true∧t<Tryz.prog.types.size:=by
  intro t ht
  rw [Tryz.params6] at ht
  simp only [List.mem_cons,List.not_mem_nil,or_false] at ht
  rcases ht with rfl | rfl | rfl
  all_goals exact ⟨by kernel_rfl,of_decide_eq_true (by kernel_rfl)⟩
theorem lifted (os:Os) (started:os.Started) (H:Type) (enc:TypeId×Value→H) :
    ReturnsInHanded {} Tryz.checked os 6 .any (Rows.relayoutEqualsSpec.pre6 enc Tryz.prog Tryz.f6 Rows.relayoutEqualsRow.domain false) (Rows.relayoutEqualsSpec.post enc Tryz.prog Tryz.f6 false true false false):=by
  refine returnsInHanded_of_change (C:=Tryz.checked) own started (by kernel_rfl) Tryz.func6
    (ChangeSpec.witness6 (enc:=enc) (C:=Tryz.checked) false ⟨#[],#[.slice none 0 0,.slice none 0 0,.agg #[.int .i64 0,.int .i64 0]],[]⟩ 8 (by kernel_rfl) (by kernel_rfl) (by kernel_rfl) (by kernel_rfl)) ?_
  intro W base args ds gs before hval0 hW hcnd _
  have hval:∀ (j:Nat) t v,Tryz.f6.params[j]?=some t→args[j]?=some v→Value.okWide Tryz.prog W .any base t v:=hval0
  have hW':=hW
  obtain ⟨p,q,hA0,hV,hbq,hfz,hnd⟩:=hW
  have hA:DataW.TrodAll enc Tryz.prog W 0 (fun _=>true) true Tryz.f6.params.toList args.toList ds p:=hA0
  obtain ⟨rfl,rfl⟩:=trodVars_none hV
  have hbp:before=p:=by simpa using hbq
  subst hbp
  have hdl:=Ve _ _ _ _ hA
  rw [Tryz.params6] at hdl
  obtain ⟨avs,hT,hlen,hrel⟩:=Wo (ts:=[22,37,5,9,35,3,31,32,33,4,23,39,24]) (base:=base) (by kernel_rfl) _ _ _ _ (by rw [Tryz.params6]; intro t ht; simp only [List.mem_cons,List.not_mem_nil,or_false] at ht; rcases ht with rfl | rfl | rfl<;>decide) hA (fun j t v h1 h2=>hval j t v (by simpa using h1) (by simpa using h2))
  rw [Tryz.params6] at hT
  match avs,ds,hdl,hlen,hrel,hT,hW',hA with
  | [a0,a1,a2],[d0,d1,d2],_,hlen,hrel,hT,hW',hA =>
    obtain ⟨h0,h1,h2,_⟩:=hT
    unfold pE at h0; rw [if_neg (by rw [show qd Tryz.prog 22=false from by kernel_rfl]; exact fun h=>by cases h)] at h0
    obtain ⟨x0,hx0⟩:=ajy h0
    cases hx0
    unfold pE at h1; rw [if_neg (by rw [show qd Tryz.prog 23=false from by kernel_rfl]; exact fun h=>by cases h)] at h1
    obtain ⟨x1,hx1⟩:=adV h1
    cases hx1
    unfold pE at h2; rw [if_pos (by kernel_rfl)] at h2
    obtain ⟨cs2,rfl,h2⟩:=h2
    obtain ⟨x2,rfl⟩:=Zg h2
    obtain ⟨n,hn⟩:=QRelayoutEquals.holds x0 x1 x2 h0 h1 h2
    have hc:=ahb (Yi (LZ n) hn) hlen hrel
    rw [Array.toArray_toList] at hc
    refine hc.mono fun e W' ⟨he,hb⟩=>?_
    subst he
    exact ⟨_,rfl,akC laid rfl (tb:=4) (by kernel_rfl) Tryz.underlying4 rfl rfl rfl aiP hW' hA hb⟩
theorem proved:Rows.RelayoutEqualsSaid :=
  OpenClaim.holds_of_wide 6 Tryz.f6 rfl rfl rfl rfl rfl rfl rfl ⟨rfl,rfl,rfl,rfl,rfl⟩ rfl rfl rfl rfl rfl (by kernel_rfl) Tryz.func6 (by kernel_rfl)
    (of_decide_eq_true (by kernel_rfl)) (by unfold Func.isWrapper; first | (rw [if_pos (by decide +kernel)]; kernel_rfl) | (rw [if_neg (by decide +kernel)]; exact ⟨rfl,rfl⟩))
    (fun os started H enc _=>lifted os started H enc)
#print axioms proved
end Go.Proofs.YtocgkfoifehcbaaGreat.relayoutEquals
