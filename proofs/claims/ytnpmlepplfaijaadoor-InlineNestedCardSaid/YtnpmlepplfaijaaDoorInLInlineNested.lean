/- InlineNested returns true for every input, if two of Go's tables hold what their initialisers lay (the card ties them). Made by a program, but for what it leans on. -/
import Derived.Test.YtnpmlepplfaijaaDoorRows
import Derived.Test.YtnpmlepplfaijaaDoorInGop
import Derived.Test.YtnpmlepplfaijaaDoorInGn
import Derived.Test.YtnpmlepplfaijaaDoorInZ38
import Derived.Test.YtnpmlepplfaijaaDoorTie
import Derived.Test.YtnpmlepplfaijaaDoorCards
import Derived.SevenTiedAt
import Derived.Lib.LaidIn
import Derived.Lib.LaidU8T
import Derived.ChangeVars
import Derived.LaidLaws
import Derived.LaidHandle
namespace Go.Proofs.YtnpmlepplfaijaaDoor.inlineNested
open Go.ChangeShapes Go.WideShapes Go.ChangeAt Go.RowKit
set_option maxRecDepth 100000
set_option linter.all false
theorem own:ownKnob Tryd.prog.godebug=none:=by kernel_rfl
theorem laid:laidOutB Tryd.prog=true:=by kernel_rfl
theorem EE:∀ t∈Tryd.f3.params.toList,Tryd.prog.readableRec t=true∧t<Tryd.prog.types.size:=by
  intro t ht
  rw [Tryd.params3] at ht
  simp only [List.mem_cons,List.not_mem_nil,or_false] at ht
  rcases ht with rfl | rfl | rfl
  all_goals exact ⟨by kernel_rfl,of_decide_eq_true (by kernel_rfl)⟩
noncomputable def w6 (os:Os):World :=
  let w0:=World.holding Tryd.prog os ⟨#[],#[],[]⟩
  let put (h:Array Obj) (g:Nat) (cs:Array Value):Array Obj:=h.modify g fun
    | .cells _ t frozen=>.cells cs t frozen
    | o=>o
  let h1:=put w0.heap 0 (Lib.firstTab.map fun z=>Value.int .u8 z).toArray
  let h2:=put h1 1 ((List.range 16).flatMap fun i=>[Value.int .u8 (Lib.accLo i),Value.int .u8 (Lib.accHi i)]).toArray
  { w0 with heap:=h2 }
theorem La (os:Os) (args:Array Value):laidMetH Tryd.prog Rows.inlineNestedRow.laid ((w6 os).forCall (fun _ _=>0) ⟨#[],args,[]⟩).memory :=
  (LaidIn.of_run (l:=Rows.inlineNestedRow.laid) [1,0] 8 (by kernel_rfl) (by kernel_rfl) (by kernel_rfl) (by kernel_rfl)).met
theorem lifted (os:Os) (started:os.Started) (H:Type) (enc:TypeId×Value→H) :
    ReturnsInHanded {} Tryd.checked os 3 .any (fun w args=>(Rows.inlineNestedSpec.pre enc Tryd.prog Tryd.f3 Rows.inlineNestedRow.domain false w args∧laidMetH Tryd.prog Rows.inlineNestedRow.laid w)∧sizedMet enc Tryd.prog Tryd.f3 (OpenSpec.ofChange Rows.inlineNestedSpec) false w args) (Rows.inlineNestedSpec.post enc Tryd.prog Tryd.f3 false true false false):=by
  refine returnsInHanded_of_change_and (C:=Tryd.checked) (X:=fun w _=>laidMetH Tryd.prog Rows.inlineNestedRow.laid w) (fun _ _ _ hh h=>h.of_heap hh) own started (by kernel_rfl) Tryd.func3
    (ChangeSpec.witness_at (enc:=enc) (C:=Tryd.checked) (os:=os) (X:=fun w _=>laidMetH Tryd.prog Rows.inlineNestedRow.laid w) false (w6 os) #[.agg #[.int .u8 0,.int .u8 0,.string ⟨#[]⟩,.int .u8 0,.int .u8 0,.int .i64 0,.int .i64 0,.int .i64 0,.int .i64 0,.int .i64 0,.int .i64 0,.int .i64 0,.int .i64 0,.int .i64 0,.int .i64 0,.int .i64 0,.int .i64 0,.int .i64 0,.int .i64 0,.int .i64 0,.int .i64 0,.int .i64 0,.int .i64 0,.int .i64 0,.int .i64 0,.int .i64 0,.int .i64 0,.int .i64 0,.int .i64 0,.int .i64 0,.int .i64 0,.int .i64 0,.int .i64 0,.int .i64 0,.int .i64 0,.int .i64 0,.int .i64 0,.int .i64 0,.int .i64 0,.string ⟨#[]⟩,.string ⟨#[]⟩,.string ⟨#[]⟩,.int .i64 0,.int .i64 0,.int .i64 0,.int .i64 0,.int .i64 0,.int .i64 0,.bool false,.int .i64 0,.int .i64 0,.int .i64 0,.int .i64 0,.int .i64 0,.int .i64 0,.bool false,.int .i64 0,.int .i64 0],.string ⟨#[]⟩,.int .i64 0] 8 rfl (by kernel_rfl) (by kernel_rfl) (by kernel_rfl) (by kernel_rfl) (by kernel_rfl) (La os _)) ?_
  intro W base args ds gs before hval0 hW _ _ hL _
  have hval:∀ (j:Nat) t v,Tryd.f3.params[j]?=some t→args[j]?=some v→Value.okWide Tryd.prog W .any base t v:=hval0
  have hW':=hW
  obtain ⟨p,q,hA0,hV,hbq,hfz,hnd⟩:=hW
  have hA:DataW.TrodAll enc Tryd.prog W 0 (fun _=>true) true Tryd.f3.params.toList args.toList ds p:=hA0
  obtain ⟨rfl,rfl⟩:=trodVars_none hV
  have hbp:before=p:=by simpa using hbq
  subst hbp
  have hdl:=yr _ _ _ _ hA
  rw [Tryd.params3] at hdl
  obtain ⟨avs,hT,hlen,hrel⟩:=zG (ts:=[29,5,9,27,3,23,24,25,4]) (base:=base) (by kernel_rfl) _ _ _ _ (by rw [Tryd.params3]; intro t ht; simp only [List.mem_cons,List.not_mem_nil,or_false] at ht; rcases ht with rfl | rfl | rfl<;>decide) hA (fun j t v h1 h2=>hval j t v (by simpa using h1) (by simpa using h2))
  rw [Tryd.params3] at hT
  match avs,ds,hdl,hlen,hrel,hT,hW',hA with
  | [a0,a1,a2],[d0,d1,d2],_,hlen,hrel,hT,hW',hA =>
    obtain ⟨h0,h1,h2,_⟩:=hT
    unfold jD at h0; rw [if_pos (by kernel_rfl)] at h0
    obtain ⟨cs0,rfl,h0⟩:=h0
    obtain ⟨x0,rfl⟩:=JV h0
    unfold jD at h1; rw [if_neg (by rw [show jk Tryd.prog 9=false from by kernel_rfl]; exact fun h=>by cases h)] at h1
    obtain ⟨x1,hx1⟩:=nL h1
    cases hx1
    unfold jD at h2; rw [if_neg (by rw [show jk Tryd.prog 3=false from by kernel_rfl]; exact fun h=>by cases h)] at h2
    obtain ⟨x2,hx2⟩:=dr h2
    cases hx2
    obtain ⟨n,hn⟩:=QInlineNested.holds x0 x1 x2
    have htab:Tb W:=Go.Proofs.utf8Tabs_of_readsT (Go.Proofs.U8Types.of196 wH) ⟨by kernel_rfl,by kernel_rfl,by kernel_rfl,by kernel_rfl,by kernel_rfl,by kernel_rfl,by kernel_rfl⟩ (Lib.laidMet.reads hL (.tail _ (.head _))) (Lib.laidMet.reads hL (.head _))
    have hc:=GC (Ii (Bh n) hn) htab hlen hrel
    rw [Array.toArray_toList] at hc
    refine hc.mono fun e W' ⟨he,hb⟩=>?_
    subst he
    exact ⟨_,rfl,IR laid rfl (tb:=4) (by kernel_rfl) Tryd.underlying4 rfl rfl rfl EE hW' hA hb⟩
theorem FS:Rows.InlineNestedSaid :=
  OpenClaim.holds_of_wide 3 Tryd.f3 rfl rfl rfl rfl rfl rfl rfl ⟨rfl,rfl,rfl,rfl,rfl⟩ rfl rfl rfl rfl rfl (by kernel_rfl) Tryd.func3 (by kernel_rfl)
    (of_decide_eq_true (by kernel_rfl)) (by unfold Func.isWrapper; first | (rw [if_pos (by decide +kernel)]; kernel_rfl) | (rw [if_neg (by decide +kernel)]; exact ⟨rfl,rfl⟩))
    (fun os started H enc _=>lifted os started H enc)
theorem proved:Rows.InlineNestedCardSaid :=
  Claim7.holds_tied_plain_at Go.Looks.later [] [.data,.pinned] true (true,"89ea208ba386afa7190f23f490cce4be5d337339ecbdb65a1c1d675c9566cc47") false
    FS (fun _ h=>by cases h) (by kernel_rfl) (fun _ h=>by cases h) inlineNested_row_tie rfl ⟨rfl,rfl⟩ (by kernel_rfl) rfl
    (fun f fn hf hfn=>by
      obtain rfl:f=3:=Option.some.inj ((show Tryd.prog.funcNamed Rows.inlineNestedRow.func=some 3 by kernel_rfl).symm.trans hf) |>.symm
      obtain rfl:fn=Tryd.f3:=(Option.some.inj (Tryd.func3.symm.trans hfn)).symm
      exact ⟨by kernel_rfl,fun j t ht=>by
        rw [Tryd.params3] at ht
        have hm:t∈[29,9,3]:=by
          rcases j with _ | _ | _ | j
          · simp at ht; simp [←ht]
          · simp at ht; simp [←ht]
          · simp at ht; simp [←ht]
          · simp at ht
        simp only [List.mem_cons,List.not_mem_nil,or_false] at hm
        rcases hm with rfl | rfl | rfl
        · exact (show Tryd.prog.wantsStandIn 29=false by kernel_rfl)
        · exact (show Tryd.prog.wantsStandIn 9=false by kernel_rfl)
        · exact (show Tryd.prog.wantsStandIn 3=false by kernel_rfl)⟩)
    (by kernel_rfl)
#print axioms proved
end Go.Proofs.YtnpmlepplfaijaaDoor.inlineNested
