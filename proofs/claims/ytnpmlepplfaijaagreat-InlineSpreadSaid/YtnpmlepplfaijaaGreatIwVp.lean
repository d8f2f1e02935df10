/- Own slices whose cells hold maps that nobody else knows. No program in sight. -/
import Derived.Test.YtnpmlepplfaijaaGreatIwVz
import Derived.Test.YtnpmlepplfaijaaGreatIwVdz
import Derived.MapKept
namespace Go.Proofs.YtnpmlepplfaijaaGreat
set_option linter.all false
open Go.RowKit
section
variable{cx:Cx}{Q:Exit→Act→World→Prop}{ks:List aq}{s:AS}{all:Array Oper}{f:Func}{p:List Nat}{i:Nat}
def eP(s:AS):Bool:=(s.u.all fun k=>Nat.ble (k+1) 1000000)&&((s.o.all fun q=>Nat.ble (q.1+1) c7)&&(s.r.all fun q=>Nat.ble (q.1+1) c7))
theorem ow{α:Type}:∀{l:List (Nat×α)} {k:Nat} {v:α},look k l=some v→(k,v)∈l
 | [],k,v,h=>by cases h
 | (j,x)::r,k,v,h=>by
  simp only[look]at h;split at h
  ·rename_i e;subst e;injection h with h;subst h;exact List.mem_cons_self
  ·exact List.mem_cons_of_mem _ (ow h)
theorem C2{s:AS}(h:eP s=true){i:Nat}{cs:List AV}(hi:look i s.o=some cs):i<c7:=by
 simp only[eP,Bool.and_eq_true,List.all_eq_true]at h;exact Nat.le_of_ble_eq_true (h.2.1 _ (ow hi))
theorem pV{s:AS}(h:eP s=true){i:Nat}{a:bo}(hi:look i s.r=some a):i<c7:=by
 simp only[eP,Bool.and_eq_true,List.all_eq_true]at h;exact Nat.le_of_ble_eq_true (h.2.2 _ (ow hi))
theorem F0{M:Nat→Prop}{w0:aF}{w:World}{ι:Env}{s:AS}(hs:HS M w0 w ι s)(h:eP s=true){i:Nat}{v:Value}(hp:w0.pv i=some v):False:=by
 have h2:=(hs.pin i v hp).2;simp only[eP,Bool.and_eq_true,List.all_eq_true]at h;have:=Nat.le_of_ble_eq_true (h.1 _ (by simpa using h2));unfold cW at this;omega
theorem l5(id q:Nat):c7≤nm id q:=Nat.le_add_right _ _
mutual
/-- Names no map in a cell. -/
def AV.dD:AV→Bool
 | .mref _ _=>false
 | .ptr i _=>Nat.ble (i+1) c7
 | .eptr i _ _ _=>Nat.ble (i+1) c7
 | .sref i _ _ _=>Nat.ble (i+1) c7
 | .pp i _ _=>Nat.ble (i+1) c7
 | .sit i _ _ _=>Nat.ble (i+1) c7
 | .ref i=>Nat.ble (i+1) c7
 | .lk i _=>Nat.ble (i+1) c7
 | .agg cs=>gC cs
 | .tup cs=>gC cs
 | .fno _ cs=>gC cs
 | _=>true
def gC:List AV→Bool
 | []=>true
 | c::r=>c.dD&&gC r
end
theorem js:∀{l:List AV},gC l=true→∀(i:Nat) (x:AV),l[i]?=some x→x.dD=true
 | [],_,i,x,hx=>by simp at hx
 | c::r,h,0,x,hx=>by simp only[gC,Bool.and_eq_true]at h;simp at hx;subst hx;exact h.1
 | c::r,h,i+1,x,hx=>by simp only[gC,Bool.and_eq_true]at h;simp at hx;exact js h.2 i x hx
theorem Rel.dD{N:Nat→Prop}{w:World}{ι:Env}{v:AV}{x:Value}(h:Rel N w ι v x){κ:Nat}(hκ:c7≤κ){r0:Option Nat}{ι':Env}(hm:ι κ=some (.map r0))(hι:∀k,k≠κ→ι' k=ι k):v.dD=true→Rel N w ι' v x:=by
 have ne:∀{i y},ι i=some y→(∀r,y ≠ .map r)→ι' i=some y:=fun {i y} hi hy=>by
  by_cases e:i=κ
  ·subst e;rw[hm]at hi;injection hi with hi;exact absurd hi.symm (hy _)
  ·exact(hι i e).trans hi
 induction h with
 | int ι k n=>intro _;exact .int _ _ _
 | bool ι b=>intro _;exact .bool _ _
 | str ι s=>intro _;exact .str _ _
 | nils ι=>intro _;exact .nils _
 | nilm ι=>intro _;exact .nilm _
 | sl0 ι A c=>intro _;exact .sl0 _ _ _
 | sl ι l b o c sz val hz hb hn h1 hc hr hcap ih=>intro _;exact .sl _ l b o c sz val hz hb hn h1 hc hr hcap
 | fn ι f bb ys hl hr ih=>intro _;exact .fn _ f bb ys hl hr
 | fno ι f bb ys hl hr ih=>intro hn;exact .fno _ f bb ys hl (fun i x v hx hv=>ih i x v hx hv hm hι ne (js (by simpa[AV.dD]using hn) i x hx))
 | nilf ι=>intro _;exact .nilf _
 | nilp ι=>intro _;exact .nilp _
 | any ι x h=>intro _;exact .any _ _ h
 | ptr ι id off g h=>intro _;exact .ptr _ _ _ _ (ne h (fun r e=>by cases e))
 | eptr ι id sz j off g n c h=>intro _;exact .eptr _ _ _ _ _ _ n c (ne h (fun r e=>by cases e))
 | sref ι id sz off m n c c' A B h hB=>intro _;exact .sref _ _ _ _ _ n c c' A B (ne h (fun r e=>by cases e)) hB
 | cptr ι cs b o val hb hn h1 hc hr ih=>intro _;exact .cptr _ cs b o val hb hn h1 hc hr
 | adr ι g off=>intro _;exact .adr _ _ _
 | vv ι x h=>intro _;exact .vv _ _ h
 | pp ι id g off h=>intro _;exact .pp _ _ _ _ (ne h (fun r e=>by cases e))
 | sit ι id g s pos h hg hn hb=>intro _;exact .sit _ _ _ _ _ (ne h (fun r e=>by cases e)) hg hn hb
 | ref ι id A n c h=>intro _;exact .ref _ _ _ _ _ (ne h (fun r e=>by cases e))
 | lk ι id v x h h1=>intro hn;exact .lk _ _ _ _ ((hι id (fun e=>by have:=Nat.le_of_ble_eq_true (show Nat.ble (id+1) c7=true from hn);omega)).trans h) h1
 | mref ι id q r v h h2=>intro hn;cases hn
 | agg ι cs vs hl h1 hr ih=>intro hn;exact .agg _ cs vs hl h1 (fun i x v hx hv=>ih i x v hx hv hm hι ne (js (by simpa[AV.dD]using hn) i x hx))
 | tup ι cs vs hl hr ih=>intro hn;exact .tup _ cs vs hl (fun i x v hx hv=>ih i x v hx hv hm hι ne (js (by simpa[AV.dD]using hn) i x hx))
theorem Rel.low{N:Nat→Prop}{w:World}{ι:Env}{v:AV}{x:Value}(h:Rel N w ι v x){ι':Env}(hι:∀k,k<c7→ι' k=ι k):v.dD=true→Rel N w ι' v x:=by
 have lt:∀{i},Nat.ble (i+1) c7=true→i<c7:=fun h=>Nat.le_of_ble_eq_true h
 induction h with
 | int ι k n=>intro _;exact .int _ _ _
 | bool ι b=>intro _;exact .bool _ _
 | str ι s=>intro _;exact .str _ _
 | nils ι=>intro _;exact .nils _
 | nilm ι=>intro _;exact .nilm _
 | sl0 ι A c=>intro _;exact .sl0 _ _ _
 | sl ι l b o c sz val hz hb hn h1 hc hr hcap ih=>intro _;exact .sl _ l b o c sz val hz hb hn h1 hc hr hcap
 | fn ι f bb ys hl hr ih=>intro _;exact .fn _ f bb ys hl hr
 | fno ι f bb ys hl hr ih=>intro hn;exact .fno _ f bb ys hl (fun i x v hx hv=>ih i x v hx hv hι (js (by simpa[AV.dD]using hn) i x hx))
 | nilf ι=>intro _;exact .nilf _
 | nilp ι=>intro _;exact .nilp _
 | any ι x h=>intro _;exact .any _ _ h
 | ptr ι id off g h=>intro q;exact .ptr _ _ _ _ ((hι _ (lt q)).trans h)
 | eptr ι id sz j off g n c h=>intro q;exact .eptr _ _ _ _ _ _ n c ((hι _ (lt q)).trans h)
 | sref ι id sz off m n c c' A B h hB=>intro q;exact .sref _ _ _ _ _ n c c' A B ((hι _ (lt q)).trans h) hB
 | cptr ι cs b o val hb hn h1 hc hr ih=>intro _;exact .cptr _ cs b o val hb hn h1 hc hr
 | adr ι g off=>intro _;exact .adr _ _ _
 | vv ι x h=>intro _;exact .vv _ _ h
 | pp ι id g off h=>intro q;exact .pp _ _ _ _ ((hι _ (lt q)).trans h)
 | sit ι id g s pos h hg hn hb=>intro q;exact .sit _ _ _ _ _ ((hι _ (lt q)).trans h) hg hn hb
 | ref ι id A n c h=>intro q;exact .ref _ _ _ _ _ ((hι _ (lt q)).trans h)
 | lk ι id v x h h1=>intro q;exact .lk _ _ _ _ ((hι _ (lt q)).trans h) h1
 | mref ι id q r v h h2=>intro hn;cases hn
 | agg ι cs vs hl h1 hr ih=>intro hn;exact .agg _ cs vs hl h1 (fun i x v hx hv=>ih i x v hx hv hι (js (by simpa[AV.dD]using hn) i x hx))
 | tup ι cs vs hl hr ih=>intro hn;exact .tup _ cs vs hl (fun i x v hx hv=>ih i x v hx hv hι (js (by simpa[AV.dD]using hn) i x hx))
def eY(s:AS):Bool:=(s.t.all fun q=>q.2.dD)&&(s.o.all fun q=>gC q.2)
end
end Go.Proofs.YtnpmlepplfaijaaGreat
