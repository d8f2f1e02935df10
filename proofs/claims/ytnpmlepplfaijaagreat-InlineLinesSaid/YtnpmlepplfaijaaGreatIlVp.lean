/- Own slices whose cells hold maps that nobody else knows. No program in sight. -/
import Derived.Test.YtnpmlepplfaijaaGreatIlVz
import Derived.Test.YtnpmlepplfaijaaGreatIlVdz
import Derived.MapKept
namespace Go.Proofs.YtnpmlepplfaijaaGreat
set_option linter.all false
open Go.RowKit
section
variable{cx:Cx}{Q:Exit→Act→World→Prop}{ks:List ao}{s:AS}{all:Array Oper}{f:Func}{p:List Nat}{i:Nat}
def ew(s:AS):Bool:=(s.u.all fun k=>Nat.ble (k+1) 1000000)&&((s.o.all fun q=>Nat.ble (q.1+1) cQ)&&(s.r.all fun q=>Nat.ble (q.1+1) cQ))
theorem om{α:Type}:∀{l:List (Nat×α)} {k:Nat} {v:α},look k l=some v→(k,v)∈l
 | [],k,v,h=>by cases h
 | (j,x)::r,k,v,h=>by
  simp only[look]at h;split at h
  ·rename_i e;subst e;injection h with h;subst h;exact List.mem_cons_self
  ·exact List.mem_cons_of_mem _ (om h)
theorem BD{s:AS}(h:ew s=true){i:Nat}{cs:List AV}(hi:look i s.o=some cs):i<cQ:=by
 simp only[ew,Bool.and_eq_true,List.all_eq_true]at h;exact Nat.le_of_ble_eq_true (h.2.1 _ (om hi))
theorem oA{s:AS}(h:ew s=true){i:Nat}{a:bn}(hi:look i s.r=some a):i<cQ:=by
 simp only[ew,Bool.and_eq_true,List.all_eq_true]at h;exact Nat.le_of_ble_eq_true (h.2.2 _ (om hi))
theorem Bg{M:Nat→Prop}{w0:aE}{w:World}{ι:Env}{s:AS}(hs:HS M w0 w ι s)(h:ew s=true){i:Nat}{v:Value}(hp:w0.pv i=some v):False:=by
 have h2:=(hs.pin i v hp).2;simp only[ew,Bool.and_eq_true,List.all_eq_true]at h;have:=Nat.le_of_ble_eq_true (h.1 _ (by simpa using h2));unfold cK at this;omega
theorem me(id q:Nat):cQ≤nm id q:=Nat.le_add_right _ _
mutual
/-- Names no map in a cell. -/
def AV.dn:AV→Bool
 | .mref _ _=>false
 | .ptr i _=>Nat.ble (i+1) cQ
 | .eptr i _ _ _=>Nat.ble (i+1) cQ
 | .sref i _ _ _=>Nat.ble (i+1) cQ
 | .pp i _ _=>Nat.ble (i+1) cQ
 | .sit i _ _ _=>Nat.ble (i+1) cQ
 | .ref i=>Nat.ble (i+1) cQ
 | .lk i _=>Nat.ble (i+1) cQ
 | .agg cs=>gg cs
 | .tup cs=>gg cs
 | .fno _ cs=>gg cs
 | _=>true
def gg:List AV→Bool
 | []=>true
 | c::r=>c.dn&&gg r
end
theorem jd:∀{l:List AV},gg l=true→∀(i:Nat) (x:AV),l[i]?=some x→x.dn=true
 | [],_,i,x,hx=>by simp at hx
 | c::r,h,0,x,hx=>by simp only[gg,Bool.and_eq_true]at h;simp at hx;subst hx;exact h.1
 | c::r,h,i+1,x,hx=>by simp only[gg,Bool.and_eq_true]at h;simp at hx;exact jd h.2 i x hx
theorem Rel.dn{N:Nat→Prop}{w:World}{ι:Env}{v:AV}{x:Value}(h:Rel N w ι v x){κ:Nat}(hκ:cQ≤κ){r0:Option Nat}{ι':Env}(hm:ι κ=some (.map r0))(hι:∀k,k≠κ→ι' k=ι k):v.dn=true→Rel N w ι' v x:=by
 have ne:∀{i y},ι i=some y→(∀r,y ≠ .map r)→ι' i=some y:=fun {i y} hi hy=>by
  by_cases e:i=κ
  ·subst e;rw[hm]at hi;injection hi with hi;exact absurd hi.symm (hy _)
  ·exact(hι i e).trans hi
 induction h with
 | int ι k n=>intro _;exact .int _ _ _
 | bool ι b=>intro _;exact .bool _ _
 | str ι s=>intro _;exact .str _ _
 | nils ι=>intro _;exact .nils _
 | nilm ι=>intro _;exact .nilm _
 | sl0 ι A c=>intro _;exact .sl0 _ _ _
 | sl ι l b o c sz val hz hb hn h1 hc hr hcap ih=>intro _;exact .sl _ l b o c sz val hz hb hn h1 hc hr hcap
 | fn ι f ba ys hl hr ih=>intro _;exact .fn _ f ba ys hl hr
 | fno ι f ba ys hl hr ih=>intro hn;exact .fno _ f ba ys hl (fun i x v hx hv=>ih i x v hx hv hm hι ne (jd (by simpa[AV.dn]using hn) i x hx))
 | nilf ι=>intro _;exact .nilf _
 | nilp ι=>intro _;exact .nilp _
 | any ι x h=>intro _;exact .any _ _ h
 | ptr ι id off g h=>intro _;exact .ptr _ _ _ _ (ne h (fun r e=>by cases e))
 | eptr ι id sz j off g n c h=>intro _;exact .eptr _ _ _ _ _ _ n c (ne h (fun r e=>by cases e))
 | sref ι id sz off m n c c' A B h hB=>intro _;exact .sref _ _ _ _ _ n c c' A B (ne h (fun r e=>by cases e)) hB
 | cptr ι cs b o val hb hn h1 hc hr ih=>intro _;exact .cptr _ cs b o val hb hn h1 hc hr
 | adr ι g off=>intro _;exact .adr _ _ _
 | vv ι x h=>intro _;exact .vv _ _ h
 | pp ι id g off h=>intro _;exact .pp _ _ _ _ (ne h (fun r e=>by cases e))
 | sit ι id g s pos h hg hn hb=>intro _;exact .sit _ _ _ _ _ (ne h (fun r e=>by cases e)) hg hn hb
 | ref ι id A n c h=>intro _;exact .ref _ _ _ _ _ (ne h (fun r e=>by cases e))
 | lk ι id v x h h1=>intro hn;exact .lk _ _ _ _ ((hι id (fun e=>by have:=Nat.le_of_ble_eq_true (show Nat.ble (id+1) cQ=true from hn);omega)).trans h) h1
 | mref ι id q r v h h2=>intro hn;cases hn
 | agg ι cs vs hl h1 hr ih=>intro hn;exact .agg _ cs vs hl h1 (fun i x v hx hv=>ih i x v hx hv hm hι ne (jd (by simpa[AV.dn]using hn) i x hx))
 | tup ι cs vs hl hr ih=>intro hn;exact .tup _ cs vs hl (fun i x v hx hv=>ih i x v hx hv hm hι ne (jd (by simpa[AV.dn]using hn) i x hx))
theorem Rel.low{N:Nat→Prop}{w:World}{ι:Env}{v:AV}{x:Value}(h:Rel N w ι v x){ι':Env}(hι:∀k,k<cQ→ι' k=ι k):v.dn=true→Rel N w ι' v x:=by
 have lt:∀{i},Nat.ble (i+1) cQ=true→i<cQ:=fun h=>Nat.le_of_ble_eq_true h
 induction h with
 | int ι k n=>intro _;exact .int _ _ _
 | bool ι b=>intro _;exact .bool _ _
 | str ι s=>intro _;exact .str _ _
 | nils ι=>intro _;exact .nils _
 | nilm ι=>intro _;exact .nilm _
 | sl0 ι A c=>intro _;exact .sl0 _ _ _
 | sl ι l b o c sz val hz hb hn h1 hc hr hcap ih=>intro _;exact .sl _ l b o c sz val hz hb hn h1 hc hr hcap
 | fn ι f ba ys hl hr ih=>intro _;exact .fn _ f ba ys hl hr
 | fno ι f ba ys hl hr ih=>intro hn;exact .fno _ f ba ys hl (fun i x v hx hv=>ih i x v hx hv hι (jd (by simpa[AV.dn]using hn) i x hx))
 | nilf ι=>intro _;exact .nilf _
 | nilp ι=>intro _;exact .nilp _
 | any ι x h=>intro _;exact .any _ _ h
 | ptr ι id off g h=>intro q;exact .ptr _ _ _ _ ((hι _ (lt q)).trans h)
 | eptr ι id sz j off g n c h=>intro q;exact .eptr _ _ _ _ _ _ n c ((hι _ (lt q)).trans h)
 | sref ι id sz off m n c c' A B h hB=>intro q;exact .sref _ _ _ _ _ n c c' A B ((hι _ (lt q)).trans h) hB
 | cptr ι cs b o val hb hn h1 hc hr ih=>intro _;exact .cptr _ cs b o val hb hn h1 hc hr
 | adr ι g off=>intro _;exact .adr _ _ _
 | vv ι x h=>intro _;exact .vv _ _ h
 | pp ι id g off h=>intro q;exact .pp _ _ _ _ ((hι _ (lt q)).trans h)
 | sit ι id g s pos h hg hn hb=>intro q;exact .sit _ _ _ _ _ ((hι _ (lt q)).trans h) hg hn hb
 | ref ι id A n c h=>intro q;exact .ref _ _ _ _ _ ((hι _ (lt q)).trans h)
 | lk ι id v x h h1=>intro q;exact .lk _ _ _ _ ((hι _ (lt q)).trans h) h1
 | mref ι id q r v h h2=>intro hn;cases hn
 | agg ι cs vs hl h1 hr ih=>intro hn;exact .agg _ cs vs hl h1 (fun i x v hx hv=>ih i x v hx hv hι (jd (by simpa[AV.dn]using hn) i x hx))
 | tup ι cs vs hl hr ih=>intro hn;exact .tup _ cs vs hl (fun i x v hx hv=>ih i x v hx hv hι (jd (by simpa[AV.dn]using hn) i x hx))
def eP(s:AS):Bool:=(s.t.all fun q=>q.2.dn)&&(s.o.all fun q=>gg q.2)
end
end Go.Proofs.YtnpmlepplfaijaaGreat
