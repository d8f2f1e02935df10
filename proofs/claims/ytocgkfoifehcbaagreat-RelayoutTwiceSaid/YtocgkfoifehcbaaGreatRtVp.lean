/- Own slices whose cells hold maps that nobody else knows. No program in sight. -/
import Derived.Test.YtocgkfoifehcbaaGreatRtVz
import Derived.Test.YtocgkfoifehcbaaGreatRtVdz
import Derived.MapKept
namespace Go.Proofs.YtocgkfoifehcbaaGreat
set_option linter.all false
open Go.RowKit
section
def ak5:=@Nat.le_add_right
variable{t:Cx}{Q:Exit→Act→World→Prop}{u:dt}{s:AS}{d:Array Oper}{f:Func}{p:ed}{i:Nat}
def nP(s:AS):Bool:=(s.u.all fun k=>Nat.ble (k+1) 1000000)&&((s.o.all fun q=>Nat.ble (q.1+1) dW)&&(s.r.all fun q=>Nat.ble (q.1+1) dW))
theorem ym{α:Type}:∀{l:List (Nat×α)} {k:Nat} {v:α},look k l=some v→(k,v)∈l
 | [],k,v,h=>by cases h
 | (j,x)::r,k,v,h=>by
  simp only[look]at h;split at h
  ·rename_i e;subst e;injection h with h;subst h;exact ti
  ·exact pt _ (ym h)
theorem aaU{s:AS}(h:nP s=true){i:Nat}{cs:c6}(a:look i s.o=some cs):i<dW:=by
 simp only[nP,iO,n5]at h;exact j3 (h.2.1 _ (ym a))
theorem M4{s:AS}(h:nP s=true){i:Nat}{a:cg}(b:look i s.r=some a):i<dW:=by
 simp only[nP,iO,n5]at h;exact j3 (h.2.2 _ (ym b))
theorem Wi{M:Nat→Prop}{a:aC}{w:World}{ι:Env}{s:AS}(d:HS M a w ι s)(h:nP s=true){i:Nat}{v:Value}(c:a.pv i=some v):False:=by
 have b:=(d.pin i v c).2;simp only[nP,iO,n5]at h;have:=j3 (h.1 _ (by simpa using b));unfold de at this;omega
theorem Ek(id q:Nat):dW≤nm id q:=ak5 _ _
mutual
/-- Names no map in a cell. -/
def AV.iJ:AV→Bool
 | .mref _ _=>false
 | .ptr i _=>Nat.ble (i+1) dW
 | .eptr i _ _ _=>Nat.ble (i+1) dW
 | .sref i _ _ _=>Nat.ble (i+1) dW
 | .pp i _ _=>Nat.ble (i+1) dW
 | .sit i _ _ _=>Nat.ble (i+1) dW
 | .ref i=>Nat.ble (i+1) dW
 | .lk i _=>Nat.ble (i+1) dW
 | .agg cs=>mW cs
 | .tup cs=>mW cs
 | .fno _ cs=>mW cs
 | _=>true
def mW:c6→Bool
 | []=>true
 | c::r=>c.iJ&&mW r
end
theorem nR:∀{l:c6},mW l=true→∀(i:Nat) (x:AV),l[i]?=some x→x.iJ=true
 | [],_,i,x,a=>by simp at a
 | c::r,h,0,x,a=>by simp only[mW,iO]at h;simp at a;subst a;exact h.1
 | c::r,h,i+1,x,a=>by simp only[mW,iO]at h;simp at a;exact nR h.2 i x a
theorem Rel.iJ{N:Nat→Prop}{w:World}{ι:Env}{v:AV}{x:Value}(h:Rel N w ι v x){κ:Nat}(V:dW≤κ){T:Option Nat}{ι':Env}(J:ι κ=some (.map T))(I:∀k,k≠κ→ι' k=ι k):v.iJ=true→Rel N w ι' v x:=by
 have d:∀{i y},ι i=some y→(∀r,y ≠ .map r)→ι' i=some y:=fun {i y} G Q=>by
  by_cases e:i=κ
  ·subst e;rw[J]at G;injection G with G;exact absurd G.symm (Q _)
  ·exact(I i e).trans G
 induction h with
 | int ι k n=>intro _;exact .int _ _ _
 | bool ι b=>intro _;exact .bool _ _
 | str ι s=>intro _;exact .str _ _
 | nils ι=>intro _;exact .nils _
 | nilm ι=>intro _;exact .nilm _
 | sl0 ι A c=>intro _;exact .sl0 _ _ _
 | sl ι l b o c sz D R E a z K p F u=>intro _;exact .sl _ l b o c sz D R E a z K p F
 | fn ι f aS L C p u=>intro _;exact .fn _ f aS L C p
 | fno ι f aS L C p u=>intro a;exact .fno _ f aS L C (fun i x v t H=>u i x v t H J I d (nR (by simpa[AV.iJ]using a) i x t))
 | nilf ι=>intro _;exact .nilf _
 | nilp ι=>intro _;exact .nilp _
 | any ι x h=>intro _;exact .any _ _ h
 | ptr ι id off g h=>intro _;exact .ptr _ _ _ _ (d h (fun r e=>by cases e))
 | eptr ι id sz j off g n c h=>intro _;exact .eptr _ _ _ _ _ _ n c (d h (fun r e=>by cases e))
 | sref ι id sz off m n c M A B h O=>intro _;exact .sref _ _ _ _ _ n c M A B (d h (fun r e=>by cases e)) O
 | cptr ι cs b o D E a z K p u=>intro _;exact .cptr _ cs b o D E a z K p
 | adr ι g off=>intro _;exact .adr _ _ _
 | vv ι x h=>intro _;exact .vv _ _ h
 | pp ι id g off h=>intro _;exact .pp _ _ _ _ (d h (fun r e=>by cases e))
 | sit ι id g s S h P a E=>intro _;exact .sit _ _ _ _ _ (d h (fun r e=>by cases e)) P a E
 | ref ι id A n c h=>intro _;exact .ref _ _ _ _ _ (d h (fun r e=>by cases e))
 | lk ι id v x h z=>intro a;exact .lk _ _ _ _ ((I id (fun e=>by have:=j3 (show Nat.ble (id+1) dW=true from a);omega)).trans h) z
 | mref ι id q r v h U=>intro a;cases a
 | agg ι cs vs C z p u=>intro a;exact .agg _ cs vs C z (fun i x v t H=>u i x v t H J I d (nR (by simpa[AV.iJ]using a) i x t))
 | tup ι cs vs C p u=>intro a;exact .tup _ cs vs C (fun i x v t H=>u i x v t H J I d (nR (by simpa[AV.iJ]using a) i x t))
theorem Rel.low{N:Nat→Prop}{w:World}{ι:Env}{v:AV}{x:Value}(h:Rel N w ι v x){ι':Env}(d:∀k,k<dW→ι' k=ι k):v.iJ=true→Rel N w ι' v x:=by
 have z:∀{i},Nat.ble (i+1) dW=true→i<dW:=fun h=>j3 h
 induction h with
 | int ι k n=>intro _;exact .int _ _ _
 | bool ι b=>intro _;exact .bool _ _
 | str ι s=>intro _;exact .str _ _
 | nils ι=>intro _;exact .nils _
 | nilm ι=>intro _;exact .nilm _
 | sl0 ι A c=>intro _;exact .sl0 _ _ _
 | sl ι l b o c sz C L D a u G e E t=>intro _;exact .sl _ l b o c sz C L D a u G e E
 | fn ι f aS H y e t=>intro _;exact .fn _ f aS H y e
 | fno ι f aS H y e t=>intro a;exact .fno _ f aS H y (fun i x v p F=>t i x v p F d (nR (by simpa[AV.iJ]using a) i x p))
 | nilf ι=>intro _;exact .nilf _
 | nilp ι=>intro _;exact .nilp _
 | any ι x h=>intro _;exact .any _ _ h
 | ptr ι id off g h=>intro q;exact .ptr _ _ _ _ ((d _ (z q)).trans h)
 | eptr ι id sz j off g n c h=>intro q;exact .eptr _ _ _ _ _ _ n c ((d _ (z q)).trans h)
 | sref ι id sz off m n c I A B h J=>intro q;exact .sref _ _ _ _ _ n c I A B ((d _ (z q)).trans h) J
 | cptr ι cs b o C D a u G e t=>intro _;exact .cptr _ cs b o C D a u G e
 | adr ι g off=>intro _;exact .adr _ _ _
 | vv ι x h=>intro _;exact .vv _ _ h
 | pp ι id g off h=>intro q;exact .pp _ _ _ _ ((d _ (z q)).trans h)
 | sit ι id g s M h K a D=>intro q;exact .sit _ _ _ _ _ ((d _ (z q)).trans h) K a D
 | ref ι id A n c h=>intro q;exact .ref _ _ _ _ _ ((d _ (z q)).trans h)
 | lk ι id v x h u=>intro q;exact .lk _ _ _ _ ((d _ (z q)).trans h) u
 | mref ι id q r v h O=>intro a;cases a
 | agg ι cs vs y u e t=>intro a;exact .agg _ cs vs y u (fun i x v p F=>t i x v p F d (nR (by simpa[AV.iJ]using a) i x p))
 | tup ι cs vs y e t=>intro a;exact .tup _ cs vs y (fun i x v p F=>t i x v p F d (nR (by simpa[AV.iJ]using a) i x p))
def zV(s:AS):Bool:=(s.t.all fun q=>q.2.iJ)&&(s.o.all fun q=>mW q.2)
end
end Go.Proofs.YtocgkfoifehcbaaGreat
