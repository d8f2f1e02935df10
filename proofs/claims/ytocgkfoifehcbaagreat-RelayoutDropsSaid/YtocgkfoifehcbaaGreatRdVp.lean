/- Own slices whose cells hold maps that nobody else knows. No program in sight. -/
import Derived.Test.YtocgkfoifehcbaaGreatRdVz
import Derived.Test.YtocgkfoifehcbaaGreatRdVdz
import Derived.MapKept
namespace Go.Proofs.YtocgkfoifehcbaaGreat
set_option linter.all false
open Go.RowKit
section
def alR:=@Nat.le_add_right
variable{t:Cx}{Q:Exit→Act→World→Prop}{u:dt}{s:AS}{d:Array Oper}{f:Func}{p:ed}{i:Nat}
def oi(s:AS):Bool:=(s.u.all fun k=>Nat.ble (k+1) 1000000)&&((s.o.all fun q=>Nat.ble (q.1+1) dX)&&(s.r.all fun q=>Nat.ble (q.1+1) dX))
theorem yv{α:Type}:∀{l:List (Nat×α)} {k:Nat} {v:α},look k l=some v→(k,v)∈l
 | [],k,v,h=>by cases h
 | (j,x)::r,k,v,h=>by
  simp only[look]at h;split at h
  ·rename_i e;subst e;injection h with h;subst h;exact tl
  ·exact oR _ (yv h)
theorem afJ{s:AS}(h:oi s=true){i:Nat}{cs:c6}(hi:look i s.o=some cs):i<dX:=by
 simp only[oi,iO,n3]at h;exact kb (h.2.1 _ (yv hi))
theorem U1{s:AS}(h:oi s=true){i:Nat}{a:cj}(hi:look i s.r=some a):i<dX:=by
 simp only[oi,iO,n3]at h;exact kb (h.2.2 _ (yv hi))
theorem ahe{M:Nat→Prop}{a:aB}{w:World}{ι:Env}{s:AS}(d:HS M a w ι s)(h:oi s=true){i:Nat}{v:Value}(c:a.pv i=some v):False:=by
 have b:=(d.pin i v c).2;simp only[oi,iO,n3]at h;have:=kb (h.1 _ (by simpa using b));unfold da at this;omega
theorem CM(id q:Nat):dX≤nm id q:=alR _ _
mutual
/-- Names no map in a cell. -/
def AV.iG:AV→Bool
 | .mref _ _=>false
 | .ptr i _=>Nat.ble (i+1) dX
 | .eptr i _ _ _=>Nat.ble (i+1) dX
 | .sref i _ _ _=>Nat.ble (i+1) dX
 | .pp i _ _=>Nat.ble (i+1) dX
 | .sit i _ _ _=>Nat.ble (i+1) dX
 | .ref i=>Nat.ble (i+1) dX
 | .lk i _=>Nat.ble (i+1) dX
 | .agg cs=>mO cs
 | .tup cs=>mO cs
 | .fno _ cs=>mO cs
 | _=>true
def mO:c6→Bool
 | []=>true
 | c::r=>c.iG&&mO r
end
theorem o5:∀{l:c6},mO l=true→∀(i:Nat) (x:AV),l[i]?=some x→x.iG=true
 | [],_,i,x,a=>by simp at a
 | c::r,h,0,x,a=>by simp only[mO,iO]at h;simp at a;subst a;exact h.1
 | c::r,h,i+1,x,a=>by simp only[mO,iO]at h;simp at a;exact o5 h.2 i x a
theorem Rel.iG{N:Nat→Prop}{w:World}{ι:Env}{v:AV}{x:Value}(h:Rel N w ι v x){κ:Nat}(U:dX≤κ){S:Option Nat}{ι':Env}(I:ι κ=some (.map S))(H:∀k,k≠κ→ι' k=ι k):v.iG=true→Rel N w ι' v x:=by
 have d:∀{i y},ι i=some y→(∀r,y ≠ .map r)→ι' i=some y:=fun {i y} hi P=>by
  by_cases e:i=κ
  ·subst e;rw[I]at hi;injection hi with hi;exact absurd hi.symm (P _)
  ·exact(H i e).trans hi
 induction h with
 | int ι k n=>intro _;exact .int _ _ _
 | bool ι b=>intro _;exact .bool _ _
 | str ι s=>intro _;exact .str _ _
 | nils ι=>intro _;exact .nils _
 | nilm ι=>intro _;exact .nilm _
 | sl0 ι A c=>intro _;exact .sl0 _ _ _
 | sl ι l b o c sz D Q E a z J p F u=>intro _;exact .sl _ l b o c sz D Q E a z J p F
 | fn ι f aR K C p u=>intro _;exact .fn _ f aR K C p
 | fno ι f aR K C p u=>intro a;exact .fno _ f aR K C (fun i x v t G=>u i x v t G I H d (o5 (by simpa[AV.iG]using a) i x t))
 | nilf ι=>intro _;exact .nilf _
 | nilp ι=>intro _;exact .nilp _
 | any ι x h=>intro _;exact .any _ _ h
 | ptr ι id off g h=>intro _;exact .ptr _ _ _ _ (d h (fun r e=>by cases e))
 | eptr ι id sz j off g n c h=>intro _;exact .eptr _ _ _ _ _ _ n c (d h (fun r e=>by cases e))
 | sref ι id sz off m n c L A B h M=>intro _;exact .sref _ _ _ _ _ n c L A B (d h (fun r e=>by cases e)) M
 | cptr ι cs b o D E a z J p u=>intro _;exact .cptr _ cs b o D E a z J p
 | adr ι g off=>intro _;exact .adr _ _ _
 | vv ι x h=>intro _;exact .vv _ _ h
 | pp ι id g off h=>intro _;exact .pp _ _ _ _ (d h (fun r e=>by cases e))
 | sit ι id g s R h O a E=>intro _;exact .sit _ _ _ _ _ (d h (fun r e=>by cases e)) O a E
 | ref ι id A n c h=>intro _;exact .ref _ _ _ _ _ (d h (fun r e=>by cases e))
 | lk ι id v x h z=>intro a;exact .lk _ _ _ _ ((H id (fun e=>by have:=kb (show Nat.ble (id+1) dX=true from a);omega)).trans h) z
 | mref ι id q r v h T=>intro a;cases a
 | agg ι cs vs C z p u=>intro a;exact .agg _ cs vs C z (fun i x v t G=>u i x v t G I H d (o5 (by simpa[AV.iG]using a) i x t))
 | tup ι cs vs C p u=>intro a;exact .tup _ cs vs C (fun i x v t G=>u i x v t G I H d (o5 (by simpa[AV.iG]using a) i x t))
theorem Rel.low{N:Nat→Prop}{w:World}{ι:Env}{v:AV}{x:Value}(h:Rel N w ι v x){ι':Env}(d:∀k,k<dX→ι' k=ι k):v.iG=true→Rel N w ι' v x:=by
 have z:∀{i},Nat.ble (i+1) dX=true→i<dX:=fun h=>kb h
 induction h with
 | int ι k n=>intro _;exact .int _ _ _
 | bool ι b=>intro _;exact .bool _ _
 | str ι s=>intro _;exact .str _ _
 | nils ι=>intro _;exact .nils _
 | nilm ι=>intro _;exact .nilm _
 | sl0 ι A c=>intro _;exact .sl0 _ _ _
 | sl ι l b o c sz C L D a u G e E t=>intro _;exact .sl _ l b o c sz C L D a u G e E
 | fn ι f aR H y e t=>intro _;exact .fn _ f aR H y e
 | fno ι f aR H y e t=>intro a;exact .fno _ f aR H y (fun i x v p F=>t i x v p F d (o5 (by simpa[AV.iG]using a) i x p))
 | nilf ι=>intro _;exact .nilf _
 | nilp ι=>intro _;exact .nilp _
 | any ι x h=>intro _;exact .any _ _ h
 | ptr ι id off g h=>intro q;exact .ptr _ _ _ _ ((d _ (z q)).trans h)
 | eptr ι id sz j off g n c h=>intro q;exact .eptr _ _ _ _ _ _ n c ((d _ (z q)).trans h)
 | sref ι id sz off m n c I A B h J=>intro q;exact .sref _ _ _ _ _ n c I A B ((d _ (z q)).trans h) J
 | cptr ι cs b o C D a u G e t=>intro _;exact .cptr _ cs b o C D a u G e
 | adr ι g off=>intro _;exact .adr _ _ _
 | vv ι x h=>intro _;exact .vv _ _ h
 | pp ι id g off h=>intro q;exact .pp _ _ _ _ ((d _ (z q)).trans h)
 | sit ι id g s M h K a D=>intro q;exact .sit _ _ _ _ _ ((d _ (z q)).trans h) K a D
 | ref ι id A n c h=>intro q;exact .ref _ _ _ _ _ ((d _ (z q)).trans h)
 | lk ι id v x h u=>intro q;exact .lk _ _ _ _ ((d _ (z q)).trans h) u
 | mref ι id q r v h O=>intro a;cases a
 | agg ι cs vs y u e t=>intro a;exact .agg _ cs vs y u (fun i x v p F=>t i x v p F d (o5 (by simpa[AV.iG]using a) i x p))
 | tup ι cs vs y e t=>intro a;exact .tup _ cs vs y (fun i x v p F=>t i x v p F d (o5 (by simpa[AV.iG]using a) i x p))
def yr(s:AS):Bool:=(s.t.all fun q=>q.2.iG)&&(s.o.all fun q=>mO q.2)
end
end Go.Proofs.YtocgkfoifehcbaaGreat
