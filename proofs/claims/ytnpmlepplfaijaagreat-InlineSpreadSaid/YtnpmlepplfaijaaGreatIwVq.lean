/- Calls that look at own slices and at parts of them. No program in sight. -/
import Derived.Test.YtnpmlepplfaijaaGreatIwVp
namespace Go.Proofs.YtnpmlepplfaijaaGreat
set_option linter.all false
open Go.RowKit
section
variable{cx:Cx}{Q:Exit→Act→World→Prop}{ks:List aq}{s:AS}{all:Array Oper}{f:Func}{p:List Nat}{i:Nat}
theorem Gu{g:FuncId}{args l:List AV}{V:AV}(hc:aO cx.P g args (fun v _=>v=V))(h1:nf s (bd f p i)=some (g,args,l))(hsr:jO s l)(k:OT cx Q ks all (aX f p (i+1)) (s.put (bd f p i).dst V))
  (hl:aX f p i=bd f p i::aX f p (i+1):=by kernel_rfl) (hg:cw all s (bd f p i)=true:=by kernel_rfl) (hcl:cN cx.P g=true:=by kernel_rfl)
  (hd:(cB cx.n (bd f p i).dst&&V.yF)=true:=by kernel_rfl):OT cx Q ks all (aX f p i) s:=by
 rw[hl];refine gf _ hg fun a w ι hs=>?_;refine wpList_plain rfl fun K hK=>?_;simp only[Bool.and_eq_true]at hd;refine N3 hc hcl h1 hsr hs fun x v s1 ι1 w' hv hhs hr=>hK _ _ ?_;subst hv;exact k _ _ _ ((hs.jg hhs.below.plain).put (fH hd.1) (Cy hd.2 hr))
theorem I5{α:Type}(enc:α→List AV)(L:List α)(off m:Nat):List.take m (List.drop off (L.map enc))=(List.take m (List.drop off L)).map enc:=by rw[List.map_take,List.map_drop]
theorem IC{α:Type}(enc:α→List AV){L:List α}{off m:Nat}(h:decide (off+m≤L.length)=true):off+m≤(L.map enc).length:=by rw[List.length_map];exact of_decide_eq_true h
end
end Go.Proofs.YtnpmlepplfaijaaGreat
