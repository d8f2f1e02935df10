/- Functions that are lent variables: how they end; variables whose name says their type; function values that own variables. No program in sight. -/
import Derived.Test.YtocgkfoifehcbaaGreatRfVs
namespace Go.Proofs.YtocgkfoifehcbaaGreat
set_option linter.all false
open Go.RowKit
def rF(b:Bool)(id:Nat):AV:=match b with|true=>.ptr id 0|false=>.nilp
theorem xx{o:List (Nat×List AV)}:∀{O1:List (Nat×List AV)},(O1.map fun p=>look p.1 o)=(O1.map fun p=>some p.2)→cj o O1
 | [],_=>trivial
 | (j,c)::r,h=>by
  simp only[List.map_cons,List.cons.injEq]at h;exact⟨h.1,xx h.2⟩
section
variable{cx:Cx}{Q:Exit→Act→World→Prop}{ks:List aq}{e:Exit}{s:AS}{all:Array Oper}{l:List Oper}{f:Func}{p:List Nat}{i:Nat}{fn:Func}
theorem dL{V:AV}{O1:List (Nat×List AV)}{sj:Nat}{ar:br}(h:fC cx.P s fn.results.toList=some [V]:=by kernel_rfl)(h2:look sj s.r=some ar:=by kernel_rfl)(h3:(O1.map fun p=>look p.1 s.o)=(O1.map fun p=>some p.2):=by kernel_rfl):
  VE cx (bodyPost cx.P fn (bA cx.M cx.w0 (fun v s=>v=V∧cj s.o O1∧look sj s.r=some ar))) [] .ret s:=oM rfl h ⟨rfl,xx h3,h2⟩
theorem lC{l:List AV}{O1:List (Nat×List AV)}{sj:Nat}{ar:br}(h:fC cx.P s fn.results.toList=some l:=by kernel_rfl)(h2:look sj s.r=some ar:=by kernel_rfl)(h3:(O1.map fun p=>look p.1 s.o)=(O1.map fun p=>some p.2):=by kernel_rfl)(h4:na l=.tup l:=by kernel_rfl):
  VE cx (bodyPost cx.P fn (bA cx.M cx.w0 (fun v s=>v=.tup l∧cj s.o O1∧look sj s.r=some ar))) [] .ret s:=oM rfl h ⟨h4,xx h3,h2⟩
theorem vr(d i n:Nat)(et:TypeId)(sz:Nat)(h:OT cx Q ks all l (vL d i n et sz s))(hd:has s.u d=false:=by kernel_rfl)(hk:wZ i n s=true:=by kernel_rfl):OT cx Q ks all l s:=by
 unfold wZ at hk;unfold vL at h;split at hk
 ·rename_i cs hcs;rw[hcs]at h;split at hk
  ·rename_i hn;exact VF d i n et sz hd hcs hn h
  ·cases hk
 ·cases hk
theorem mE(g:FuncId)(captured:Array Operand)(l:List AV)(k:OT cx Q ks all (aK f p (i+1)) (s.put (aQ f p i).dst (.fno g l)))(hl:aK f p i=aQ f p i::aK f p (i+1):=by kernel_rfl)(hg:cd all s (aQ f p i)=true:=by kernel_rfl)
  (hop:(aQ f p i).op=.makeFunc (.func g) #[] captured:=by kernel_rfl) (he:cG s captured.toList=some l:=by kernel_rfl) (hd:cm cx.n (aQ f p i).dst=true:=by kernel_rfl):OT cx Q ks all (aK f p i) s:=by
 rw[hl];refine ef _ hg fun a w ι hs=>?_;refine wpList_plain rfl fun K hK=>?_;obtain⟨q1,q2⟩:=jo hs he;have h3:Rel (NN cx.M ι) w ι (.fno g l) (.func (.func g) #[] (captured.map a.eval)):=by
  have h4:=Rel.fno (N:=NN cx.M ι) (w:=w) ι g l (captured.map a.eval).toList (by simp at q1⊢;omega) (fun i c y h1 h2=>q2 i c y h1 (by simpa using h2));rw[Array.toArray_toList]at h4;exact h4
 unfold Oper.wp execOp;simp only[hop,Instr.makeFunc,Sem.run_bind,Sem.run_pure,Result.andThen_ok,Array.map_empty];exact hK _ _ (k _ _ _ (hs.put (eN hd) h3))
def PJ(d id:Nat)(cs:List AV)(s:AS):AS:=⟨aZ d (.ptr id 0) s.t,aZ id cs s.o,s.r,id::s.u⟩
def Jy(P:Program)(o:Oper):Option (Nat×Nat×List AV):=match o.op,o.dst with
 | .alloc T,some d=>match eg P T with|some cs=>some (T,d,cs)|none=>none
 | _,_=>none
theorem Ll(id:Nat){T d:Nat}{cs:List AV}(k:OT cx Q ks all (aK f p (i+1)) (PJ d id cs s))(h:Jy cx.P (aQ f p i)=some (T,d,cs):=by kernel_rfl)(hl:aK f p i=aQ f p i::aK f p (i+1):=by kernel_rfl)(hg:cd all s (aQ f p i)=true:=by kernel_rfl)
  (hd:cm cx.n (aQ f p i).dst=true:=by kernel_rfl) (hu:has s.u id=false:=by kernel_rfl) (hT:Nat.beq T ((id-450000) % 1000)=true:=by kernel_rfl):OT cx Q ks all (aK f p i) s:=by
 rw[hl];refine ef _ hg fun a w ι hs=>?_;refine wpList_plain rfl fun K hK=>?_;unfold Jy at h;split at h
 case h_2=>cases h
 rename_i T' d' hop hdd;split at h
 case h_2=>cases h
 rename_i cs' hz;simp only[Option.some.injEq,Prod.mk.injEq]at h;obtain⟨rfl,rfl,rfl⟩:=h;unfold eg at hz;cases hit:cx.P.info? T' with
 | none=>simp[hit]at hz
 | some it =>
  cases hzz:it.zero with
  | none=>simp[hit,hzz]at hz
  | some zv =>
   simp only[hit,Option.bind_some,hzz]at hz;have hc:=kI (NN cx.M ι) w ι hz;have hs':=hs.hs.alloc (d:=id) hu (T:=T') (fun _ _=>Nat.eq_of_beq_eq_true hT) hc;have hn:=hs.hs.free hu;have h1:aN cx { s with o:=aZ id cs' s.o,u:=id::s.u } a (w.alloc (.cells zv.cells.toList.toArray T')) (ext ι id (.pointer (some ⟨w.heap.size,0,none⟩))):=by
    refine hs.world hs' rfl (by simp) (fun b hb hh=>?_) (fun b hb _=>Below.heap_alloc _ _ _ hb) (dQ hn _);rcases er hh with hh|hh
    ·exact hh
    ·injection hh with hh;simp only[]at hh;omega
   have h2:=h1.put (d:=some d') (fun k hk=>eN hd k (by rw[hdd];exact hk)) (v:=.ptr id 0) (.ptr _ _ _ _ (cr _ _ _));simp only[Array.toArray_toList]at h2;have hrun:(execOp a.eval ({ aQ f p i with guard:=none }:Oper)).run cx.P w=.ok (.value (.pointer (some ⟨w.heap.size,0,none⟩))) (w.alloc (.cells zv.cells T')):=by
    unfold execOp;simp[hop,Instr.alloc,zeroValue,typeInfo,hit,hzz,newVar,newRow]
   unfold Oper.wp;rw[hrun];have h3:=k _ _ _ h2;refine hK _ _ ?_;show _;simp only[hdd];exact h3
end
end Go.Proofs.YtocgkfoifehcbaaGreat
