/- Abstract values and abstract memory: what a run holds, said without addresses. A value, its reading in a world, what keeps a reading. No program in sight. -/
import Derived.WalkKit
import Derived.ProofKit
import Derived.OpenShut
import Derived.WalkLawsBesides
import Derived.Deep.MidRow
import Derived.Laws.CopyRow
import Derived.Deep.AppendLies
import Derived.Deep.LoopGhost
import Derived.Lib.Hide
import Derived.Laws.Tables
import Derived.Great.BuildSlice
import Derived.Laws.StructEq
import Derived.Laws.Concat
import Derived.Laws.Cover4
import Derived.Laws.Runes
import Derived.Laws.AppendOwn
import Derived.LoopN
import Derived.TacticsIn
import Derived.LoopNIn
import Derived.OrdersIn
namespace Go.Proofs.Ytkciiamllegclaa
set_option linter.all false
open Go.RowKit
abbrev b5:=List Value
abbrev ck:=List Nat
def es:=@List.getElem?_eq_some_iff
def ez:=@List.getElem?_eq_getElem
def fl:=@Bool.false_eq_true
def fz:=@Bool.and_eq_true
def f6:=@Nat.le_of_ble_eq_true
def hF:=@run_underlying
def hM:=@Array.getElem?_eq_getElem
def hQ:=@Option.bind_some
def h6:=@List.mem_of_getElem?
def h7:=@Option.some.injEq
def io:=@Nat.le_refl
def iF:=@List.eq_nil_of_length_eq_zero
def iN:=@Nat.eq_of_beq_eq_true
def iO:=@Below.heap_alloc
def jt:=@List.mem_append
def kc:=@List.getElem?_append_right
def ll:=@Array.getElem?_eq_some_iff
def lp:=@List.all_eq_true
def l2:=@if_pos
def mm:=@Sem.run_bind
def nw:=@Prod.mk.injEq
def n2:=@Result.andThen_ok
def n5:=@if_false
def og:=@List.getElem?_append_left
def oR:=@Array.length_toList
def o8:=@Array.getD_eq_getD_getElem?
def o9:=@if_neg
def pl:=@List.getElem?_drop
def ro:=@Nat.mul_le_mul_right
def rs:=@Bool.not_true
def sb:=@Nat.add_mul
def sp:=@List.getElem?_take
def th:=@List.length_cons
def ti:=@List.length_nil
def to:=@List.mem_of_mem_take
def us:=@Option.map_some
def u3:=@Nat.zero_add
def u4:=@List.getD_eq_getElem?_getD
def u5:=@List.map_cons
def u6:=@List.length_map
def u7:=@List.mem_of_mem_drop
def v3:=@List.length_append
def v4:=@Addr.add_mid
def v5:=@Array.getElem?_toList
def v6:=@Sem.run_pure
def v7:=@Option.getD_some
def v8:=@List.mem_range
def v9:=@Array.getElem?_setIfInBounds_ne
def wl:=@if_true
def yk:=@List.map_nil
def zF:=@List.getElem_mem
def zH:=@heap_alloc_new
def zK:=@List.getElem?_map
def zN:=@cell_of_row
def zO:=@Array.getElem?_append_left
def zP:=@List.length_take
def zQ:=@Array.toList_inj
def zS:=@Nat.lt_of_lt_of_le
def zU:=@Nat.add_zero
def zW:=@Nat.zero_le
def zY:=@decide_eq_true_eq
def z3:=@List.mem_map
def z4:=@Nat.add_assoc
def z5:=@beq_iff_eq
def z7:=@Nat.one_mul
def z8:=@List.getElem?_toArray
def Ac:=@List.mem_cons
def Ad:=@Array.toArray_toList
def Af:=@Array.toList_map
def Ag:=@IntKind.wrap_i64
def Ah:=@List.getElem?_replicate
def Ai:=@Nat.add_sub_cancel_left
def Ak:=@List.take_of_length_le
def Am:=@setRow_heap
def Ap:=@Nat.le_trans
def Aq:=@Nat.mul_comm
def Av:=@List.length_set
def Aw:=@List.nil_append
def Ax:=@run_append_grow
def Ay:=@Array.getElem?_append_right
def Az:=@Nat.add_sub_cancel'
def AC:=@Array.toList_setIfInBounds
def AF:=@growslice_fits
def AH:=@List.size_toArray
def AI:=@List.ext_getElem?
def AJ:=@List.getElem?_set
def AK:=@run_equalIn_bool'
def AL:=@of_decide_eq_true
def AO:=@Nat.mod_eq_of_lt
def AP:=@List.length_drop
def AR:=@List.head?_eq_getElem?
def AT:=@List.drop_eq_nil_of_le
def AW:=@Nat.ble_eq_true_of_le
def AX:=@World.cell?_of_block
def AY:=@Bool.and_eq_true_iff
def AZ:=@run_append_nil
def A2:=@wpListIn_plain
def A5:=@Nat.mul_one
def A8:=@Bool.true_and
def Ba:=@grownCap_ge
class FM where
 l:Option Nat
 ds:List Deferred
instance(priority:=10) fm0:FM:=⟨none,[]⟩
class ZX where
 p:Bool
variable[FM][ZX]
class NZ:Prop where
 h:ZX.p=true
def aE:Nat:=67
def bk:b5:=List.replicate 7 (.int .i64 0)++List.replicate 1 (.string ByteArray.empty)++List.replicate 34 (.int .i64 0)++List.replicate 3 (.string ByteArray.empty)++List.replicate 6 (.int .i64 0)++List.replicate 1 (.bool false)++List.replicate 6 (.int .i64 0)++List.replicate 1 (.bool false)++List.replicate 6 (.int .i64 0)++List.replicate 1 (.bool false)++List.replicate 1 (.slice none 0 0)
def zc(k:Nat):Value:=bk.getD k (.bool true)
inductive AV where
 | int (k:IntKind) (n:Int)
 | bool (b:Bool)
 | str (s:ByteArray)
 | nils
 | sl (l:List (List AV))
 | fn (f:FuncId) (caps:List AV)
 | fno (f:FuncId) (caps:List AV)
 | nilf
 | nilp
 | ptr (id off:Nat)
 | eptr (id sz j off:Nat)
 | sref (id sz off m:Nat)
 | cptr (cs:List AV)
 | adr (g off:Nat)
 | pp (id g off:Nat)
 | sit (id g:Nat) (s:ByteArray) (pos:Nat)
 | ref (id:Nat)
 | nilm
 | mref (id q:Nat)
 | omp (m:Option (List (Int×Bool)))
 | osl (e:TypeId) (sz:Nat) (l:List (List AV))
 | vv (x:Value)
 | lk (id:Nat) (x:Value)
 | agg (cs:List AV)
 | tup (vs:List AV)
 | any
instance:Inhabited AV:=⟨.nilp⟩
abbrev Env:=Nat→Option Value
def aG:Env:=fun _=>none
def nV:Nat:=1000000000
def has(u:ck)(d:Nat):Bool:=u.contains d||Nat.ble nV d
theorem d7{u}{d}(h:u.contains d=true):has u d=true:=by grind[has]
theorem vB{u}{d}(h:has u d=true):u.contains d=true∨nV≤d:=by
 simp_all[has]
def nm(id q:Nat):Nat:=nV+2 ^ id*(2*q+1)
theorem w7 u id q:has u (nm id q)=true:=by
 simp_all[has,nm]
def TG:Nat:=500000
def bq:Option Value→Option Nat
 | some (.pointer (some a))=>some a.block
 | some (.slice (some a) _ _)=>some a.block
 | some (.map (some r))=>some r
 | _=>none
theorem frozen0{w:World}{g k:Nat}{c:Array Value}{T:TypeId}(h:w.heap[g]?=some (.cells c T (0,0))):w.frozen? ⟨g,k,none⟩=false:=by simp[World.frozen?,h]
def ZK(w:World)(sz:Nat)(v:Value)(n:Nat):Prop :=
 ZX.p=true∨((n=0→v=.slice none 0 0)∧(sz=aE→∀b o m c,v=.slice (some ⟨b,o,none⟩) m c→∀k,k<c*sz→w.frozen? ⟨b,o+k,none⟩=false∧(n*sz≤k→w.cell? ⟨b,o+k,none⟩=some (zc (k % sz)))))
theorem ZK.bb{w p:World}{sz:Nat}{v:Value}{n:Nat}(h:ZK w sz v n)(j:∀g,bq (some v)=some g→p.heap[g]?=w.heap[g]?):ZK p sz v n:=by
 rcases h with h|⟨q,i⟩
 ·exact .inl h
 ·exact .inr ⟨q,fun l b o m c e k d=>⟨(World.frozen?_of_block (w:=w) (a:=⟨b,o+k,none⟩) (j b (by rw[e];rfl))).trans (i l b o m c e k d).1,fun f=>(AX (w:=w) (a:=⟨b,o+k,none⟩) (j b (by rw[e];rfl))).trans ((i l b o m c e k d).2 f)⟩⟩
theorem ZK.full{w:World}{sz n m c g:Nat}{f:Array Value}{T:TypeId}(h:n=c)(d:0<n∨ZX.p=true)(j:w.heap[g]?=some (.cells f T (0,0))):ZK w sz (.slice (some ⟨g,0,none⟩) m c) n:=by
 rcases d with d|d
 ·exact .inr ⟨fun i=>by omega,fun _ b o m c e k l=>by injection e with a _ e;injection a with a;injection a with a;subst a;subst e;exact⟨frozen0 j,fun i=>by subst h;omega⟩⟩
 ·exact .inl d
theorem ZK.nil{w:World}{sz:Nat}:ZK w sz (.slice none 0 0) 0:=.inr ⟨fun _=>rfl,fun _ b o m c e=>by injection e with e;cases e⟩
theorem ZK.other{w:World}{sz n:Nat}{v:Value}(h:0<n)(a:sz≠aE):ZK w sz v n:=.inr ⟨fun b=>by omega,fun h=>(a h).elim⟩
inductive Rel (N:Nat→Prop) (w:World):Env→AV→Value→Prop
 | int (ι:Env) (k:IntKind) (n:Int):Rel N w ι (.int k n) (.int k n)
 | bool (ι b):Rel N w ι (.bool b) (.bool b)
 | str (ι s):Rel N w ι (.str s) (.string s)
 | nils (ι):Rel N w ι .nils (.slice none 0 0)
 | sl0 (ι A c) (h0:ZX.p=true∨(A=none∧c=0)):Rel N w ι (.sl []) (.slice A 0 c)
 | sl (ι:Env) (l:List (List AV)) (b o c sz:Nat) (val:Nat→Nat→Value) (hz:∀e∈l,e.length=sz) (hb:b<w.heap.size) (hN:¬ N b)
   (h1:∀j i,(val j i).oneCell'=true)
   (hc:∀(j:Nat) (e:List AV),l[j]?=some e→∀(i:Nat) (x:AV),e[i]?=some x→w.cell? ⟨b,o+j*sz+i,none⟩=some (val j i))
   (hr:∀(j:Nat) (e:List AV),l[j]?=some e→∀(i:Nat) (x:AV),e[i]?=some x→Rel N w aG x (val j i)) (hcap:l.length≤c∧ZK w sz (.slice (some ⟨b,o,none⟩) l.length c) l.length):Rel N w ι (.sl l) (.slice (some ⟨b,o,none⟩) l.length c)
 | fn (ι:Env) (f:FuncId) (caps:List AV) (ys:b5) (hl:caps.length=ys.length) (hr:∀(i:Nat) (c:AV) (y:Value),caps[i]?=some c→ys[i]?=some y→Rel N w aG c y):Rel N w ι (.fn f caps) (.func (.func f) #[] ys.toArray)
 | fno (ι:Env) (f:FuncId) (caps:List AV) (ys:b5) (hl:caps.length=ys.length) (hr:∀(i:Nat) (c:AV) (y:Value),caps[i]?=some c→ys[i]?=some y→Rel N w ι c y):Rel N w ι (.fno f caps) (.func (.func f) #[] ys.toArray)
 | nilf (ι):Rel N w ι .nilf .nilFunc
 | nilp (ι):Rel N w ι .nilp (.pointer none)
 | any (ι:Env) (x:Value) (h:x.oneCell'=true):Rel N w ι .any x
 | ptr (ι:Env) (id off g:Nat) (h:ι id=some (.pointer (some ⟨g,0,none⟩))):Rel N w ι (.ptr id off) (.pointer (some ⟨g,off,none⟩))
 | eptr (ι:Env) (id sz j off g n c:Nat) (h:ι id=some (.slice (some ⟨g,0,none⟩) n c)):Rel N w ι (.eptr id sz j off) (.pointer (some ⟨g,j*sz+off,none⟩))
 | sref (ι:Env) (id sz off m n c c':Nat) (A B:Option Addr) (h:ι id=some (.slice A n c)) (hB:m=0∨∃g,A=some ⟨g,0,none⟩∧B=some ⟨g,off*sz,none⟩∧m≤c'∧c'+off=c):Rel N w ι (.sref id sz off m) (.slice B m c')
 | cptr (ι:Env) (cs:List AV) (b o:Nat) (val:Nat→Value) (hb:b<w.heap.size) (hN:¬ N b) (h1:∀i,(val i).oneCell'=true)
   (hc:∀(i:Nat) (x:AV),cs[i]?=some x→w.cell? ⟨b,o+i,none⟩=some (val i))
   (hr:∀(i:Nat) (x:AV),cs[i]?=some x→Rel N w aG x (val i)):Rel N w ι (.cptr cs) (.pointer (some ⟨b,o,none⟩))
 | adr (ι:Env) (g off:Nat):Rel N w ι (.adr g off) (.pointer (some ⟨g,off,none⟩))
 | pp (ι:Env) (id g off:Nat) (h:ι id=some (.pointer (some ⟨g,0,none⟩))):Rel N w ι (.pp id g off) (.pointer (some ⟨g,off,none⟩))
 | sit (ι:Env) (id g:Nat) (s:ByteArray) (pos:Nat) (h:ι id=some (.int .u64 (g:Nat))) (hg:g<w.heap.size) (hn:¬ N g) (hb:w.heap[g]?=some (.stringIter s pos)):Rel N w ι (.sit id g s pos) (.pointer (some ⟨g,0,none⟩))
 | ref (ι:Env) (id:Nat) (A:Option Addr) (n c:Nat) (h:ι id=some (.slice A n c)):Rel N w ι (.ref id) (.slice A n c)
 | nilm (ι):Rel N w ι .nilm (.map none)
 | vv (ι:Env) (x:Value) (h:x.oneCell'=true):Rel N w ι (.vv x) x
 | lk (ι:Env) (id:Nat) (v x:Value) (h:ι id=some v) (h1:x.oneCell'=true):Rel N w ι (.lk id v) x
 | mref (ι:Env) (id q:Nat) (r:Option Nat) (v:Value) (h:ι (nm id q)=some (.map r)) (h2:ι id=some v):Rel N w ι (.mref id q) (.map r)
 | agg (ι:Env) (cs:List AV) (vs:b5) (hl:cs.length=vs.length) (h1:∀v∈vs,v.oneCell'=true)
   (hr:∀(i:Nat) (x:AV) (v:Value),cs[i]?=some x→vs[i]?=some v→Rel N w ι x v):Rel N w ι (.agg cs) (.agg vs.toArray)
 | tup (ι:Env) (cs:List AV) (vs:b5) (hl:cs.length=vs.length)
   (hr:∀(i:Nat) (x:AV) (v:Value),cs[i]?=some x→vs[i]?=some v→Rel N w ι x v):Rel N w ι (.tup cs) (.tuple vs.toArray)
structure Cells N w ι(cs:List AV)(vs:b5):Prop where
 len:cs.length=vs.length
 one:∀v∈vs,v.oneCell'=true
 rel:∀(i:Nat) x v,cs[i]?=some x→vs[i]?=some v→Rel N w ι x v
theorem sH{w c:World}{b o}(h:c.heap[b]?=w.heap[b]?):c.cell? ⟨b,o,none⟩=w.cell? ⟨b,o,none⟩:=AX (w:=w) (a:=⟨b,o,none⟩) h
theorem Rel.mono{N N':Nat→Prop}{w Q:World}{ι:Env}{v:AV}{x:Value}(h:Rel N w ι v x)(U:w.heap.size≤Q.heap.size)
  (L:∀b,b<w.heap.size→N' b→N b) (K:∀b,b<w.heap.size→¬ N b→Q.heap[b]?=w.heap[b]?) :
  ∀{ι':Env},(∀id y,ι id=some y→ι' id=some y)→Rel N' Q ι' v x:=by
 induction h with
 | int ι k n=>intro ι' _;exact .int _ _ _
 | bool ι b=>intro ι' _;exact .bool _ _
 | str ι s=>intro ι' _;exact .str _ _
 | nils ι=>intro ι' _;exact .nils _
 | sl0 ι A c S=>intro ι' _;exact .sl0 _ _ _ S
 | sl ι l b o c sz G V C z p M J D u =>
  intro ι' _;exact .sl ι' l b o c sz G V (by omega) (fun h=>z (L b C h)) p (fun j e O i x t=>(sH (K b C z)).trans (M j e O i x t)) (fun j e O i x t=>u j e O i x t (fun _ _ h=>h)) ⟨D.1,D.2.bb (fun g E=>by injection E with E;subst E;exact K b C z)⟩
 | fn ι f d ys F J u=>intro ι' _;exact .fn _ f d ys F (fun i c y p I=>u i c y p I (fun _ _ h=>h))
 | fno ι f d ys F J u=>intro ι' a;exact .fno ι' f d ys F (fun i c y p I=>u i c y p I a)
 | nilf ι=>intro ι' _;exact .nilf _
 | nilp ι=>intro ι' _;exact .nilp _
 | any ι x h=>intro ι' _;exact .any _ _ h
 | ptr ι id off g h=>intro ι' a;exact .ptr _ _ _ _ (a _ _ h)
 | eptr ι id sz j off g n c h=>intro ι' a;exact .eptr _ _ _ _ _ _ n c (a _ _ h)
 | sref ι id sz off m n c R A B h T=>intro ι' a;exact .sref _ _ _ _ _ n c R A B (a _ _ h) T
 | cptr ι H b o G C z p M J u =>
  intro ι' _;exact .cptr ι' H b o G (by omega) (fun h=>z (L b C h)) p (fun i x t=>(sH (K b C z)).trans (M i x t)) (fun i x t=>u i x t (fun _ _ h=>h))
 | adr ι g off=>intro ι' _;exact .adr _ _ _
 | pp ι id g off h=>intro ι' a;exact .pp _ _ _ _ (a _ _ h)
 | sit ι id g s W h E z C=>intro ι' a;exact .sit _ _ _ _ _ (a _ _ h) (zS E U) (fun h=>z (L g E h)) ((K g E z).trans C)
 | ref ι id A n c h=>intro ι' a;exact .ref _ _ _ _ _ (a _ _ h)
 | nilm ι=>intro ι' _;exact .nilm _
 | vv ι x h=>intro ι' _;exact .vv _ _ h
 | lk ι id v x h p=>intro ι' a;exact .lk _ _ _ _ (a _ _ h) p
 | mref ι id q r v h I=>intro ι' a;exact .mref _ _ _ _ v (a _ _ h) (a _ _ I)
 | agg ι H vs F p J u=>intro ι' a;exact .agg ι' H vs F p (fun i x v t P=>u i x v t P a)
 | tup ι H vs F J u=>intro ι' a;exact .tup ι' H vs F (fun i x v t P=>u i x v t P a)
theorem Cells.mono{N N'}{w a}{ι ι'}{c}{vs}(h:Cells N w ι c vs)(e:w.heap.size≤a.heap.size)
  (d:∀b,b<w.heap.size→N' b→N b) (g:∀b,b<w.heap.size→¬ N b→a.heap[b]?=w.heap[b]?) (k:∀id y,ι id=some y→ι' id=some y):Cells N' a ι' c vs :=
 ⟨h.len,h.one,fun i x v j f=>(h.rel i x v j f).mono e d g k⟩
mutual
def AV.bu(u:ck):AV→Bool
 | .ptr id _=>u.contains id
 | .eptr id _ _ _=>u.contains id
 | .sref id _ _ _=>u.contains id
 | .ref id=>u.contains id
 | .lk id _=>u.contains id
 | .mref id q=>u.contains (nm id q)&&u.contains id
 | .pp id _ _=>u.contains id
 | .sit id _ _ _=>u.contains id
 | .agg a=>bS u a
 | .tup a=>bS u a
 | .fno _ a=>bS u a
 | _=>true
def bS(u:ck):List AV→Bool
 | []=>true
 | c::r=>c.bu u&&bS u r
end
theorem fZ{u}:∀{l},bS u l=true→∀(i:Nat) x,l[i]?=some x→x.bu u=true
 | [],_,i,x,a=>by grind
 | c::r,h,0,x,a=>by grind[bS]
 | c::r,h,i+1,x,a=>by simp only[bS,fz]at h;exact fZ h.2 i x a
theorem Rel.env{N:Nat→Prop}{w:World}{ι:Env}{v:AV}{x:Value}(h:Rel N w ι v x){u:ck}{ι':Env}(d:∀id,u.contains id=true→ι' id=ι id):v.bu u=true→Rel N w ι' v x:=by
 induction h with
 | int ι k n=>intro _;exact .int _ _ _
 | bool ι b=>intro _;exact .bool _ _
 | str ι s=>intro _;exact .str _ _
 | nils ι=>intro _;exact .nils _
 | sl0 ι A c O=>intro _;exact .sl0 _ _ _ O
 | sl ι l b o c sz D T G I z E p H t=>intro _;exact .sl _ l b o c sz D T G I z E p H
 | fn ι f e ys C p t=>intro _;exact .fn _ f e ys C p
 | fno ι f e ys C p t=>intro a;exact .fno _ f e ys C (fun i c y E S=>t i c y E S d (fZ (by simpa[AV.bu]using a) i c E))
 | nilf ι=>intro _;exact .nilf _
 | nilp ι=>intro _;exact .nilp _
 | any ι x h=>intro _;exact .any _ _ h
 | ptr ι id off g h=>intro a;exact .ptr _ _ _ _ ((d id (by simpa[AV.bu]using a)).trans h)
 | eptr ι id sz j off g n c h=>intro a;exact .eptr _ _ _ _ _ _ n c ((d id (by simpa[AV.bu]using a)).trans h)
 | sref ι id sz off m n c M A B h Q=>intro a;exact .sref _ _ _ _ _ n c M A B ((d id (by simpa[AV.bu]using a)).trans h) Q
 | cptr ι F b o D G I z E p t=>intro _;exact .cptr _ F b o D G I z E p
 | adr ι g off=>intro _;exact .adr _ _ _
 | pp ι id g off h=>intro a;exact .pp _ _ _ _ ((d id (by simpa[AV.bu]using a)).trans h)
 | sit ι id g s U h R I G=>intro a;exact .sit _ _ _ _ _ ((d id (by simpa[AV.bu]using a)).trans h) R I G
 | ref ι id A n c h=>intro a;exact .ref _ _ _ _ _ ((d id (by simpa[AV.bu]using a)).trans h)
 | nilm ι=>intro _;exact .nilm _
 | vv ι x h=>intro _;exact .vv _ _ h
 | lk ι id v x h z=>intro a;exact .lk _ _ _ _ ((d id (by simpa[AV.bu]using a)).trans h) z
 | mref ι id q r v h P=>intro a;have J:=AY.1 a;exact .mref _ _ _ _ v ((d _ J.1).trans h) ((d _ J.2).trans P)
 | agg ι F vs C z p t=>intro a;exact .agg _ F vs C z (fun i x v K L=>t i x v K L d (fZ (by simpa[AV.bu]using a) i x K))
 | tup ι F vs C p t=>intro a;exact .tup _ F vs C (fun i x v K L=>t i x v K L d (fZ (by simpa[AV.bu]using a) i x K))
theorem Rel.pure{N}{w}{ι}{v}{x}(h:Rel N w ι v x)(b:v.bu []=true) ι':Rel N w ι' v x :=
 h.env (u:=[]) (fun id a=>by grind) b
def AV.qb:AV→Bool
 | .agg _|.tup _=>false
 | _=>true
theorem Rel.one{N}{w}{ι}{v}{x}(h:Rel N w ι v x)(a:v.qb=true):x.oneCell'=true:=by
 cases h<;>first|rfl|assumption|grind
def look{α:Type}(k:Nat):List (Nat×α)→Option α
 | []=>none
 | (j,v)::r=>if k=j then some v else look k r
def aD{α:Type}(k:Nat)(v:α):List (Nat×α)→List (Nat×α)
 | []=>[(k,v)]
 | (j,x)::r=>if k=j then (k,v)::r else (j,x)::aD k v r
theorem bz{α} k(v:α):∀l i,look i (aD k v l)=if i=k then some v else look i l
 | [],i=>rfl
 | (j,x)::r,i=>by
  unfold aD;by_cases h:k=j
  ·grind[look]
  ·rw[o9 h];simp only[look,bz k v r]
   grind
def sA(w:World)(m:Option (List (Int×Bool)))(x:Value):Prop :=
 match m with
 | none=>x=.map none
 | some l=>∃r b a,x=.map (some r)∧w.heap[r]?=some (.map b a)∧b.toList.map (fun e=>(e.key,e.val))=l.map (fun p=>(Value.int .i64 p.1,Value.bool p.2))
def le(w:World)(B:Nat)(e:TypeId)(sz:Nat)(v:Value)(n:Nat)(xs:b5):Prop:=w.ownsRow B e sz v n xs∧ZK w sz v n
theorem yF{w b:World}{B:Nat}{e:TypeId}{sz:Nat}{v:Value}{n:Nat}{xs:b5}(h:w.ownsRow B e sz v n xs)(f:∀g,bq (some v)=some g→b.heap[g]?=w.heap[g]?):b.ownsRow B e sz v n xs:=by
 refine⟨h.1,?_⟩;rcases h.2 with i|⟨g,cap,a,rfl,c,d,r⟩
 ·exact .inl i
 ·exact .inr ⟨g,cap,a,rfl,c,(f g rfl).trans d,r⟩
theorem du{w b:World}{B:Nat}{e:TypeId}{sz:Nat}{v:Value}{n:Nat}{xs:b5}(h:le w B e sz v n xs)(a:∀g,bq (some v)=some g→b.heap[g]?=w.heap[g]?):le b B e sz v n xs:=⟨yF h.1 a,h.2.bb a⟩
def lz(N:Nat→Prop)(w:World)(e:TypeId)(sz:Nat)(l:List (List AV))(x:Value):Prop :=
 ∃xs,le w 0 e sz x l.length xs∧(∀c∈l,c.length=sz)∧(∀y∈xs,y.oneCell'=true) ∧
  (∀(j:Nat) (c:List AV),l[j]?=some c→∀(i:Nat) (a:AV),c[i]?=some a→∃y,xs[j*sz+i]?=some y∧Rel N w aG a y)
theorem lz.mono{N N'}{w d}{e}{sz}{l}{x}(h:lz N w e sz l x)(u:w.heap.size≤d.heap.size)
  (q:∀b,b<w.heap.size→N' b→N b) (v:∀b,b<w.heap.size→¬ N b→d.heap[b]?=w.heap[b]?) (r:∀g,bq (some x)=some g→d.heap[g]?=w.heap[g]?):lz N' d e sz l x:=by
 obtain⟨xs,m,n,o,p⟩:=h;refine⟨xs,du m r,n,o,fun j c t i a s=>?_⟩;obtain⟨y,f,k⟩:=p j c t i a s;exact⟨y,f,k.mono u q v (fun _ _ h=>h)⟩
def dn(N:Nat→Prop)(w:World)(t:Prop)(o:Option Value)(c:AV)(x:Value):Prop :=
 Rel N w aG c x∨(t∧∃m r,c=.omp m∧x=.map r∧o=some x∧sA w m x)∨(t∧∃e sz l r,c=.osl e sz l∧o=some (.map r)∧bq (some x)=r∧lz N w e sz l x)
theorem dn.mono{N N':Nat→Prop}{w a:World}{t y:Prop}{o v:Option Value}{c:AV}{x:Value}(h:dn N w t o c x)(q:w.heap.size≤a.heap.size)
  (n:∀b,b<w.heap.size→N' b→N b) (u:∀b,b<w.heap.size→¬ N b→a.heap[b]?=w.heap[b]?) (p:∀r,o=some (.map r)→v=some (.map r)) (z:∀r,o=some (.map (some r))→a.heap[r]?=w.heap[r]?) (s:t→y):dn N' a y v c x:=by
 rcases h with h|⟨d,m,r,f,i,j,k⟩|⟨d,e,sz,l,r,f,i,j,k⟩
 ·exact .inl (h.mono q n u (fun _ _ h=>h))
 ·subst i;refine .inr (.inl ⟨s d,m,r,f,rfl,p r j,?_⟩);unfold sA at k⊢
  grind
 ·exact .inr (.inr ⟨s d,e,sz,l,r,f,p r i,j,k.mono q n u (fun g A=>z g (by grind))⟩)
def AV.rB:AV→Bool
 | .omp _=>false
 | .osl _ _ _=>false
 | _=>true
def AV.gx:AV→AV
 | .omp _=>.any
 | .osl _ _ _=>.any
 | c=>c
theorem dn.gx{N}{w}{t}{o}{c}{x}(h:dn N w t o c x)(a:x.oneCell'=true):Rel N w aG c.gx x:=by
 rcases h with h|⟨_,_,_,e,_⟩|⟨_,_,_,_,_,e,_⟩
 ·have:c.gx=c:=by cases h<;>rfl
  grind
 ·subst e;exact .any _ _ a
 ·subst e;exact .any _ _ a
theorem dn.zb{N}{w}{t}{o}{c}{x}(h:dn N w t o c x)(a:t→c.rB=true):Rel N w aG c x:=by
 rcases h with h|⟨h,_,_,e,_⟩|⟨h,_,_,_,_,e,_⟩
 ·grind
 ·have:=a h;rw[e]at this;cases this
 ·have:=a h;rw[e]at this;cases this
theorem dn.flat{N}{w}{t}{o}{c}{x}(h:dn N w t o c x)(a:¬ t):Rel N w aG c x:=by
 rcases h with h|⟨h,_⟩|⟨h,_⟩
 ·grind
 ·grind
 grind
structure bw where
 e:TypeId
 sz:Nat
 l:List (List AV)
structure AS where
 t:List (Nat×AV)
 o:List (Nat×List AV)
 r:List (Nat×bw)
 u:ck
def NN(M:Nat→Prop)(ι:Env):Nat→Prop:=fun b=>M b∨∃id,bq (ι id)=some b
structure aC where
 w:World
 G:Nat→Prop
 pv:Nat→Option Value
def aC.O(b:aC)(g:Nat):Prop:=b.w.heap.size≤g∨b.G g
structure dc(b:aC)(w w':World):Prop where
 os:w'.os=w.os
 tape:w'.tape=w.tape
 output:w'.output=w.output
 size:w.heap.size≤w'.heap.size
 block:∀k,k<b.w.heap.size→¬ b.G k→w'.heap[k]?=w.heap[k]?
abbrev sD(b:aC)(w:World):Prop:=dc b b.w w
theorem dc.trans{b}{u v w}(h:dc b u v)(k:dc b v w):dc b u w:=⟨k.os.trans h.os,k.tape.trans h.tape,k.output.trans h.output,Ap h.size k.size,fun i c a=>(k.block i c a).trans (h.block i c a)⟩
theorem dc.of{b}{v w}(h:Below v.heap.size v w)(c:b.w.heap.size≤v.heap.size):dc b v w:=⟨h.os,h.tape,h.output,h.size,fun k a _=>h.block k (zS a c)⟩
def fU(w:World):aC:=⟨w,fun _=>False,fun _=>none⟩
theorem dc.plain{w a}(h:sD (fU w) a):Below w.heap.size w a:=⟨h.os,h.tape,h.output,h.size,fun k b=>h.block k b (fun h=>h)⟩
def co(id:Nat):Nat:=id+1000000
def tyName(id T:Nat):Prop:=450000≤id→id<500000→T=(id-450000) % 1000
abbrev sF id:={ T:TypeId // tyName id T }
def rl:Option Value→Bool
 | some (.bool _)=>false
 | some _=>true
 | none=>false
theorem uq{o:Option Value}(h:rl o=true):∃y,o=some y:=by cases o with|none=>cases h|some y=>exact⟨y,rfl⟩
structure HS(M:Nat→Prop)(w0:aC)(w:World)(ι:Env)(s:AS):Prop where
 below:sD w0 w
 old:∀b,M b→b<w0.w.heap.size∧¬ w0.G b
 use:∀id y,ι id=some y→has s.u id=true
 own:∀id g,bq (ι id)=some g→w0.O g∧g<w.heap.size
 inj:∀id id' g,bq (ι id)=some g→bq (ι id')=some g→id=id'
 ko:∀id cs,look id s.o=some cs→has s.u id=true
 kr:∀id a,look id s.r=some a→has s.u id=true
 objs:∀id cs,look id s.o=some cs→rl (ι id)=true→∃(g:Nat) (T:sF id) (vs:Array Value),ι id=some (.pointer (some ⟨g,0,none⟩))∧w.heap[g]?=some (.cells vs T.1 (0,0))∧Cells (NN M ι) w ι cs vs.toList
 arrz:∀id a,look id s.r=some a→(ι id).isSome=true→∃v xs,ι id=some v∧le w 0 a.e a.sz v a.l.length xs∧(∀e∈a.l,e.length=a.sz)∧(∀x∈xs,x.oneCell'=true) ∧
  (∀(j:Nat) (e:List AV),a.l[j]?=some e→∀(i:Nat) (c:AV),e[i]?=some c→∃x,xs[j*a.sz+i]?=some x∧dn (NN M ι) w (TG≤id) (ι (nm id (j*a.sz+i))) c x)
 pin:∀id v,w0.pv id=some v→ι id=some v∧s.u.contains (co id)=true
theorem HS.dL{M:Nat→Prop}{l:aC}{w:World}{ι:Env}{s:AS}(h:HS M l w ι s):∀id a,look id s.r=some a→(ι id).isSome=true→∃v xs,ι id=some v∧w.ownsRow 0 a.e a.sz v a.l.length xs∧(∀e∈a.l,e.length=a.sz)∧(∀x∈xs,x.oneCell'=true) ∧
  (∀(j:Nat) (e:List AV),a.l[j]?=some e→∀(i:Nat) (c:AV),e[i]?=some c→∃x,xs[j*a.sz+i]?=some x∧dn (NN M ι) w (TG≤id) (ι (nm id (j*a.sz+i))) c x):=fun id a g k=>by
 obtain⟨v,xs,b,d,f⟩:=h.arrz id a g k;exact⟨v,xs,b,d.1,f⟩
theorem HS.sep{M}{e}{w}{ι}{s}(h:HS M e w ι s){id b}(c:M b)(d:bq (ι id)=some b):False:=by
 have f:=h.old b c;rcases (h.own id b d).1 with a|a
 ·omega
 grind
theorem HS.eI{M}{b}{w}{ι}{s}(h:HS M b w ι s){k id r}{v}(a:ι k=some (.map (some r)))(d:ι id=some v)(c:∀r,v ≠ .map r):bq (some v)≠some r:=fun e=>by
 have:=h.inj k id r (by rw[a];rfl) (by grind)
 grind
theorem HS.eW{M}{b}{w}{ι}{s}(h:HS M b w ι s){k r}(a:ι k=some (.map (some r))):r<w.heap.size:=(h.own k r (by rw[a];rfl)).2
theorem HS.np{M}{a}{w}{ι}{s}(h:HS M a w ι s){id}(c:s.u.contains (co id)=false):a.pv id=none:=by
 cases b:a.pv id with
 | none=>rfl
 | some y=>have:=(h.pin id y b).2;grind
structure Cx where
 P:Program
 n:Nat
 M:Nat→Prop
 w0:aC
structure ax(cx:Cx)(s:AS)(a:Act)(w:World)(ι:Env):Prop where
 hs:HS cx.M cx.w0 w ι s
 dfr:a.defers=FM.ds
 n:a.tmps.size=cx.n
 tmp:∀k v,look k s.t=some v→∃x,a.tmps[k]?=some x∧Rel (NN cx.M ι) w ι v x
def AS.put(s:AS)(d:Option Tmp)(v:AV):AS:=match d with|some k=>{ s with t:=aD k v s.t }|none=>s
theorem ax.put{c:Cx}{s:AS}{a:Act}{w:World}{ι:Env}(h:ax c s a w ι){d:Option Tmp}(g:∀k,d=some k→k<c.n){v:AV}{x:Value}(m:Rel (NN c.M ι) w ι v x):ax c (s.put d v) (a.put d x) w ι:=by
 cases d with
 | none=>exact h
 | some k =>
  have i:=g k rfl;refine⟨⟨h.hs.below,h.hs.old,h.hs.use,h.hs.own,h.hs.inj,h.hs.ko,h.hs.kr,h.hs.objs,h.hs.arrz,h.hs.pin⟩,h.dfr,by simp[Act.put,h.n],fun j y b=>?_⟩;simp only[AS.put,bz]at b;by_cases e:j=k
  ·subst e;rw[l2 rfl]at b;injection b with b;subst b
   exact⟨x,by simp[Act.put,h.n,i],m⟩
  ·rw[o9 e]at b;obtain⟨z,n,l⟩:=h.tmp j y b;exact⟨z,by simp only[Act.put];rw[v9 (fun f=>e f.symm)];exact n,l⟩
def era{α:Type}(k:Nat):List (Nat×α)→List (Nat×α)
 | []=>[]
 | (j,x)::r=>if k=j then era k r else (j,x)::era k r
theorem jA{α} k:∀(l:List (Nat×α)) i,look i (era k l)=if i=k then none else look i l
 | [],i=>by simp[era,look]
 | (j,x)::r,i=>by
  unfold era;by_cases h:k=j
  ·rw[l2 h,jA k r i];grind[look]
  ·rw[o9 h];simp only[look,jA k r]
   grind
def AS.drop(s:AS)(d:Option Tmp):AS:=match d with|some k=>{ s with t:=era k s.t }|none=>s
theorem ax.drop{c:Cx}{s:AS}{a:Act}{w:World}{ι:Env}(h:ax c s a w ι)(d:Option Tmp)(x:Value):ax c (s.drop d) (a.put d x) w ι:=by
 cases d with
 | none=>exact h
 | some k =>
  refine⟨⟨h.hs.below,h.hs.old,h.hs.use,h.hs.own,h.hs.inj,h.hs.ko,h.hs.kr,h.hs.objs,h.hs.arrz,h.hs.pin⟩,h.dfr,by simp[Act.put,h.n],fun j y b=>?_⟩;simp only[AS.drop,jA]at b;by_cases e:j=k
  ·rw[l2 e]at b;cases b
  ·rw[o9 e]at b;obtain⟨z,i,g⟩:=h.tmp j y b;exact⟨z,by simp only[Act.put];rw[v9 (fun f=>e f.symm)];exact i,g⟩
def dQ:Value→Option AV
 | .int k n=>some (.int k n)
 | .bool b=>some (.bool b)
 | .string s=>some (.str s)
 | .slice none 0 0=>some .nils
 | .nilFunc=>some .nilf
 | .pointer none=>some .nilp
 | .map none=>some .nilm
 | .nilIface=>some (.vv .nilIface)
 | _=>none
def ct:b5→Option (List AV)
 | []=>some []
 | v::r=>match dQ v,ct r with|some x,some y=>some (x::y)|_,_=>none
def nX:Value→Option AV
 | .agg a=>(ct a.toList).map .agg
 | v=>dQ v
theorem oU N w ι{v}{x}(h:dQ v=some x):Rel N w ι x v∧v.oneCell'=true:=by
 unfold dQ at h;split at h<;>first|grind|(injection h with h;subst h;exact⟨by first|exact .vv _ _ rfl|constructor,rfl⟩)
theorem dh(N:Nat→Prop)(w:World)(ι:Env):∀{l:b5} {x:List AV},ct l=some x→Cells N w ι x l
 | [],x,h=>by injection h with h;subst h;exact⟨rfl,fun v k=>(by cases k),fun i x v m _=>by simp at m⟩
 | v::r,x,h=>by
  unfold ct at h;cases f:dQ v with
  | none=>grind
  | some a =>
   cases g:ct r with
   | none=>grind
   | some b =>
    rw[f,g]at h;injection h with h;subst h
    obtain⟨n,o⟩:=oU N w ι f;have e:=dh N w ι g;refine⟨by simp[e.len],fun y d=>?_,fun i c y j d=>?_⟩
    ·rcases Ac.1 d with rfl|d
     ·grind
     ·exact e.one _ d
    ·cases i with
     | zero=>grind
     | succ i=>exact e.rel i c y j d
theorem t9 N w ι{v}{x}(h:nX v=some x):Rel N w ι x v:=by
 unfold nX at h;split at h
 ·rename_i b;cases d:ct b.toList with
  | none=>grind
  | some a =>
   have c:=dh N w ι d;have:=Rel.agg (N:=N) (w:=w) ι a b.toList c.len c.one c.rel
   simp_all
 ·exact(oU N w ι h).1
def AS.ev(s:AS):Operand→Option AV
 | .tmp t=>look t s.t
 | .const v=>nX v
 | .func f=>some (.fn f [])
 | .global _=>none
theorem ax.ev{d}{s}{a}{w}{ι}(h:ax d s a w ι){x}{v}(b:s.ev x=some v):Rel (NN d.M ι) w ι v (a.eval x):=by
 cases x with
 | tmp t =>
  obtain⟨y,j,e⟩:=h.tmp t v b;show Rel _ _ _ _ (a.tmps.getD t undef)
  simp_all
 | const c=>exact t9 _ _ _ b
 | func f=>injection b with b;subst b;exact .fn _ _ [] [] rfl (fun i c y h _=>by grind)
 | global g=>cases b
end Go.Proofs.Ytkciiamllegclaa
namespace Go.Proofs.Ytkciiamllegclaa
set_option linter.all false
variable[ZX]
open Go.RowKit
variable[FM]
theorem bX{w:World}{g b}{c}(h:b≠g):(w.setRow g c).heap[b]?=w.heap[b]?:=setRow_other w g b c h
theorem HS.setObj{M:Nat→Prop}{J:aC}{w:World}{ι:Env}{s:AS}(h:HS M J w ι s){id g:Nat}{T:sF id}{vs:Array Value}{t:List AV}{l:b5}
  (p:ι id=some (.pointer (some ⟨g,0,none⟩))) (R:w.heap[g]?=some (.cells vs T.1 (0,0))) (Q:Cells (NN M ι) w ι t l) :
  HS M J (w.setRow g l.toArray) ι { s with o:=aD id t s.o }:=by
 have n:bq (ι id)=some g:=by rw[p];rfl
 obtain⟨A,U⟩:=h.own id g n;have K:∀b,¬ NN M ι b→(w.setRow g l.toArray).heap[b]?=w.heap[b]?:=fun b m=>bX (fun e=>m (.inr ⟨id,by rw[e];exact n⟩));have d:∀b,b<w.heap.size→¬ NN M ι b→(w.setRow g l.toArray).heap[b]?=w.heap[b]?:=fun b _ m=>K b m;refine⟨?_,h.old,h.use,fun i k z=>?_,h.inj,fun i B f=>?_,h.kr,fun i B f F=>?_,fun i a f F=>?_,h.pin⟩
 ·exact h.below.trans ⟨rfl,rfl,rfl,by simp,fun k z P=>bX (fun e=>by subst e;rcases A with A|A;omega;exact P A)⟩
 ·have:=h.own i k z;simp;exact this
 ·simp only[bz]at f;by_cases e:i=id
  ·subst e;exact h.use i _ p
  ·rw[o9 e]at f;exact h.ko i B f
 ·simp only[bz]at f;by_cases e:i=id
  ·subst e;rw[l2 rfl]at f;injection f with f;subst f
   exact⟨g,T,l.toArray,p,Am w g vs _ T.1 _ R,by simpa using Q.mono (by simp) (fun b _ m=>m) d (fun _ _ h=>h)⟩
  ·rw[o9 e]at f;obtain⟨u,T',H,q,y,C⟩:=h.objs i B f F;have E:u≠g:=fun L=>e (h.inj i id g (by rw[q,L];rfl) n);exact⟨u,T',H,q,(bX E).trans y,C.mono (by simp) (fun b _ m=>m) d (fun _ _ h=>h)⟩
 ·obtain⟨v,xs,q,y,C,N,O⟩:=h.arrz i a f F;refine⟨v,xs,q,du y (fun u D=>bX ?_),C,N,fun j e S k c z=>?_⟩
  ·intro e;subst e;have:=h.inj i id u (by rw[q];exact D) n;subst this;rw[q]at p;injection p with p
   subst p;rcases y.1.2 with⟨I,_⟩|⟨_,_,_,I,_⟩<;>cases I
  ·obtain⟨x,W,V⟩:=O j e S k c z;exact⟨x,W,V.mono (by simp) (fun b _ m=>m) d (fun _ h=>h) (fun r G=>bX (fun e=>h.eI G p (fun _ e=>by cases e) (by rw[e];rfl))) (fun h=>h)⟩
theorem ax.world{c}{s}{a}{w d}{ι ι'}(h:ax c s a w ι){s'}(i:HS c.M c.w0 d ι' s')(j:s'.t=s.t)(n:w.heap.size≤d.heap.size)
  (f:∀b,b<w.heap.size→NN c.M ι' b→NN c.M ι b) (l:∀b,b<w.heap.size→¬ NN c.M ι b→d.heap[b]?=w.heap[b]?) (o:∀id y,ι id=some y→ι' id=some y):ax c s' a d ι' :=
 ⟨i,h.dfr,h.n,fun k v e=>by
  rw[j]at e;obtain⟨x,m,g⟩:=h.tmp k v e;exact⟨x,m,g.mono n f l o⟩⟩
def ext(ι:Env)(d:Nat)(v:Value):Env:=fun i=>if i=d then some v else ι i
theorem bA ι d v:ext ι d v d=some v:=by simp[ext]
theorem aI ι{d i} v(h:i≠d):ext ι d v i=ι i:=by simp[ext,h]
theorem cz{ι}{d}(h:ι d=none) v:∀id y,ι id=some y→ext ι d v id=some y:=fun id y a=>by
 grind[aI]
theorem c8{M}{ι}{d}{v}{b}(h:NN M (ext ι d v) b):NN M ι b∨bq (some v)=some b:=by
 rcases h with h|⟨id,h⟩
 ·exact .inl (.inl h)
 ·by_cases e:id=d
  ·grind[bA]
  ·rw[aI _ _ e]at h;exact .inl (.inr ⟨id,h⟩)
theorem HS.free{M}{a}{w}{ι}{s}(h:HS M a w ι s){d}(b:has s.u d=false):ι d=none:=by
 cases e:ι d with
 | none=>rfl
 | some y=>have:=h.use d y e;grind
theorem kU{u:ck}{d i}(h:u.contains i=true):(d::u).contains i=true:=by
 grind
theorem dC{u}{d i}(h:has u i=true):has (d::u) i=true:=by
 grind[has]
theorem fh u d:has (d::u) d=true:=d7 (by simp)
theorem dc.alloc{b}{v w}(h:dc b v w)(a:b.w.heap.size≤w.heap.size) o:dc b v (w.alloc o) :=
 h.trans (.of ((Below.refl w.heap.size w).alloc (by omega) o) a)
theorem HS.alloc{M:Nat→Prop}{N:aC}{w:World}{ι:Env}{s:AS}(h:HS M N w ι s){d:Nat}(Q:has s.u d=false){T:TypeId}(W:tyName d T){O:List AV}{vs:b5}(X:Cells (NN M ι) w ι O vs):
  HS M N (w.alloc (.cells vs.toArray T)) (ext ι d (.pointer (some ⟨w.heap.size,0,none⟩))) { s with o:=aD d O s.o,u:=d::s.u }:=by
 have Z:=h.free Q;have z:N.w.heap.size≤w.heap.size:=h.below.size;have E:∀b,b<w.heap.size→¬ NN M ι b→(w.alloc (.cells vs.toArray T)).heap[b]?=w.heap[b]?:=fun b P _=>iO _ _ _ P;have I:∀b,b<w.heap.size→NN M (ext ι d (.pointer (some ⟨w.heap.size,0,none⟩))) b→NN M ι b:=fun b P q=>by
  rcases c8 q with q|q
  ·exact q
  ·injection q with q;simp only[]at q;omega
 have C:=cz Z (.pointer (some ⟨w.heap.size,0,none⟩));refine⟨h.below.alloc z _,h.old,fun i y R=>?_,fun i g l=>?_,fun i D g l f=>?_,fun i p m=>?_,fun i a m=>dC (h.kr i a m),fun i p m n=>?_,fun i a m n=>?_,fun i v n=>⟨C i v (h.pin i v n).1,kU (h.pin i v n).2⟩⟩
 ·by_cases e:i=d
  ·subst e;exact fh _ _
  ·rw[aI _ _ e]at R;exact dC (h.use i y R)
 ·by_cases e:i=d
  ·subst e;rw[bA]at l;injection l with l;simp only[]at l;subst l;exact⟨.inl z,by simp⟩
  ·rw[aI _ _ e]at l;exact⟨(h.own i g l).1,by have:=(h.own i g l).2;simp;omega⟩
 ·by_cases e:i=d
  ·by_cases A:D=d
   ·omega
   ·subst e;rw[bA]at l;rw[aI _ _ A]at f;injection l with l;simp only[]at l
    have:=(h.own D g f).2;omega
  ·by_cases A:D=d
   ·subst A;rw[bA]at f;rw[aI _ _ e]at l;injection f with f;simp only[]at f
    have:=(h.own i g l).2;omega
   ·rw[aI _ _ e]at l;rw[aI _ _ A]at f;exact h.inj i D g l f
 ·simp only[bz]at m;by_cases e:i=d
  ·subst e;exact fh _ _
  ·rw[o9 e]at m;exact dC (h.ko i p m)
 ·simp only[bz]at m;by_cases e:i=d
  ·subst e;rw[l2 rfl]at m;injection m with m;subst m
   exact⟨w.heap.size,⟨T,W⟩,vs.toArray,bA _ _ _,zH w _,by simpa using X.mono (by simp) I E C⟩
  ·rw[o9 e]at m;rw[aI _ _ e]at n;obtain⟨B,T',L,t,G,H⟩:=h.objs i p m n;have K:=(h.own i B (by rw[t];rfl)).2;exact⟨B,T',L,(aI _ _ e).trans t,(iO _ _ _ K).trans G,H.mono (by simp) I E C⟩
 ·have e:i≠d:=by rintro rfl;have:=h.kr i a m;rw[Q]at this;cases this
  rw[aI _ _ e]at n;obtain⟨v,xs,t,G,H,U,V⟩:=h.arrz i a m n;refine⟨v,xs,(aI _ _ e).trans t,du G (fun B f=>iO _ _ _ (h.own i B (by rw[t];exact f)).2),H,U,fun j S Y k c J=>?_⟩;obtain⟨x,hx,hr⟩:=V j S Y k c J;exact⟨x,hx,hr.mono (by simp) I E (fun r F=>C _ _ F) (fun r F=>iO _ _ _ (h.eW F)) (fun h=>h)⟩
theorem HS.fresh{M:Nat→Prop}{B:aC}{w:World}{ι:Env}{s:AS}(h:HS M B w ι s)(o:Obj):HS M B (w.alloc o) ι s:=by
 have z:B.w.heap.size≤w.heap.size:=h.below.size;have C:∀b,b<w.heap.size→¬ NN M ι b→(w.alloc o).heap[b]?=w.heap[b]?:=fun b e _=>iO _ _ _ e;refine⟨h.below.alloc z _,h.old,h.use,fun i g D=>?_,h.inj,h.ko,h.kr,fun i l q y=>?_,fun i a q y=>?_,h.pin⟩
 ·exact⟨(h.own i g D).1,by have:=(h.own i g D).2;simp;omega⟩
 ·obtain⟨f,T',A,d,m,n⟩:=h.objs i l q y;have u:=(h.own i f (by rw[d];rfl)).2;exact⟨f,T',A,d,(iO _ _ _ u).trans m,n.mono (by simp) (fun b _ e=>e) C (fun _ _ h=>h)⟩
 ·obtain⟨v,xs,d,m,n,G,H⟩:=h.arrz i a q y;refine⟨v,xs,d,du m (fun f p=>iO _ _ _ (h.own i f (by rw[d];exact p)).2),n,G,fun j E I k c t=>?_⟩;obtain⟨x,K,J⟩:=H j E I k c t;exact⟨x,K,J.mono (by simp) (fun b _ e=>e) C (fun _ h=>h) (fun r F=>iO _ _ _ (h.eW F)) (fun h=>h)⟩
theorem hZ{M}{c}{w}{ι}{s}(h:HS M c w ι s){b}(a:NN M ι b):b<w.heap.size:=by
 rcases a with a|⟨id,a⟩
 ·exact zS (h.old b a).1 h.below.size
 ·exact(h.own id b a).2
theorem so{M:Nat→Prop}{p:aC}{w:World}{ι:Env}{s:AS}(h:HS M p w ι s){T:TypeId}{sz:Nat}{l:List (List AV)}{vs:b5}(o:∀e∈l,e.length=sz)(m:∀v∈vs,v.oneCell'=true)
  (k:∀(j:Nat) (e:List AV),l[j]?=some e→∀(i:Nat) (x:AV),e[i]?=some x→∃v,vs[j*sz+i]?=some v∧Rel (NN M ι) w aG x v)
  (d:0<l.length∨ZX.p=true):Rel (NN M ι) (w.alloc (.cells vs.toArray T)) ι (.sl l) (.slice (some ⟨w.heap.size,0,none⟩) l.length l.length):=by
 refine .sl _ l _ 0 _ sz (fun j i=>(vs[j*sz+i]?).getD (.bool true)) o (by simp) (fun a=>by have:=hZ h a;omega) (fun j i=>?_) (fun j e c i x g=>?_) (fun j e c i x g=>?_) ⟨io _,.full rfl d (zH w _)⟩
 ·cases e:vs[j*sz+i]? with
  | none=>rfl
  | some v=>exact m v (h6 e)
 ·obtain⟨v,f,_⟩:=k j e c i x g;rw[zN _ _ _ _ T (0,0) (zH w _)];simp[f]
 ·obtain⟨v,f,n⟩:=k j e c i x g;simp only[f,v7];exact n.mono (by simp) (fun b _ a=>a) (fun b a _=>iO _ _ _ a) (fun _ _ h=>h)
end Go.Proofs.Ytkciiamllegclaa
namespace Go.Proofs.Ytkciiamllegclaa
set_option linter.all false
variable[ZX]
open Go.RowKit
variable[FM]
def aV(P:Program)(T:TypeId):Option Nat:=(P.info? T).map (·.size)
def gc(P:Program)(T:TypeId):Option Bool:=(P.underlying T).map (·.isRow)
def oc(P:Program)(T:TypeId)(f:Nat):Option Nat :=
 match P.underlying T with
 | some (.struct a)=>match a[f]? with
  | some g=>match aV P g.type with
   | some (_+1)=>some g.offset
   | _=>none
  | none=>none
 | _=>none
def fe(P:Program)(T:TypeId):Option (Nat×Nat) :=
 match P.underlying T with
 | some (.array n e)=>(aV P e).map (n,·)
 | _=>none
def cY(P:Program)(T:TypeId):Option (TypeId×Nat) :=
 match P.underlying T with
 | some (.slice e)=>(aV P e).map (e,·)
 | _=>none
def qn(P:Program)(T:TypeId):Bool:=match P.underlying T with|some .string=>true|_=>false
def da(P:Program)(T:TypeId):Option (List AV):=((P.info? T).bind (·.zero)).bind fun z=>ct z.cells.toList
def nF(P:Program)(T:TypeId):Option (List (Nat×Nat)) :=
 match P.underlying T with
 | some (.struct a)=>a.toList.mapM fun f=>(aV P f.type).map (f.offset,·)
 | some (.array n e)=>(aV P e).map fun k=>(List.range n).map fun i=>(i*k,k)
 | _=>none
def AS.mem(s:AS):AV→Option (List AV)
 | .ptr id off=>match look id s.o with|some b=>some (b.drop off)|none=>none
 | .pp id _ off=>match look id s.o with|some b=>some (b.drop off)|none=>none
 | .cptr b=>some b
 | .eptr id sz j off=>match look id s.r with
  | some a=>if a.sz=sz then match a.l[j]? with|some e=>some (if id<TG then e.drop off else (e.drop off).map AV.gx)|none=>none else none
  | none=>none
 | _=>none
theorem qr{I:Cx}{s:AS}{a:Act}{w:World}{ι:Env}(h:ax I s a w ι){p:AV}{x:Value}(hp:Rel (NN I.M ι) w ι p x){R:List AV}(d:s.mem p=some R):
  ∃(b o:Nat) (l:Nat→Value),x=.pointer (some ⟨b,o,none⟩)∧∀(i:Nat) (c:AV),R[i]?=some c→w.cell? ⟨b,o+i,none⟩=some (l i)∧(l i).oneCell'=true∧Rel (NN I.M ι) w ι c (l i):=by
 cases hp with
 | ptr _ id off g t =>
  simp only[AS.mem]at d;cases e:look id s.o with
  | none=>rw[e]at d;cases d
  | some m =>
   rw[e]at d;injection d with d;subst d
   obtain⟨S,T,vs,f,F,q⟩:=h.hs.objs id m e (by rw[t];rfl);rw[t]at f;injection f with f;injection f with f;injection f with f;injection f with f;subst f
   refine⟨g,off,fun i=>(vs[off+i]?).getD (.bool true),rfl,fun i c k=>?_⟩;rw[pl]at k;have A:off+i<vs.size:=by have:=(es.1 k).1;rw[q.len]at this;simpa using this
   have C:vs[off+i]?=some vs[off+i]:=hM A;have D:vs.toList[off+i]?=some vs[off+i]:=by simp
   rw[zN w g _ vs T (0,0) F];simp only[C,v7];exact⟨trivial,q.one _ (by simp),q.rel _ _ _ k D⟩
 | pp _ id g off t =>
  simp only[AS.mem]at d;cases e:look id s.o with
  | none=>rw[e]at d;cases d
  | some m =>
   rw[e]at d;injection d with d;subst d
   obtain⟨S,T,vs,f,F,q⟩:=h.hs.objs id m e (by rw[t];rfl);rw[t]at f;injection f with f;injection f with f;injection f with f;injection f with f;subst f
   refine⟨g,off,fun i=>(vs[off+i]?).getD (.bool true),rfl,fun i c k=>?_⟩;rw[pl]at k;have A:off+i<vs.size:=by have:=(es.1 k).1;rw[q.len]at this;simpa using this
   have C:vs[off+i]?=some vs[off+i]:=hM A;have D:vs.toList[off+i]?=some vs[off+i]:=by simp
   rw[zN w g _ vs T (0,0) F];simp only[C,v7];exact⟨trivial,q.one _ (by simp),q.rel _ _ _ k D⟩
 | eptr _ id sz j off g n c t =>
  simp only[AS.mem]at d;cases e:look id s.r with
  | none=>rw[e]at d;cases d
  | some ar =>
   simp only[e]at d;split at d
   ·rename_i P;cases L:ar.l[j]? with
    | none=>rw[L]at d;cases d
    | some M =>
     rw[L]at d;injection d with d
     obtain⟨v,xs,f,F,q,X,Y⟩:=h.hs.dL id ar e (by rw[t];rfl);rw[t]at f;injection f with f;subst f
     obtain⟨C,_⟩|⟨S,cap,K,C,Z,hg,a0,V,O,B⟩:=F.2
     ·cases C
     ·injection C with G hn y
      injection G with G;injection G with G;subst G
      refine⟨g,j*sz+off,fun i=>(xs[j*sz+off+i]?).getD (.bool true),rfl,fun i c k=>?_⟩;have z:∃u,M[off+i]?=some u∧(c=u∧id<TG∨c=u.gx):=by
       subst d;split at k
       ·rename_i W;rw[pl]at k;exact⟨c,k,.inl ⟨rfl,W⟩⟩
       ·rw[zK,pl]at k;cases U:M[off+i]? with
        | none=>rw[U]at k;cases k
        | some u=>rw[U]at k;injection k with k;exact⟨u,rfl,.inr k.symm⟩
      obtain⟨u,z,N⟩:=z;obtain⟨x,E,J⟩:=Y j M L _ u z;rw[P]at E;have Q:xs[j*sz+off+i]?=some x:=by rw[z4];exact E
      have r:=X _ (h6 E);have H:Rel (NN I.M ι) w aG c x:=by
       rcases N with⟨rfl,W⟩|rfl
       ·exact J.flat (by omega)
       ·exact J.gx r
      rw[z4];simp only[Q,v7];refine⟨?_,r,H.mono (io _) (fun _ _ h=>h) (fun _ _ _=>rfl) (fun _ _ h=>by cases h)⟩;rw[zN w g _ K _ (0,0) hg];rw[←B,sp]at E;split at E
      ·simpa using E
      ·cases E
   ·cases d
 | cptr _ m b o l Z hn f k J =>
  injection d with d;subst d
  exact⟨b,o,l,rfl,fun i c y=>⟨k i c y,f i,(J i c y).mono (by omega) (fun _ _ h=>h) (fun _ _ _=>rfl) (fun _ _ h=>by cases h)⟩⟩
 | _=>cases d
def cT(P:Program)(T:TypeId)(a:List AV):Option AV :=
 match gc P T with
 | some true=>match aV P T with
  | some n=>if n≤a.length then some (.agg (a.take n)) else none
  | none=>none
 | some false=>a.head?
 | none=>none
theorem oY{P:Program}{w:World}{N:Nat→Prop}{ι:Env}{T:TypeId}{g:List AV}{v:AV}(h:cT P T g=some v){b o:Nat}{e:Nat→Value}
  (p:∀(i:Nat) (c:AV),g[i]?=some c→w.cell? ⟨b,o+i,none⟩=some (e i)∧(e i).oneCell'=true∧Rel N w ι c (e i)) :
  ∃x,(Instr.loadAt T (.pointer (some ⟨b,o,none⟩))).run P w=.ok x w∧Rel N w ι v x:=by
 unfold cT at h;cases m:P.underlying T with
 | none=>simp[gc,m]at h
 | some d =>
  cases r:d.isRow with
  | true =>
   simp only[gc,m,us,r]at h;cases u:aV P T with
   | none=>simp[u]at h
   | some n =>
    simp only[u]at h;split at h
    ·rename_i C;injection h with h;subst h
     have f:∀i,((List.range n).map e)[i]?=if i<n then some (e i) else none:=fun i=>by
      by_cases l:i<n<;>simp[l]
     have D:w.rangeAt b o ((List.range n).map e):=fun j y a=>by
      rw[f]at a;split at a
      ·rename_i F;injection a with a;subst a
       have t:j<g.length:=by omega
       exact(p j g[j] (ez t)).1
      ·cases a
     refine⟨_,run_loadAt_mid w b o T _ d D m r (by rw[u6,List.length_range];exact u),.agg _ _ _ (by simp;omega) (fun y a=>?_) (fun i c y q a=>?_)⟩
     ·obtain⟨i,l,rfl⟩:=z3.1 a;have s:i<g.length:=by have:=v8.1 l;omega
      exact(p i g[i] (ez s)).2.1
     ·rw[f]at a;rw[sp]at q;split at a
      ·rename_i l;rw[l2 l]at q;injection a with a;subst a
       exact(p i c q).2.2
      ·cases a
    ·cases h
  | false =>
   simp only[gc,m,us,r]at h;have B:g[0]?=some v:=by simpa[AR]using h
   obtain⟨z,E,A⟩:=p 0 v B;refine⟨e 0,?_,A⟩;have k:(isAgg T).run P w=.ok false w:=by
    unfold isAgg;rw[mm,hF m w];cases d<;>simp_all
   simp only[zU]at z;simp[Instr.loadAt,Instr.sureAddr,loadVar,k,z]
def Good(c:Cx)(ι:Env)(s':AS)(a:Act)(o:Oper)(r:Result Next):Prop :=
 ∃ι',(∀i,some i≠o.dst→ι i=none→ι' i=none)∧((∃x b,r=.ok (.value x) b∧ax c s' (a.put o.dst x) b ι')∨(∃b,r=.ok .skip b∧ax c s' (a.put o.dst undef) b ι'))
def rc(k:IntKind)(x y:Int):Int:=k.wrap (BitVec.ofInt k.bits x &&& BitVec.ofInt k.bits y).toNat
def rC(k:IntKind)(x y:Int):Int:=k.wrap (BitVec.ofInt k.bits x ||| BitVec.ofInt k.bits y).toNat
def iD:BinOp→AV→AV→Option AV
 | .add,.int k x,.int a y=>if k=a then some (.int k (k.wrap (x+y))) else none
 | .sub,.int k x,.int a y=>if k=a then some (.int k (k.wrap (x-y))) else none
 | .mul,.int k x,.int a y=>if k=a then some (.int k (k.wrap (x*y))) else none
 | .quo,.int k x,.int a y=>if k=a∧¬ y=0 then some (.int k (k.wrap (x.tdiv y))) else none
 | .rem,.int k x,.int a y=>if k=a∧¬ y=0 then some (.int k (x.tmod y)) else none
 | .shr,.int k x,.int _ y=>if 0≤y then some (.int k (x / 2 ^ min y.toNat k.bits)) else none
 | .and,.int k x,.int a y=>if k=a then some (.int k (rc k x y)) else none
 | .or,.int k x,.int a y=>if k=a then some (.int k (rC k x y)) else none
 | .shl,.int k x,.int _ y=>if 0≤y then some (.int k (k.wrap (x*2 ^ min y.toNat k.bits))) else none
 | .eql,.int k x,.int a y=>if k=a then some (.bool (x == y)) else none
 | .neq,.int k x,.int a y=>if k=a then some (.bool (x != y)) else none
 | .lss,.int k x,.int a y=>if k=a then some (.bool (decide (x<y))) else none
 | .leq,.int k x,.int a y=>if k=a then some (.bool (decide (x≤y))) else none
 | .gtr,.int k x,.int a y=>if k=a then some (.bool (decide (x>y))) else none
 | .geq,.int k x,.int a y=>if k=a then some (.bool (decide (x≥y))) else none
 | .eql,.str x,.str y=>some (.bool (x.toList == y.toList))
 | .neq,.str x,.str y=>some (.bool (!(x.toList == y.toList)))
 | _,_,_=>none
theorem tf {P:Program} {w:World} {N:Nat→Prop} {ι:Env} {d:BinOp} {u v r:AV} (h:iD d u v=some r) {x y:Value} (e:Rel N w ι u x) (f:Rel N w ι v y) (T:TypeId) (a b:Operand) :
    ∃z,(do eqGuard d T a b x y;binOp d T x y).run P w=.ok z w∧Rel N w ι r z:=by
  unfold iD at h;split at h<;>first
    | (cases h;done)
    | (cases e;cases f
       split at h
       · rename_i c
         first
          | (obtain⟨rfl,i⟩:=c;injection h with h;subst h
             refine⟨_,?_,.int _ _ _⟩;simp[eqGuard,binOp,Op.intDiv,i])
          | (injection h with h;subst h
             refine⟨_,?_,.int _ _ _⟩;simp[eqGuard,binOp,Op.shift,Int.not_lt.mpr c]
             done)
          | (have g:=fun k j x=>shift_shr_any k j x _ c
             injection h with h;subst h
             refine⟨_,?_,.int _ _ _⟩;simp[eqGuard,binOp,g]
             done)
          | (subst c;injection h with h;subst h
             first
              | (refine⟨_,?_,.int _ _ _⟩;simp[eqGuard,binOp,Op.intArith];done)
              | (refine⟨_,?_,.int _ _ _⟩;simp[eqGuard,binOp,Op.intBits,rc,rC];done)
              | (refine⟨_,?_,.bool _ _⟩;simp[eqGuard,binOp,Op.intCmp];done))
       · cases h)
    | (cases e;cases f
       injection h with h;subst h
       refine⟨_,?_,.bool _ _⟩;simp[eqGuard,binOp,Op.stringOp])
def nH:UnOp→AV→Option AV
 | .not,.bool b=>some (.bool (!b))
 | .neg,.int k x=>some (.int k (k.wrap (0-x)))
 | _,_=>none
theorem vr{P}{w}{N}{ι}{a}{u r}(h:nH a u=some r){x}(b:Rel N w ι u x):
  ∃z,(Op.unary a x).run P w=.ok z w∧Rel N w ι r z:=by
 unfold nH at h;split at h<;>first|grind|(cases b;injection h with h;subst h;first|exact⟨_,rfl,.bool _ _⟩|exact⟨_,rfl,.int _ _ _⟩)
def rJ(b:Bool)(x y:Option AV):Option AV :=
 match x,y with
 | some (.bool p),some (.bool q)=>some (.bool (bif b then p else q))
 | x,y=>if b=true then x else y
end Go.Proofs.Ytkciiamllegclaa
namespace Go.Proofs.Ytkciiamllegclaa
set_option linter.all false
variable[ZX]
open Go.RowKit
variable[FM]
def iW(k:Nat):AV→Option AV
 | .ptr id off=>some (.ptr id (off+k))
 | .cptr a=>some (.cptr (a.drop k))
 | .eptr id sz j off=>some (.eptr id sz j (off+k))
 | .adr g off=>some (.adr g (off+k))
 | .pp _ g off=>some (.adr g (off+k))
 | _=>none
theorem rx{N:Nat→Prop}{w:World}{ι:Env}{k:Nat}{p q:AV}{x:Value}(h:iW k p=some q)(a:Rel N w ι p x):
  ∃b o,x=.pointer (some ⟨b,o,none⟩)∧Rel N w ι q (.pointer (some ⟨b,o+k,none⟩)):=by
 unfold iW at h;split at h<;>first|(cases h;done)|skip
 ·injection h with h;subst h
  cases a with
  | ptr _ _ _ g e=>exact⟨g,_,rfl,.ptr _ _ _ g e⟩
 ·injection h with h;subst h
  cases a with
  | cptr _ t b o f l r j m s =>
   refine⟨b,o,rfl,.cptr _ _ b (o+k) (fun i=>f (k+i)) l r (fun i=>j _) (fun i x d=>?_) (fun i x d=>?_)⟩
   ·rw[pl]at d;have:=m _ x d;rwa[←z4]at this
   ·rw[pl]at d;exact s _ x d
 ·injection h with h;subst h
  cases a with
  | eptr _ _ _ _ _ g n c e =>
   refine⟨g,_,rfl,?_⟩;rw[z4];exact .eptr _ _ _ _ _ g n c e
 ·injection h with h;subst h
  cases a with
  | adr _ _ _=>exact⟨_,_,rfl,.adr _ _ _⟩
 ·injection h with h;subst h
  cases a with
  | pp _ _ _ _ _=>exact⟨_,_,rfl,.adr _ _ _⟩
theorem wQ{P:Program}{w:World}{N:Nat→Prop}{ι:Env}{T:TypeId}{f k:Nat}{p q:AV}{x:Value}(a:oc P T f=some k)(h:iW k p=some q)(l:Rel N w ι p x):
  ∃z,(Instr.fieldAt T x f).run P w=.ok z w∧Rel N w ι q z:=by
 obtain⟨b,o,rfl,n⟩:=rx h l;unfold oc at a;split at a
 ·rename_i t s;split at a
  ·rename_i g e;split at a
   ·rename_i m d;injection a with a;subst a
    refine⟨_,?_,n⟩;cases c:P.info? g.type with
    | none=>simp[aV,c]at d
    | some i =>
     have r:i.size=m+1:=by simpa[aV,c]using d
     have j:¬ i.size=0:=by omega
     simp[Instr.fieldAt,hF s,e,Instr.sureAddr,fieldPlace,sizeOf,typeInfo,c,r,v4]
   grind
  grind
 grind
def ic(P:Program)(s:AS)(T:TypeId)(x:AV)(i:Int):Option AV :=
 if 0≤i then
  match fe P T with
  | some (n,k)=>if i.toNat<n then iW (i.toNat*k) x else none
  | none=>match cY P T with
   | some (_,k)=>match x with
    | .sl l=>match l[i.toNat]? with
     | some e=>if e.length=k then some (.cptr e) else none
     | none=>none
    | .ref id=>match look id s.r with
     | some a=>if a.sz=k∧i.toNat<a.l.length then some (.eptr id k i.toNat 0) else none
     | none=>none
    | .sref id sz off m=>if sz=k∧i.toNat<m then some (.eptr id k (off+i.toNat) 0) else none
    | _=>none
   | none=>none
 else none
theorem wN{y:Cx}{s:AS}{a:Act}{w:World}{ι:Env}(J:ax y s a w ι){T:TypeId}{x r:AV}{k:IntKind}{i:Int}(h:ic y.P s T x i=some r){X:Value}(O:Rel (NN y.M ι) w ι x X):
  ∃z,(Instr.indexAt T X (.int k i)).run y.P w=.ok z w∧Rel (NN y.M ι) w ι r z:=by
 unfold ic at h;split at h
 ·rename_i N;split at h
  ·rename_i n sz j;split at h
   ·rename_i G;obtain⟨b,o,rfl,hq⟩:=rx h O;refine⟨_,?_,hq⟩;unfold fe at j;split at j
    ·rename_i n' e L;cases C:aV y.P e with
     | none=>rw[C]at j;cases j
     | some u =>
      rw[C]at j;injection j with j;injection j with H Q;subst H;subst Q
      cases f:y.P.info? e with
      | none=>simp[aV,f]at C
      | some V =>
       have I:V.size=u:=by simpa[aV,f]using C
       have d:i<(n':Int):=by omega
       simp[Instr.indexAt,asIntOf,hF L,Instr.sureAddr,N,d,sizeOf,typeInfo,f,I,v4]
    ·cases j
   ·cases h
  ·split at h
   ·rename_i e sz p;unfold cY at p;split at p
    ·rename_i Y L;cases C:aV y.P Y with
     | none=>rw[C]at p;cases p
     | some u =>
      rw[C]at p;injection p with p;injection p with he Q;subst he;subst Q
      cases f:y.P.info? Y with
      | none=>simp[aV,f]at C
      | some V =>
       have I:V.size=u:=by simpa[aV,f]using C
       split at h
       ·rename_i l;split at h
        ·rename_i el t;split at h
         ·rename_i F;injection h with h;subst h
          cases O with
          | sl0 A c=>simp at t
          | sl _ _ b o c D W U hb H E hc hr _ =>
           have G:i.toNat<l.length:=(es.1 t).1;have d:i<(l.length:Int):=by omega
           have K:D=u:=by rw[←F];exact(U el (h6 t)).symm
           subst K;refine⟨.pointer (some ⟨b,o+i.toNat*D,none⟩),?_,.cptr _ _ b _ (W i.toNat) hb H (E _) (hc _ _ t) (hr _ _ t)⟩;simp[Instr.indexAt,asIntOf,hF L,N,d,sizeOf,typeInfo,f,I,v4]
         ·cases h
        ·cases h
       ·rename_i id;split at h
        ·rename_i ar P;split at h
         ·rename_i q;injection h with h;subst h
          cases O with
          | ref _ _ A n c M =>
           obtain⟨v,xs,E,h2,h3,h4,h5⟩:=J.hs.dL id ar P (by rw[M];rfl);rw[M]at E;injection E with E;subst E
           obtain⟨hv,h0⟩|⟨Z,cap,b0,hv,hb,hg,d0,a0,R,S⟩:=h2.2
           ·omega
           ·injection hv with hA H c0
            subst hA;subst H;have d:i<(ar.l.length:Int):=by omega
            refine⟨.pointer (some ⟨Z,i.toNat*u+0,none⟩),?_,.eptr _ _ _ _ _ Z _ c M⟩;simp[Instr.indexAt,asIntOf,hF L,N,d,sizeOf,typeInfo,f,I,v4]
         ·cases h
        ·cases h
       ·rename_i id D off m;split at h
        ·rename_i q;obtain⟨rfl,G⟩:=q;injection h with h;subst h
         cases O with
         | sref _ _ _ _ _ n c c' A B M hB =>
          rcases hB with hB|⟨g,rfl,rfl,_⟩
          ·omega
          ·have d:i<(m:Int):=by omega
           refine⟨.pointer (some ⟨g,(off+i.toNat)*D+0,none⟩),?_,.eptr _ _ _ _ _ g n c M⟩;rw[zU,sb];simp[Instr.indexAt,asIntOf,hF L,N,d,sizeOf,typeInfo,f,I,v4]
        ·cases h
       ·cases h
    grind
   grind
 grind
def dE:AV→Option (List AV)
 | .agg a=>some a
 | .tup _=>none
 | v=>some [v]
theorem jR{N:Nat→Prop}{w:World}{ι:Env}{v:AV}{x:Value}{g:List AV}(h:dE v=some g)(k:Rel N w ι v x):Cells N w ι g x.cells.toList:=by
 have b:∀(y:Value),Rel N w ι v y→v.qb=true→y.cells = #[y]→Cells N w ι [v] y.cells.toList:=fun y l o m=>by
  rw[m];exact⟨rfl,fun u e=>by simp at e;subst e;exact l.one o,fun i c u d e=>by
   cases i with
   | zero=>simp at d e;subst d;subst e;exact l
   | succ i=>simp at d⟩
 unfold dE at h;split at h
 ·injection h with h;subst h
  cases k with
  | agg _ _ vs n j p=>exact⟨by simpa[Value.cells]using n,by simpa[Value.cells]using j,by simpa[Value.cells]using p⟩
 ·cases h
 ·rename_i j q;injection h with h;subst h
  cases k<;>first
   | exact b _ (by constructor<;>assumption) rfl rfl
   | (rename_i a;exact b _ (.any _ _ a) rfl (by cases x<;>first|rfl|cases a))
   | (rename_i a;exact b _ (.vv _ _ a) rfl (by cases x<;>first|rfl|cases a))
   | (rename_i f a;exact b _ (.lk _ _ _ _ f a) rfl (by cases x<;>first|rfl|cases a))
   | grind
   | grind
def db(off:Nat)(b a:List AV):List AV:=a.take off++b++a.drop (off+b.length)
theorem dr{α:Type} off(b a:List α)(h:off+b.length≤a.length) i:(a.take off++b++a.drop (off+b.length))[i]?=if i<off then a[i]? else if i<off+b.length then b[i-off]? else a[i]?:=by
 have c:(a.take off).length=off:=by grind
 grind
theorem eQ{α:Type} off(b a:List α)(h:off+b.length≤a.length):(a.take off++b++a.drop (off+b.length)).length=a.length:=by
 grind
theorem Cells.db{N:Nat→Prop}{w:World}{ι:Env}{d f:List AV}{vs c:b5}(h:Cells N w ι d vs)(g:Cells N w ι f c){off:Nat}(l:off+f.length≤d.length):
  Cells N w ι (db off f d) (vs.take off++c++vs.drop (off+c.length)):=by
 have e:off+c.length≤vs.length:=by rw[←g.len,← h.len];exact l
 refine⟨?_,fun v a=>?_,fun i x v b a=>?_⟩
 ·unfold Proofs.Ytkciiamllegclaa.db;rw[eQ off f d l,eQ off c vs e,h.len]
 ·rcases jt.1 a with a|a
  ·rcases jt.1 a with a|a
   ·exact h.one v (to a)
   ·exact g.one v a
  ·exact h.one v (u7 a)
 ·unfold Proofs.Ytkciiamllegclaa.db at b;rw[dr off f d l]at b;rw[dr off c vs e]at a;rw[g.len]at b;split at b
  ·rename_i j;rw[l2 j]at a;exact h.rel i x v b a
  ·rename_i j;rw[o9 j]at a;split at b
   ·rename_i k;rw[l2 k]at a;exact g.rel _ x v b a
   ·rename_i k;rw[o9 k]at a;exact h.rel i x v b a
def fX(P:Program)(s:AS)(T:TypeId)(p v:AV):Option AS :=
 match p with
 | .ptr id off=>match look id s.o,dE v with
  | some c,some b=>if aV P T=some b.length∧off+b.length≤c.length then some { s with o:=aD id (db off b c) s.o } else none
  | _,_=>none
 | .eptr id sz j off=>match look id s.r,dE v with
  | some a,some b=>match a.l[j]? with
   | some e=>if a.sz=sz∧aV P T=some b.length∧off+b.length≤e.length∧bS [] b=true then some { s with r:=aD id { a with l:=a.l.set j (db off b e) } s.r } else none
   | none=>none
  | _,_=>none
 | _=>none
theorem pj{P:Program}{w:World}{g off:Nat}{T T':TypeId}{a:Array Value}{x:Value}(d:w.heap[g]?=some (.cells a T' (0,0)))(j:aV P T=some x.cells.toList.length)(h:off+x.cells.toList.length≤a.size)(c:∀v∈x.cells.toList,v.oneCell'=true):
  (Instr.storeAt T (.pointer (some ⟨g,off,none⟩)) x).run P w=.ok () (w.setRow g (a.toList.take off++x.cells.toList++a.toList.drop (off+x.cells.toList.length)).toArray):=by
 have b:=run_storeCells_at P g off T' x.cells.toList 0 a w d (by grind) c;cases e:P.info? T with
 | none=>grind[aV]
 | some i =>
  have f:i.size=x.cells.size:=by grind[aV]
  simp only[zU]at b;simp[Instr.storeAt,Instr.sureAddr,storeVar,sizeOf,typeInfo,e,f,b]
theorem Cells.sg{N}{w}{ι}{a}{vs}(h:Cells N w ι a vs)(c:bS [] a=true) ι':Cells N w ι' a vs :=
 ⟨h.len,h.one,fun i x v b d=>(h.rel i x v b d).pure (fZ c i x b) ι'⟩
theorem ZK.row{w:World}{sz n m c g:Nat}{a C:Array Value}{T:TypeId}(h:ZK w sz (.slice (some ⟨g,0,none⟩) m c) n)(e:w.heap[g]?=some (.cells a T (0,0)))(r:∀k,n*sz≤k→C[k]?=a[k]?):ZK (w.setRow g C) sz (.slice (some ⟨g,0,none⟩) m c) n:=by
 rcases h with h|⟨p,q⟩
 ·exact .inl h
 ·refine .inr ⟨p,fun t b o u i f k l=>?_⟩;have:=(q t b o u i f k l).2;injection f with d;injection d with d;injection d with d s;subst d;subst s
  refine⟨frozen0 (Am w g a C T _ e),fun j=>?_⟩;have:=this j;rw[zN _ _ _ _ T (0,0) e]at this;rw[zN _ _ _ _ T (0,0) (Am w g a C T _ e),r _ (by omega)];exact this
theorem HS.yV{M:Nat→Prop}{w0:aC}{w:World}{ι:Env}{s:AS}(h:HS M w0 w ι s){id g n c:Nat}{ar:bw}{j off:Nat}{e nv:List AV}{y:b5}
  (g0:look id s.r=some ar) (D:ι id=some (.slice (some ⟨g,0,none⟩) n c)) (he:ar.l[j]?=some e) (hl:off+nv.length≤e.length) (E:Cells (NN M ι) w aG nv y) :
  ∃d T,w.heap[g]?=some (.cells d T (0,0))∧j*ar.sz+off+y.length≤d.size ∧
   HS M w0 (w.setRow g (d.toList.take (j*ar.sz+off)++y++d.toList.drop (j*ar.sz+off+y.length)).toArray) ι { s with r:=aD id { ar with l:=ar.l.set j (db off nv e) } s.r }:=by
 obtain⟨v,xs,J,⟨h2,c0⟩,h3,h4,h5⟩:=h.arrz id ar g0 (by rw[D];rfl);rw[D]at J;injection J with J;subst J
 have F:bq (ι id)=some g:=by rw[D];rfl
 obtain⟨hv,_⟩|⟨R,cap,d,hv,o,hg,Z,V,B,O⟩:=h2.2
 ·cases hv
 injection hv with U hn h0
 injection U with U;injection U with U;subst U;subst h0
 have X:j<ar.l.length:=(es.1 he).1;have i0:e.length=ar.sz:=h3 e (h6 he);have b0:xs.length=ar.l.length*ar.sz:=h2.1;have p0:(j+1)*ar.sz≤ar.l.length*ar.sz:=ro _ X;have l0:ar.l.length*ar.sz≤c*ar.sz:=ro _ Z;have r0:(j+1)*ar.sz=j*ar.sz+ar.sz:=by rw[sb,z7]
 have u:j*ar.sz+off+y.length≤d.size:=by rw[←E.len,B];omega
 have p:j*ar.sz+off+y.length≤xs.length:=by rw[←E.len,b0];omega
 refine⟨d,ar.e,hg,u,?_⟩;generalize hC:(d.toList.take (j*ar.sz+off)++y++d.toList.drop (j*ar.sz+off+y.length)).toArray=C;have P:∀b,b<w.heap.size→¬ NN M ι b→(w.setRow g C).heap[b]?=w.heap[b]?:=fun b _ o=>bX (fun e=>o (.inr ⟨id,by rw[e];exact F⟩));obtain⟨ho,t0⟩:=h.own id g F;refine⟨?_,h.old,h.use,fun i k q=>?_,h.inj,h.ko,fun i a z=>?_,fun i cs z hp=>?_,fun i a z hp=>?_,h.pin⟩
 ·exact h.below.trans ⟨rfl,rfl,rfl,by simp,fun k q hG=>bX (fun e=>by subst e;rcases ho with ho|ho;exact Nat.lt_irrefl _ (zS q ho);exact hG ho)⟩
 ·have:=h.own i k q;simp;exact this
 ·simp only[bz]at z;by_cases Q:i=id
  ·subst Q;exact h.use i _ D
  ·rw[o9 Q]at z;exact h.kr i a z
 ·obtain⟨R,T',o0,J,K,L⟩:=h.objs i cs z hp;have m0:R≠g:=fun I=>by
   have:=h.inj i id g (by rw[J,I];rfl) F;subst this;rw[J]at D;cases D
  exact⟨R,T',o0,J,(bX m0).trans K,L.mono (by simp) (fun b _ o=>o) P (fun _ _ h=>h)⟩
 ·simp only[bz]at z;by_cases Q:i=id
  ·subst Q;rw[l2 rfl]at z;injection z with z;subst z
   refine⟨_,xs.take (j*ar.sz+off)++y++xs.drop (j*ar.sz+off+y.length),D,⟨⟨?_,.inr ⟨g,c,C,?_,o,Am w g d _ _ _ hg,?_,V,?_,?_⟩⟩,by simpa using c0.row (C:=C) hg (fun k q=>by rw[←hC,z8,dr _ _ _ (by simpa using u),o9 (by omega),o9 (by rw[←E.len];omega),v5])⟩,?_,?_,?_⟩
   ·rw[eQ _ _ _ p];simpa using b0
   ·simp[hn]
   ·simpa using Z
   ·rw[←B,← hC];have A:=u;rw[←oR]at A;rw[AH,eQ _ _ _ A,oR]
   ·rw[←hC];apply AI;intro i;simp only[sp,Av];rw[dr _ _ _ (by simpa using u),dr _ _ _ p];have ht:∀i,xs[i]?=if i<ar.l.length*ar.sz then d.toList[i]? else none:=fun i=>by rw[←O,sp]
    simp only[ht];have q0:=E.len;by_cases g1:i<ar.l.length*ar.sz
    ·simp only[l2 g1]
    ·simp only[o9 g1];have g2:¬ i<j*ar.sz+off:=by omega
     have g3:¬ i<j*ar.sz+off+y.length:=by omega
     simp only[o9 g2,o9 g3]
   ·intro I G;simp only[]at G⊢;rcases List.mem_or_eq_of_mem_set G with G|rfl
    ·exact h3 I G
    ·unfold db;rw[eQ _ _ _ hl];exact i0
   ·intro x m;rcases jt.1 m with m|m
    ·rcases jt.1 m with m|m
     ·exact h4 x (to m)
     ·exact E.one x m
    ·exact h4 x (u7 m)
   ·intro j' I f k c' q;simp only[]at f⊢;rw[dr _ _ _ p];rw[AJ]at f;by_cases ej:j=j'
    ·subst ej;rw[l2 rfl,l2 X]at f;injection f with f;subst f
     unfold db at q;have Y:k<e.length:=by have:=(es.1 q).1;rwa[eQ _ _ _ hl]at this
     rw[dr _ _ _ hl]at q;split at q
     ·rename_i g1;obtain⟨x,m,N⟩:=h5 j e he k c' q;rw[l2 (by omega)];exact⟨x,m,N.mono (by simp) (fun b _ o=>o) P (fun _ h=>h) (fun r t=>bX (fun e=>h.eI t D (fun _ e=>by cases e) (by rw[e];rfl))) (fun h=>h)⟩
     ·rename_i g1;split at q
      ·rename_i g2;have H:k-off<y.length:=by rw[←E.len];omega
       rw[o9 (by omega),l2 (by rw[←E.len];omega)];have e2:j*ar.sz+k-(j*ar.sz+off)=k-off:=by omega
       rw[e2];exact⟨y[k-off],ez H,.inl ((E.rel _ _ _ q (ez H)).mono (by simp) (fun b _ o=>o) P (fun _ _ h=>h))⟩
      ·rename_i g2;obtain⟨x,m,N⟩:=h5 j e he k c' q;rw[o9 (by omega),o9 (by rw[←E.len];omega)];exact⟨x,m,N.mono (by simp) (fun b _ o=>o) P (fun _ h=>h) (fun r t=>bX (fun e=>h.eI t D (fun _ e=>by cases e) (by rw[e];rfl))) (fun h=>h)⟩
    ·rw[o9 ej]at f;obtain⟨x,m,N⟩:=h5 j' I f k c' q;have Y:k<ar.sz:=by have:=(es.1 q).1;rwa[h3 I (h6 f)]at this
     have s0:off+y.length≤ar.sz:=by rw[←E.len];omega
     refine⟨x,?_,N.mono (by simp) (fun b _ o=>o) P (fun _ h=>h) (fun r t=>bX (fun e=>h.eI t D (fun _ e=>by cases e) (by rw[e];rfl))) (fun h=>h)⟩;rcases Nat.lt_or_gt_of_ne ej with a0|W
     ·have:(j+1)*ar.sz≤j'*ar.sz:=ro _ a0;rw[o9 (by omega),o9 (by omega)];exact m
     ·have:(j'+1)*ar.sz≤j*ar.sz:=ro _ W;rw[sb,z7]at this;rw[l2 (by omega)];exact m
  ·rw[o9 Q]at z;obtain⟨v',xs',S,K,L,d0,e0⟩:=h.arrz i a z hp;refine⟨v',xs',S,du K (fun R k0=>bX ?_),L,d0,fun j el hj k c H=>?_⟩
   ·intro I;subst I;exact Q (h.inj i id R (by rw[S];exact k0) F)
   ·obtain⟨x,m,N⟩:=e0 j el hj k c H;exact⟨x,m,N.mono (by simp) (fun b _ o=>o) P (fun _ h=>h) (fun r t=>bX (fun e=>h.eI t D (fun _ e=>by cases e) (by rw[e];rfl))) (fun h=>h)⟩
theorem vR{r:Cx}{s s':AS}{a:Act}{w:World}{ι:Env}(f:ax r s a w ι){T:TypeId}{p v:AV}(h:fX r.P s T p v=some s'){X Y:Value}(B:Rel (NN r.M ι) w ι p X)(C:Rel (NN r.M ι) w ι v Y):
  ∃D,(Instr.storeAt T X Y).run r.P w=.ok () D∧ax r s' a D ι:=by
 unfold fX at h;split at h
 ·rename_i id off;split at h
  ·rename_i I M x o;split at h
   ·rename_i d;injection h with h;subst h
    cases B with
    | ptr _ _ _ g q =>
     obtain⟨N,T',vs,i,z,A⟩:=f.hs.objs id I x (by rw[q];rfl);rw[q]at i;injection i with i;injection i with i;injection i with i;injection i with i;subst i
     have k:=jR o C;have m:bq (ι id)=some g:=by rw[q];rfl
     refine⟨_,pj z (by rw[←k.len];exact d.1) (by have:=A.len;have:=d.2;rw[←k.len];simp at *;omega) k.one,?_⟩;refine f.world (f.hs.setObj q z (A.db k d.2)) rfl (by simp) (fun b _ l=>l) (fun b _ l=>bX (fun e=>l (.inr ⟨id,by rw[e];exact m⟩))) (fun _ _ h=>h)
   ·cases h
  ·cases h
 ·rename_i id sz j off;split at h
  ·rename_i ar M u o;split at h
   ·rename_i e K;split at h
    ·rename_i d;obtain⟨E,F,G,H⟩:=d;subst E;injection h with h;subst h
     cases B with
     | eptr _ _ _ _ _ g n c q =>
      have k:=jR o C;obtain⟨J,T',L,t,y⟩:=f.hs.yV u q K G (k.sg H aG);have m:bq (ι id)=some g:=by rw[q];rfl
      refine⟨_,pj L (by rw[←k.len];exact F) t k.one,?_⟩;refine f.world y rfl (by simp) (fun b _ l=>l) (fun b _ l=>bX (fun e=>l (.inr ⟨id,by rw[e];exact m⟩))) (fun _ _ h=>h)
    grind
   grind
  grind
 grind
end Go.Proofs.Ytkciiamllegclaa
namespace Go.Proofs.Ytkciiamllegclaa
set_option linter.all false
variable[ZX]
open Go.RowKit
variable[FM]
theorem vq(l:b5):∀(off:Nat) (b:Array Value),off+l.length≤b.size →
  ((l.zipIdx off).foldl (fun (a:Array Value) (x:Value×Nat)=>a.setIfInBounds x.2 x.1) b).toList=b.toList.take off++l++b.toList.drop (off+l.length):=by
 induction l with
 | nil=>intro off b _;simp
 | cons v r f =>
  intro off b h;simp only[th]at h;simp only[List.zipIdx_cons,List.foldl_cons];rw[f (off+1) _ (by simp;omega)];simp only[AC,th];have c:off<b.toList.length:=by simp;omega
  have d:(b.toList.set off v).take (off+1)=b.toList.take off++[v]:=by
   rw[List.take_succ_eq_append_getElem (by simpa using c),List.take_set,List.set_eq_of_length_le (by rw[zP];omega)];simp
  have e:(b.toList.set off v).drop (off+1+r.length)=b.toList.drop (off+(r.length+1)):=by
   rw[List.drop_set,l2 (by omega)];congr 1;omega
  rw[d,e];simp
theorem qZ(b f:Array Value)(off:Nat)(h:off+f.size≤b.size):
  (f.zipIdx.foldl (fun (a:Array Value) (x:Value×Nat)=>a.setIfInBounds (off+x.2) x.1) b)=(b.toList.take off++f.toList++b.toList.drop (off+f.toList.length)).toArray:=by
 have e:=vq f.toList off b (by simpa using h);rw[←Array.foldl_toList];simp only[Array.toList_zipIdx];have d:∀(l:b5) (k:Nat) (a:Array Value),(l.zipIdx k).foldl (fun (a:Array Value) (x:Value×Nat)=>a.setIfInBounds (off+x.2) x.1) a=(l.zipIdx (off+k)).foldl (fun (a:Array Value) (x:Value×Nat)=>a.setIfInBounds x.2 x.1) a:=by
  intro l
  induction l with
  | nil=>intro k a;rfl
  | cons v r c=>intro k a;simp only[List.zipIdx_cons,List.foldl_cons];rw[c];rfl
 grind
def ja(c:List (Nat×Nat))(a:List AV):List (Nat×AV)→Option (List AV)
 | []=>some a
 | (i,v)::r=>match c[i]?,dE v with
  | some (off,sz),some b=>if b.length=sz∧off+b.length≤a.length then ja c (db off b a) r else none
  | _,_=>none
def dW(s:AS):List (Nat×Operand)→Option (List (Nat×AV))
 | []=>some []
 | (i,x)::r=>match s.ev x,dW s r with|some v,some l=>some ((i,v)::l)|_,_=>none
theorem oD{N:Nat→Prop}{w:World}{ι:Env}{z:List (Nat×Nat)}{a:Nat→Option (Nat×Nat)}(g:∀i l,z[i]?=some l→a i=some l):∀{ps:List (Nat×AV)} {qs:List (Nat×Value)} {m b:List AV} {zs:Array Value},Cells N w ι m zs.toList →
  ps.length=qs.length→(∀(i:Nat) (p:Nat×AV) (q:Nat×Value),ps[i]?=some p→qs[i]?=some q→p.1=q.1∧Rel N w ι p.2 q.2)→ja z m ps=some b→∃d,Instr.fill a zs qs=some d∧Cells N w ι b d.toList
 | [],[],m,b,zs,n,_,_,h=>by injection h with h;subst h;exact⟨zs,rfl,n⟩
 | [],_::_,_,_,_,_,f,_,_=>by simp at f
 | _::_,[],_,_,_,_,f,_,_=>by simp at f
 | (i,v)::ps,(j,x)::qs,m,b,zs,n,f,D,h=>by
  obtain⟨A,B⟩:=D 0 (i,v) (j,x) rfl rfl;simp only[]at A B;subst A;simp only[ja]at h;cases c:z[i]? with
  | none=>rw[c]at h;cases h
  | some l =>
   have G:=g i l c;obtain⟨off,sz⟩:=l;cases y:dE v with
   | none=>rw[c,y]at h;cases h
   | some H =>
    rw[c,y]at h;simp only[]at h;split at h
    ·rename_i e;have C:=jR y B;have o:=n.len;have r:=C.len;simp only[oR]at o r;have u:=n.db C e.2;obtain⟨d,E,F⟩:=oD g (zs:=(zs.toList.take off++x.cells.toList++zs.toList.drop (off+x.cells.toList.length)).toArray) (by simpa using u) (by simpa using f) (fun k p q s t=>D (k+1) p q (by simpa using s) (by simpa using t)) h;refine⟨d,?_,F⟩;unfold Instr.fill;rw[G];simp only[];rw[o9 (by simp;omega),qZ zs x.cells off (by omega)];exact E
    ·cases h
theorem ov{g:Cx}{s:AS}{a:Act}{w:World}{ι:Env}(h:ax g s a w ι):∀{ps:List (Nat×Operand)} {l:List (Nat×AV)},dW s ps=some l→l.length=(ps.map fun y=>(y.1,a.eval y.2)).length ∧
  ∀(i:Nat) (p:Nat×AV) (q:Nat×Value),l[i]?=some p→(ps.map fun y=>(y.1,a.eval y.2))[i]?=some q→p.1=q.1∧Rel (NN g.M ι) w ι p.2 q.2
 | [],l,e=>by injection e with e;subst e;exact⟨rfl,fun i p q b _=>by simp at b⟩
 | (i,x)::r,l,e=>by
  unfold dW at e;cases c:s.ev x with
  | none=>rw[c]at e;cases e
  | some v =>
   cases d:dW s r with
   | none=>rw[c,d]at e;cases e
   | some l' =>
    rw[c,d]at e;injection e with e;subst e
    obtain⟨j,m⟩:=ov h d;refine⟨by simp at j;simp[j],fun k p q b f=>?_⟩;cases k with
    | zero=>simp at b f;subst b;subst f;exact⟨rfl,h.ev c⟩
    | succ k=>exact m k p q (by simpa using b) (by simpa using f)
def gl(P:Program)(s:AS)(T:TypeId)(a:List (Nat×Operand)):Option AV :=
 match nF P T,da P T,dW s a with
 | some b,some z,some ps=>(ja b z ps).map .agg
 | _,_,_=>none
theorem u0{c:Cx}{s:AS}{a:Act}{w:World}{ι:Env}(t:ax c s a w ι){T:TypeId}{b:Array (Nat×Operand)}{v:AV}(h:gl c.P s T b.toList=some v):
  ∃x,(Instr.build T (b.map fun (i,x)=>(i,a.eval x))).run c.P w=.ok x w∧Rel (NN c.M ι) w ι v x:=by
 unfold gl at h;cases g:nF c.P T with
 | none=>rw[g]at h;cases h
 | some G =>
  cases p:da c.P T with
  | none=>rw[g,p]at h;cases h
  | some z =>
   cases D:dW s b.toList with
   | none=>rw[g,p,D]at h;cases h
   | some ps =>
    simp only[g,p,D]at h;cases A:ja G z ps with
    | none=>simp[A]at h
    | some F =>
     simp only[A,us,h7]at h;subst h;obtain⟨H,I⟩:=ov t D;unfold da at p;cases j:c.P.info? T with
     | none=>simp[j]at p
     | some O =>
      cases q:O.zero with
      | none=>simp[j,q]at p
      | some J =>
       simp only[j,hQ,q]at p;have L:(b.map fun (y:Nat×Operand)=>(y.1,a.eval y.2)).toList=b.toList.map fun y=>(y.1,a.eval y.2):=Af;have C:∃l,c.P.built T (b.map fun (y:Nat×Operand)=>(y.1,a.eval y.2)).toList=some l∧Cells (NN c.M ι) w ι F l.toList:=by
        rw[L];unfold Program.built;unfold nF at g;cases u:c.P.underlying T with
        | none=>simp[u]at g
        | some d =>
         cases d<;>try (simp[u]at g;done)
         case array n e =>
          cases r:c.P.info? e with
          | none=>simp[u,aV,r]at g
          | some Q =>
           simp only[u,aV,r,us,h7]at g;subst g;simp only[j,q,r];refine oD (fun i P o=>?_) (zs:=J.cells) (dh (NN c.M ι) w ι p) H I A;rw[zK]at o;cases E:(List.range n)[i]? with
           | none=>rw[E]at o;cases o
           | some k =>
            rw[E]at o;injection o with o;subst o
            have:=(es.1 E).2;simp at this;subst this;rfl
         case struct m =>
          simp only[u,aV,Option.map_map]at g;have M:m.toList.mapM (fun f=>(c.P.info? f.type).map fun i=>(f.offset,i.size))=some G:=g;simp only[j,q,M];exact oD (fun i P o=>by simpa using o) (zs:=J.cells) (dh (NN c.M ι) w ι p) H I A
       obtain⟨l,K,B⟩:=C;refine⟨_,run_build w T _ l K,?_⟩;have:=Rel.agg (N:=NN c.M ι) (w:=w) ι F l.toList B.len B.one B.rel;simpa using this
def cy:AV→AV
 | .nils=>.sl []
 | v=>v
theorem s6{N:Nat→Prop}{w:World}{ι:Env}{v:AV}{x:Value}(h:Rel N w ι v x):Rel N w ι (cy v) x:=by
 cases h<;>first|exact .sl0 _ _ _ (.inr ⟨rfl,rfl⟩)|(simp only[cy];constructor<;>assumption)
theorem Cells.pz{N}{w}{ι}{b}{vs}(h:Cells N w ι b vs):Cells N w ι (b.map cy) vs :=
 ⟨by simpa using h.len,h.one,fun i x v a d=>by
  rw[zK]at a;cases e:b[i]? with
  | none=>grind
  | some c=>rw[e]at a;injection a with a;subst a;exact s6 (h.rel i c v e d)⟩
def za:Nat:=900000
def gv(z:Bool)(a:List AV):List AV:=match z with
 | true=>a
 | false=>a.map cy
theorem Cells.gv{N}{w}{ι}{a}{vs}(h:Cells N w ι a vs) z:Cells N w ι (gv z a) vs:=by
 cases z
 ·exact h.pz
 ·exact h
theorem un z a:(gv z a).length=a.length:=by cases z<;>simp[gv]
def jG(z:Bool)(sz k:Nat):List (Nat×AV)→Option (List (List AV))
 | []=>some []
 | (i,v)::r=>match dE v,jG z sz (k+1) r with
  | some a,some l=>if i=k∧a.length=sz∧bS [] a=true then some (gv z a::l) else none
  | _,_=>none
theorem o1{N:Nat→Prop}{w:World}{ι:Env}{sz:Nat}{z:Bool}:∀{ps:List (Nat×AV)} {qs:List (Nat×Value)} {k:Nat} {zs:Array Value} {l:List (List AV)},
  ps.length=qs.length→(∀(i:Nat) (p:Nat×AV) (q:Nat×Value),ps[i]?=some p→qs[i]?=some q→p.1=q.1∧Rel N w ι p.2 q.2)→jG z sz k ps=some l→(k+ps.length)*sz≤zs.size →
  ∃a ys,Instr.fill (fun i=>some (i*sz,sz)) zs qs=some a∧a.toList=zs.toList.take (k*sz)++ys++zs.toList.drop ((k+ps.length)*sz)∧ys.length=ps.length*sz∧l.length=ps.length∧(∀e∈l,e.length=sz)∧(∀y∈ys,y.oneCell'=true) ∧
   (∀(j:Nat) (e:List AV),l[j]?=some e→∀(i:Nat) (x:AV),e[i]?=some x→∃v,ys[j*sz+i]?=some v∧Rel N w aG x v)
 | [],[],k,zs,l,_,_,h,_=>by
  injection h with h;subst h
  exact⟨zs,[],rfl,by simp,by simp,rfl,fun e he=>(by cases he),fun y g=>(by cases g),fun j e he=>by simp at he⟩
 | [],_::_,_,_,_,o,_,_,_=>by simp at o
 | _::_,[],_,_,_,o,_,_,_=>by simp at o
 | (i,v)::ps,(j,x)::qs,k,zs,l,o,I,h,J=>by
  obtain⟨G,H⟩:=I 0 (i,v) (j,x) rfl rfl;simp only[]at G H;subst G;simp only[jG]at h;cases s:dE v with
  | none=>rw[s]at h;cases h
  | some nv =>
   cases f:jG z sz (k+1) ps with
   | none=>rw[s,f]at h;cases h
   | some l' =>
    rw[s,f]at h;simp only[]at h;split at h
    ·rename_i b;obtain⟨rfl,M,O⟩:=b;injection h with h;subst h
     have u:=jR s H;have A:=u.len;simp only[oR]at A;simp only[th]at J o;have r:(i+1+ps.length)*sz≤zs.size:=by rw[show i+1+ps.length=i+(ps.length+1) by omega];exact J
     have W:(i+1)*sz=i*sz+sz:=by rw[sb,z7]
     have X:(i+1)*sz≤zs.size:=Ap (ro _ (by omega)) r;have E:(zs.toList.take (i*sz)++x.cells.toList++zs.toList.drop (i*sz+x.cells.toList.length)).toArray.size=zs.size:=by
      rw[AH,eQ _ _ _ (by simp;omega),oR]
     obtain⟨a,ys,P,Q,R,S,T,U,V⟩:=o1 (zs:=(zs.toList.take (i*sz)++x.cells.toList++zs.toList.drop (i*sz+x.cells.toList.length)).toArray) (ps:=ps) (qs:=qs) (k:=i+1) (by omega)
      (fun k p q B C=>I (k+1) p q (by simpa using B) (by simpa using C)) f (by rw[E];exact r)
     refine⟨a,x.cells.toList++ys,?_,?_,?_,by simp[S],?_,?_,?_⟩
     ·unfold Instr.fill;simp only[];rw[o9 (by simp;omega),qZ zs x.cells (i*sz) (by omega)];exact P
     ·rw[Q];have Y:x.cells.toList.length=sz:=by simp;omega
      have Z:(zs.toList.take (i*sz)).length=i*sz:=by rw[zP,oR];omega
      have K:((zs.toList.take (i*sz)++x.cells.toList++zs.toList.drop (i*sz+x.cells.toList.length)).toArray.toList).take ((i+1)*sz)=zs.toList.take (i*sz)++x.cells.toList:=by
       rw[List.take_append_of_le_length (by rw[v3];omega)];rw[Ak (by rw[v3];omega)]
      have L:((zs.toList.take (i*sz)++x.cells.toList++zs.toList.drop (i*sz+x.cells.toList.length)).toArray.toList).drop ((i+1+ps.length)*sz)=zs.toList.drop ((i+(ps.length+1))*sz):=by
       have hm:(i+1+ps.length)*sz=(i+1)*sz+ps.length*sz:=by rw[sb]
       rw[List.drop_append,AT (by rw[v3];omega),Aw,List.drop_drop,v3,Z,Y];congr 1;rw[show i+(ps.length+1)=i+1+ps.length by omega];omega
      rw[K,L];simp
     ·rw[v3,R,th,sb,z7,oR];omega
     ·intro e he;rcases Ac.1 he with rfl|he
      ·rw[un];exact M
      ·exact T e he
     ·intro y g;rcases jt.1 g with g|g
      ·exact u.one y g
      ·exact U y g
     ·intro j e he m c t;cases j with
      | zero =>
       simp at he;subst he;have n:=(u.sg O aG).gv z;have d:m<x.cells.toList.length:=by have:=(es.1 t).1;rw[n.len]at this;exact this
       refine⟨x.cells.toList[m],?_,n.rel m c _ t (ez d)⟩;rw[Nat.zero_mul,u3,og d,ez d]
      | succ j =>
       simp at he;obtain⟨v',F,D⟩:=V j e he m c t;refine⟨v',?_,D⟩;rw[kc (by rw[sb,z7,oR];omega),oR,sb,z7];rw[show j*sz+sz+m - x.cells.size=j*sz+m by omega];exact F
    ·cases h
def gJ(P:Program)(s:AS)(T:TypeId)(a:Nat)(b:List (Nat×Operand)):Option AV :=
 match cY P T,dW s b with
 | some (e,sz+1),some ps=>match jG (s.u.contains za) (sz+1) 0 ps with
  | some l=>if ps.length=a∧0<a∧a*(sz+1)≤16777216∧(da P e).isSome=true then some (.sl l) else none
  | none=>none
 | _,_=>none
theorem vy{m:Cx}{s:AS}{a:Act}{w:World}{ι:Env}(d:ax m s a w ι){T:TypeId}{g:Nat}{c:Array (Nat×Operand)}{v:AV}(h:gJ m.P s T g c.toList=some v):
  ∃x F,(Instr.buildSlice T g (c.map fun (i,x)=>(i,a.eval x))).run m.P w=.ok x F∧ax m s a F ι∧Rel (NN m.M ι) F ι v x:=by
 unfold gJ at h;split at h
 ·rename_i e sz ps f E;split at h
  ·rename_i l O;split at h
   ·rename_i n;obtain⟨u,G,V,H⟩:=n;injection h with h;subst h
    obtain⟨S,U⟩:=ov d E;unfold cY at f;split at f
    ·rename_i A Q;cases j:m.P.info? A with
     | none=>simp[aV,j]at f
     | some r =>
      simp only[aV,j,us,h7,nw]at f;obtain⟨rfl,o⟩:=f;unfold da at H;cases q:r.zero with
      | none=>simp[j,q]at H
      | some z =>
       have D:(c.map fun (y:Nat×Operand)=>(y.1,a.eval y.2)).toList=c.toList.map fun y=>(y.1,a.eval y.2):=Af;obtain⟨t,ys,B,K,W,I,L,M,N⟩:=o1 (zs:=(Array.range (g*r.size)).map (z.cells[· % z.cells.size]!)) S U O (by simp[u,o]);rw[←D]at B;have R:t.toList=ys:=by
        rw[K,u];simp[o]
       have k:r.size=sz+1:=o;rw[←k]at B;have J:0<g*r.size:=Nat.mul_pos G (by omega);have p:=run_buildSlice (P:=m.P) w T A g (c.map fun (y:Nat×Operand)=>(y.1,a.eval y.2)) t r z Q j q (by rw[k];omega) (by omega) B;refine⟨_,_,p,?_,?_⟩
       ·exact d.world (d.hs.fresh _) rfl (by simp) (fun b _ C=>C) (fun b C _=>iO _ _ _ C) (fun _ _ h=>h)
       ·have:=so (T:=A) d.hs L M N (.inl (by rw[I,u];exact G));rw[I,u,← R]at this;simpa using this
    ·cases f
   ·cases h
  ·cases h
 ·cases h
end Go.Proofs.Ytkciiamllegclaa
namespace Go.Proofs.Ytkciiamllegclaa
set_option linter.all false
variable[ZX]
open Go.RowKit
variable[FM]
theorem gK{P:Program}{N:Nat→Prop}{w:World}{ι:Env}{k:List AV}{vs:b5}(e:Cells N w ι k vs){T:TypeId}{off:Nat}{v:AV}(h:cT P T (k.drop off)=some v):
  ∃x,(part T vs.toArray off).run P w=.ok x w∧Rel N w ι v x:=by
 unfold cT at h;cases f:P.underlying T with
 | none=>simp[gc,f]at h
 | some d =>
  cases o:d.isRow with
  | true =>
   simp only[gc,f,us,o]at h;cases j:aV P T with
   | none=>simp[j]at h
   | some n =>
    simp only[j]at h;split at h
    ·rename_i r;injection h with h;subst h
     have a:(isAgg T).run P w=.ok true w:=by
      unfold isAgg;rw[mm,hF f w];cases d<;>simp_all[TypeDesc.isRow]
     cases m:P.info? T with
     | none=>simp[aV,m]at j
     | some t =>
      have s:t.size=n:=by simpa[aV,m]using j
      refine⟨.agg ((vs.drop off).take n).toArray,?_,.agg _ _ _ (by simp[e.len]) (fun y c=>e.one y (u7 (to c))) (fun i x y g c=>?_)⟩
      ·simp[part,a,sizeOf,typeInfo,m,s,List.extract_eq_take_drop]
      ·rw[sp]at g c;split at g
       ·rename_i b;rw[l2 b]at c;rw[pl]at g c;exact e.rel _ x y g c
       ·cases g
    ·cases h
  | false =>
   simp only[gc,f,us,o]at h;have q:k[off]?=some v:=by simpa[AR]using h
   have b:off<vs.length:=by rw[←e.len];grind
   have p:=ez (l:=vs) b;have a:(isAgg T).run P w=.ok false w:=by
    unfold isAgg;rw[mm,hF f w];cases d<;>simp_all
   refine⟨vs[off],?_,e.rel off v _ q p⟩;simp[part,a,p]
def jL(c:TypeId→AV→AV→Option Bool)(P:Program)(xs ys:List AV):List Field→Option Bool
 | []=>some true
 | f::d=>if f.name ≠ "_" then
   match cT P f.type (xs.drop f.offset),cT P f.type (ys.drop f.offset) with
   | some a,some b=>match c f.type a b,jL c P xs ys d with
    | some r,some q=>some (r&&q)
    | _,_=>none
   | _,_=>none
  else jL c P xs ys d
def jb(c:AV→AV→Option Bool)(P:Program)(e:TypeId)(sz:Nat)(xs ys:List AV):Nat→Nat→Option Bool
 | _,0=>some true
 | i,k+1 =>
  match cT P e (xs.drop (i*sz)),cT P e (ys.drop (i*sz)) with
  | some a,some b=>match c a b,jb c P e sz xs ys (i+1) k with
   | some r,some q=>some (r&&q)
   | _,_=>none
  | _,_=>none
def dz(P:Program):Nat→TypeId→AV→AV→Option Bool
 | 0,_,_,_=>none
 | d+1,T,u,v=>match P.underlying T,u,v with
  | some .bool,.bool a,.bool b=>some (a == b)
  | some (.int _),.int k a,.int f b=>if k=f then some (a == b) else none
  | some .string,.str a,.str b=>some (a.toList == b.toList)
  | some (.struct c),.agg xs,.agg ys=>if P.stoodInHeld T=true then none else jL (dz P d) P xs ys c.toList
  | some (.array n e),.agg xs,.agg ys=>match aV P e with
   | some sz=>jb (dz P d e) P e sz xs ys 0 n
   | none=>none
  | _,_,_=>none
theorem mi{P:Program}{N:Nat→Prop}{w:World}{ι:Env}{d:Nat}(j:∀T u v r x y,dz P d T u v=some r→Rel N w ι u x→Rel N w ι v y→(Op.equalIn d T x y).run P w=.ok r w)
  {xs ys:List AV} {as k:b5} (e:Cells N w ι xs as) (g:Cells N w ι ys k):∀(c:List Field) (r:Bool),jL (dz P d) P xs ys c=some r→(Op.eqFields d as.toArray k.toArray c).run P w=.ok r w
 | [],r,h=>by injection h with h;subst h;simp[Op.eqFields]
 | f::c,r,h=>by
  unfold jL at h;unfold Op.eqFields;split at h
  ·rename_i i;rw[l2 i];split at h
   ·rename_i a b z A;split at h
    ·rename_i l q B C;injection h with h;subst h
     obtain⟨x,m,n⟩:=gK e z;obtain⟨y,o,p⟩:=gK g A;have s:=j f.type a b l x y B n p;have t:=mi j e g c q C;simp only[mm,m,n2,o,s,Sem.run_ite,v6,t];cases l<;>simp
    ·cases h
   grind
  ·rename_i i;rw[o9 i];exact mi j e g c r h
theorem qA{P:Program}{N:Nat→Prop}{w:World}{ι:Env}{d:Nat}{e:TypeId}{sz:Nat}(l:∀u v r x y,dz P d e u v=some r→Rel N w ι u x→Rel N w ι v y→(Op.equalIn d e x y).run P w=.ok r w)
  {xs ys:List AV} {as c:b5} (f:Cells N w ι xs as) (g:Cells N w ι ys c):∀(k i:Nat) (r:Bool),jb (dz P d e) P e sz xs ys i k=some r →
  (forIn (List.range' i k) ((none,()):Option Bool×Unit) (fun (j:Nat) (_:Option Bool×Unit)=>(do
    let a ← part e as.toArray (j*sz)
    let b ← part e c.toArray (j*sz)
    let q ← Op.equalIn d e a b
    if (!q)=true then pure (ForInStep.done (some false,())) else pure (ForInStep.yield (none,())):Sem (ForInStep (Option Bool×Unit)))):Sem (Option Bool×Unit)).run P w=.ok (if r=true then none else some false,()) w
 | 0,i,r,h=>by injection h with h;subst h;simp
 | k+1,i,r,h=>by
  unfold jb at h;split at h
  ·rename_i a b A B;split at h
   ·rename_i m q C D;injection h with h;subst h
    obtain⟨x,n,o⟩:=gK f A;obtain⟨y,p,s⟩:=gK g B;have t:=l a b m x y C o s;have z:=qA l f g k (i+1) q D;rw[List.range'_succ,List.forIn_cons];simp only[mm,n,n2,p,t,Sem.run_ite,v6];cases m
    ·simp
    ·simp only[rs,fl,n5,n2,A8];exact z
   grind
  grind
theorem xV{P}{N}{w}{ι}{d}{t e}{n sz}(j:P.underlying t=some (.array n e))(m:aV P e=some sz)
  (k:∀u v r x y,dz P d e u v=some r→Rel N w ι u x→Rel N w ι v y→(Op.equalIn d e x y).run P w=.ok r w) {xs ys} {as a} (b:Cells N w ι xs as) (c:Cells N w ι ys a) {r} (h:jb (dz P d e) P e sz xs ys 0 n=some r) :
  (Op.equalIn (d+1) t (.agg as.toArray) (.agg a.toArray)).run P w=.ok r w:=by
 have i:(sizeOf e).run P w=.ok sz w:=by
  cases f:P.info? e with
  | none=>grind[aV]
  | some l =>
   have : l.size=sz:=by grind[aV]
   simp[sizeOf,typeInfo,f,this]
 simp only[Op.equalIn,mm,hF j,n2,i];rw[Std.Legacy.Range.forIn_eq_forIn_range'];have g:=qA k b c n 0 r h;simp only[Std.Legacy.Range.size,Nat.sub_zero,Nat.add_sub_cancel,Nat.div_one];rw[g];cases r<;>simp
theorem nl{P:Program}{N:Nat→Prop}{w:World}{ι:Env}:∀(d:Nat) (T:TypeId) (u v:AV) (r:Bool) (x y:Value),dz P d T u v=some r→Rel N w ι u x→Rel N w ι v y→(Op.equalIn d T x y).run P w=.ok r w
 | 0,_,_,_,_,_,_,h,_,_=>by cases h
 | d+1,T,u,v,r,x,y,h,g,i=>by
  unfold dz at h;split at h
  ·rename_i a;injection h with h;subst h;cases g;cases i;exact AK w d T _ _ a
  ·rename_i a;split at h
   ·rename_i q;subst q;injection h with h;subst h;cases g;cases i;exact run_equalIn_int w d T _ _ _ _ a
   ·cases h
  ·rename_i a;injection h with h;subst h;cases g;cases i;exact run_equalIn_string w d T _ _ a
  ·rename_i m xs ys a;split at h
   ·cases h
   ·rename_i s;cases g with
    | agg _ _ as k j l =>
     cases i with
     | agg _ _ p c b f =>
      have o:P.fieldsOf T=m:=by unfold Program.fieldsOf;rw[a]
      rw[run_equalIn_struct w d T _ _ (by rw[o];exact a) (by simpa using s),o];exact mi (fun T u v r x y=>nl d T u v r x y) ⟨k,j,l⟩ ⟨c,b,f⟩ m.toList r h
  ·rename_i n e xs ys a;split at h
   ·rename_i sz t;cases g with
    | agg _ _ as k j l =>
     cases i with
     | agg _ _ p c b f =>
      exact xV a t (fun u v r x y=>nl d e u v r x y) ⟨k,j,l⟩ ⟨c,b,f⟩ h
   grind
  grind
def qQ:AV→Bool
 | .ptr _ _|.eptr _ _ _ _|.cptr _|.adr _ _|.pp _ _ _=>true
 | _=>false
def fk(s:AS)(n:Nat):Option Operand→Option Operand→Option (Int×Int)
 | none,none=>some (0,n)
 | some lo,none=>match s.ev lo with|some (.int _ a)=>some (a,n)|_=>none
 | none,some c=>match s.ev c with|some (.int _ b)=>some (0,b)|_=>none
 | some lo,some c=>match s.ev lo,s.ev c with|some (.int _ a),some (.int _ b)=>some (a,b)|_,_=>none
def ey(s:AS)(x:AV)(lo c:Option Operand):Option AV :=
 match x with
 | .sl l=>match fk s l.length lo c with
  | some (a,b)=>if 0≤a∧a≤b∧b≤l.length then some (.sl ((l.take b.toNat).drop a.toNat)) else none
  | none=>none
 | .ref id=>match look id s.r with
  | some ar=>(match fk s ar.l.length lo c with
   | some (a,b)=>if 0≤a∧a≤b∧b≤ar.l.length then some (.sref id ar.sz a.toNat (b.toNat-a.toNat)) else none
   | none=>none)
  | none=>none
 | .str b=>match fk s b.size lo c with
  | some (i,j)=>if 0≤i∧i≤j∧j≤b.size then some (.str (b.extract i.toNat j.toNat)) else none
  | none=>none
 | _=>none
def pS(P:Program)(T:TypeId)(x:AV)(j:Int):Option AV :=
 match P.underlying T,x with
 | some (.array n e),.agg a=>match aV P e with
  | some k=>if 0≤j∧j<n then cT P e (a.drop (j.toNat*k)) else none
  | none=>none
 | some .string,.str s=>if 0≤j then (match s[j.toNat]? with|some b=>some (.int .u8 b.toNat)|none=>none) else none
 | _,_=>none
def sv(P:Program)(T:TypeId)(f:Nat):AV→Option AV
 | .agg a=>match P.underlying T with
  | some (.struct b)=>match b[f]? with|some g=>cT P g.type (a.drop g.offset)|none=>none
  | _=>none
 | _=>none
def kM:List (List AV)→Option (List Int)
 | []=>some []
 | [.int .i32 n]::r=>match kM r with|some l=>some (n::l)|none=>none
 | _::_=>none
theorem pa:∀{l} {a},kM l=some a→l=a.map fun n=>[.int .i32 n]
 | [],a,h=>by injection h with h;grind
 | e::r,a,h=>by
  unfold kM at h;split at h
  ·grind
  ·rename_i n f q;injection q with c d;subst c;subst d
   split at h
   ·rename_i l b;injection h with h;subst h;rw[u5,← pa b]
   grind
  grind
def pe(P:Program)(S D:TypeId):AV→Option AV
 | .int _ n=>match P.underlying S,P.underlying D with|some (.int _),some (.int k)=>some (.int k (k.wrap n))|some (.int _),some .string=>some (.str (Utf8.encode n))|_,_=>none
 | .sl l=>match P.underlying S,P.underlying D with
  | some (.slice e),some .string=>match P.underlying e,kM l with
   | some (.int .i32),some a=>some (.str (runesBytes a))
   | _,_=>none
  | _,_=>none
 | _=>none
def oh:Option TypeDesc→Bool
 | some (.slice _)=>true
 | _=>false
def fE(a b:ByteArray):Bool:=decide (a.size+b.size≤9223372036854775807)
def nn(P:Program)(c:BinOp)(T:TypeId)(u v:AV):Option AV :=
 match c with
 | .add=>match u,v with
  | .str a,.str b=>if fE a b=true then some (.str (a++b)) else none
  | _,_=>none
 | .eql|.neq=>match u,v with
  | .agg _,.agg _=>if P.eqGuardType P.depth T=true then none else (match dz P 10000 T u v with|some r=>some (.bool (match c with|.neq=>!r|_=>r))|none=>none)
  | .bool a,.bool b=>match P.underlying T with|some .bool=>some (.bool (match c with|.neq=>!(a == b)|_=>(a == b)))|_=>none
  | .nils,.nils=>if oh (P.underlying T)=true then some (.bool (match c with|.neq=>false|_=>true)) else none
  | _,_=>none
 | _=>none
def nK(s:AS)(g:FuncId):List Operand→List Operand→Option AV
 | [x],[]=>match s.ev x with|some (.adr b off)=>some (.vv (.func (.func g) #[.pointer (some ⟨b,off,none⟩)] #[]))|_=>none
 | _,_=>none
def fg(P:Program)(s:AS)(o:Oper):Option AV :=
 match o.op with
 | .makeFunc (.func g) b c=>nK s g b.toList c.toList
 | .nilCheck x=>match s.ev x with|some v=>if qQ v=true then some v else none|none=>none
 | .field T x f=>match s.ev x with|some p=>sv P T f p|none=>none
 | .index T x i=>match s.ev x,s.ev i with|some p,some (.int _ j)=>pS P T p j|_,_=>none
 | .convert S D x=>match s.ev x with|some p=>pe P S D p|none=>none
 | .binOp d T x y _=>match s.ev x,s.ev y with|some u,some v=>nn P d T u v|_,_=>none
 | .slice T x lo a none=>match s.ev x with
  | some p=>match P.underlying T with
   | some (.slice e)=>(match p,aV P e with|.sl l,some sz=>if ZX.p=true∧l.all (fun e=>e.length == sz)=true then ey s p lo a else none|.ref id,some sz=>(match look id s.r with|some ar=>if ar.sz=sz then ey s p lo a else none|none=>none)|_,_=>none)
   | some .string=>(match p with|.str _=>ey s p lo a|_=>none)
   | _=>none
  | none=>none
 | _=>none
theorem eu{c}{s}{a}{w}{ι}(b:ax c s a w ι){x}{k}{n}(h:s.ev x=some (.int k n)):a.eval x=.int k n:=by
 have:=b.ev h;cases d:a.eval x<;>rw[d]at this<;>cases this;rfl
theorem l7{o:Cx}{s:AS}{a:Act}{w:World}{ι:Env}(g:ax o s a w ι){n c:Nat}{b:Bool}{lo e:Option Operand}{i j:Int}(h:fk s n lo e=some (i,j))(l:0≤i)(q:i≤j)(t:j≤n)(u:n≤c):
  (Instr.sliceBounds b n c (lo.map a.eval) (e.map a.eval) none).run o.P w=.ok (i.toNat,j.toNat,c) w:=by
 have m:∀{x:Operand} {k:IntKind} {z:Int} {y:Nat} {f:BoundsCode},s.ev x=some (.int k z)→0≤z→z≤(y:Int)→(Instr.sliceBound (a.eval x) y f).run o.P w=.ok z.toNat w:=fun d l q=>by
  rw[eu g d];simp[Instr.sliceBound,asIntOf,l,q]
 unfold fk at h;unfold Instr.sliceBounds;cases lo with
 | none =>
  cases e with
  | none =>
   simp only[h7,nw]at h;obtain⟨rfl,rfl⟩:=h;simp
  | some e =>
   simp only[]at h;split at h
   ·rename_i k z d;simp only[h7,nw]at h;obtain⟨rfl,rfl⟩:=h;simp[m d (by omega) (by omega:z≤(c:Int))]
   ·cases h
 | some lo =>
  cases e with
  | none =>
   simp only[]at h;split at h
   ·rename_i k z d;simp only[h7,nw]at h;obtain⟨rfl,rfl⟩:=h;simp[m d l (by omega:z≤(n:Int))]
   ·cases h
  | some e =>
   simp only[]at h;split at h
   ·rename_i k z v r d p;simp only[h7,nw]at h;obtain⟨rfl,rfl⟩:=h;simp[m p (by omega) (by omega:r≤(c:Int)),m d l (by omega:z≤((r.toNat:Nat):Int))]
   grind
theorem xT{N:Nat→Prop}{w:World}{ι:Env}{l:List (List AV)}{b o c sz:Nat}{d:Nat→Nat→Value}(y:∀e∈l,e.length=sz)(s:b<w.heap.size)(r:¬ N b)(n:∀j i,(d j i).oneCell'=true)
  (t:∀(j:Nat) (e:List AV),l[j]?=some e→∀(i:Nat) (x:AV),e[i]?=some x→w.cell? ⟨b,o+j*sz+i,none⟩=some (d j i)) (v:∀(j:Nat) (e:List AV),l[j]?=some e→∀(i:Nat) (x:AV),e[i]?=some x→Rel N w aG x (d j i))
  {p q:Nat} (u:p≤q) (z:q≤l.length) (k:l.length≤c) (h:ZX.p=true):Rel N w ι (.sl ((l.take q).drop p)) (.slice (some ⟨b,o+p*sz,none⟩) (q-p) (c-p)):=by
 have m:∀j,((l.take q).drop p)[j]?=if p+j<q then l[p+j]? else none:=fun j=>by
  rw[pl,sp]
 have f:((l.take q).drop p).length=q-p:=by simp;omega
 rw[←f];refine .sl ι _ b _ _ sz (fun j i=>d (p+j) i) (fun e a=>y e (to (u7 a))) s r (fun j i=>n _ _) (fun j e a i x g=>?_) (fun j e a i x g=>?_) ⟨by rw[f];omega,.inl h⟩
 ·rw[m]at a;split at a
  ·have:=t (p+j) e a i x g;rw[show o+p*sz+j*sz+i=o+(p+j)*sz+i by rw[sb];omega];exact this
  ·cases a
 ·rw[m]at a;split at a
  ·exact v (p+j) e a i x g
  ·cases a
theorem qx{P}{w}{T e}(a:P.underlying T=some (.slice e)) d:(Op.equalIn (d+1) T (.slice none 0 0) (.slice none 0 0)).run P w=.ok true w:=by
 unfold Op.equalIn;rw[mm,hF a w];rfl
theorem uy{P}{w}{T e}(a:P.underlying T=some (.slice e)):(binOp .eql T (.slice none 0 0) (.slice none 0 0)).run P w=.ok (.bool true) w:=by
 have e:binOp .eql T (.slice none 0 0) (.slice none 0 0)=(do pure (.bool (← Op.equalIn 10000 T (.slice none 0 0) (.slice none 0 0)))):=rfl;rw[e,mm,qx a 9999];rfl
theorem zB{P}{w}{T e}(a:P.underlying T=some (.slice e)):(binOp .neq T (.slice none 0 0) (.slice none 0 0)).run P w=.ok (.bool false) w:=by
 have e:binOp .neq T (.slice none 0 0) (.slice none 0 0)=(do pure (.bool (!(← Op.equalIn 10000 T (.slice none 0 0) (.slice none 0 0))))):=rfl;rw[e,mm,qx a 9999];rfl
theorem oT{H:Cx}{s:AS}{a:Act}{w:World}{ι:Env}(d:ax H s a w ι){o:Oper}{v:AV}(h:fg H.P s o=some v):∃x,(execOp a.eval o).run H.P w=.ok (.value x) w∧Rel (NN H.M ι) w ι v x:=by
 unfold fg at h;unfold execOp;cases G:o.op with
 | nilCheck x =>
  simp only[G]at h⊢;split at h
  ·rename_i u K;split at h
   ·rename_i P;injection h with h;subst h
    have t:=d.ev K;generalize hy:a.eval x=y at t;refine⟨y,?_,t⟩;cases t<;>first|(simp[qQ]at P;done)|simp[hy]
   ·cases h
  ·cases h
 | field T x f =>
  simp only[G]at h⊢;split at h
  ·rename_i p P;unfold sv at h;split at h
   ·rename_i cs;split at h
    ·rename_i fs K;split at h
     ·rename_i g hg;have t:=d.ev P;generalize a.eval x=X at t⊢;cases t with
      | agg _ _ vs hl Q t =>
       obtain⟨y,Y,Z⟩:=gK ⟨hl,Q,t⟩ h;exact⟨y,by simp[Instr.field,hF K,hg,asAgg,Y],Z⟩
     ·cases h
    ·cases h
   ·cases h
  ·cases h
 | index T x i =>
  simp only[G]at h⊢;split at h
  ·rename_i p k j P hj;have b0:=eu d hj;unfold pS at h;split at h
   ·rename_i n e cs K;split at h
    ·rename_i sz hz;split at h
     ·rename_i W;have t:=d.ev P;generalize a.eval x=X at t⊢;obtain⟨vs,rfl,y,Y,Z⟩:∃vs:b5,X=.agg vs.toArray∧∃y,(part e vs.toArray (j.toNat*sz)).run H.P w=.ok y w∧Rel (NN H.M ι) w ι v y:=by
       cases t with
       | agg _ _ vs hl Q t=>exact⟨vs,rfl,gK ⟨hl,Q,t⟩ h⟩
      have J:(sizeOf e).run H.P w=.ok sz w:=by
       cases L:H.P.info? e with
       | none=>simp[aV,L]at hz
       | some it =>
        have : it.size=sz:=by simpa[aV, L]using hz
        simp[sizeOf,typeInfo,L,this]
      exact⟨y,by simp[Instr.index,b0,asIntOf,hF K,W,J,Y],Z⟩
     ·cases h
    ·cases h
   ·rename_i b K;split at h
    ·rename_i h0;split at h
     ·rename_i y hy;injection h with h;subst h
      have t:=d.ev P;cases E:a.eval x<;>rw[E]at t<;>cases t;exact⟨_,by simp[Instr.index,b0,asIntOf,hF K,h0,hy],.int _ _ _⟩
     ·cases h
    ·cases h
   ·cases h
  ·cases h
 | convert S D x =>
  simp only[G]at h⊢;split at h
  ·rename_i p P;unfold pe at h;split at h
   ·rename_i k n;split at h
    ·rename_i k1 k2 hS hD;injection h with h;subst h
     rw[eu d P];exact⟨_,by simp[convert,hF hS,hF hD,Conv.intToInt],.int _ _ _⟩
    ·rename_i hS hD;injection h with h;subst h
     rw[eu d P];exact⟨_,by simp[convert,hF hS,hF hD,Conv.intToString],.str _ _⟩
    ·cases h
   ·rename_i l;split at h
    ·rename_i e hS hD;split at h
     ·rename_i ns hE q0;injection h with h;subst h
      have hl:=pa q0;have t:=d.ev P;generalize a.eval x=X at t⊢;have U:l.length=ns.length:=by rw[hl,u6]
      cases t with
      | sl0 _ A c =>
       have:ns=[]:=iF (by simpa using U.symm);subst this;cases A with
       | none=>exact⟨_,by simp only[mm,run_convert_runes_nil w S D e 0 c hS hE hD,n2,v6];rfl,.str _ _⟩
       | some a0=>exact⟨_,by simp only[mm,run_convert_runes w S D e a0 0 c [] (io _) hS hE hD (fun j hj=>by simp at hj),n2,v6];rfl,.str _ _⟩
      | sl _ _ b o c sz i0 hz W hn Q E t O =>
       refine⟨.string (runesBytes ns),?_,.str _ _⟩;have d0:∀j,j<ns.length→w.cell? ((⟨b,o,none⟩:Addr).add j)=some (.int .i32 (ns.getD j 0)):=fun j hj=>by
        have b0:j<l.length:=by omega
        have M:sz=1:=by
         have:=hz l[j] (zF b0);simp[hl]at this;omega
        have he:l[j]?=some [.int .i32 ns[j]]:=by rw[hl];simp[hj]
        have q:=E j _ he 0 _ rfl;have q2:=t j _ he 0 _ rfl;rw[M]at q;have e3:i0 j 0=.int .i32 ns[j]:=by
         generalize i0 j 0=z at q2;cases q2;rfl
        rw[e3]at q;have:(⟨b,o,none⟩:Addr).add j=⟨b,o+j*1+0,none⟩:=by simp[v4]
        rw[this,q];simp[List.getD,hj]
       have:=run_convert_runes w S D e ⟨b,o,none⟩ l.length c ns (by omega) hS hE hD d0;rw[U,List.take_length]at this;rw[U];simp only[mm,this,n2,v6]
     ·cases h
    ·cases h
   ·cases h
  ·cases h
 | binOp op T x y Ty =>
  simp only[G]at h⊢;split at h
  ·rename_i u v' K hv;have t:=d.ev K;have C:=d.ev hv;unfold nn at h;have agg:∀{cs ds:List AV} {r:Bool},u=.agg cs→v'=.agg ds→H.P.eqGuardType H.P.depth T=false→dz H.P 10000 T u v'=some r→(∃as bs,a.eval x=.agg as∧a.eval y=.agg bs∧(Op.equalIn 10000 T (.agg as) (.agg bs)).run H.P w=.ok r w∧(eqGuard op T x y (.agg as) (.agg bs)).run H.P w=.ok () w):=by
    intro cs ds r Y Z hg hq;subst Y;subst Z;have l0:=nl 10000 T _ _ _ _ _ hq t C;cases E:a.eval x<;>rw[E]at t<;>cases t;cases B:a.eval y<;>rw[B]at C<;>cases C;rw[E,B]at l0;exact⟨_,_,rfl,rfl,l0,run_eqGuard_agg w op T x y _ _ hg⟩
   split at h
   ·split at h
    ·split at h
     ·rename_i J;injection h with h;subst h
      cases E:a.eval x<;>rw[E]at t<;>cases t;cases B:a.eval y<;>rw[B]at C<;>cases C;exact⟨_,by simp[eqGuard,binOp,run_string_add_sum w _ _ (AL J)],.str _ _⟩
     ·cases h
    ·cases h
   ·split at h
    ·split at h
     ·cases h
     ·rename_i hg;split at h
      ·rename_i r hq;injection h with h;subst h
       obtain⟨as,bs,Y,Z,e3,e4⟩:=agg rfl rfl (by simpa using hg) hq;exact⟨.bool r,by simp only[mm,Y,Z,e4,n2,run_eql_struct,e3,v6],.bool _ _⟩
      ·cases h
    ·split at h
     ·rename_i N;injection h with h;subst h
      cases E:a.eval x<;>rw[E]at t<;>cases t;cases B:a.eval y<;>rw[B]at C<;>cases C;exact⟨_,by simp[eqGuard,binOp,Op.equal,Op.maxDepth,AK w 9999 T _ _ N],.bool _ _⟩
     ·cases h
    ·split at h
     ·rename_i J;injection h with h;subst h
      cases E:a.eval x<;>rw[E]at t<;>cases t;cases B:a.eval y<;>rw[B]at C<;>cases C;unfold oh at J;split at J
      ·rename_i e N;exact⟨_,by simp only[mm,uy N];simp[eqGuard],.bool _ _⟩
      ·cases J
     ·cases h
    ·cases h
   ·split at h
    ·split at h
     ·cases h
     ·rename_i hg;split at h
      ·rename_i r hq;injection h with h;subst h
       obtain⟨as,bs,Y,Z,e3,e4⟩:=agg rfl rfl (by simpa using hg) hq;exact⟨.bool (!r),by simp only[mm,Y,Z,e4,n2,run_neq_struct,e3,v6],.bool _ _⟩
      ·cases h
    ·split at h
     ·rename_i N;injection h with h;subst h
      cases E:a.eval x<;>rw[E]at t<;>cases t;cases B:a.eval y<;>rw[B]at C<;>cases C;exact⟨_,by simp[eqGuard,binOp,Op.equal,Op.maxDepth,AK w 9999 T _ _ N],.bool _ _⟩
     ·cases h
    ·split at h
     ·rename_i J;injection h with h;subst h
      cases E:a.eval x<;>rw[E]at t<;>cases t;cases B:a.eval y<;>rw[B]at C<;>cases C;unfold oh at J;split at J
      ·rename_i e N;exact⟨_,by simp only[mm,zB N];simp[eqGuard],.bool _ _⟩
      ·cases J
     ·cases h
    ·cases h
   ·cases h
  ·cases h
 | slice T x lo L mx =>
  cases mx with
  | some m=>simp[G]at h
  | none =>
   simp only[G]at h⊢;split at h
   ·rename_i p P;have t:=d.ev P;split at h
    ·rename_i e K;split at h
     ·rename_i l sz M;split at h
      case isFalse=>cases h
      rename_i R;obtain⟨g0,R⟩:=R;unfold ey at h;simp only[]at h;split at h
      ·rename_i i j W;split at h
       ·rename_i F;obtain⟨c0,c1,c2⟩:=F;injection h with h;subst h
        have J:(sizeOf e).run H.P w=.ok sz w:=by
         cases L:H.P.info? e with
         | none=>simp[aV,L]at M
         | some it =>
          have : it.size=sz:=by simpa[aV, L]using M
          simp[sizeOf,typeInfo,L,this]
        have I:∀c,l.length≤c→(Instr.sliceBounds true l.length c (lo.map a.eval) (L.map a.eval) none).run H.P w=.ok (i.toNat,j.toNat,c) w:=fun c E=>l7 d W c0 c1 c2 E;generalize a.eval x=X at t⊢;cases t with
        | sl0 _ A c =>
         have:=I c (by simp);simp only[ti]at this c2;refine⟨.slice (if c=i.toNat then A else A.map (·.add (i.toNat*sz))) (j.toNat-i.toNat) (c-i.toNat),by simp[Instr.sliceAt,hF K,Instr.slice,this,J],?_⟩;have e0:j.toNat-i.toNat=0:=by omega
         rw[e0];simpa using Rel.sl0 _ _ _ (.inl g0)
        | sl _ _ b o c t0 i0 hz m0 hn Q E t O =>
         have:=I c O.1;refine⟨.slice (if c=i.toNat then some ⟨b,o,none⟩ else (some ⟨b,o,none⟩:Option Addr).map (·.add (i.toNat*sz))) (j.toNat-i.toNat) (c-i.toNat),by simp[Instr.sliceAt,hF K,Instr.slice,this,J],?_⟩;by_cases h0:i.toNat=j.toNat
         ·have e0:j.toNat-i.toNat=0:=by omega
          rw[e0,show(l.take j.toNat).drop i.toNat=[] from AT (by rw[zP];omega)];exact .sl0 _ _ _ (.inl g0)
         ·rw[o9 (by omega)];have V:t0=sz:=by
           have x0:0<l.length:=by omega
           have h4:=hz l[0] (zF _);have h5:=lp.1 R l[0] (zF _);simp only[z5]at h5;omega
          ·subst V;have:=xT (ι:=ι) hz m0 hn Q E t (p:=i.toNat) (q:=j.toNat) (by omega) (by omega) O.1 g0;simpa[v4]using this
       ·cases h
      ·cases h
     ·rename_i id sz M;split at h
      case h_2=>cases h
      rename_i ar k0;split at h
      case isFalse=>cases h
      rename_i V;unfold ey at h;simp only[k0]at h;split at h
      case h_2=>cases h
      rename_i i j W;split at h
      case isFalse=>cases h
      rename_i F;obtain⟨c0,c1,c2⟩:=F;injection h with h;subst h
      subst V;have J:(sizeOf e).run H.P w=.ok ar.sz w:=by
       cases L:H.P.info? e with
       | none=>simp[aV,L]at M
       | some it =>
        have : it.size=ar.sz:=by simpa[aV, L]using M
        simp[sizeOf,typeInfo,L,this]
      have I:∀c,ar.l.length≤c→(Instr.sliceBounds true ar.l.length c (lo.map a.eval) (L.map a.eval) none).run H.P w=.ok (i.toNat,j.toNat,c) w:=fun c E=>l7 d W c0 c1 c2 E;generalize a.eval x=X at t⊢;cases t with
      | ref _ _ A n c hι =>
       obtain⟨v,xs,Q,h2,h3,h4,h5⟩:=d.hs.dL id ar k0 (by rw[hι];rfl);rw[hι]at Q;injection Q with Q;subst Q
       obtain⟨hv,h0⟩|⟨g',cap,v0,hv,w0,hg,p0,O,r0,s0⟩:=h2.2
       ·injection hv with hA hn B
        subst hA;subst hn;subst B;have:=I 0 (by omega);rw[h0]at this;have ei:i.toNat=0:=by omega
        have ej:j.toNat=0:=by omega
        refine⟨.slice (if 0=i.toNat then none else (none:Option Addr).map (·.add (i.toNat*ar.sz))) (j.toNat-i.toNat) (0-i.toNat),by simp[Instr.sliceAt,hF K,Instr.slice,this,J],?_⟩;exact .sref _ _ _ _ _ _ _ _ _ _ hι (.inl (by omega))
       ·injection hv with hA hn B
        subst hA;subst hn;subst B;have:=I c p0;refine⟨.slice (if c=i.toNat then some ⟨g',0,none⟩ else (some ⟨g',0,none⟩:Option Addr).map (·.add (i.toNat*ar.sz))) (j.toNat-i.toNat) (c-i.toNat),by simp[Instr.sliceAt,hF K,Instr.slice,this,J],?_⟩;by_cases h0:i.toNat=j.toNat
        ·exact .sref _ _ _ _ _ _ _ _ _ _ hι (.inl (by omega))
        ·rw[o9 (by omega)];refine .sref _ _ _ _ _ _ _ _ _ _ hι (.inr ⟨g',rfl,?_,by omega,by omega⟩);simp[v4]
     ·cases h
    ·rename_i K;split at h
     ·rename_i b;unfold ey at h;simp only[]at h;split at h
      ·rename_i i j W;split at h
       ·rename_i F;obtain⟨c0,c1,c2⟩:=F;injection h with h;subst h
        have I:(Instr.sliceBounds false b.size b.size (lo.map a.eval) (L.map a.eval) none).run H.P w=.ok (i.toNat,j.toNat,b.size) w:=l7 d W c0 c1 c2 (io _);generalize a.eval x=X at t⊢;cases t with
        | str _ _=>exact⟨.string (b.extract i.toNat j.toNat),by simp[Instr.sliceAt,hF K,Instr.slice,I],.str _ _⟩
       ·cases h
      ·cases h
     ·cases h
    ·cases h
   ·cases h
 | makeFunc fn bs cs =>
  cases fn with
  | func g =>
   simp only[G]at h⊢;unfold nK at h;split at h
   case h_2=>cases h
   rename_i x I o0;have W:bs = #[x]:=by rw[←Ad (xs:=bs),I]
   have E:cs = #[]:=by rw[←Ad (xs:=cs),o0]
   subst W;subst E;split at h
   ·rename_i b off hx;injection h with h;subst h
    have t:=d.ev hx;generalize hX:a.eval x=X at t;cases t with
    | adr _ _ _ =>
     refine⟨_,?_,.vv _ _ rfl⟩;simp only[Instr.makeFunc,mm,v6,n2,Array.map_empty];simp[hX]
   ·cases h
  | _=>simp[G]at h
 | _=>simp[G]at h
end Go.Proofs.Ytkciiamllegclaa
namespace Go.Proofs.Ytkciiamllegclaa
set_option linter.all false
variable[ZX]
open Go.RowKit
variable[FM]
mutual
def AV.bp(id:Nat):AV→AV
 | .ref i=>if i=id then .any else .ref i
 | .eptr i sz j off=>if i=id then .any else .eptr i sz j off
 | .sref i sz off m=>if i=id then .any else .sref i sz off m
 | .ptr i off=>if i=id then .any else .ptr i off
 | .pp i g off=>if i=id then .any else .pp i g off
 | .sit i g s p=>if i=id then .any else .sit i g s p
 | .adr g off=>.adr g off
 | .agg a=>.agg (dw id a)
 | .tup a=>.tup (dw id a)
 | .int k n=>.int k n
 | .bool b=>.bool b
 | .str s=>.str s
 | .nils=>.nils
 | .sl l=>.sl l
 | .nilm=>.nilm
 | .mref _ _=>.any
 | .omp m=>.omp m
 | .osl e sz l=>.osl e sz l
 | .vv x=>.vv x
 | .lk i x=>if i=id then .any else .lk i x
 | .fn f c=>.fn f c
 | .fno f c=>.fno f (dw id c)
 | .nilf=>.nilf
 | .nilp=>.nilp
 | .cptr a=>.cptr a
 | .any=>.any
def dw(id:Nat):List AV→List AV
 | []=>[]
 | c::r=>c.bp id::dw id r
end
theorem jM{id}:∀{l} {i:Nat} {x},(dw id l)[i]?=some x→∃y,l[i]?=some y∧x=y.bp id
 | [],i,x,h=>by grind[dw]
 | c::r,0,x,h=>by grind[dw]
 | c::r,i+1,x,h=>by simp[dw]at h;obtain⟨y,a,b⟩:=jM h;grind
theorem iX{id}:∀l,(dw id l).length=l.length
 | []=>rfl
 | c::r=>by simp[dw,iX r]
theorem Rel.bp{N:Nat→Prop}{w:World}{ι:Env}{v:AV}{x:Value}(h:Rel N w ι v x){id:Nat}{ι':Env}(d:∀i,i≠id→ι' i=ι i):Rel N w ι' (v.bp id) x:=by
 induction h with
 | int ι k n=>simp only[AV.bp];exact .int _ _ _
 | bool ι b=>simp only[AV.bp];exact .bool _ _
 | str ι s=>simp only[AV.bp];exact .str _ _
 | nils ι=>simp only[AV.bp];exact .nils _
 | nilm ι=>simp only[AV.bp];exact .nilm _
 | mref ι i q r v h S=>simp only[AV.bp];exact .any _ _ rfl
 | sl0 ι A c M=>simp only[AV.bp];exact .sl0 _ _ _ M
 | sl ι l b o c sz C Q D F p K t E u=>simp only[AV.bp];exact .sl _ l b o c sz C Q D F p K t E
 | fn ι f e ys z t u=>simp only[AV.bp];exact .fn _ f e ys z t
 | fno ι f e ys z t u =>
  simp only[AV.bp];exact .fno _ _ _ ys (by rw[iX];exact z) (fun i x v H G=>by
   obtain⟨y,I,rfl⟩:=jM H;exact u i y v I G d)
 | nilf ι=>simp only[AV.bp];exact .nilf _
 | nilp ι=>simp only[AV.bp];exact .nilp _
 | any ι x h=>simp only[AV.bp];exact .any _ _ h
 | ptr ι i off g h =>
  simp only[AV.bp];split
  ·exact .any _ _ rfl
  ·rename_i a;exact .ptr _ _ _ _ ((d i a).trans h)
 | eptr ι i sz j off g n c h =>
  simp only[AV.bp];split
  ·exact .any _ _ rfl
  ·rename_i a;exact .eptr _ _ _ _ _ _ n c ((d i a).trans h)
 | sref ι i sz off m n c L A B h O =>
  simp only[AV.bp];split
  ·exact .any _ _ rfl
  ·rename_i a;exact .sref _ _ _ _ _ n c L A B ((d i a).trans h) O
 | adr ι g off=>simp only[AV.bp];exact .adr _ _ _
 | vv ι x h=>simp only[AV.bp];exact .vv _ _ h
 | lk ι i v x h p =>
  simp only[AV.bp];split
  ·exact .any _ _ p
  ·rename_i a;exact .lk _ _ _ _ ((d i a).trans h) p
 | pp ι i g off h =>
  simp only[AV.bp];split
  ·exact .any _ _ rfl
  ·rename_i a;exact .pp _ _ _ _ ((d i a).trans h)
 | sit ι i g s R h P F D =>
  simp only[AV.bp];split
  ·exact .any _ _ rfl
  ·rename_i a;exact .sit _ _ _ _ _ ((d i a).trans h) P F D
 | cptr ι J b o C D F p K t u=>simp only[AV.bp];exact .cptr _ J b o C D F p K t
 | ref ι i A n c h =>
  simp only[AV.bp];split
  ·exact .any _ _ rfl
  ·rename_i a;exact .ref _ _ _ _ _ ((d i a).trans h)
 | agg ι J vs z p t u =>
  simp only[AV.bp];exact .agg _ _ vs (by rw[iX];exact z) p (fun i x v H G=>by
   obtain⟨y,I,rfl⟩:=jM H;exact u i y v I G d)
 | tup ι J vs z t u =>
  simp only[AV.bp];exact .tup _ _ vs (by rw[iX];exact z) (fun i x v H G=>by
   obtain⟨y,I,rfl⟩:=jM H;exact u i y v I G d)
def bR(id:Nat):List (Nat×AV)→List (Nat×AV)
 | []=>[]
 | (k,v)::r=>(k,v.bp id)::bR id r
def c9(id:Nat):List (Nat×List AV)→List (Nat×List AV)
 | []=>[]
 | (k,v)::r=>(k,dw id v)::c9 id r
theorem pR{id}:∀{l} {k} {v},look k (bR id l)=some v→∃u,look k l=some u∧v=u.bp id
 | [],k,v,h=>by cases h
 | (j,x)::r,k,v,h=>by
  simp only[bR,look]at h⊢;split at h
  ·grind
  ·rename_i e;rw[o9 e];exact pR h
theorem oo{id}:∀{l} {k} {v},look k (c9 id l)=some v→∃u,look k l=some u∧v=dw id u
 | [],k,v,h=>by cases h
 | (j,x)::r,k,v,h=>by
  simp only[c9,look]at h⊢;split at h
  ·grind
  ·rename_i e;rw[o9 e];exact oo h
def rep(ι:Env)(id:Nat)(v:Value):Env:=fun i=>if i=id then some v else ι i
theorem gn ι id v:rep ι id v id=some v:=by simp[rep]
theorem lv ι{id i} v(h:i≠id):rep ι id v i=ι i:=by grind[rep]
theorem uQ{P:Program}(w:World)(base:Nat)(t ty e:TypeId)(i:TypeInfo)(z:Value)(b bytes:Nat)(K:P.underlying t=some (.slice e))(I:P.info? e=some i)(S:i.zero=some z)
  (s:i.size=b) (D:i.bytes=bytes) (T:z.cells.size=b) (Q:0<b)
  (v:Value) (n:Nat) (xs:b5) (d:w.ownsRow base e b v n xs)
  (a:Addr) (m c:Nat) (news:b5) (F:news.length=m*b) (h:∀j u,news[j]?=some u→w.cell? (a.add j)=some u) (U:∀u∈news,u.oneCell'=true)
  (C:n+m≤maxLen) (f:(n+m)*bytes≤140737488355328) (B:base≤w.heap.size) :
  ∃x H,(Builtin.append_ #[t,t] ty #[v,.slice (some a) m c]).run P w=.ok x H∧H.ownsRow base e b x (n+m) (xs++news)∧w.grownBy H v.ownBlock ∧
   (bq (some x)=bq (some v)∨bq (some x)=some w.heap.size)∧(∀A k c,x=.slice A k c→k=n+m)∧∃A k c,x=.slice A k c:=by
 have O:=d;obtain⟨x,H,o,p,Y,N⟩:=run_append_own (P:=P) w base t ty e i z b bytes K I S s D T Q v n xs d a m c news F h U C f B;have l:(∀A k c,x=.slice A k c→k=n+m)∧∃A k c,x=.slice A k c:=by
  obtain⟨G,h0⟩|⟨g,cap,y,G,_⟩:=p.2
  ·exact⟨fun A k c e=>by rw[G]at e;injection e with _ e _;omega,_,_,_,G⟩
  ·exact⟨fun A k c e=>by rw[G]at e;injection e with _ e _;exact e.symm,_,_,_,G⟩
 refine⟨x,H,o,p,Y,?_,l.1,l.2⟩;subst s;subst D;have J:n+m≤9223372036854775807:=by simp only[maxLen]at C;omega
 obtain⟨rfl,rfl⟩|⟨g,cap,y,rfl,W,M,a0,X,L,R⟩:=d.2
 ·have hx:xs=[]:=iF (by simpa using d.1);by_cases Z:m=0
  ·have:=N.2 ⟨rfl,Z⟩;left;rw[this]
  ·have q:=AZ (P:=P) w t ty e i z K I S a m c news F h (by omega) (by omega) (by have V:=f;simp only[u3]at V;omega);rw[q]at o;injection o with o _
   right;rw[←o];rfl
 ·by_cases r:n+m≤cap
  ·have E:n*i.size+news.length≤y.size:=by rw[F,L,← sb];exact ro _ r
   have q:=run_append_room (P:=P) w t ty e i K I g n cap y M a m c news F h U r E;rw[q]at o;injection o with o _
   left;rw[←o];rfl
  ·have holds:∀j u,xs[j]?=some u→w.cell? ((⟨g,0,none⟩:Addr).add j)=some u:=d.cells (g:=g) rfl;have q:=Ax (P:=P) w t ty e i z K I S ⟨g,0,none⟩ n cap xs d.1 holds a m c news F h (by omega) (by omega) (AF (by omega) f);rw[q]at o;injection o with o _
   right;rw[←o];rfl
theorem mB{sz p q k:Nat}{z ys:Array Value}(g:z.size=sz)(a:0<sz)(e:z.toList=bk)(i:ys.size=p*sz)(b:p*sz≤k)(c:k<(p+q)*sz):(ys++Builtin.zeroCells z q)[k]?=some (zc (k % sz)):=by
 rw[Ay (by omega),i];have d:k-p*sz<q*sz:=by rw[sb]at c;omega
 have h:(k-p*sz) % sz=k % sz:=by rw[Aq p sz];exact Nat.sub_mul_mod (by rw[Aq];exact b)
 unfold Builtin.zeroCells;rw[g,Array.getElem?_map,Array.getElem?_range,l2 d];simp only[us,h];have f:k % sz<z.size:=by rw[g];exact Nat.mod_lt _ a
 unfold zc;rw[←e,getElem!_pos z (k % sz) f,u4,v5,hM f];rfl
theorem wH{P:Program}(w:World)(base:Nat)(t ty e:TypeId)(i:TypeInfo)(z:Value)(d bytes:Nat)(X:P.underlying t=some (.slice e))(V:P.info? e=some i)(hz:i.zero=some z)
  (B:i.size=d) (L:i.bytes=bytes) (I:z.cells.size=d) (G:0<d)
  (v:Value) (n:Nat) (xs:b5) (f:w.ownsRow base e d v n xs)
  (a:Addr) (m c:Nat) (news:b5) (D:news.length=m*d) (r:∀j u,news[j]?=some u→w.cell? (a.add j)=some u) (J:∀u∈news,u.oneCell'=true)
  (K:n+m≤maxLen) (q:(n+m)*bytes≤140737488355328) (E:base≤w.heap.size) (H:ZK w d v n) (U:d=aE→z.cells.toList=bk) {v':Value} {w':World}
  (s:(Builtin.append_ #[t,t] ty #[v,.slice (some a) m c]).run P w=.ok v' w'):ZK w' d v' (n+m):=by
 rcases H with H|⟨b0,c0⟩
 ·exact .inl H
 obtain⟨v2,w2,Q,_,_,e0⟩:=run_append_own (P:=P) w base t ty e i z d bytes X V hz B L I G v n xs f a m c news D r J K q E;rw[s]at Q;injection Q with e1 e2;subst e1;subst e2
 subst B;subst L;have W:n+m≤9223372036854775807:=by simp only[maxLen]at K;omega
 obtain⟨rfl,rfl⟩|⟨g,cap,x,rfl,i0,C,l0,k0,a0,g0⟩:=f.2
 ·have hx:xs=[]:=iF (by simpa using f.1);by_cases hm:m=0
  ·have:=e0.2 ⟨rfl,hm⟩;rw[this];subst hm;exact .nil
  ·have y:=AZ (P:=P) w t ty e i z X V hz a m c news D r (by omega) (by omega) (by have l:=q;simp only[u3]at l;omega);rw[y]at s;injection s with s T
   subst s;subst T;refine .inr ⟨fun h=>by omega,fun R b o m' c' S k Z=>?_⟩;injection S with l _ M;injection l with l;injection l with l O;subst l;subst O;subst M
   have F:=Ba w m 0 e;refine⟨frozen0 (zH w.drew _),fun J=>(zN _ _ _ _ e (0,0) (zH w.drew _)).trans ?_⟩;rw[u3];exact mB (p:=m) I G (U R) (by simpa using D) (by simpa using J) (by rw[Az F];exact Z)
 ·by_cases A:n+m≤cap
  ·have N:n*i.size+news.length≤x.size:=by rw[D,a0,← sb];exact ro _ A
   have y:=run_append_room (P:=P) w t ty e i X V g n cap x C a m c news D r J A N;rw[y]at s;injection s with s T
   subst s;subst T;refine .inr ⟨fun h=>?_,fun R b o m' c' S k g2=>?_⟩
   ·cases b0 (by omega)
   ·injection S with l _ M;injection l with l;injection l with l O;subst l;subst O;subst M
    refine⟨frozen0 (Am w g x _ e _ C),fun g1=>?_⟩;have Y:=(c0 R g 0 n cap rfl k g2).2 (by rw[sb]at g1;omega);rw[zN _ _ _ _ e (0,0) C]at Y;rw[zN _ _ _ _ e (0,0) (Am w g x _ e _ C)];rw[u3]at Y⊢;rw[←Y];have d0:(x.toList.take (n*i.size)++news).length=(n+m)*i.size:=by
     rw[v3,zP,oR,D,sb];omega
    rw[z8,kc (by omega),d0,pl,← v5];congr 1;rw[D,← sb];omega
  ·have holds:∀j u,xs[j]?=some u→w.cell? ((⟨g,0,none⟩:Addr).add j)=some u:=f.cells (g:=g) rfl;have y:=Ax (P:=P) w t ty e i z X V hz ⟨g,0,none⟩ n cap xs f.1 holds a m c news D r (by omega) (by omega) (AF (by omega) q);rw[y]at s;injection s with s T
   subst s;subst T;refine .inr ⟨fun h=>by omega,fun R b o m' c' S k Z=>?_⟩;injection S with l _ M;injection l with l;injection l with l O;subst l;subst O;subst M
   have F:=Ba w (n+m) cap e;refine⟨frozen0 (zH w.drew _),fun J=>(zN _ _ _ _ e (0,0) (zH w.drew _)).trans ?_⟩;rw[u3];exact mB (p:=n+m) I G (U R) (by simp[f.1,D,sb]) J (by rw[Az F];exact Z)
def nq:Value→Value→Bool
 | .int k n,.int c d=>decide (k=c)&&decide (n=d)
 | .bool a,.bool b=>a == b
 | .string s,.string t=>s.size == 0&&t.size == 0
 | .slice none 0 0,.slice none 0 0=>true
 | _,_=>false
theorem tT{x y:Value}(h:nq x y=true):x=y:=by
 unfold nq at h;split at h
 ·simp only[fz,zY]at h;rw[h.1,h.2]
 ·rw[z5]at h;rw[h]
 ·simp only[fz,z5]at h;rename_i s t;have e:∀{s:ByteArray},s.size=0→s=ByteArray.empty:=fun {s} h=>by
   cases s with|mk d=>congr;exact Array.eq_empty_of_size_eq_zero h
  rw[e h.1,e h.2]
 ·rfl
 ·cases h
def iR:b5→b5→Bool
 | [],[]=>true
 | x::r,y::t=>nq x y&&iR r t
 | _,_=>false
theorem nT:∀{x y:b5},iR x y=true→x=y
 | [],[],_=>rfl
 | x::r,y::t,h=>by simp only[iR,fz]at h;rw[tT h.1,nT h.2]
 | [],_::_,h=>by cases h
 | _::_,[],h=>by cases h
theorem xq{P:Program}(w:World)(t ty e:TypeId)(i:TypeInfo)(k:P.underlying t=some (.slice e))(j:P.info? e=some i)(base h:Nat)(v:Value)(n:Nat)(xs:b5)(d:w.ownsRow base e h v n xs)(A:Option Addr)(c:Nat):
  (Builtin.append_ #[t,t] ty #[v,.slice A 0 c]).run P w=.ok v w:=by
 have f:∀a:Addr,(loadCells a 0).run P w=.ok #[] w:=fun a=>by simp[loadCells,loadCellsFrom]
 obtain⟨rfl,rfl⟩|⟨g,cap,m,rfl,o,r,b,p,q,l⟩:=d.2
 ·cases A with
  | none=>simp[Builtin.append_,hF k,sizeOf,typeInfo,j,Builtin.lenOf,Builtin.firstCells]
  | some a=>simp[Builtin.append_,hF k,sizeOf,typeInfo,j,Builtin.lenOf,Builtin.firstCells,f]
 ·cases A with
  | none=>simp[Builtin.append_,hF k,sizeOf,typeInfo,j,Builtin.lenOf,Builtin.firstCells,b,storeCells]
  | some a=>simp[Builtin.append_,hF k,sizeOf,typeInfo,j,Builtin.lenOf,Builtin.firstCells,f,b,storeCells]
def fr(P:Program)(T:TypeId):Option (TypeId×Nat×Nat) :=
 match P.underlying T with
 | some (.slice e)=>match P.info? e with
  | some i=>match i.zero with
   | some z=>if z.cells.size=i.size∧0<i.size∧(i.size=aE→iR z.cells.toList bk=true) then some (e,i.size,i.bytes) else none
   | none=>none
  | none=>none
 | _=>none
def eG(s:AS)(sz:Nat):AV→Option (List (List AV))
 | .nils=>some []
 | .sl l=>if l.all (fun e=>e.length == sz)=true then some l else none
 | .ref id=>match look id s.r with|some a=>if a.sz=sz∧id<TG then some a.l else none|none=>none
 | _=>none
def jy(P:Program)(s:AS)(d:Nat)(T:TypeId)(v x:AV):Option AS :=
 match fr P T with
 | some (e,sz,bytes)=>match eG s sz x with
  | some new=>match v with
   | .nils=>if has s.u d=true∨¬ (new.length≤maxLen∧new.length*bytes≤140737488355328) then none else some { t:=aD d (.ref d) (bR d s.t),o:=c9 d s.o,r:=aD d ⟨e,sz,new⟩ s.r,u:=d::s.u }
   | .ref id=>match look id s.r with
    | some a=>if s.u.contains (co id)=false∧a.e=e∧a.sz=sz∧a.l.length+new.length≤maxLen∧(a.l.length+new.length)*bytes≤140737488355328 then
      some { t:=aD d (.ref id) (bR id s.t),o:=c9 id s.o,r:=aD id { a with l:=a.l++new } s.r,u:=s.u } else none
    | none=>none
   | _=>none
  | none=>none
 | none=>none
theorem me{L:Cx}{s:AS}{a:Act}{w:World}{ι:Env}(I:ax L s a w ι){sz:Nat}{x:AV}{X:Value}{new:List (List AV)}(h:eG s sz x=some new)(K:Rel (NN L.M ι) w ι x X):
  ∃A c,X=.slice A new.length c∧(∀e∈new,e.length=sz)∧(new=[]∨∃(ad:Addr) (vs:b5),A=some ad∧vs.length=new.length*sz∧(∀(j:Nat) (u:Value),vs[j]?=some u→w.cell? (ad.add j)=some u)∧(∀u∈vs,u.oneCell'=true) ∧
   ∀(j:Nat) (e:List AV),new[j]?=some e→∀(i:Nat) (c:AV),e[i]?=some c→∃y,vs[j*sz+i]?=some y∧Rel (NN L.M ι) w aG c y):=by
 unfold eG at h;split at h
 ·injection h with h;subst h
  cases K;exact⟨_,_,rfl,fun e f=>(by cases f),.inl rfl⟩
 ·rename_i l;split at h
  ·rename_i G;injection h with h;subst h
   have hz:∀e∈l,e.length=sz:=fun e f=>by
    have:=lp.1 G e f;simpa using this
   cases K with
   | sl0 _ A c=>exact⟨A,c,rfl,hz,.inl rfl⟩
   | sl _ _ b o c d q B hb M C R W _ =>
    refine⟨_,c,rfl,hz,?_⟩;by_cases hl:l=[]
    ·exact .inl hl
    ·right;have J:d=sz:=by
      obtain⟨e,f⟩:=List.exists_mem_of_ne_nil l hl;rw[←B e f,hz e f]
     subst J;have r:∀k,((List.range (l.length*d)).map fun k=>q (k / d) (k % d))[k]?=if k<l.length*d then some (q (k / d) (k % d)) else none:=fun k=>by
      by_cases E:k<l.length*d<;>simp[E]
     have p:∀k,k<l.length*d→0<d∧k / d<l.length∧k % d<d∧k / d*d+k % d=k:=fun k E=>by
      have m : 0<d:=by
       rcases Nat.eq_zero_or_pos d with h|h;· rw[h]at E;omega
       ·exact h
      refine⟨m,(Nat.div_lt_iff_lt_mul m).2 E,Nat.mod_lt _ m,?_⟩;rw[Aq];exact Nat.div_add_mod k d
     refine⟨⟨b,o,none⟩,_,rfl,(by simp:((List.range (l.length*d)).map fun k=>q (k / d) (k % d)).length=l.length*d),fun j u D=>?_,fun u hu=>?_,fun j e f i c hi=>?_⟩
     ·rw[r]at D;split at D
      ·rename_i E;injection D with D;subst D
       obtain⟨N,t,F,O⟩:=p j E;have f:=ez t;have T:=B _ (zF t);have:=R _ _ f (j % d) _ (ez (by rw[T];exact F));rw[v4];rw[z4,O]at this;exact this
      ·cases D
     ·obtain⟨k,_,rfl⟩:=z3.1 hu;exact C _ _
     ·have U:j<l.length:=(es.1 f).1;have H:i<d:=by have:=(es.1 hi).1;rwa[B e (h6 f)]at this
      have V:j*d+i<l.length*d:=by
       have:(j+1)*d≤l.length*d:=ro _ U;rw[sb,z7]at this;omega
      refine⟨q j i,?_,W j e f i c hi⟩;rw[r,l2 V];have e1:(j*d+i) / d=j:=by rw[Nat.add_comm,Nat.add_mul_div_right _ _ (by omega),Nat.div_eq_of_lt H,u3]
      have e2:(j*d+i) % d=i:=by rw[Nat.add_comm,Nat.add_mul_mod_self_right,AO H]
      rw[e1,e2]
  ·cases h
 ·rename_i id;split at h
  ·rename_i ar Q;split at h
   ·rename_i z;obtain⟨z,d0⟩:=z;injection h with h;subst h
    cases K with
    | ref _ _ A n c hι =>
     obtain⟨v,xs,C,t,F,O,P⟩:=I.hs.dL id ar Q (by rw[hι];rfl);have h5:∀(j:Nat) (e:List AV),ar.l[j]?=some e→∀(i:Nat) (c:AV),e[i]?=some c→∃x,xs[j*ar.sz+i]?=some x∧Rel (NN L.M ι) w aG c x:=fun j e f i c R=>by
      obtain⟨x,K,W⟩:=P j e f i c R;exact⟨x,K,W.flat (by omega)⟩
     rw[hι]at C;injection C with C;subst C
     rw[z]at F h5 t;obtain⟨hv,N⟩|⟨g',cap,b0,hv,hb,hg,c0,a0,Y,Z⟩:=t.2
     ·injection hv with hA M S
      refine⟨A,c,?_,F,.inl (iF N)⟩;rw[M,N]
     ·injection hv with hA M S
      subst hA;subst M;refine⟨_,c,rfl,F,.inr ⟨⟨g',0,none⟩,xs,rfl,t.1,t.cells (g:=g') (by rfl),O,h5⟩⟩
   ·cases h
  grind
 grind
theorem dc.grown{b}{v w d}{c}(h:dc b v w)(a:w.grownBy d c)(i:b.w.heap.size≤w.heap.size)(g:∀k,c=some k→b.O k):dc b v d :=
 h.trans ⟨a.os,a.tape,a.output,a.size,fun k l j=>a.block k (by omega) (fun e=>(by rcases g k e.symm with f|f;omega;grind))⟩
theorem HS.app{M:Nat→Prop}{w0:aC}{w P:World}{ι:Env}{s:AS}(h:HS M w0 w ι s){id:Nat}{ar:bw}{v H:Value}{xs news:b5}{new:List (List AV)}
  (g0:w0.pv id=none) (o0:look id s.r=some ar) (E:ι id=some v) (n:w.ownsRow 0 ar.e ar.sz v ar.l.length xs) (c0:∀e∈ar.l,e.length=ar.sz) (Z:∀x∈xs,x.oneCell'=true)
  (b0:∀(j:Nat) (e:List AV),ar.l[j]?=some e→∀(i:Nat) (c:AV),e[i]?=some c→∃x,xs[j*ar.sz+i]?=some x∧dn (NN M ι) w (TG≤id) (ι (nm id (j*ar.sz+i))) c x)
  (G:w.ownsRow 0 ar.e ar.sz v ar.l.length xs→P.ownsRow 0 ar.e ar.sz H (ar.l.length+new.length) (xs++news)) (K:w.grownBy P v.ownBlock) (p:bq (some H)=bq (some v)∨bq (some H)=some w.heap.size)
  (p0:∃A k c,H=.slice A k c) (h0:∀e∈new,e.length=ar.sz) (d0:∀x∈news,x.oneCell'=true)
  (e0:∀(j:Nat) (e:List AV),new[j]?=some e→∀(i:Nat) (c:AV),e[i]?=some c→∃x,news[j*ar.sz+i]?=some x∧Rel (NN M ι) w aG c x) (X:∀g,bq (some H)=some g→w0.O g∧g<P.heap.size) (k0:ZK P ar.sz H (ar.l.length+new.length)) :
  HS M w0 P (rep ι id H) { t:=bR id s.t,o:=c9 id s.o,r:=aD id { ar with l:=ar.l++new } s.r,u:=s.u } ∧
   (∀b,b<w.heap.size→NN M (rep ι id H) b→NN M ι b)∧(∀b,b<w.heap.size→¬ NN M ι b→P.heap[b]?=w.heap[b]?):=by
 have S:=G n;have J:v.ownBlock=bq (some v):=by
  rcases n.2 with⟨rfl,_⟩|⟨g,cap,m0,rfl,_⟩<;>rfl
 have U:∀b,b<w.heap.size→¬ NN M ι b→P.heap[b]?=w.heap[b]?:=fun b D Q=>K.block b D (fun e=>Q (.inr ⟨id,by rw[E,← J];exact e.symm⟩));have Q:∀b,b<w.heap.size→NN M (rep ι id H) b→NN M ι b:=fun b D I=>by
  rcases I with I|⟨i,I⟩
  ·exact .inl I
  ·by_cases e:i=id
   ·subst e;rw[gn]at I;rcases p with p|p
    ·exact .inr ⟨i,by rw[E,← p];exact I⟩
    ·rw[p]at I;injection I with I;omega
   ·rw[lv _ _ e]at I;exact .inr ⟨i,I⟩
 have d:∀i,i≠id→rep ι id H i=ι i:=fun i z=>lv _ _ z;have a0:∀r,v ≠ .map r:=fun r e=>by subst e;rcases n.2 with⟨G,_⟩|⟨_,_,_,G,_⟩<;>cases G
 have ho:∀k r,ι k=some (.map r)→rep ι id H k=some (.map r):=fun k r B=>by
  rw[d];exact B;intro e;subst e;rw[E]at B;injection B with B;exact a0 _ B
 have Y:∀k r,ι k=some (.map (some r))→P.heap[r]?=w.heap[r]?:=fun k r B=>K.block r (h.eW B) (fun e=>h.eI B E a0 (by rw[←J];exact e.symm));refine⟨⟨?_,h.old,fun i y hy=>?_,fun i g q=>?_,fun i O g f m=>?_,fun i cs z=>?_,fun i a z=>?_,fun i cs z L=>?_,fun i a z L=>?_,fun i y L=>(by
  have e:i≠id:=fun e=>by subst e;rw[g0]at L;cases L
  exact⟨(d i e).trans (h.pin i y L).1,(h.pin i y L).2⟩)⟩,Q,U⟩
 ·refine h.below.grown K h.below.size (fun k B=>?_);have:=h.own id k (by rw[E,← J];exact B);exact this.1
 ·by_cases e:i=id
  ·subst e;exact h.use i _ E
  ·rw[d i e]at hy;exact h.use i y hy
 ·by_cases e:i=id
  ·subst e;rw[gn]at q;exact X g q
  ·rw[d i e]at q;exact⟨(h.own i g q).1,by have:=(h.own i g q).2;have:=K.size;omega⟩
 ·by_cases e:i=id
  ·by_cases N:O=id
   ·omega
   ·subst e;rw[gn]at f;rw[d O N]at m;rcases p with p|p
    ·exact h.inj i O g (by rw[E,← p];exact f) m
    ·rw[p]at f;injection f with f;have:=(h.own O g m).2;omega
  ·by_cases N:O=id
   ·subst N;rw[gn]at m;rw[d i e]at f;rcases p with p|p
    ·exact h.inj i O g f (by rw[E,← p];exact m)
    ·rw[p]at m;injection m with m;have:=(h.own i g f).2;omega
   ·rw[d i e]at f;rw[d O N]at m;exact h.inj i O g f m
 ·obtain⟨u,h1,_⟩:=oo z;exact h.ko i u h1
 ·simp only[bz]at z;by_cases e:i=id
  ·subst e;exact h.use i _ E
  ·rw[o9 e]at z;exact h.kr i a z
 ·obtain⟨u,h1,rfl⟩:=oo z;have e:i≠id:=by
   rintro rfl
   obtain⟨g,T,vs,F,_,_⟩:=h.objs i u h1 (by rw[E];rcases n.2 with⟨G,_⟩|⟨_,_,_,G,_⟩<;>rw[G]<;>rfl);rw[E]at F;injection F with F;subst F
   rcases n.2 with⟨G,_⟩|⟨_,_,_,G,_⟩<;>cases G
  rw[d i e]at L;obtain⟨g,T,vs,F,V,W⟩:=h.objs i u h1 L;have R:some g≠v.ownBlock:=by
   rw[J];intro N;exact e (h.inj i id g (by rw[F];rfl) (by rw[E];exact N.symm))
  refine⟨g,T,vs,(d i e).trans F,(K.block g (h.own i g (by rw[F];rfl)).2 R).trans V,by rw[iX];exact W.len,W.one,fun j x v C G=>?_⟩;obtain⟨y,hy,rfl⟩:=jM C;exact((W.rel j y v hy G).bp d).mono K.size (fun b D p=>Q b D p) U (fun _ _ h=>h)
 ·simp only[bz]at z;by_cases e:i=id
  ·subst e;rw[l2 rfl]at z;injection z with z;subst z
   refine⟨H,xs++news,gn _ _ _,⟨by simpa using S,by simpa using k0⟩,fun e he=>?_,fun x C=>?_,fun j e he k c B=>?_⟩
   ·rcases jt.1 he with he|he
    ·exact c0 e he
    ·exact h0 e he
   ·rcases jt.1 C with C|C
    ·exact Z x C
    ·exact d0 x C
   ·simp only[]at he⊢;have i0:xs.length=ar.l.length*ar.sz:=n.1;by_cases hj:j<ar.l.length
    ·rw[og hj]at he;obtain⟨x,C,hr⟩:=b0 j e he k c B;have D:=(es.1 C).1;exact⟨x,by rw[og D];exact C,hr.mono K.size Q U (ho _) (Y _) (fun h=>h)⟩
    ·rw[kc (by omega)]at he;obtain⟨x,C,hr⟩:=e0 _ e he k c B;refine⟨x,?_,.inl (hr.mono K.size Q U (fun _ _ h=>h))⟩;have hm:ar.l.length*ar.sz≤j*ar.sz:=ro _ (by omega);rw[kc (by omega),i0];have V:j*ar.sz+k-ar.l.length*ar.sz=(j-ar.l.length)*ar.sz+k:=by rw[Nat.sub_mul];omega
     rw[V];exact C
  ·rw[o9 e]at z;rw[d i e]at L;obtain⟨v1,l0,F,V,W,e4,e5⟩:=h.arrz i a z L;refine⟨v1,l0,(d i e).trans F,du V (fun g q=>?_),W,e4,fun j el hj k c B=>?_⟩
   ·have R:some g≠v.ownBlock:=by
     rw[J];intro N;exact e (h.inj i id g (by rw[F];exact q) (by rw[E];exact N.symm))
    exact K.block g (h.own i g (by rw[F];exact q)).2 R
   ·obtain⟨x,C,hr⟩:=e5 j el hj k c B;exact⟨x,C,hr.mono K.size Q U (ho _) (Y _) (fun h=>h)⟩
theorem sq{α} k(v u:α):∀l,aD k v (aD k u l)=aD k v l
 | []=>by simp[aD]
 | (j,x)::r=>by
  by_cases h:k=j
  ·grind[aD]
  ·simp[aD,h,sq k v u r]
theorem HS.nil{M:Nat→Prop}{I:aC}{w:World}{ι:Env}{s:AS}(h:HS M I w ι s){d:Nat}(F:has s.u d=false)(e:TypeId)(sz:Nat):
  HS M I w (ext ι d (.slice none 0 0)) { s with r:=aD d ⟨e,sz,[]⟩ s.r,u:=d::s.u }∧(∀b,NN M (ext ι d (.slice none 0 0)) b→NN M ι b):=by
 have C:=h.free F;have z:∀b,NN M (ext ι d (.slice none 0 0)) b→NN M ι b:=fun b l=>by
  rcases c8 l with l|l
  ·exact l
  ·cases l
 have n:∀i g,bq (ext ι d (.slice none 0 0) i)=some g→bq (ι i)=some g:=fun i g o=>by
  by_cases e:i=d
  ·subst e;rw[bA]at o;cases o
  ·rwa[aI _ _ e]at o
 refine⟨⟨h.below,h.old,fun i y G=>?_,fun i g o=>h.own i g (n i g o),fun i H g o B=>h.inj i H g (n i g o) (n H g B),fun i p f=>dC (h.ko i p f),fun i a f=>?_,fun i p f m=>?_,fun i a f m=>?_,fun i y m=>⟨cz C _ i y (h.pin i y m).1,kU (h.pin i y m).2⟩⟩,z⟩
 ·by_cases e:i=d
  ·subst e;exact fh _ _
  ·rw[aI _ _ e]at G;exact dC (h.use i y G)
 ·simp only[bz]at f;by_cases e:i=d
  ·subst e;exact fh _ _
  ·rw[o9 e]at f;exact dC (h.kr i a f)
 ·have e:i≠d:=by rintro rfl;have:=h.ko i p f;rw[F]at this;cases this
  rw[aI _ _ e]at m;obtain⟨g,T,vs,q,t,v⟩:=h.objs i p f m;exact⟨g,T,vs,(aI _ _ e).trans q,t,v.mono (io _) (fun b _ l=>z b l) (fun _ _ _=>rfl) (cz C _)⟩
 ·simp only[bz]at f;by_cases e:i=d
  ·subst e;rw[l2 rfl]at f;injection f with f;subst f
   exact⟨.slice none 0 0,[],bA _ _ _,⟨World.ownsRow_nil _ _ _ _,.nil⟩,fun e A=>(by cases A),fun x D=>(by cases D),fun j e A=>by simp at A⟩
  ·rw[o9 e]at f;rw[aI _ _ e]at m;obtain⟨R,E,q,t,v,J,K⟩:=h.arrz i a f m;refine⟨R,E,(aI _ _ e).trans q,t,v,J,fun j L O k c P=>?_⟩;obtain⟨x,D,Q⟩:=K j L O k c P;exact⟨x,D,Q.mono (io _) (fun b _ l=>z b l) (fun _ _ _=>rfl) (fun r N=>cz C _ _ _ N) (fun _ _=>rfl) (fun h=>h)⟩
theorem w4{m:Cx}{s s':AS}{a:Act}{w:World}{ι:Env}(q:ax m s a w ι){d:Nat}(hd:d<m.n){T ty:TypeId}{v x:AV}{V X:Value}(h:jy m.P s d T v x=some s')(hv:Rel (NN m.M ι) w ι v V)(hx:Rel (NN m.M ι) w ι x X):
  ∃y D ι',(Builtin.append_ #[T,T] ty #[V,X]).run m.P w=.ok y D∧ax m s' (a.put (some d) y) D ι'∧(∀i,i≠d→ι i=none→ι' i=none):=by
 unfold jy at h;split at h
 case h_2=>cases h
 rename_i e sz bytes f;unfold fr at f;split at f
 case h_2=>cases f
 rename_i W hu;split at f
 case h_2=>cases f
 rename_i I d0;split at f
 case h_2=>cases f
 rename_i z hz;split at f
 case isFalse=>cases f
 rename_i O;injection f with f
 injection f with he f
 injection f with n z0
 subst he;subst n;subst z0;split at h
 case h_2=>cases h
 rename_i new p0;obtain⟨A,c,rfl,D0,b0⟩:=me q p0 hx
 -- the general step,for a slice that has a name
 have w0:∀{C:AS} {E:Env} {id:Nat} {ar:bw},ax m C a w E→m.w0.pv id=none→look id C.r=some ar→E id=some V→ar.e=W→ar.sz=I.size→ar.l.length+new.length≤maxLen→(ar.l.length+new.length)*I.bytes≤140737488355328 →
   (∀{y:AV} {Y:Value},y.bu []=true→Rel (NN m.M ι) w ι y Y→Rel (NN m.M E) w E y Y)→(∀b,NN m.M E b→NN m.M ι b) →
   ∃y D ι',(Builtin.append_ #[T,T] ty #[V,.slice A new.length c]).run m.P w=.ok y D∧ax m { t:=aD d (.ref id) (bR id C.t),o:=c9 id C.o,r:=aD id { ar with l:=ar.l++new } C.r,u:=C.u } (a.put (some d) y) D ι'∧(∀i,E i=none→ι' i=none):=by
  intro C E id ar n q0 K F x0 has Z k0 _ J;obtain⟨v1,xs,h1,⟨h2,i0⟩,h3,h4,h5⟩:=n.hs.arrz id ar K (by rw[F];rfl);rw[F]at h1;injection h1 with h1;subst h1
  have G:∀(H:Value) (i:Nat),E i=none→rep E id H i=none:=fun H i M=>by
   rw[lv];exact M
   rintro rfl;rw[F]at M;cases M
  have h0:∀{H:Value} {D:World},(HS m.M m.w0 D (rep E id H) { t:=bR id C.t,o:=c9 id C.o,r:=aD id { ar with l:=ar.l++new } C.r,u:=C.u }∧(∀b,b<w.heap.size→NN m.M (rep E id H) b→NN m.M E b)∧(∀b,b<w.heap.size→¬ NN m.M E b→D.heap[b]?=w.heap[b]?))→w.heap.size≤D.heap.size→(∃A k c,H=.slice A k c) →
    ax m { t:=aD d (.ref id) (bR id C.t),o:=c9 id C.o,r:=aD id { ar with l:=ar.l++new } C.r,u:=C.u } (a.put (some d) H) D (rep E id H):=by
   intro H D ⟨g1,g2,g3⟩ s0 ⟨A',k',c',S⟩;have Q:ax m { t:=bR id C.t,o:=c9 id C.o,r:=aD id { ar with l:=ar.l++new } C.r,u:=C.u } a D (rep E id H):=by
    refine⟨g1,n.dfr,n.n,fun k y hk=>?_⟩;obtain⟨u,E0,rfl⟩:=pR hk;obtain⟨Y,hY,hr⟩:=n.tmp k u E0;exact⟨Y,hY,(hr.bp (fun i M=>lv _ _ M)).mono s0 g2 g3 (fun _ _ h=>h)⟩
   subst S;exact Q.put (d:=some d) (fun k hk=>by injection hk with hk;subst hk;exact hd) (.ref _ _ _ _ _ (gn _ _ _))
  subst x0;rcases b0 with N|⟨ad,vs,hA,v0,t0,e0,F0⟩
  ·subst N;have p:=xq (P:=m.P) w T ty ar.e I hu d0 0 ar.sz V ar.l.length xs h2 A c;refine⟨V,w,rep E id V,by simpa using p,h0 ?_ (io _) ?_,G _⟩
   ·refine n.hs.app (news:=[]) q0 K F h2 h3 h4 h5 (fun h=>by simpa using h) ⟨rfl,rfl,rfl,io _,fun _ _ _=>rfl⟩ (.inl rfl) ?_ (fun e he=>by cases he) (fun x hx=>by cases hx) (fun j e he=>by simp at he) (fun g R=>n.hs.own id g (by rw[F];exact R)) (by simpa using i0);rcases h2.2 with⟨hv,_⟩|⟨g,cap,g0,hv,_⟩<;>exact⟨_,_,_,hv⟩
   ·rcases h2.2 with⟨hv,_⟩|⟨g,cap,g0,hv,_⟩<;>exact⟨_,_,_,hv⟩
  ·subst hA;obtain⟨H,D,p,r0,o0,a0,hk,S⟩:=uQ (P:=m.P) w 0 T ty ar.e I z ar.sz I.bytes hu d0 hz has.symm rfl (by rw[has];exact O.1) (by rw[has];exact O.2.1) V ar.l.length xs h2 ad new.length c vs (by rw[has];exact v0) t0 e0 Z k0 (zW _);refine⟨H,D,rep E id H,p,h0 ?_ o0.size S,G _⟩;refine n.hs.app q0 K F h2 h3 h4 h5 (fun _=>r0) o0 a0 S (by rw[has];exact D0) e0 (fun j e he i c M=>?_) (fun g R=>?_) (wH (P:=m.P) w 0 T ty ar.e I z ar.sz I.bytes hu d0 hz has.symm rfl (by rw[has];exact O.1) (by rw[has];exact O.2.1) V ar.l.length xs h2 ad new.length c vs (by rw[has];exact v0) t0 e0 Z k0 (zW _) i0 (fun h=>nT (O.2.2 (has ▸ h))) p)
   ·rw[has];obtain⟨y,hy,hr⟩:=F0 j e he i c M;exact⟨y,hy,hr.mono (io _) (fun b _ Q=>J b Q) (fun _ _ _=>rfl) (fun _ _ h=>h)⟩
   ·obtain⟨U,_⟩|⟨g2,cap,g0,U,G0,B0,_⟩:=r0.2
    ·rw[U]at R;cases R
    ·rw[U]at R;injection R with R;simp only[]at R;subst R
     refine⟨?_,(ll.1 B0).1⟩;rw[U]at a0;rcases a0 with e|e
     ·exact(n.hs.own id g2 (by rw[F,← e];rfl)).1
     ·have W:some g2=some w.heap.size:=e;injection W with W;subst W
      exact .inl n.hs.below.size
 split at h
 ·split at h
  ·cases h
  ·rename_i B;injection h with h;subst h
   have l0:has s.u d=false:=by
    cases A0:has s.u d
    ·rfl
    ·exact absurd (.inl A0) B
   have m0:new.length≤maxLen∧new.length*I.bytes≤140737488355328:=by
    by_cases h':new.length≤maxLen∧new.length*I.bytes≤140737488355328
    ·exact h'
    ·exact absurd (.inr h') B
   cases hv;obtain⟨N,J⟩:=q.hs.nil l0 W I.size;have hn:=q.hs.free l0;have n:ax m { s with r:=aD d ⟨W,I.size,[]⟩ s.r,u:=d::s.u } a w (ext ι d (.slice none 0 0)) :=
    q.world N rfl (io _) (fun b _ Q=>J b Q) (fun _ _ _=>rfl) (cz hn _)
   obtain⟨y,D,ι',p,L,G⟩:=w0 (id:=d) (ar:=⟨W,I.size,[]⟩) n (by cases hp:m.w0.pv d with|none=>rfl|some y=>have:=(q.hs.pin d y hp).1;rw[hn]at this;cases this) (by simp[bz]) (bA _ _ _) rfl rfl (by simpa using m0.1) (by simpa using m0.2)
    (fun hp hr=>(hr.pure hp _).mono (io _) (fun b _ Q=>J b Q) (fun _ _ _=>rfl) (fun _ _ h=>h)) J
   refine⟨y,D,ι',p,?_,fun i M C0=>G i ((aI _ _ M).trans C0)⟩;simpa[sq]using L
 ·split at h
  ·rename_i id _ ar K;split at h
   ·rename_i B;injection h with h;subst h
    obtain⟨c0,c1,c2,c3,c4⟩:=B;cases hv with
    | ref _ _ A' n' c' hι =>
     obtain⟨y,D,ι',p,L,G⟩:=w0 q (by cases hp:m.w0.pv id with|none=>rfl|some y=>have:=(q.hs.pin id y hp).2;rw[c0]at this;cases this) K hι c1 c2 c3 c4 (fun hp hr=>hr) (fun b Q=>Q);exact⟨y,D,ι',p,L,fun i _ M=>G i M⟩
   ·cases h
  ·cases h
 ·cases h
end Go.Proofs.Ytkciiamllegclaa
namespace Go.Proofs.Ytkciiamllegclaa
set_option linter.all false
variable[ZX]
open Go.RowKit
variable[FM]
theorem ur:Array.range 0 = #[]:=rfl
def kJ(n:Int)(bytes:Nat):Bool:=decide (0≤n)&&(decide (n≤9223372036854775807)&&decide (n.toNat*bytes≤140737488355328))
theorem xP{P:Program}(w:World)(t e:TypeId)(i:TypeInfo)(z:Value)(f:P.underlying t=some (.slice e))(c:P.info? e=some i)(m:i.zero=some z)
  (kl n:IntKind) (l:Int) (g:0≤l) (j:l≤9223372036854775807) (b:l.toNat*i.bytes≤140737488355328) (d:0<i.size) :
  (Instr.makeSlice t (.int kl l) (.int n l)).run P w=.ok (.slice (some ⟨w.heap.size,0,none⟩) l.toNat l.toNat) (w.alloc (.cells ((Array.range (l.toNat*i.size)).map (z.cells[· % z.cells.size]!)) e)):=by
 have r:IntKind.i64.wrap l=l:=by rw[Ag];omega
 have o:¬ l<0:=by omega
 have p:¬ (281474976710656<(i.bytes:Int)*l):=by
  have:(i.bytes:Int)*l=((l.toNat*i.bytes:Nat):Int):=by
   rw[Int.natCast_mul,Int.toNat_of_nonneg g,Int.mul_comm]
  omega
 have q:¬ (140737488355328<l.toNat*i.bytes):=by omega
 by_cases k:l.toNat*i.size=0
 ·have a:l.toNat=0:=by
   rcases Nat.mul_eq_zero.1 k with h|h
   ·exact h
   ·omega
  simp[Instr.makeSlice,hF f,asInt,asIntOf,typeInfo,c,sizeOf,r,o,p,q,newRow,askRoom,roomBytes,a,ur]
 ·simp[Instr.makeSlice,hF f,asInt,asIntOf,typeInfo,c,sizeOf,zeroValue,m,newRow]
  grind
theorem pK{P:Program}{N:Nat→Prop}(w:World){T e:TypeId}{sz bytes:Nat}{m:Int}{zc:List AV}(d:fr P T=some (e,sz,bytes))(S:da P e=some zc)(E:kJ m bytes=true)(kd t:IntKind):
  ∃vs:b5,(Instr.makeSlice T (.int kd m) (.int t m)).run P w=.ok (.slice (some ⟨w.heap.size,0,none⟩) m.toNat m.toNat) (w.alloc (.cells vs.toArray e))∧m.toNat≤maxLen∧vs.length=m.toNat*sz∧(∀c∈List.replicate m.toNat (zc.map cy),c.length=sz)∧(∀v∈vs,v.oneCell'=true) ∧
   ∀(j:Nat) (c:List AV),(List.replicate m.toNat (zc.map cy))[j]?=some c→∀(i:Nat) (x:AV),c[i]?=some x→∃v,vs[j*sz+i]?=some v∧Rel N w aG x v:=by
 simp only[kJ,fz,zY]at E;obtain⟨I,J,K⟩:=E;unfold fr at d;split at d
 case h_2=>cases d
 rename_i L C;split at d
 case h_2=>cases d
 rename_i b r;split at d
 case h_2=>cases d
 rename_i z s;split at d
 case isFalse=>cases d
 rename_i g;injection d with d;injection d with M d;injection d with O Q
 subst M;subst O;subst Q;have D:ct z.cells.toList=some zc:=by simpa[da,r,s]using S
 have a:=(dh N w aG D);have B:=a.pz;have p:=xP w T L b z C r s kd t m I J K g.2.1;have f:zc.length=b.size:=by rw[a.len,← g.1];simp
 have h:∀q,q<m.toNat*b.size→((Array.range (m.toNat*b.size)).map (z.cells[· % z.cells.size]!)).toList[q]?=z.cells.toList[q % b.size]?:=fun q k=>by
  have G:q % b.size<z.cells.size:=by rw[g.1];exact Nat.mod_lt _ g.2.1
  simp[k,g.1];rw[getElem!_pos z.cells (q % b.size) G,hM G]
 refine⟨((Array.range (m.toNat*b.size)).map (z.cells[· % z.cells.size]!)).toList,by rw[Ad];exact p,by unfold maxLen;omega,by simp,fun c R=>?_,fun v u=>?_,fun j c n i x H=>?_⟩
 ·rw[(List.mem_replicate.1 R).2,u6,f]
 ·obtain⟨q,k⟩:=List.getElem?_of_mem u;have A:q<m.toNat*b.size:=by have:=(es.1 k).1;simpa using this
  rw[h q A]at k;exact a.one v (h6 k)
 ·rw[Ah]at n;split at n
  ·rename_i y;injection n with n;subst n
   have F:i<b.size:=by have:=(es.1 H).1;rw[u6,f]at this;exact this
   have k:j*b.size+i<m.toNat*b.size:=by
    have:(j+1)*b.size≤m.toNat*b.size:=ro _ y;rw[sb,z7]at this;omega
   have o:(j*b.size+i) % b.size=i:=by rw[Aq,Nat.mul_add_mod,AO F]
   rw[h _ k,o];have u:=ez (l:=z.cells.toList) (i:=i) (by rw[←a.len,f];exact F);exact⟨_,u,B.rel i x _ H u⟩
  ·cases n
def gi(P:Program)(s:AS)(T:TypeId)(x y:Operand):Option AV :=
 match s.ev x,s.ev y,fr P T with
 | some (.int _ m),some (.int _ a),some (e,_,bytes)=>match da P e with
  | some zc=>if ZX.p=true∧m=a∧kJ m bytes=true then some (.sl (List.replicate m.toNat (zc.map cy))) else none
  | none=>none
 | _,_,_=>none
theorem xr{c:Cx}{s:AS}{a:Act}{w:World}{ι:Env}(g:ax c s a w ι){T:TypeId}{x y:Operand}{v:AV}(h:gi c.P s T x y=some v):
  ∃X k,(Instr.makeSlice T (a.eval x) (a.eval y)).run c.P w=.ok X k∧ax c s a k ι∧Rel (NN c.M ι) k ι v X:=by
 unfold gi at h;split at h
 case h_2=>cases h
 rename_i kd m j z e sz bytes o p n;split at h
 case h_2=>cases h
 rename_i zc q;split at h
 case isFalse=>cases h
 rename_i l;obtain⟨i,rfl,d⟩:=l;injection h with h;subst h
 obtain⟨vs,f,A,B,r,t,u⟩:=pK (P:=c.P) (N:=NN c.M ι) w n q d kd j;refine⟨_,_,by rw[eu g o,eu g p];exact f,?_,?_⟩
 ·exact g.world (g.hs.fresh _) rfl (by simp) (fun b _ d=>d) (fun b d _=>iO _ _ _ d) (fun _ _ h=>h)
 ·have:=so (T:=e) g.hs r t u (.inr i);simpa using this
theorem HS.xJ{M:Nat→Prop}{w0:aC}{w:World}{ι:Env}{s:AS}(h:HS M w0 w ι s){id g n c:Nat}{ar:bw}{l':List (List AV)}{xs':b5}{m:Array Value}{T:TypeId}
  (X:look id s.r=some ar) (t:ι id=some (.slice (some ⟨g,0,none⟩) n c)) (Z:w.heap[g]?=some (.cells m T (0,0))) (J:l'.length=ar.l.length) (hz:∀e∈l',e.length=ar.sz) (O:xs'.length=ar.l.length*ar.sz) (F:∀x∈xs',x.oneCell'=true)
  (hc:∀(j:Nat) (e:List AV),l'[j]?=some e→∀(i:Nat) (c:AV),e[i]?=some c→∃x,xs'[j*ar.sz+i]?=some x∧dn (NN M ι) w (TG≤id) (ι (nm id (j*ar.sz+i))) c x) :
  HS M w0 (w.setRow g (xs'++m.toList.drop xs'.length).toArray) ι ({ s with r:=aD id { ar with l:=l' } s.r }):=by
 obtain⟨v,xs,P,⟨e2,S⟩,e3,e4,e5⟩:=h.arrz id ar X (by rw[t];rfl);rw[t]at P;injection P with P;subst P
 have q:bq (ι id)=some g:=by rw[t];rfl
 obtain⟨hv,_⟩|⟨E,cap,h0,hv,p,d,K,I,o,c0⟩:=e2.2
 ·cases hv
 injection hv with H hn Y
 injection H with H;injection H with H;subst H;subst Y
 rw[Z]at d;injection d with d;injection d with q1 q2 q3;subst q1;subst q2
 have z:ar.l.length*ar.sz≤c*ar.sz:=ro _ K;generalize W:(xs'++m.toList.drop xs'.length).toArray=C;have Q:∀b,b<w.heap.size→¬ NN M ι b→(w.setRow g C).heap[b]?=w.heap[b]?:=fun b _ p=>bX (fun e=>p (.inr ⟨id,by rw[e];exact q⟩));obtain⟨N,i0⟩:=h.own id g q;refine⟨?_,h.old,h.use,fun i k D=>?_,h.inj,h.ko,fun i a f=>?_,fun i cs f hp=>?_,fun i a f hp=>?_,h.pin⟩
 ·exact h.below.trans ⟨rfl,rfl,rfl,by simp,fun k D hG=>bX (fun e=>by subst e;rcases N with N|N;exact Nat.lt_irrefl _ (zS D N);exact hG N)⟩
 ·have:=h.own i k D;simp;exact this
 ·simp only[bz]at f;by_cases B:i=id
  ·subst B;exact h.use i _ t
  ·rw[o9 B]at f;exact h.kr i a f
 ·obtain⟨E,T',e0,F,u,y⟩:=h.objs i cs f hp;have b0:E≠g:=fun R=>by
   have:=h.inj i id g (by rw[F,R];rfl) q;subst this;rw[F]at t;cases t
  exact⟨E,T',e0,F,(bX b0).trans u,y.mono (by simp) (fun b _ p=>p) Q (fun _ _ h=>h)⟩
 ·simp only[bz]at f;by_cases B:i=id
  ·subst B;rw[l2 rfl]at f;injection f with f;subst f
   have L:xs'.length≤m.toList.length:=by rw[O,oR,o];exact z
   refine⟨_,xs',t,⟨⟨by simpa[J]using O,.inr ⟨g,c,C,by simp[hn,J],p,Am w g m _ _ _ Z,by simpa[J]using K,I,?_,?_⟩⟩,by simpa[J]using S.row (C:=C) Z (fun k D=>by rw[←W,z8,kc (by omega),pl,v5];congr 1;omega)⟩,hz,F,fun j e hj k c' D=>?_⟩
   ·rw[←W];simp only[AH,v3,AP];rw[←Nat.add_sub_assoc L,Ai,oR];exact o
   ·rw[←W];simp only[J,← O];rw[List.take_left'];rfl
   ·obtain⟨x,d0,hr⟩:=hc j e hj k c' D;exact⟨x,d0,hr.mono (by simp) (fun b _ p=>p) Q (fun _ h=>h) (fun r A=>bX (fun e=>h.eI A t (fun _ e=>by cases e) (by rw[e];rfl))) (fun h=>h)⟩
  ·rw[o9 B]at f;obtain⟨v',g0,G,u,y,U,V⟩:=h.arrz i a f hp;refine⟨v',g0,G,du u (fun E d=>bX ?_),y,U,fun j el hj k c a0=>?_⟩
   ·intro R;subst R;exact B (h.inj i id E (by rw[G];exact d) q)
   ·obtain⟨x,O,hr⟩:=V j el hj k c a0;exact⟨x,O,hr.mono (by simp) (fun b _ p=>p) Q (fun _ h=>h) (fun r A=>bX (fun e=>h.eI A t (fun _ e=>by cases e) (by rw[e];rfl))) (fun h=>h)⟩
def d8{α:Type}(L:List α)(off m:Nat)(S:List α)(a b:Nat):List α:=List.take off L++(List.take (min b m) (List.drop a S)++List.drop (off+min b m) L)
def pT(off m n a b c:Nat):Bool:=decide (off+m≤n)&&decide (a+b≤c)
theorem tw{α:Type}(L:List α) off m S a b(c:off+m≤L.length)(d:a+b≤S.length):(d8 L off m S a b).length=L.length:=by
 grind[d8]
theorem tA{α:Type}(L:List α)(off m:Nat)(S:List α)(a b:Nat)(e:off+m≤L.length)(f:a+b≤S.length)(j:Nat):(d8 L off m S a b)[j]?=if j<off then L[j]? else if j<off+min b m then S[a+(j-off)]? else L[j]?:=by
 have c:(List.take off L).length=off:=by grind
 have d:(List.take (min b m) (List.drop a S)).length=min b m:=by grind
 grind[d8]
section
variable{d:Cx}{s:AS}
def eY(s:AS):AV→Option (Nat×TypeId×List (List AV)×Option (Nat×Nat))
 | .ref id=>match look id s.r with|some ⟨a,sz,l⟩=>(match Nat.beq sz 1&&Nat.ble (id+1) TG with|true=>some (id,a,l,none)|false=>none)|none=>none
 | .sref id sz off m=>match look id s.r with|some ⟨a,b,l⟩=>(match (Nat.beq sz 1&&Nat.beq b 1)&&Nat.ble (id+1) TG with|true=>some (id,a,l,some (off,m))|false=>none)|none=>none
 | _=>none
def gG(s:AS):AV→Option (List (List AV)×Option (Nat×Nat))
 | .sl l=>some (l,none)
 | v=>(eY s v).map fun x=>(x.2.2.1,x.2.2.2)
def cd(o:Option (Nat×Nat))(n:Nat):Nat×Nat:=match o with|some q=>q|none=>(0,n)
theorem sL{a:Act}{w:World}{ι:Env}(Q:ax d s a w ι){u:AV}{X:Value}(I:Rel (NN d.M ι) w ι u X){id:Nat}{G:TypeId}{l:List (List AV)}{J:Option (Nat×Nat)}(h:eY s u=some (id,G,l,J)){off m:Nat}(q:cd J l.length=(off,m)):
  id<TG∧look id s.r=some ⟨G,1,l⟩∧∃B k,X=.slice B m k∧((m=0∧(B=none→k=0∨True))∨∃g n c,ι id=some (.slice (some ⟨g,0,none⟩) n c)∧B=some ⟨g,off,none⟩)∧(B=none∨∃a,B=some a):=by
 have x:∀B:Option Addr,B=none∨∃a,B=some a:=fun B=>by cases B with|none=>exact .inl rfl|some a=>exact .inr ⟨a,rfl⟩
 unfold eY at h;split at h
 ·split at h
  case h_2=>cases h
  rename_i r sz l' p;split at h
  case h_2=>cases h
  rename_i b;rw[fz]at b;have f:=f6 b.2;have b:=iN b.1;simp only[h7,nw]at h;obtain⟨rfl,rfl,rfl,rfl⟩:=h;subst b;simp only[cd,nw]at q;obtain⟨rfl,rfl⟩:=q;refine⟨f,p,?_⟩;cases I with
  | ref _ _ A n c j =>
   obtain⟨v,xs,o,K,S,T,U⟩:=Q.hs.dL _ _ p (by rw[j];rfl);rw[j]at o;injection o with o;subst o
   obtain⟨E,i⟩|⟨L,cap,F,E,V,O,P,H,C,D⟩:=K.2
   ·injection E with t z e
    subst t;subst z;subst e;exact⟨none,0,by simp only[]at i⊢;rw[i],.inl ⟨i,fun _=>.inl rfl⟩,x _⟩
   ·injection E with t z e
    subst t;subst z;subst e;exact⟨_,c,rfl,.inr ⟨L,_,c,j,rfl⟩,x _⟩
 ·split at h
  case h_2=>cases h
  rename_i r R l' p;split at h
  case h_2=>cases h
  rename_i b;rw[fz,fz]at b;have f:=f6 b.2;have M:=iN b.1.1;have N:=iN b.1.2;simp only[h7,nw]at h;obtain⟨rfl,rfl,rfl,rfl⟩:=h;subst M;subst N;simp only[cd,nw]at q;obtain⟨rfl,rfl⟩:=q;refine⟨f,p,?_⟩;cases I with
  | sref _ _ _ _ _ n c k A B j y =>
   refine⟨B,k,rfl,?_,x _⟩;rcases y with i|⟨g,rfl,rfl,_⟩
   ·exact .inl ⟨i,fun _=>.inr trivial⟩
   ·exact .inr ⟨g,n,c,j,by simp⟩
 grind
theorem wn{a:Act}{w:World}{ι:Env}(N:ax d s a w ι){u:AV}{X:Value}(o:Rel (NN d.M ι) w ι u X){l:List (List AV)}{R:Option (Nat×Nat)}(h:gG s u=some (l,R)){off m:Nat}(M:cd R l.length=(off,m))(Q:∀e∈l,e.length=1)(W:off+m≤l.length):
  ∃A t,X=.slice A m t∧∀k,k≤m→k=0∨∃(p:Addr) (vs:b5),A=some p∧vs.length=k∧(∀(j:Nat) (u:Value),vs[j]?=some u→w.cell? (p.add j)=some u)∧(∀x∈vs,x.oneCell'=true)∧∀(j:Nat),j<k→∀(e:List AV),l[off+j]?=some e→∀(i:Nat) (c:AV),e[i]?=some c→∃y,vs[j*1+i]?=some y∧Rel (NN d.M ι) w aG c y:=by
 have S:∀{id:Nat} {H:TypeId},eY s u=some (id,H,l,R)→∃A t,X=.slice A m t∧∀k,k≤m→k=0∨∃(p:Addr) (vs:b5),A=some p∧vs.length=k∧(∀(j:Nat) (u:Value),vs[j]?=some u→w.cell? (p.add j)=some u)∧(∀x∈vs,x.oneCell'=true)∧∀(j:Nat),j<k→∀(e:List AV),l[off+j]?=some e→∀(i:Nat) (c:AV),e[i]?=some c→∃y,vs[j*1+i]?=some y∧Rel (NN d.M ι) w aG c y:=fun {id H} z=>by
  obtain⟨a0,hl,B,t,rfl,hB,_⟩:=sL N o z M;refine⟨B,t,rfl,fun k K=>?_⟩;obtain⟨V,_⟩|⟨g,n,c,Y,rfl⟩:=hB
  ·exact .inl (by omega)
  ·right;obtain⟨v,xs,E,T,e3,Z,G⟩:=N.hs.dL _ _ hl (by rw[Y];rfl);have U:∀(j:Nat) (e:List AV),l[j]?=some e→∀(i:Nat) (c:AV),e[i]?=some c→∃x,xs[j*1+i]?=some x∧Rel (NN d.M ι) w aG c x:=fun j e f i c I=>by
    obtain⟨x,D,o⟩:=G j e f i c I;exact⟨x,D,o.flat (by omega)⟩
   rw[Y]at E;injection E with E;subst E
   have r:=T.cells (g:=g) rfl;have O:=T.1;simp only[A5]at O U;refine⟨⟨g,off,none⟩,(xs.drop off).take k,rfl,by rw[zP,AP];omega,fun j y b=>?_,fun x D=>Z x (u7 (to D)),fun j b e f i c C=>?_⟩
   ·rw[sp]at b;split at b
    ·rw[pl]at b;have:=r _ _ b;rw[v4]at this⊢;rw[u3]at this;exact this
    ·cases b
   ·have J:i=0:=by
     have F:=(es.1 C).1;rw[Q e (h6 f)]at F;omega
    obtain⟨y,P,o⟩:=U _ e f i c C;refine⟨y,?_,o⟩;rw[sp,l2 (by omega),pl,A5,← z4];exact P
 unfold gG at h;split at h
 ·rename_i l';simp only[h7,nw]at h;obtain⟨rfl,rfl⟩:=h;simp only[cd,nw]at M;obtain⟨rfl,rfl⟩:=M;have L:eG s 1 (.sl l')=some l':=by
   have ha:l'.all (fun e=>e.length == 1)=true:=lp.2 fun e f=>by simp[Q e f]
   simp only[eG,ha,wl]
  obtain⟨A,c,rfl,_,I⟩:=me N L o;refine⟨A,c,rfl,fun k K=>?_⟩;by_cases V:k=0
  ·exact .inl V
  rcases I with rfl|⟨p,vs,rfl,F,h3,h4,h5⟩
  ·simp at K;exact .inl K
  ·refine .inr ⟨p,vs.take k,rfl,by rw[zP];omega,fun j y b=>?_,fun x D=>h4 x (to D),fun j b e f i c C=>?_⟩
   ·rw[sp]at b;split at b
    ·exact h3 j y b
    ·cases b
   ·have J:i=0:=by
     have F:=(es.1 C).1;rw[Q e (h6 f)]at F;omega
    rw[u3]at f;obtain⟨y,P,o⟩:=h5 j e f i c C;exact⟨y,by rw[sp,l2 (by omega)];exact P,o⟩
 ·cases z:eY s u with
  | none=>rw[z]at h;cases h
  | some q =>
   obtain⟨id,H,l',b0⟩:=q;rw[z]at h;simp only[us,h7,nw]at h;obtain⟨rfl,rfl⟩:=h;exact S z
def gH(P:Program)(s:AS)(T:TypeId)(u v:AV):Option (AS×AV) :=
 match cY P T,eY s u,gG s v with
 | some (f,sz),some (id,d,l,b),some (a,c) =>
  if sz=1∧f=d∧(∀e∈l,e.length=1)∧(∀e∈a,e.length=1)∧pT (cd b l.length).1 (cd b l.length).2 l.length (cd c a.length).1 (cd c a.length).2 a.length=true then
   some ({ s with r:=aD id ⟨f,1,d8 l (cd b l.length).1 (cd b l.length).2 a (cd c a.length).1 (cd c a.length).2⟩ s.r },.int .i64 (min (cd c a.length).2 (cd b l.length).2:Nat)) else none
 | _,_,_=>none
theorem zq{a:Act}{w:World}{ι:Env}(f:ax d s a w ι){T T' ty:TypeId}{u v r:AV}{s':AS}(h:gH d.P s T u v=some (s',r)){X Y:Value}(p0:Rel (NN d.M ι) w ι u X)(q0:Rel (NN d.M ι) w ι v Y):
  ∃y w',(Builtin.copy_ #[T,T'] ty #[X,Y]).run d.P w=.ok y w'∧ax d s' a w' ι∧Rel (NN d.M ι) w' ι r y:=by
 unfold gH at h;split at h
 case h_2=>cases h
 rename_i et sz id D0 l od Z os J hu hv;split at h
 case isFalse=>cases h
 rename_i M;obtain⟨c1,c2,hz,V,hc⟩:=M;subst c1;subst c2;injection h with h;injection h with W e2;subst W;subst e2
 generalize e0:(cd od l.length).1=off at *;generalize x0:(cd od l.length).2=m at *;generalize O:(cd os Z.length).1=o at *;generalize d0:(cd os Z.length).2=D at *;have ho:cd od l.length=(off,m):=by rw[←e0,← x0]
 have z0:cd os Z.length=(o,D):=by rw[←O,← d0]
 simp only[pT,fz,zY]at hc;obtain⟨a0,L⟩:=hc;obtain⟨G0,F,B,c',rfl,hB,E0⟩:=sL (off:=off) (m:=m) f p0 hu ho;obtain⟨A,c2,rfl,t0⟩:=wn (off:=o) (m:=D) f q0 hv z0 V L;unfold cY at J;split at J
 case h_2=>cases J
 rename_i e' C;cases p:d.P.info? e' with
 | none=>simp[aV,p]at J
 | some ie =>
  simp only[aV,p,us,h7,nw]at J;obtain⟨rfl,g0⟩:=J;have q:Nat.min D m=min D m:=rfl;by_cases K:min D m=0
  ·-- nothing is copied
   have hL:d8 l off m Z o D=l:=by unfold d8;rw[K];simp
   have t:(Builtin.copy_ #[T,T'] ty #[.slice B m c',.slice A D c2]).run d.P w=.ok (goInt 0) w:=by
    have m0:∀a:Addr,(loadCells a 0).run d.P w=.ok #[] w:=fun a=>by simp[loadCells,loadCellsFrom]
    cases A with
    | none=>cases B with
     | none=>simp[Builtin.copy_,hF C,Builtin.lenOf,Builtin.firstCells,sizeOf,typeInfo,p,q,K]
     | some b=>simp[Builtin.copy_,hF C,Builtin.lenOf,Builtin.firstCells,sizeOf,typeInfo,p,q,K,storeCells]
    | some a=>cases B with
     | none=>simp[Builtin.copy_,hF C,Builtin.lenOf,Builtin.firstCells,sizeOf,typeInfo,p,q,K,m0]
     | some b=>simp[Builtin.copy_,hF C,Builtin.lenOf,Builtin.firstCells,sizeOf,typeInfo,p,q,K,m0,storeCells]
   rw[hL,K];have Q:ax d { s with r:=aD id ⟨e',1,l⟩ s.r } a w ι:=by
    refine⟨⟨f.hs.below,f.hs.old,f.hs.use,f.hs.own,f.hs.inj,f.hs.ko,fun j ar k=>?_,f.hs.objs,fun j ar k hp=>?_,f.hs.pin⟩,f.dfr,f.n,f.tmp⟩
    ·simp only[bz]at k;split at k
     ·rename_i e;subst e;exact f.hs.kr j _ F
     ·exact f.hs.kr j ar k
    ·simp only[bz]at k;split at k
     ·rename_i e;subst e;injection k with k;subst k;exact f.hs.arrz j _ F hp
     ·exact f.hs.arrz j ar k hp
   exact⟨_,w,t,Q,.int _ _ _⟩
  ·rcases t0 (min D m) (Nat.min_le_left _ _)with o0|⟨ad,vs,rfl,k0,A0,i0,B0⟩
   ·exact absurd o0 K
   obtain⟨F0,_⟩|⟨g,n,c,hι,rfl⟩:=hB
   ·omega
   obtain⟨v1,xs,W,e2,e3,e4,e5⟩:=f.hs.dL _ _ F (by rw[hι];rfl);rw[hι]at W;injection W with W;subst W
   obtain⟨S,_⟩|⟨g',cap,i,S,hb,b0,w0,C0,R,z⟩:=e2.2
   ·cases S
   injection S with hA hn s0
   injection hA with hA;injection hA with hA;subst hA;subst s0
   have l0:=e2.1;simp only[A5]at l0 R z w0 hn e5;have H:off+vs.length≤i.size:=by omega
   have t:=run_copy_row (P:=d.P) w T T' ty e' g off m c' ad D c2 i e' vs C (by rw[p];simp[g0]) b0 k0 A0 H i0;have U:(xs.take off++vs++xs.drop (off+vs.length)).length=l.length:=by rw[eQ _ _ _ (by omega)];exact l0
   have hC:i.toList.take off++vs++i.toList.drop (off+vs.length)=(xs.take off++vs++xs.drop (off+vs.length))++i.toList.drop (xs.take off++vs++xs.drop (off+vs.length)).length:=by
    apply AI;intro j;have J:∀j,xs[j]?=if j<l.length then i.toList[j]? else none:=fun j=>by rw[←z,sp]
    rw[dr _ _ _ (by rw[oR];exact H),U];by_cases k:j<l.length
    ·rw[og (by omega),dr _ _ _ (by omega),J j,l2 k]
    ·rw[kc (by omega),U,pl,o9 (by omega),o9 (by omega)];congr 1;omega
   have I:=f.hs.xJ (l':=d8 l off m Z o D) (xs':=xs.take off++vs++xs.drop (off+vs.length)) F hι b0 (by rw[tw _ _ _ _ _ _ a0 L]) (fun e he=>by
     unfold d8 at he;rcases jt.1 he with he|he
     ·exact hz e (to he)
     ·rcases jt.1 he with he|he
      ·exact V e (u7 (to he))
      ·exact hz e (u7 he)) (by simpa using U) (fun x G=>by
     rcases jt.1 G with G|G
     ·rcases jt.1 G with G|G
      ·exact e4 x (to G)
      ·exact i0 x G
     ·exact e4 x (u7 G)) (fun j e he i' c0 E=>by
     rw[tA _ _ _ _ _ _ a0 L]at he;simp only[A5];have N:e.length=1→i'=0:=fun hm=>by
      have h2:=(es.1 E).1;omega
     split at he
     ·rename_i k;have:=N (hz e (h6 he));subst this;rw[dr _ _ _ (by omega),zU,l2 k];have:=e5 j e he 0 c0 E;simpa using this
     ·rename_i k;split at he
      ·rename_i v0;have:=N (V e (h6 he));subst this;rw[dr _ _ _ (by omega),zU,o9 k,l2 (by omega)];obtain⟨y,hy,hr⟩:=B0 (j-off) (by omega) e (by simpa using he) 0 c0 E;exact⟨y,by simpa using hy,.inl hr⟩
      ·rename_i v0;have:=N (hz e (h6 he));subst this;rw[dr _ _ _ (by omega),zU,o9 k,o9 (by omega)];have:=e5 j e he 0 c0 E;simpa using this)
   rw[←hC]at I;have r0:bq (ι id)=some g:=by rw[hι];rfl
   have Q:ax d { s with r:=aD id ⟨e',1,d8 l off m Z o D⟩ s.r } a (w.setRow g (i.toList.take off++vs++i.toList.drop (off+vs.length)).toArray) ι :=
    f.world I rfl (by simp) (fun b _ hb=>hb) (fun b _ hb=>bX (fun e=>hb (.inr ⟨id,by rw[e];exact r0⟩))) (fun _ _ h=>h)
   refine⟨_,_,t,Q,?_⟩;rw[k0];exact .int _ _ _
end
end Go.Proofs.Ytkciiamllegclaa
namespace Go.Proofs.Ytkciiamllegclaa
set_option linter.all false
variable[ZX]
open Go.RowKit
variable[FM]
def cc(n:Nat):Option Tmp→Bool
 | none=>true
 | some k=>decide (k<n)
theorem lS{n}{d}(h:cc n d=true):∀k,d=some k→k<n:=fun k a=>by grind[cc]
def fP(s:AS)(d:Nat)(a:List AV):Option AS:=if (has s.u d||Nat.ble 450000 d)=true then none else some { t:=aD d (.ptr d 0) s.t,o:=aD d a s.o,r:=s.r,u:=d::s.u }
theorem pc{e:Cx}{s s':AS}{a:Act}{w:World}{ι:Env}(c:ax e s a w ι){d:Nat}(y:d<e.n){j:List AV}(h:fP s d j=some s'){vs:b5}(q:Cells (NN e.M ι) w ι j vs)(T:TypeId):
  ∃ι',ax e s' (a.put (some d) (.pointer (some ⟨w.heap.size,0,none⟩))) (w.alloc (.cells vs.toArray T)) ι'∧(∀i,i≠d→ι i=none→ι' i=none):=by
 unfold fP at h;split at h
 ·cases h
 ·rename_i x;injection h with h;subst h
  have m:=Bool.or_eq_false_iff.1 (Bool.eq_false_iff.2 x:(has s.u d||Nat.ble 450000 d)=false);have g:has s.u d=false:=m.1;have v:=c.hs.alloc (d:=d) g (T:=T) (fun h=>by have:=AW h;grind) q;have t:=c.hs.free g;have p:ax e { s with o:=aD d j s.o,u:=d::s.u } a (w.alloc (.cells vs.toArray T)) (ext ι d (.pointer (some ⟨w.heap.size,0,none⟩))):=by
   refine c.world v rfl (by simp) (fun b n f=>?_) (fun b n _=>iO _ _ _ n) (cz t _);rcases c8 f with f|f
   ·grind
   ·injection f with f;grind
  exact⟨_,p.put (d:=some d) (fun k z=>by grind) (.ptr _ _ _ _ (bA _ _ _)),fun i r l=>(aI _ _ r).trans l⟩
def js(P:Program)(s:AS)(T:TypeId)(v:AV):Option AV :=
 match cY P T with
 | some _=>match v with
  | .nils=>some (.int .i64 0)
  | .sl l=>some (.int .i64 l.length)
  | .ref id=>match look id s.r with|some a=>some (.int .i64 a.l.length)|none=>none
  | .sref _ _ _ m=>some (.int .i64 m)
  | _=>none
 | none=>match fe P T with
  | some (n,_)=>some (.int .i64 n)
  | none=>if qn P T=true then (match v with|.str b=>some (.int .i64 b.size)|_=>none) else none
theorem tS{j:Cx}{s:AS}{a:Act}{w:World}{ι:Env}(q:ax j s a w ι){T:TypeId}{v r:AV}(h:js j.P s T v=some r){x:Value}(t:Rel (NN j.M ι) w ι v x)(ty:TypeId):
  ∃y,(Builtin.len_ #[T] ty #[x]).run j.P w=.ok y w∧Rel (NN j.M ι) w ι r y:=by
 unfold js at h;split at h
 ·rename_i e i;unfold cY at i;split at i
  ·rename_i J f;split at h
   ·injection h with h;subst h
    cases t;exact⟨_,by simp[Builtin.len_,hF f,goInt],.int _ _ _⟩
   ·rename_i l;injection h with h;subst h
    cases t with
    | sl0 A c=>exact⟨_,by simp[Builtin.len_,hF f,goInt],.int _ _ _⟩
    | sl _ _ b o c sz H D Q p m R U _=>exact⟨_,by simp[Builtin.len_,hF f,goInt],.int _ _ _⟩
   ·rename_i id;split at h
    ·rename_i ar u;injection h with h;subst h
     cases t with
     | ref _ _ A n c E =>
      obtain⟨v,xs,m,G,M,N,O⟩:=q.hs.dL id ar u (by rw[E];rfl);rw[E]at m;injection m with m;subst m
      have p:n=ar.l.length:=by
       obtain⟨C,L⟩|⟨K,cap,F,C,_⟩:=G.2
       ·injection C with _ p _;omega
       ·injection C
      subst p;exact⟨_,by simp[Builtin.len_,hF f,goInt],.int _ _ _⟩
    ·cases h
   ·injection h with h;subst h
    cases t with
    | sref _ _ _ _ _ n c I A B E P=>exact⟨_,by simp[Builtin.len_,hF f,goInt],.int _ _ _⟩
   ·cases h
  ·cases i
 ·split at h
  ·rename_i n k d;injection h with h;subst h
   unfold fe at d;split at d
   ·rename_i V e f;cases D:aV j.P e with
    | none=>rw[D]at d;cases d
    | some z =>
     rw[D]at d;injection d with d;injection d with p S;subst p
     exact⟨_,by simp[Builtin.len_,hF f,goInt],.int _ _ _⟩
   ·cases d
  ·split at h
   ·rename_i g;split at h
    ·injection h with h;subst h
     cases t;unfold qn at g;split at g
     ·rename_i f;exact⟨_,by simp[Builtin.len_,hF f,goInt],.int _ _ _⟩
     ·cases g
    ·cases h
   grind
def mA:List AV→Option AV
 | [.int k x,.int a y]=>if k=a then some (.int k (max x y)) else none
 | _=>none
def n0:List AV→Option AV
 | [.int k x,.int a y]=>if k=a then some (.int k (min x y)) else none
 | _=>none
def bJ(s:AS):List Operand→Option (List AV)
 | []=>some []
 | x::r=>match s.ev x,bJ s r with|some v,some l=>some (v::l)|_,_=>none
def eL(P:Program)(s:AS)(b:Builtin)(xs:List Operand)(a:List TypeId):Option AV :=
 match b with
 | .len=>match xs,a with
  | [x],[T]=>match s.ev x with|some v=>js P s T v|none=>none
  | _,_=>none
 | .max=>match bJ s xs with|some l=>mA l|none=>none
 | .min=>match bJ s xs with|some l=>n0 l|none=>none
 | _=>none
theorem lA{f:Cx}{s:AS}{a:Act}{w:World}{ι:Env}(h:ax f s a w ι):∀{xs:List Operand} {l:List AV},bJ s xs=some l→l.length=xs.length ∧
  ∀(i:Nat) (v:AV) (y:Value),l[i]?=some v→(xs.map a.eval)[i]?=some y→Rel (NN f.M ι) w ι v y
 | [],l,e=>by injection e with e;subst e;exact⟨rfl,fun i p q c _=>by simp at c⟩
 | x::r,l,e=>by
  unfold bJ at e;cases b:s.ev x with
  | none=>rw[b]at e;cases e
  | some v =>
   cases d:bJ s r with
   | none=>rw[b,d]at e;cases e
   | some l' =>
    rw[b,d]at e;injection e with e;subst e
    obtain⟨j,m⟩:=lA h d;refine⟨by simp[j],fun k p q c g=>?_⟩;cases k with
    | zero=>simp at c g;subst c;subst g;exact h.ev b
    | succ k=>grind
theorem wo{z:Cx}{s:AS}{a:Act}{w:World}{ι:Env}(e:ax z s a w ι){b:Builtin}{c:Array Operand}{A:Array TypeId}{r:AV}(h:eL z.P s b c.toList A.toList=some r)(ty:TypeId)(j:Array Bool):
  ∃y,(builtin b A ty j (c.map a.eval)).run z.P w=.ok (.value y) w∧Rel (NN z.M ι) w ι r y:=by
 have u:∀{f:List AV→Option AV} {t:Int→Int→Int},(f=mA∧t=max∨f=n0∧t=min)→∀{l:List AV},bJ s c.toList=some l→f l=some r→∃k x y,c.map a.eval = #[.int k x,.int k y]∧r=.int k (t x y):=by
  intro f t K l n d;obtain⟨J,B⟩:=lA e n;have G:∃k x y,l=[.int k x,.int k y]∧r=.int k (t x y):=by
   obtain⟨rfl,rfl⟩|⟨rfl,rfl⟩:=K
   ·unfold mA at d;split at d
    ·split at d
     ·rename_i k x M y E;subst E;injection d with d;exact⟨_,_,_,rfl,d.symm⟩
     ·cases d
    ·cases d
   ·unfold n0 at d;split at d
    ·split at d
     ·rename_i k x M y E;subst E;injection d with d;exact⟨_,_,_,rfl,d.symm⟩
     ·cases d
    ·cases d
  obtain⟨k,x,y,rfl,F⟩:=G;refine⟨k,x,y,?_,F⟩;apply zQ.1;rw[Af]
  match i:c.toList,J with
  | [p,q],_ =>
   rw[i]at B;have H:=B 0 _ (a.eval p) rfl rfl;have I:=B 1 _ (a.eval q) rfl rfl;simp only[u5,yk];cases g:a.eval p<;>rw[g]at H<;>cases H;cases C:a.eval q<;>rw[C]at I<;>cases I;rfl
 unfold eL at h;split at h
 ·split at h
  ·rename_i x T i D;have o:c = #[x]:=zQ.1 (by simpa using i);have m:A = #[T]:=zQ.1 (by simpa using D);subst o;subst m;split at h
   ·rename_i v L;obtain⟨y,g,C⟩:=tS e h (e.ev L) ty;exact⟨y,by simp[builtin,g],C⟩
   ·cases h
  ·cases h
 ·split at h
  ·rename_i l n;obtain⟨k,x,y,g,rfl⟩:=u (.inl ⟨rfl,rfl⟩) n h;refine⟨.int k (max x y),?_,.int _ _ _⟩;rw[g];have:(if y>x then y else x)=max x y:=by omega
   simp[builtin,Builtin.max_,Builtin.max2,this]
  ·cases h
 ·split at h
  ·rename_i l n;obtain⟨k,x,y,g,rfl⟩:=u (.inr ⟨rfl,rfl⟩) n h;refine⟨.int k (min x y),?_,.int _ _ _⟩;rw[g];have:(if y<x then y else x)=min x y:=by omega
   simp[builtin,Builtin.min_,Builtin.min2,this]
  ·cases h
 grind
def qG(i:Nat):AV→Option AV
 | .tup vs=>vs[i]?
 | _=>none
def ep(P:Program)(s:AS)(T:TypeId)(p:AV):Option AV:=match s.mem p with|some a=>cT P T a|none=>none
def qu(P:Program)(T:TypeId)(f:Nat)(p:AV):Option AV:=match oc P T f with|some k=>iW k p|none=>none
def gj(P:Program)(s:AS)(T:TypeId)(x:AV):AV→Option AV
 | .int _ i=>ic P s T x i
 | _=>none
def aH(P:Program)(n:Nat)(s:AS)(o:Oper):Option AS :=
 if cc n o.dst=true then
  match o.op with
  | .move x|.assign x=>match s.ev x with|some v=>some (s.put o.dst v)|none=>none
  | .pick c x y=>match s.ev c with
   | some (.bool b)=>match rJ b (s.ev x) (s.ev y) with|some v=>some (s.put o.dst v)|none=>none
   | _=>none
  | .alloc T=>match o.dst,da P T with|some d,some e=>fP s d e|_,_=>none
  | .box _ x=>match o.dst,s.ev x with
   | some d,some v=>match dE v with|some e=>fP s d e|none=>none
   | _,_=>none
  | .load T x=>match s.ev x with
   | some p=>match ep P s T p with|some v=>some (s.put o.dst v)|none=>none
   | none=>none
  | .store T x y=>match o.dst,s.ev x,s.ev y with|none,some p,some v=>fX P s T p v|_,_,_=>none
  | .fieldAddr T x f=>match s.ev x with
   | some p=>match qu P T f p with|some v=>some (s.put o.dst v)|none=>none
   | none=>none
  | .indexAddr T x i=>match s.ev x,s.ev i with
   | some p,some j=>match gj P s T p j with|some v=>some (s.put o.dst v)|none=>none
   | _,_=>none
  | .build T a=>match gl P s T a.toList with|some v=>some (s.put o.dst v)|none=>none
  | .buildSlice T g a=>match gJ P s T g a.toList with|some v=>some (s.put o.dst v)|none=>none
  | .makeSlice T x y=>match gi P s T x y with|some v=>some (s.put o.dst v)|none=>none
  | .extract x i=>match s.ev x with
   | some p=>match qG i p with|some v=>some (s.put o.dst v)|none=>none
   | none=>none
  | .binOp h _ x y _=>match s.ev x,s.ev y with
   | some u,some v=>match iD h u v with
    | some r=>some (s.put o.dst r)
    | none=>match fg P s o with|some r=>some (s.put o.dst r)|none=>none
   | _,_=>none
  | .unOp h _ x=>match s.ev x with
   | some u=>match nH h u with|some r=>some (s.put o.dst r)|none=>none
   | none=>none
  | .call c=>match c.callee with
   | .builtin .append=>match c.args.toList,c.argTypes.toList,o.dst with
    | [x,y],[T,T'],some d=>if T=T' then match s.ev x,s.ev y with
     | some v,some u=>jy P s d T v u
     | _,_=>none else none
    | _,_,_=>none
   | .builtin .copy=>match c.args.toList,c.argTypes.toList with
    | [x,y],[T,_]=>match s.ev x,s.ev y with
     | some u,some v=>match gH P s T u v with
      | some q=>some (q.1.put o.dst q.2)
      | none=>none
     | _,_=>none
    | _,_=>none
   | .builtin b=>match eL P s b c.args.toList c.argTypes.toList with|some r=>some (s.put o.dst r)|none=>none
   | _=>none
  | _=>match fg P s o with|some r=>some (s.put o.dst r)|none=>none
 else none
theorem nQ{E:Cx}{s s':AS}{a:Act}{w:World}{ι:Env}(g:ax E s a w ι){o:Oper}(h:aH E.P E.n s o=some s'):Good E ι s' a o ((execOp a.eval o).run E.P w):=by
 unfold aH at h;split at h
 case isFalse=>cases h
 rename_i a0;have Z:=lS a0;have A:∀{v:AV} {x:Value} {J:World} {r:Result Next},r=.ok (.value x) J→ax E s a J ι→Rel (NN E.M ι) J ι v x→Good E ι (s.put o.dst v) a o r:=fun D O m=>⟨ι,fun _ _ h=>h,.inl ⟨_,_,D,O.put Z m⟩⟩;unfold execOp;cases n:o.op with
 | move x =>
  simp only[n]at h⊢;split at h
  ·rename_i v m;injection h with h;subst h;exact A rfl g (g.ev m)
  ·cases h
 | assign x =>
  simp only[n]at h⊢;split at h
  ·rename_i v m;injection h with h;subst h;exact A rfl g (g.ev m)
  ·cases h
 | pick c x y =>
  simp only[n]at h⊢;split at h
  ·rename_i b N;split at h
   ·rename_i v m;injection h with h;subst h
    have X:=g.ev N;cases Y:a.eval c<;>rw[Y]at X<;>cases X;have h0:Rel (NN E.M ι) w ι v (if b=true then a.eval x else a.eval y):=by
     unfold rJ at m;split at m
     ·rename_i p q H hq;injection m with m;subst m
      have W:=g.ev H;have h2:=g.ev hq;cases b
      ·simpa using h2
      ·simpa using W
     ·cases b
      ·simp only[fl,n5]at m⊢;exact g.ev m
      ·simp only[wl]at m⊢;exact g.ev m
    refine A (x:=if b=true then a.eval x else a.eval y) ?_ g h0;simp[asBool]
   ·cases h
  ·cases h
 | alloc T =>
  simp only[n]at h⊢;split at h
  ·rename_i d cs B hz;unfold da at hz;cases L:E.P.info? T with
   | none=>simp[L]at hz
   | some it =>
    cases U:it.zero with
    | none=>simp[L,U]at hz
    | some zv =>
     simp only[L,hQ,U]at hz;obtain⟨ι',W,G⟩:=pc g (Z d B) h (dh (NN E.M ι) w ι hz) T;refine⟨ι',fun i hi=>G i (fun e=>hi (by rw[e,B])),.inl ⟨.pointer (some ⟨w.heap.size,0,none⟩),w.alloc (.cells zv.cells T),?_,?_⟩⟩
     ·simp[Instr.alloc,zeroValue,typeInfo,L,U,newVar,newRow]
     ·rw[B];simpa using W
  ·cases h
 | box T x =>
  simp only[n]at h⊢;split at h
  ·rename_i d v B m;split at h
   ·rename_i cs g0;obtain⟨ι',W,G⟩:=pc g (Z d B) h (jR g0 (g.ev m)) T;refine⟨ι',fun i hi=>G i (fun e=>hi (by rw[e,B])),.inl ⟨.pointer (some ⟨w.heap.size,0,none⟩),w.alloc (.cells (a.eval x).cells T),?_,?_⟩⟩
    ·simp[Instr.box,newVar,newRow]
    ·rw[B];simpa using W
   ·cases h
  ·cases h
 | load T x =>
  simp only[n]at h⊢;split at h
  ·rename_i p H;split at h
   ·rename_i v m;injection h with h;subst h
    unfold ep at m;split at m
    ·rename_i cs hm;obtain⟨b,o',vl,hx,K⟩:=qr g (g.ev H) hm;obtain⟨x,l,D⟩:=oY m K;refine A ?_ g D;rw[hx];simp[l]
    ·cases m
   ·cases h
  ·cases h
 | store T x y =>
  simp only[n]at h⊢;split at h
  ·rename_i p v B H m;obtain⟨J,l,O⟩:=vR g h (g.ev H) (g.ev m);refine⟨ι,fun _ _ h=>h,.inr ⟨J,by simp[l],?_⟩⟩;rw[B];exact O
  ·cases h
 | fieldAddr T x f =>
  simp only[n]at h⊢;split at h
  ·rename_i p H;split at h
   ·rename_i v m;injection h with h;subst h
    unfold qu at m;split at m
    ·rename_i k hk;obtain⟨z,l,D⟩:=wQ hk m (g.ev H);exact A (by simp[l]) g D
    ·cases m
   ·cases h
  ·cases h
 | indexAddr T x y =>
  simp only[n]at h⊢;split at h
  ·rename_i p j H hj;split at h
   ·rename_i v m;injection h with h;subst h
    unfold gj at m;split at m
    ·rename_i k i;have b0:=g.ev hj;cases Y:a.eval y<;>rw[Y]at b0<;>cases b0;obtain⟨z,l,D⟩:=wN g (k:=k) m (g.ev H);exact A (by simp[l]) g D
    ·cases m
   ·cases h
  ·cases h
 | build T V =>
  simp only[n]at h⊢;split at h
  ·rename_i v m;injection h with h;subst h
   obtain⟨x,l,D⟩:=u0 g m;exact A (by simp only[mm,l];rfl) g D
  ·cases h
 | buildSlice T i0 V =>
  simp only[n]at h⊢;split at h
  ·rename_i v m;injection h with h;subst h
   obtain⟨x,J,l,O,D⟩:=vy g m;exact A (by simp only[mm,l];rfl) O D
  ·cases h
 | makeSlice T x y =>
  simp only[n]at h⊢;split at h
  ·rename_i v m;injection h with h;subst h
   obtain⟨x,J,l,O,D⟩:=xr g m;exact A (by simp only[mm,l];rfl) O D
  ·cases h
 | extract x i =>
  simp only[n]at h⊢;split at h
  ·rename_i p H;split at h
   ·rename_i v m;injection h with h;subst h
    unfold qG at m;split at m
    ·rename_i vs;have d0:=g.ev H;cases Y:a.eval x<;>rw[Y]at d0<;>cases d0;rename_i ws hl D;have c0:i<ws.length:=by rw[←hl];exact(es.1 m).1
     refine A (x:=ws[i]) ?_ g (D i v _ m (ez c0));simp[Instr.extract,ez c0]
    ·cases m
   ·cases h
  ·cases h
 | binOp op T x y Ty =>
  simp only[n]at h⊢;split at h
  ·rename_i u v R m;split at h
   ·rename_i r D;injection h with h;subst h
    obtain⟨z,l,t⟩:=tf D (g.ev R) (g.ev m) T x y;refine A ?_ g t;simp only[mm]at l⊢;rw[l];rfl
   ·split at h
    ·rename_i r D;injection h with h;subst h
     obtain⟨z,l,t⟩:=oT g D;unfold execOp at l;simp only[n]at l;exact A l g t
    ·cases h
  ·cases h
 | unOp op T x =>
  simp only[n]at h⊢;split at h
  ·rename_i u R;split at h
   ·rename_i r D;injection h with h;subst h
    obtain⟨z,l,t⟩:=vr (P:=E.P) D (g.ev R);exact A (by simp[l]) g t
   ·cases h
  ·cases h
 | call c =>
  simp only[n]at h⊢;split at h
  ·rename_i N;split at h
   ·rename_i x y T T' d S M B;split at h
    ·rename_i e0;subst e0;split at h
     ·rename_i v u m R;have I:c.args = #[x,y]:=zQ.1 (by simpa using S);have F:c.argTypes = #[T,T]:=zQ.1 (by simpa using M);obtain⟨z,J,ι',l,Q,G⟩:=w4 (ty:=o.type) g (Z d B) h (g.ev m) (g.ev R);refine⟨ι',fun i hi=>G i (fun e=>hi (by rw[e,B])),.inl ⟨z,J,?_,by rw[B];exact Q⟩⟩;simp only[mm,resolve,N,v6,n2,invoke,builtin,I,F,List.map_toArray,u5,yk,l]
     ·cases h
    ·cases h
   ·cases h
  ·rename_i N;split at h
   ·rename_i x y T T' S M;split at h
    ·rename_i u v R m;split at h
     ·rename_i q hq;injection h with h;subst h
      have I:c.args = #[x,y]:=zQ.1 (by simpa using S);have F:c.argTypes = #[T,T']:=zQ.1 (by simpa using M);obtain⟨z,J,l,Q,t⟩:=zq (T':=T') (ty:=o.type) g (s':=q.1) (r:=q.2) hq (g.ev R) (g.ev m);refine⟨ι,fun _ _ h=>h,.inl ⟨z,J,?_,Q.put Z t⟩⟩;simp only[mm,resolve,N,v6,n2,invoke,builtin,I,F,List.map_toArray,u5,yk,l]
     ·cases h
    ·cases h
   ·cases h
  ·rename_i b _ _ N;split at h
   ·rename_i r D;injection h with h;subst h
    simp only[mm,resolve,N,v6,n2,invoke];generalize (Array.map _ c.args:Array Bool)=C;obtain⟨y,l,t⟩:=wo g D o.type C;exact A l g t
   ·cases h
  ·cases h
 | _ =>
  simp only[n]at h⊢;split at h
  ·rename_i r D;injection h with h;subst h
   obtain⟨z,l,t⟩:=oT g D;unfold execOp at l;simp only[n]at l;exact A l g t
  ·cases h
end Go.Proofs.Ytkciiamllegclaa
namespace Go.Proofs.Ytkciiamllegclaa
set_option linter.all false
variable[ZX]
open Go.RowKit
def FF[FM]:Fence:={ Fence.wide with round:=FM.l }
theorem lw{g:Option Nat}{ρ:Operand→Value}{o:Oper}{P:Program}{w i:World}{x:Next}(h:(execOp ρ o).run P w=.ok x i)(j:∀d,x ≠ .defer d):(o.semAt g ρ).run P w=.ok x i:=by
 by_cases b:∃c,o.op=.defer c
 ·exfalso;obtain⟨c,a⟩:=b;unfold execOp at h;simp only[a,mm]at h;cases f:(resolve ρ c o.type).run P w with
  | ok d k=>rw[f]at h;simp only[n2,v6]at h;injection h with h;exact j _ h.symm
  | halt e k=>rw[f]at h;cases h
 ·rw[Oper.semAt_eq g ρ o (fun c a=>b ⟨c,a⟩)];exact h
def mN(P:Program)(o:Oper)(a:Act)(next:Act→World→Prop)(Q:Exit→Act→World→Prop):Result Next→Prop
 | .ok (.value v) e=>next (a.put o.dst v) e
 | .ok .skip e=>next (a.put o.dst undef) e
 | .ok (.enter f g) e=>Calls P f g e fun
   | .returned v,c=>next (a.put o.dst v) c
   | .panicked b,c=>Q (.panic b) a c
   | .outgrown,_=>LetsOut Q
 | .ok (.round l f tmps d h) e=>RoundIn Fence.wide 0 P l f tmps d h e fun
   | .returned v,c=>next (a.put o.dst v) c
   | .panicked b,c=>Q (.panic b) a c
   | .outgrown,_=>LetsOut Q
 | _=>False
theorem kb(P:Program)(o:Oper)(a:Act)(next:Act→World→Prop)(Q:Exit→Act→World→Prop)(w:World)(f:FuncId)(b:Array Value):mN P o a next Q (.ok (.enter f b) w)=Calls P f b w fun
  | .returned v,d=>next (a.put o.dst v) d
  | .panicked c,d=>Q (.panic c) a d
  | .outgrown,_=>LetsOut Q:=rfl
theorem cL[FM]{P:Program}{o:Oper}{a:Act}{w:World}{K:Act→World→Prop}{Q:Exit→Act→World→Prop}(h:mN P o a K Q ((execOp a.eval o).run P w)):o.wpIn FF 0 P a w K Q:=by
 refine⟨fun _ _=>trivial,?_⟩;generalize b:(execOp a.eval o).run P w=r at h;unfold mN at h;split at h
 ·rw[lw b (by simp)];exact h
 ·rw[lw b (by simp)];exact h
 ·rw[lw b (by simp)];exact⟨(fun e=>nomatch e),callsIn_wide.2 h⟩
 ·rw[lw b (by simp)];exact⟨(fun e=>nomatch e),h⟩
 ·exact h.elim
theorem xz{P:Program}{c:Code}{Q b:Exit→Act→World→Prop}{a:Act}{w:World}(h:c.wpIn (@FF fm0) 0 P Q a w)(d:∀e a w,Q e a w→b e a w):c.wp P b a w:=wp_mono (wpIn_wide.1 h) d
inductive aw where
 | c (c:Code)
 | b (id:Nat)
 | l (back:Act→World→Prop)
def Kw[FM](P:Program)(Q:Exit→Act→World→Prop):List aw→Exit→Act→World→Prop
 | []=>Q
 | .c c::a=>Exit.then (c.wpIn FF 0 P (Kw P Q a)) (Kw P Q a)
 | .b id::a=>Exit.inBlock id (Kw P Q a)
 | .l b::a=>Exit.then b (Kw P Q a)
def VE[fm:FM](b:Cx)(Q:Exit→Act→World→Prop)(c:List aw)(e:Exit)(s:AS):Prop:=∀a w ι,ax b s a w ι→Kw b.P Q c e a w
def OT[FM](c:Cx)(Q:Exit→Act→World→Prop)(d:List aw)(b:Array Oper)(l:List Oper)(s:AS):Prop:=∀a w ι,ax c s a w ι→wpListIn FF 0 c.P b (Kw c.P Q d) l a w
variable[FM]
section
variable{f:Cx}{Q:Exit→Act→World→Prop}{n:List aw}{s:AS}
theorem tH(h:VE f Q n .normal s):VE f Q (.c .skip::n) .normal s:=fun a w ι b=>wpIn_skip (h a w ι b)
theorem wP{x y:Code}(h:VE f Q (.c x :: .c y::n) .normal s):VE f Q (.c (.seq x y)::n) .normal s:=fun a w ι b=>wpIn_seq (h a w ι b)
theorem uz{id:Nat}{c:Code}(h:VE f Q (.c c :: .b id::n) .normal s):VE f Q (.c (.block id c)::n) .normal s:=fun a w ι b=>wpIn_block (h a w ι b)
theorem xd{id}(h:VE f Q n .normal s):VE f Q (.b id::n) .normal s:=fun a w ι b=>h a w ι b
theorem vj{id:Nat}(h:VE f Q n (.exit id) s):VE f Q (.c (.exit id)::n) .normal s:=fun a w ι b=>wpIn_exit (h a w ι b)
theorem xi(h:VE f Q n .ret s):VE f Q (.c .ret::n) .normal s:=fun a w ι b=>wpIn_ret (h a w ι b)
theorem yI{id}{b}(h:VE f Q n (.exit id) s):VE f Q (.l b::n) (.exit id) s:=fun a w ι c=>h a w ι c
theorem sV{id}(h:VE f Q n .normal s):VE f Q (.b id::n) (.exit id) s:=fun a w ι b=>by
 show Exit.inBlock id _ _ _ _;simp only[Exit.inBlock];exact h a w ι b
theorem ud{id b}(c:¬ id=b)(h:VE f Q n (.exit id) s):VE f Q (.b b::n) (.exit id) s:=fun a w ι d=>by
 show Exit.inBlock b _ _ _ _;simp only[Exit.inBlock,o9 c];exact h a w ι d
theorem tp{b}(h:VE f Q n .ret s):VE f Q (.l b::n) .ret s:=fun a w ι c=>h a w ι c
theorem wg{id}(h:VE f Q n .ret s):VE f Q (.b id::n) .ret s:=fun a w ι b=>h a w ι b
theorem sJ{c:Operand}{x y:Code}{b:Bool}(i:s.ev c=some (.bool b))(k:b=true→VE f Q (.c x::n) .normal s)(j:b=false→VE f Q (.c y::n) .normal s):VE f Q (.c (.cond c x y)::n) .normal s:=fun a w ι e=>by
 have h:=e.ev i;have d:a.eval c=.bool b:=by cases g:a.eval c<;>rw[g]at h<;>cases h;rfl
 cases b
 ·exact wpIn_cond d (j rfl a w ι e)
 ·exact wpIn_cond d (k rfl a w ι e)
theorem xt{c}{x y}(a:s.ev c=some (.bool true))(b:VE f Q (.c x::n) .normal s):VE f Q (.c (.cond c x y)::n) .normal s :=by grind[sJ]
theorem xE{c}{x y}(a:s.ev c=some (.bool false))(b:VE f Q (.c y::n) .normal s):VE f Q (.c (.cond c x y)::n) .normal s :=by grind[sJ]
theorem rD{id:Nat}{ops:Array Oper}(h:OT f Q n ops ops.toList s):VE f Q (.c (.region id ops false)::n) .normal s:=fun a w ι b=>wpIn_region_list (h a w ι b)
theorem qK{b}(h:VE f Q n .normal s):OT f Q n b [] s:=fun a w ι c=>h a w ι c
theorem oE{d:Array Oper}{o:Oper}{r:List Oper}{s':AS}(i:o.guard=none)(h:aH f.P f.n s o=some s')(k:OT f Q n d r s'):OT f Q n d (o::r) s:=fun a w ι j=>by
 refine A2 i fun K g=>?_;refine cL ?_;obtain⟨ι',_,b⟩:=nQ j h;obtain⟨x,l,e,c⟩|⟨l,e,c⟩:=b
 ·rw[e];exact g _ _ (k _ _ _ c)
 ·rw[e];exact g _ _ (k _ _ _ c)
theorem yG{c:Array Oper}{o i:Oper}{r:List Oper}{j d:Nat}{b:Bool}(m:o.guard=some (j,b))(p:c[j]?=some i)(l:i.dst=some d)(t:look d s.t=some (.bool b))(k:OT f Q n c ({ o with guard:=none }::r) s):OT f Q n c (o::r) s:=fun a w ι h=>by
 have e:=k a w ι h;obtain⟨x,v,q⟩:=h.tmp d _ t;cases q;have u:Region.wanted o (yielded c a.tmps)=true:=by simp[Region.wanted,m,yielded,p,l,v]
 have g:Region.wanted { o with guard:=none } (yielded c a.tmps)=true:=by simp[Region.wanted]
 unfold wpListIn at e⊢;rw[l2 g]at e;rw[l2 u];exact e
def kO(u:ck)(l:List (Nat×AV)):List (Nat×AV)→Prop
 | []=>True
 | (k,v)::r=>look k l=some v∧v.bu u=true∧kO u l r
def kE(u:ck)(l:List (Nat×List AV)):List (Nat×List AV)→Prop
 | []=>True
 | (k,v)::r=>look k l=some v∧bS u v=true∧u.contains k=true∧kE u l r
def kB(u:ck)(l:List (Nat×bw)):List (Nat×bw)→Prop
 | []=>True
 | (k,v)::r=>look k l=some v∧u.contains k=true∧kB u l r
def Sub(s' s:AS):Prop:=kO s'.u s.t s'.t∧kE s'.u s.o s'.o∧kB s'.u s.r s'.r∧∀id,s.u.contains (co id)=true→s'.u.contains (co id)=true∧s'.u.contains id=true
theorem qR{u}{l}:∀{m},kO u l m→∀k v,look k m=some v→look k l=some v∧v.bu u=true
 | [],_,k,v,a=>by cases a
 | (j,x)::r,h,k,v,a=>by
  simp only[look]at a;split at a
  ·rename_i e;subst e;injection a with a;subst a;exact⟨h.1,h.2.1⟩
  ·exact qR h.2.2 k v a
theorem mW{u}{l}:∀{m},kE u l m→∀k v,look k m=some v→look k l=some v∧bS u v=true∧u.contains k=true
 | [],_,k,v,a=>by cases a
 | (j,x)::r,h,k,v,a=>by
  simp only[look]at a;split at a
  ·rename_i e;subst e;injection a with a;subst a;exact⟨h.1,h.2.1,h.2.2.1⟩
  ·exact mW h.2.2.2 k v a
theorem m4{u}{l}:∀{m},kB u l m→∀k v,look k m=some v→look k l=some v∧u.contains k=true
 | [],_,k,v,a=>by cases a
 | (j,x)::r,h,k,v,a=>by
  simp only[look]at a;split at a
  ·rename_i e;subst e;injection a with a;subst a;exact⟨h.1,h.2.1⟩
  ·exact m4 h.2.2 k v a
def c6(ι:Env)(u:ck):Env:=fun i=>if has u i=true then ι i else none
theorem fN{ι}{u}{i}(h:has u i=true):c6 ι u i=ι i:=by grind[c6]
theorem xg{ι}{u}{i}{y}(h:c6 ι u i=some y):ι i=some y∧has u i=true:=by
 grind[c6]
theorem lU{ι}{u}{i g}(h:bq (c6 ι u i)=some g):bq (ι i)=some g:=by
 unfold c6 at h;split at h
 ·grind
 ·cases h
theorem Rel.c6{N N':Nat→Prop}{w:World}{ι:Env}{v:AV}{x:Value}(h:Rel N w ι v x){u:ck}(e:v.bu u=true)(c:∀b,N' b→N b):Rel N' w (c6 ι u) v x :=
 (h.env (ι':=Proofs.Ytkciiamllegclaa.c6 ι u) (fun id a=>fN (d7 a)) e).mono (io _) (fun b _ d=>c b d) (fun _ _ _=>rfl) (fun _ _ h=>h)
theorem mE{M}{ι}{u}:∀b,NN M (c6 ι u) b→NN M ι b:=fun b a=>by
 rcases a with a|⟨id,a⟩
 ·exact .inl a
 ·exact .inr ⟨id,lU a⟩
theorem HS.sub{M:Nat→Prop}{B:aC}{w:World}{ι:Env}{s s':AS}(h:HS M B w ι s)(m:Sub s' s):HS M B w (c6 ι s'.u) s':=by
 refine⟨h.below,h.old,fun i y L=>(xg L).2,fun i g z=>h.own i g (lU z),fun i N g z A=>h.inj i N g (lU z) (lU A),fun i o l=>d7 (mW m.2.1 i o l).2.2,fun i a l=>d7 (m4 m.2.2.1 i a l).2,fun i o l f=>?_,fun i ar l f=>?_,fun i y f=>⟨(fN (d7 (m.2.2.2 i (h.pin i y f).2).2)).trans (h.pin i y f).1,(m.2.2.2 i (h.pin i y f).2).1⟩⟩
 ·obtain⟨u,F,d⟩:=mW m.2.1 i o l;have d:=d7 d;rw[fN d]at f;obtain⟨g,T,vs,q,t,n⟩:=h.objs i o u f;exact⟨g,T,vs,(fN d).trans q,t,n.len,n.one,fun j x v p K=>(n.rel j x v p K).c6 (fZ F j x p) mE⟩
 ·obtain⟨u,d⟩:=m4 m.2.2.1 i ar l;have d:=d7 d;rw[fN d]at f;obtain⟨v,xs,q,t,n,C,D⟩:=h.arrz i ar u f;refine⟨v,xs,(fN d).trans q,t,n,C,fun j e H k c I=>?_⟩;obtain⟨x,p,J⟩:=D j e H k c I;exact⟨x,p,J.mono (io _) (fun b _ G=>mE b G) (fun _ _ _=>rfl) (fun r E=>(fN (w7 _ _ _)).trans E) (fun _ _=>rfl) (fun h=>h)⟩
theorem ax.sub{s'}{a}{w}{ι}(h:ax f s a w ι)(b:Sub s' s):ax f s' a w (c6 ι s'.u) :=
 ⟨h.hs.sub b,h.dfr,h.n,fun k v e=>by
  obtain⟨c,d⟩:=qR b.1 k v e;obtain⟨x,i,g⟩:=h.tmp k v c;exact⟨x,i,g.c6 d mE⟩⟩
theorem o3{e} s'(c:Sub s' s)(h:VE f Q n e s'):VE f Q n e s:=fun a w ι b=>h a w _ (b.sub c)
end
def nb(N:Nat→Prop)(w:World)(a:List AV)(xs:Array Value):Prop:=a.length=xs.size∧∀(i:Nat) v y,a[i]?=some v→xs[i]?=some y→Rel N w aG v y
def aF(P:Program)(f:FuncId)(a:List AV)(Q:AV→AS→Prop):Prop :=
 ∀M w xs,(∀b,M b→b<w.heap.size)→nb M w a xs →
  Calls P f xs w fun e c=>∃x v s ι,e=.returned x∧Q v s∧HS M (fU w) c ι s∧Rel (NN M ι) c ι v x
theorem aF.mono{P}{f}{a}{Q b}(h:aF P f a Q)(k:∀v s,Q v s→b v s):aF P f a b:=fun M w xs i j =>
 (h M w xs i j).mono fun _ _ ⟨x,v,s,ι,c,d,e,g⟩=>⟨x,v,s,ι,c,k _ _ d,e,g⟩
def idxs(k:Nat):List AV→List (Nat×AV)
 | []=>[]
 | v::r=>(k,v)::idxs (k+1) r
theorem pr:∀l k i,look i (idxs k l)=if k≤i then l[i-k]? else none
 | [],k,i=>by simp[idxs,look]
 | v::r,k,i=>by
  simp only[idxs,look,pr r (k+1) i]
  grind
def bB(M:Nat→Prop)(w:aC)(Q:AV→AS→Prop)(e:Ending)(a:World):Prop:=∃x v s ι,e=.returned x∧Q v s∧HS M w a ι s∧Rel (NN M ι) a ι v x
theorem yN{P:Program}{f:FuncId}{o:Func}{c:Code}{d:List AV}{Q:AV→AS→Prop}(x:P.funcs[f]?=some o)(j:o.body=some c)(n:Nat)(E:o.ntmps=n)(D:d.length≤n)
  (h:∀M s,VE (fm:=fm0) ⟨P,n,M,s⟩ (bodyPost P o (bB M s Q)) [.c c] .normal ⟨idxs 0 d,[],[],[]⟩):aF P f d Q:=by
 intro M w xs u r;refine calls_of_wp x j ?_;refine xz (h M (fU w) { tmps:=xs++Array.replicate (o.ntmps-xs.size) undef,defers:=[] } w aG ?_) (fun e a G A=>?_)
 ·have z:HS M (fU w) w aG ⟨idxs 0 d,[],[],[]⟩:=⟨⟨rfl,rfl,rfl,io _,fun _ _ _=>rfl⟩,fun b j=>⟨u b j,fun h=>h⟩,fun i y C=>(by cases C),fun i g p=>(by cases p),fun i F g p=>(by cases p),fun i t l=>(by cases l),fun i a l=>(by cases l),fun i t l=>(by cases l),fun i a l=>(by cases l),fun i v B=>(by cases B)⟩;refine @ax.mk fm0 _ _ _ _ _ _ z rfl ?_ (fun k v q=>?_)
  ·have:=r.1;simp;omega
  ·rw[pr,l2 (zW _),Nat.sub_zero]at q;have m:k<xs.size:=by rw[←r.1];exact(es.1 q).1
   refine⟨xs[k],?_,(r.2 k v _ q (hM m)).mono (io _) (fun b _ j=>?_) (fun _ _ _=>rfl) (fun _ _ h=>h)⟩
   ·simp only[];rw[zO m,hM m]
   ·rcases j with j|⟨id,j⟩
    ·exact j
    ·cases j
 ·cases e<;>exact A
def dp(P:Program)(s:AS):List ResultVar→Option (List AV)
 | []=>some []
 | .tmp t::r=>match look t s.t,dp P s r with|some v,some l=>some (v::l)|_,_=>none
 | .cell t T::r=>match look t s.t with
  | some p=>match ep P s T p,dp P s r with|some v,some l=>some (v::l)|_,_=>none
  | none=>none
def kk:List AV→AV
 | [v]=>v
 | l=>.tup l
def iC(tmps:Array Value):ResultVar→Sem Value
 | .tmp t=>pure (tmps.getD t undef)
 | .cell a t=>do loadVar t (← asAddr (tmps.getD a undef))
theorem mh{f:Cx}{s:AS}{a:Act}{w:World}{ι:Env}(c:ax f s a w ι):∀{F:List ResultVar} {l:List AV},dp f.P s F=some l →
  ∃vs:b5,(F.mapM (iC a.tmps)).run f.P w=.ok vs w∧l.length=vs.length∧∀(i:Nat) (v:AV) (y:Value),l[i]?=some v→vs[i]?=some y→Rel (NN f.M ι) w ι v y
 | [],l,h=>by injection h with h;subst h;exact⟨[],by simp,rfl,fun i v y e _=>by simp at e⟩
 | .tmp t::r,l,h=>by
  unfold dp at h;cases g:look t s.t with
  | none=>rw[g]at h;cases h
  | some v =>
   cases j:dp f.P s r with
   | none=>rw[g,j]at h;cases h
   | some l' =>
    rw[g,j]at h;injection h with h;subst h
    obtain⟨vs,o,q,u⟩:=mh c j;obtain⟨x,C,A⟩:=c.tmp t v g;refine⟨x::vs,?_,by simp[q],fun i E y e m=>?_⟩
    ·rw[List.mapM_cons];simp[iC,o,o8,C]
    ·cases i with
     | zero=>simp at e m;subst e;subst m;exact A
     | succ i=>exact u i E y (by simpa using e) (by simpa using m)
 | .cell t T::r,l,h=>by
  unfold dp at h;cases g:look t s.t with
  | none=>rw[g]at h;cases h
  | some p =>
   simp only[g]at h;cases k:ep f.P s T p with
   | none=>rw[k]at h;cases h
   | some v =>
    cases j:dp f.P s r with
    | none=>rw[k,j]at h;cases h
    | some l' =>
     rw[k,j]at h;injection h with h;subst h
     obtain⟨vs,o,q,u⟩:=mh c j;obtain⟨x,C,A⟩:=c.tmp t p g;unfold ep at k;split at k
     ·rename_i J H;obtain⟨b,I,K,D,d⟩:=qr c A H;obtain⟨z,n,B⟩:=oY k d;refine⟨z::vs,?_,by simp[q],fun i E y e m=>?_⟩
      ·rw[List.mapM_cons];have G:(loadVar T ⟨b,I,none⟩).run f.P w=.ok z w:=by simpa[Instr.loadAt,Instr.sureAddr]using n
       simp[iC,o,o8,C,D,asAddr,G]
      ·cases i with
       | zero=>simp at e m;subst e;subst m;exact B
       | succ i=>exact u i E y (by simpa using e) (by simpa using m)
     ·cases k
def xx:b5→Value
 | [v]=>v
 | l=>.tuple l.toArray
theorem uu a tmps:results a tmps=(do let vs ← a.results.mapM (iC tmps);pure (if h:vs.size=1 then vs[0] else .tuple vs)):=by
 rfl
theorem w6{P}{w}{a}{tmps}{vs}(h:(a.results.toList.mapM (iC tmps)).run P w=.ok vs w):
  (results a tmps).run P w=.ok (xx vs) w:=by
 rw[uu,Array.mapM_eq_mapM_toList];simp only[mm,Sem.run_map,h];congr 1
 match vs with
 | []=>rfl
 | [v]=>rfl
 | v::u::r=>rfl
theorem lb{d:Cx}{g:Func}{s:AS}{Q:AV→AS→Prop}{l:List AV}{j:Array ResultVar}(f:g.results=j)(h:dp d.P s j.toList=some l)(m:Q (kk l) s):VE (fm:=fm0) d (bodyPost d.P g (bB d.M d.w0 Q)) [] .ret s:=fun a w ι b=>by
 letI:FM:=fm0
 obtain⟨vs,k,e,c⟩:=mh b h;refine⟨b.dfr,_,w6 (by rw[f];exact k),_,kk l,s,ι,rfl,m,b.hs,?_⟩
 match l,vs,e,c with
 | [],[],_,c=>exact .tup _ _ _ rfl (fun i x v n _=>by simp at n)
 | [v],[y],_,c=>exact c 0 v y rfl rfl
 | v::u::r,y::z::q,e,c=>exact .tup _ _ _ e c
def bW (P:Program) (f:FuncId):Bool:=match P.funcs[f]? with | some a=>!(a.name == "runtime.NumGoroutine") && !a.body.isNone | none=>false
theorem y9{P}{w}{f}(h:bW P f=true) xs:(callFunc f xs).run P w=.ok (.enter f xs) w:=by
 unfold bW at h;cases a:P.funcs[f]? with
 | none=>grind
 | some b =>
  simp only[a]at h;unfold callFunc;simp only[mm,run_program,n2,a];rw[o9 (by grind),o9 (by grind)];rfl
def dA:AV→AV
 | .agg a=>.agg (a.map cy)
 | v=>cy v
theorem oN{N:Nat→Prop}{w:World}{ι:Env}{v:AV}{x:Value}(h:Rel N w ι v x):Rel N w ι (dA v) x:=by
 cases h with
 | agg _ a vs d b e =>
  have c:=(Cells.mk d b e:Cells N w ι a vs).pz;exact .agg _ _ _ c.len c.one c.rel
 | nils _=>exact .sl0 _ _ _ (.inr ⟨rfl,rfl⟩)
 | _=>simp only[dA,cy];constructor<;>assumption
theorem td{f:Cx}{s:AS}{a:Act}{w:World}{ι:Env}(h:ax f s a w ι){xs:Array Operand}{l:List AV}(k:bJ s xs.toList=some l)(m:bS [] l=true):nb (NN f.M ι) w (l.map dA) (xs.map a.eval):=by
 obtain⟨g,j⟩:=lA h k;refine⟨by simp at g;simp[g],fun i v y b n=>?_⟩;rw[zK]at b;cases e:l[i]? with
 | none=>rw[e]at b;cases b
 | some c =>
  rw[e]at b;injection b with b;subst b
  have d:(xs.toList.map a.eval)[i]?=some y:=by rw[←Af];simpa using n
  exact oN ((j i c y e d).pure (fZ m i c e) aG)
theorem HS.en{M:Nat→Prop}{u:aC}{w q:World}{ι:Env}{s:AS}(h:HS M u w ι s)(a:Below w.heap.size w q):HS M u q ι s:=by
 have t:∀b,b<w.heap.size→¬ NN M ι b→q.heap[b]?=w.heap[b]?:=fun b n _=>a.block b n;refine⟨h.below.trans (.of a h.below.size),h.old,h.use,fun i g c=>⟨(h.own i g c).1,by have:=(h.own i g c).2;have:=a.size;omega⟩,h.inj,h.ko,h.kr,fun i x l o=>?_,fun i ar l o=>?_,h.pin⟩
 ·obtain⟨g,T,vs,d,f,k⟩:=h.objs i x l o;exact⟨g,T,vs,d,(a.block g (h.own i g (by rw[d];rfl)).2).trans f,k.mono a.size (fun b _ a=>a) t (fun _ _ h=>h)⟩
 ·obtain⟨F,xs,d,f,k,z,A⟩:=h.arrz i ar l o;refine⟨F,xs,d,du f (fun g c=>a.block g (h.own i g (by rw[d];exact c)).2),k,z,fun j e C E v m=>?_⟩;obtain⟨y,D,p⟩:=A j e C E v m;exact⟨y,D,p.mono a.size (fun b _ a=>a) t (fun _ h=>h) (fun r B=>a.block r (h.eW B)) (fun h=>h)⟩
theorem ax.en{e}{s}{a}{w f}{ι}(h:ax e s a w ι)(c:Below w.heap.size w f):ax e s a f ι :=
 h.world (h.hs.en c) rfl c.size (fun b _ c=>c) (fun b d _=>c.block b d) (fun _ _ h=>h)
theorem jC{e:Cx}{s:AS}{a:Act}{w:World}{ι:Env}(p:ax e s a w ι){o:Oper}{c:Call}{h:Operand}{f:FuncId}{b:List AV}(n:o.op=.call c)(d:c.callee=.value h)(l:s.ev h=some (.fn f b))(k:bW e.P f=true):
  ∃ys:b5,(execOp a.eval o).run e.P w=.ok (.enter f (c.args.map a.eval++ys.toArray)) w∧b.length=ys.length∧∀(i:Nat) (c:AV) (y:Value),b[i]?=some c→ys[i]?=some y→Rel (NN e.M ι) w aG c y:=by
 have g:=p.ev l;generalize j:a.eval h=X at g;cases g with
 | fn _ _ _ ys m g =>
  refine⟨ys,?_,m,g⟩;unfold execOp;simp only[n,resolve,d,j,Deferred.ofValue,v6,n2,invoke]
  grind[y9]
theorem kw{d:Cx}{s:AS}{a:Act}{w:World}{ι:Env}(h:ax d s a w ι){xs:Array Operand}{l:List AV}(m:bJ s xs.toList=some l)(n:bS [] l=true){b:List AV}{ys:b5}(o:b.length=ys.length)
  (p:∀(i:Nat) (c:AV) (y:Value),b[i]?=some c→ys[i]?=some y→Rel (NN d.M ι) w aG c y):nb (NN d.M ι) w (l.map dA++b) (xs.map a.eval++ys.toArray):=by
 have f:=td h m n;have e:=f.1;refine⟨by simp at e⊢;omega,fun i v y g j=>?_⟩;by_cases k:i<(l.map dA).length
 ·rw[og k]at g;rw[zO (by grind)]at j;exact f.2 i v y g j
 grind
theorem sY{g:Cx}{Q:Exit→Act→World→Prop}{D:List aw}{s:AS}{j:Array Oper}{o:Oper}{r:List Oper}{c:Call}{C:Operand}{f:FuncId}{d l:List AV}{B:AV→AS→Prop}
  (G:aF g.P f (l.map dA++d) B)
  (J:o.guard=none) (N:o.op=.call c) (m:c.callee=.value C) (I:s.ev C=some (.fn f d)) (u:bW g.P f=true) (H:cc g.n o.dst=true) (M:bJ s c.args.toList=some l) (O:bS [] l=true)
  (k:∀v A,B v A→v.bu []=true∧OT g Q D j r (s.put o.dst v)):OT g Q D j (o::r) s:=fun a w ι n=>by
 refine A2 J fun K F=>?_;refine cL ?_;obtain⟨ys,z,q,t⟩:=jC n N m I u;rw[z,kb];refine (G (NN g.M ι) w _ (fun b p=>hZ n.hs p) (kw n M O q t)).mono ?_
 rintro e S ⟨x,v,A,T,rfl,P,y,R⟩
 obtain⟨i,L⟩:=k v A P;have E:Rel (NN g.M ι) S ι v x:=(R.pure i ι).mono (io _) (fun b _ p=>.inl p) (fun _ _ _=>rfl) (fun _ _ h=>h);exact F _ _ (L _ _ _ ((n.en y.below.plain).put (lS H) E))
theorem vL{e}{Q}{i}{s}{d}{o}{r}{c}{g}{f}{b l a}{V}
  (n:aF e.P f a (fun v _=>v=V))
  (t:o.guard=none) (w:o.op=.call c) (h:c.callee=.value g) (q:s.ev g=some (.fn f b)) (j:bW e.P f=true) (p:cc e.n o.dst=true) (u:bJ s c.args.toList=some l) (m:l.map dA++b=a) (x:bS [] l=true)
  (y:V.bu []=true) (k:OT e Q i d r (s.put o.dst V)):OT e Q i d (o::r) s :=by grind[sY]
end Go.Proofs.Ytkciiamllegclaa
namespace Go.Proofs.Ytkciiamllegclaa
set_option linter.all false
variable[ZX]
open Go.RowKit
variable[FM]
section
variable{a:Cx}{Q:Exit→Act→World→Prop}{c:List aw}{s:AS}
theorem k9{e:Array Oper}{o f}{r}{j d:Nat}{b}(h:o.guard=some (j,b))(i:e.toList[j]?=some f)(g:f.dst=some d)(l:look d s.t=some (.bool b))(k:OT a Q c e ({ o with guard:=none }::r) s):OT a Q c e (o::r) s :=by grind[yG]
end
end Go.Proofs.Ytkciiamllegclaa
namespace Go.Proofs.Ytkciiamllegclaa
set_option linter.all false
variable[ZX]
open Go.RowKit
variable[FM]
mutual
def AV.aO(id:Nat)(l:List (List AV)):AV→AV
 | .ref i=>if i=id then .sl l else .ref i
 | .eptr i sz j off=>if i=id then .any else .eptr i sz j off
 | .sref i sz off m=>if i=id then .any else .sref i sz off m
 | .ptr i off=>if i=id then .any else .ptr i off
 | .pp i g off=>if i=id then .any else .pp i g off
 | .sit i g s p=>if i=id then .any else .sit i g s p
 | .adr g off=>.adr g off
 | .agg a=>.agg (dm id l a)
 | .tup a=>.tup (dm id l a)
 | .int k n=>.int k n
 | .bool b=>.bool b
 | .str s=>.str s
 | .nils=>.nils
 | .sl m=>.sl m
 | .nilm=>.nilm
 | .mref _ _=>.any
 | .omp m=>.omp m
 | .osl e sz l=>.osl e sz l
 | .vv x=>.vv x
 | .lk i x=>if i=id then .any else .lk i x
 | .fn f c=>.fn f c
 | .fno f c=>.fno f (dm id l c)
 | .nilf=>.nilf
 | .nilp=>.nilp
 | .cptr a=>.cptr a
 | .any=>.any
def dm(id:Nat)(l:List (List AV)):List AV→List AV
 | []=>[]
 | c::r=>c.aO id l::dm id l r
end
theorem iV{id}{m}:∀{l} {i:Nat} {x},(dm id m l)[i]?=some x→∃y,l[i]?=some y∧x=y.aO id m
 | [],i,x,h=>by grind[dm]
 | c::r,0,x,h=>by grind[dm]
 | c::r,i+1,x,h=>by simp[dm]at h;obtain⟨y,a,b⟩:=iV h;grind
theorem jp{id}{m}:∀l,(dm id m l).length=l.length
 | []=>rfl
 | c::r=>by simp[dm,jp r]
theorem Rel.aO{N N':Nat→Prop}{w:World}{ι:Env}{v:AV}{x:Value}(h:Rel N w ι v x){id:Nat}{m:List (List AV)}{ι':Env}(M:∀b,N' b→N b):
  (∀i,i≠id→ι' i=ι i)→(∀A n c,ι id=some (.slice A n c)→Rel N' w ι' (.sl m) (.slice A n c))→Rel N' w ι' (v.aO id m) x:=by
 have Q:∀{u:AV} {y:Value},Rel N w aG u y→Rel N' w aG u y:=fun X=>X.mono (io _) (fun b _ E=>M b E) (fun _ _ _=>rfl) (fun _ _ h=>h)
 induction h with
 | int ι k n=>intro _ _;simp only[AV.aO];exact .int _ _ _
 | bool ι b=>intro _ _;simp only[AV.aO];exact .bool _ _
 | str ι s=>intro _ _;simp only[AV.aO];exact .str _ _
 | nils ι=>intro _ _;simp only[AV.aO];exact .nils _
 | nilm ι=>intro _ _;simp only[AV.aO];exact .nilm _
 | mref ι i q r v h R=>intro _ _;simp only[AV.aO];exact .any _ _ rfl
 | sl0 ι A c T=>intro _ _;simp only[AV.aO];exact .sl0 _ _ _ T
 | sl ι l b o c sz H Y E J p P C I D=>intro _ _;simp only[AV.aO];exact .sl _ l b o c sz H Y E (fun h=>J (M b h)) p P (fun j e V i x t=>Q (C j e V i x t)) I
 | fn ι f z ys F C D=>intro _ _;simp only[AV.aO];exact .fn _ f z ys F (fun i c y p R=>Q (C i c y p R))
 | fno ι f z ys F C D =>
  intro d G;simp only[AV.aO];exact .fno _ _ _ ys (by rw[jp];exact F) (fun i x v t K=>by
   obtain⟨y,L,rfl⟩:=iV t;exact D i y v L K d G)
 | nilf ι=>intro _ _;simp only[AV.aO];exact .nilf _
 | nilp ι=>intro _ _;simp only[AV.aO];exact .nilp _
 | any ι x h=>intro _ _;simp only[AV.aO];exact .any _ _ h
 | ptr ι i off g h =>
  intro d _;simp only[AV.aO];split
  ·exact .any _ _ rfl
  ·rename_i a;exact .ptr _ _ _ _ ((d i a).trans h)
 | eptr ι i sz j off g n c h =>
  intro d _;simp only[AV.aO];split
  ·exact .any _ _ rfl
  ·rename_i a;exact .eptr _ _ _ _ _ _ n c ((d i a).trans h)
 | sref ι i sz off m n c S A B h U =>
  intro d _;simp only[AV.aO];split
  ·exact .any _ _ rfl
  ·rename_i a;exact .sref _ _ _ _ _ n c S A B ((d i a).trans h) U
 | adr ι g off=>intro _ _;simp only[AV.aO];exact .adr _ _ _
 | vv ι x h=>intro _ _;simp only[AV.aO];exact .vv _ _ h
 | lk ι i v x h p =>
  intro d _;simp only[AV.aO];split
  ·exact .any _ _ p
  ·rename_i a;exact .lk _ _ _ _ ((d i a).trans h) p
 | pp ι i g off h =>
  intro d _;simp only[AV.aO];split
  ·exact .any _ _ rfl
  ·rename_i a;exact .pp _ _ _ _ ((d i a).trans h)
 | sit ι i g s Z h W J E =>
  intro d _;simp only[AV.aO];split
  ·exact .any _ _ rfl
  ·rename_i a;exact .sit _ _ _ _ _ ((d i a).trans h) W (fun h=>J (M g h)) E
 | cptr ι O b o H E J p P C D=>intro _ _;simp only[AV.aO];exact .cptr _ O b o H E (fun h=>J (M b h)) p P (fun i x t=>Q (C i x t))
 | ref ι i A n c h =>
  intro d G;simp only[AV.aO];split
  ·rename_i e;subst e;exact G _ _ _ h
  ·rename_i a;exact .ref _ _ _ _ _ ((d i a).trans h)
 | agg ι O vs F p C D =>
  intro d G;simp only[AV.aO];exact .agg _ _ vs (by rw[jp];exact F) p (fun i x v t K=>by
   obtain⟨y,L,rfl⟩:=iV t;exact D i y v L K d G)
 | tup ι O vs F C D =>
  intro d G;simp only[AV.aO];exact .tup _ _ vs (by rw[jp];exact F) (fun i x v t K=>by
   obtain⟨y,L,rfl⟩:=iV t;exact D i y v L K d G)
theorem Cells.aO{N N'}{w}{ι ι'}{a}{vs}(h:Cells N w ι a vs){id}{m}(d:∀b,N' b→N b)
  (k:∀i,i≠id→ι' i=ι i) (e:∀A n c,ι id=some (.slice A n c)→Rel N' w ι' (.sl m) (.slice A n c)):Cells N' w ι' (dm id m a) vs :=
 ⟨by rw[jp];exact h.len,h.one,fun i x v g f=>by
  obtain⟨y,j,rfl⟩:=iV g;exact(h.rel i y v j f).aO d k e⟩
def kC(id:Nat)(m:List (List AV)):List (Nat×AV)→List (Nat×AV)
 | []=>[]
 | (k,v)::r=>(k,v.aO id m)::kC id m r
def ld(id:Nat)(m:List (List AV)):List (Nat×List AV)→List (Nat×List AV)
 | []=>[]
 | (k,v)::r=>(k,dm id m v)::ld id m r
theorem rT{id}{m}:∀{l} {k} {v},look k (kC id m l)=some v→∃u,look k l=some u∧v=u.aO id m
 | [],k,v,h=>by cases h
 | (j,x)::r,k,v,h=>by
  simp only[kC,look]at h⊢;split at h
  ·grind
  ·rename_i e;rw[o9 e];exact rT h
theorem mP{id}{m}:∀{l} {k} {v},look k (ld id m l)=some v→∃u,look k l=some u∧v=dm id m u
 | [],k,v,h=>by cases h
 | (j,x)::r,k,v,h=>by
  simp only[ld,look]at h⊢;split at h
  ·grind
  ·rename_i e;rw[o9 e];exact mP h
def AS.aO(s:AS)(id:Nat)(l:List (List AV)):AS:=⟨kC id l s.t,ld id l s.o,s.r,s.u⟩
def dP(ι:Env)(id:Nat):Env:=fun i=>if i=id then none else ι i
theorem eO ι{id i}(h:i≠id):dP ι id i=ι i:=by grind[dP]
theorem mY{ι}{id i}{y}(h:dP ι id i=some y):i≠id∧ι i=some y:=by
 grind[dP]
theorem j8{ι}{id i g}(h:bq (dP ι id i)=some g):i≠id∧bq (ι i)=some g:=by
 unfold dP at h;split at h
 ·cases h
 grind
theorem iL{M}{ι}{id}:∀b,NN M (dP ι id) b→NN M ι b:=fun b a=>by
 rcases a with a|⟨i,a⟩
 ·exact .inl a
 ·exact .inr ⟨i,(j8 a).2⟩
theorem HS.qg{M}{g}{w}{ι}{s}(h:HS M g w ι s){k id}{r}{ar}(d:look id s.r=some ar)(f:ι k=some (.map r)):k≠id:=fun e=>by
 subst e;obtain⟨v,xs,a,c,_⟩:=h.dL k ar d (by grind);rw[f]at a;injection a with a;subst a
 rcases c.2 with⟨b,_⟩|⟨_,_,_,b,_⟩<;>cases b
theorem HS.gT{M:Nat→Prop}{P:aC}{w:World}{ι:Env}{s:AS}(h:HS M P w ι s){id:Nat}(O:id<TG){ar:bw}(I:look id s.r=some ar)(A:Option Addr)(n c:Nat)(d:ι id=some (.slice A n c))(ι':Env):
  Rel (NN M (dP ι id)) w ι' (.sl ar.l) (.slice A n c):=by
 obtain⟨v,xs,f,⟨E,H⟩,F,G,B⟩:=h.arrz id ar I (by rw[d];rfl);rw[d]at f;injection f with f;subst f
 obtain⟨Q,z|⟨g,cap,k,J,C,q,K,D,N,u⟩⟩:=E
 ·obtain⟨z,r⟩:=z;injection z with l m o;subst m
  have:ar.l=[]:=iF r;rw[this];exact .sl0 _ _ _ (.inr ⟨l,o⟩)
 ·injection J with l m o;subst l m o
  refine .sl _ ar.l g 0 _ ar.sz (fun j i=>(xs[j*ar.sz+i]?).getD (.bool true)) F ?_ (fun a=>?_) (fun j i=>?_) (fun j e p i x y=>?_) (fun j e p i x y=>?_) ⟨K,H⟩
  ·exact(h.own id g (by rw[d];rfl)).2
  ·rcases a with a|⟨i,a⟩
   ·exact h.sep a (by rw[d];rfl)
   ·obtain⟨t,a⟩:=j8 a;exact t (h.inj i id g a (by rw[d];rfl))
  ·cases e:xs[j*ar.sz+i]? with
   | none=>rfl
   | some v=>exact G v (h6 e)
  ·obtain⟨v,d,_⟩:=B j e p i x y;rw[zN _ _ _ _ ar.e (0,0) q];have:k.toList[j*ar.sz+i]?=some v:=by
    rw[←u]at d;rw[sp]at d;split at d
    ·exact d
    ·cases d
   simp only[d,v7];rw[←v5,u3];exact this
  ·obtain⟨v,d,L⟩:=B j e p i x y;simp only[d,v7];exact(L.flat (by omega)).mono (io _) (fun b _ C=>iL b C) (fun _ _ _=>rfl) (fun _ _ h=>h)
theorem HS.aO{M:Nat→Prop}{E:aC}{w:World}{ι:Env}{s:AS}(h:HS M E w ι s){id:Nat}(C:id<TG){ar:bw}(G:look id s.r=some ar)(B:E.pv id=none):HS M E w (dP ι id) (s.aO id ar.l):=by
 refine⟨h.below,h.old,fun i y l=>h.use i y (mY l).2,fun i g t=>h.own i g (j8 t).2,fun i R g t z=>h.inj i R g (j8 t).2 (j8 z).2,fun i H m=>?_,h.kr,fun i H m d=>?_,fun i a m d=>?_,fun i y d=>(by
  have e:i≠id:=fun e=>by subst e;rw[B]at d;cases d
  exact⟨(eO ι e).trans (h.pin i y d).1,(h.pin i y d).2⟩)⟩
 ·obtain⟨u,D,_⟩:=mP m;exact h.ko i u D
 ·obtain⟨u,D,rfl⟩:=mP m;obtain⟨y,l⟩:=uq d;obtain⟨f,l⟩:=mY l;obtain⟨g,T,vs,o,p,q⟩:=h.objs i u D (by rw[eO ι f]at d;exact d);exact⟨g,T,vs,(eO ι f).trans o,p,q.aO iL (fun _ h=>eO ι h) (fun A n c P=>h.gT C G A n c P _)⟩
 ·obtain⟨y,l⟩:=Option.isSome_iff_exists.mp d;obtain⟨f,l⟩:=mY l;obtain⟨v,xs,o,p,q,I,J⟩:=h.arrz i a m (by rw[l];rfl);refine⟨v,xs,(eO ι f).trans o,p,q,I,fun j e N k c L=>?_⟩;obtain⟨x,Q,O⟩:=J j e N k c L;exact⟨x,Q,O.mono (io _) (fun b _ K=>iL b K) (fun _ _ _=>rfl) (fun r F=>(eO ι (h.qg G F)).trans F) (fun _ _=>rfl) (fun h=>h)⟩
section
variable{f:Cx}{Q:Exit→Act→World→Prop}{o:List aw}{s:AS}
theorem ax.aO{a}{w}{ι}(h:ax f s a w ι){id}(b:id<TG){ar}(e:look id s.r=some ar)(d:f.w0.pv id=none):ax f (s.aO id ar.l) a w (dP ι id) :=
 ⟨h.hs.aO b e d,h.dfr,h.n,fun k v g=>by
  obtain⟨u,j,rfl⟩:=rT g;obtain⟨x,m,i⟩:=h.tmp k u j;exact⟨x,m,i.aO iL (fun _ h=>eO ι h) (fun A n c l=>h.hs.gT b e A n c l _)⟩⟩
theorem yi{e} id{ar}(c:id<TG)(g:look id s.r=some ar)(b:s.u.contains (co id)=false)(h:VE f Q o e (s.aO id ar.l)):VE f Q o e s:=fun a w ι d=>h a w _ (d.aO c g (d.hs.np b))
theorem ul{b}{l} id{ar}(d:id<TG)(g:look id s.r=some ar)(c:s.u.contains (co id)=false)(h:OT f Q o b l (s.aO id ar.l)):OT f Q o b l s:=fun a w ι e=>h a w _ (e.aO d g (e.hs.np c))
theorem ax.own{a:Act}{w:World}{ι:Env}(h:ax f s a w ι){d k:Nat}(e:TypeId)(sz:Nat)(m:has s.u d=false)(p:look k s.t=some .nils):
  ax f ⟨aD k (.ref d) s.t,s.o,aD d ⟨e,sz,[]⟩ s.r,d::s.u⟩ a w (ext ι d (.slice none 0 0)):=by
 obtain⟨c,n⟩:=h.hs.nil m e sz;have q:=h.hs.free m;refine⟨⟨c.below,c.old,c.use,c.own,c.inj,c.ko,c.kr,c.objs,c.arrz,c.pin⟩,h.dfr,h.n,fun j v g=>?_⟩;simp only[bz]at g;split at g
 ·rename_i e;subst e;injection g with g;subst g
  obtain⟨x,l,i⟩:=h.tmp j _ p;cases i;exact⟨_,l,.ref _ _ _ _ _ (bA _ _ _)⟩
 ·obtain⟨x,l,i⟩:=h.tmp j v g;exact⟨x,l,i.mono (io _) (fun b _ o=>n b o) (fun _ _ _=>rfl) (cz q _)⟩
theorem tP{e} d k b sz(c:has s.u d=false)(g:look k s.t=some .nils)(h:VE f Q o e ⟨aD k (.ref d) s.t,s.o,aD d ⟨b,sz,[]⟩ s.r,d::s.u⟩):VE f Q o e s:=fun a w ι i=>h a w _ (i.own b sz c g)
theorem ax.yu{a:Act}{w:World}{ι:Env}(h:ax f s a w ι){d i n:Nat}{p:List AV}(e:TypeId)(sz:Nat)(t:has s.u d=false)(u:look i s.o=some p)(E:p[n]?=some .nils):
  ax f ⟨s.t,aD i (p.set n (.ref d)) s.o,aD d ⟨e,sz,[]⟩ s.r,d::s.u⟩ a w (ext ι d (.slice none 0 0)):=by
 obtain⟨k,C⟩:=h.hs.nil t e sz;have F:=h.hs.free t;refine⟨⟨k.below,k.old,k.use,k.own,k.inj,fun j c l=>?_,k.kr,fun j c l y=>?_,k.arrz,k.pin⟩,h.dfr,h.n,fun j v l=>?_⟩
 ·simp only[bz]at l;split at l
  ·rename_i e;subst e;exact k.ko j p u
  ·exact k.ko j c l
 ·simp only[bz]at l;split at l
  ·rename_i e;subst e;injection l with l;subst l
   obtain⟨g,T,vs,A,B,q⟩:=k.objs j p u y;refine⟨g,T,vs,A,B,⟨by rw[Av];exact q.len,q.one,fun m x v o z=>?_⟩⟩;rw[AJ]at o;split at o
   ·rename_i e;subst e;split at o
    ·injection o with o;subst o
     have r:=q.rel n .nils v E z;cases r;exact .ref _ _ _ _ _ (bA _ _ _)
    ·cases o
   ·exact q.rel m x v o z
  ·exact k.objs j c l y
 ·obtain⟨x,o,r⟩:=h.tmp j v l;exact⟨x,o,r.mono (io _) (fun b _ D=>C b D) (fun _ _ _=>rfl) (cz F _)⟩
theorem vi{e} d i n c sz{b}(g:has s.u d=false)(j:look i s.o=some b)(k:b[n]?=some .nils)(h:VE f Q o e ⟨s.t,aD i (b.set n (.ref d)) s.o,aD d ⟨c,sz,[]⟩ s.r,d::s.u⟩):VE f Q o e s:=fun a w ι l=>h a w _ (l.yu c sz g j k)
end
end Go.Proofs.Ytkciiamllegclaa
