/- Abstract values and abstract memory: what a run holds, said without addresses. A value, its reading in a world, what keeps a reading. No program in sight. -/
import Derived.WalkKit
import Derived.ProofKit
import Derived.OpenShut
import Derived.WalkLawsBesides
import Derived.Deep.MidRow
import Derived.Laws.CopyRow
import Derived.Deep.AppendLies
import Derived.Deep.LoopGhost
import Derived.Lib.Hide
import Derived.Laws.Tables
import Derived.Great.BuildSlice
import Derived.Laws.StructEq
import Derived.Laws.Concat
import Derived.Laws.Cover4
import Derived.Laws.Runes
import Derived.Laws.AppendOwn
import Derived.LoopN
import Derived.TacticsIn
import Derived.LoopNIn
import Derived.OrdersIn
namespace Go.Proofs.YtocgkfoifehcbaaGreat
set_option linter.all false
open Go.RowKit
abbrev b5:=List Int
abbrev d4:=List Nat
abbrev d5:=List Value
abbrev eb:=Int×Int
abbrev ed:=Nat×Nat
def go:=@Option.bind_some
def g6:=@Bool.and_eq_true
def g7:=@List.getElem?_eq_some_iff
def hF:=@Nat.le_of_ble_eq_true
def hH:=@Bool.false_eq_true
def h6:=@List.getElem?_eq_getElem
def h7:=@Nat.le_refl
def h8:=@Array.getElem?_eq_getElem
def il:=@of_decide_eq_true
def io:=@if_neg
def iF:=@if_pos
def iN:=@List.length_cons
def iO:=@Nat.eq_of_beq_eq_true
def jt:=@List.mem_of_getElem?
def kb:=@List.mem_append
def kc:=@List.length_append
def la:=@List.drop_eq_nil_of_le
def lc:=@Array.getElem?_eq_some_iff
def ll:=@List.all_eq_true
def lp:=@List.length_map
def ls:=@run_underlying
def l3:=@List.mem_cons
def mm:=@Below.heap_alloc
def ne:=@List.eq_nil_of_length_eq_zero
def nk:=@List.mem_of_mem_take
def nx:=@Nat.lt_of_lt_of_le
def n3:=@Nat.zero_le
def n4:=@Sem.run_bind
def n5:=@List.map_cons
def ob:=@decide_eq_true_eq
def oR:=@Nat.le_trans
def pe:=@List.mem_cons_self
def pt:=@Result.andThen_ok
def qk:=@Array.getD_eq_getD_getElem?
def qv:=@Option.some.injEq
def ro:=@List.length_nil
def rv:=@if_false
def sj:=@List.getElem_mem
def th:=@List.getElem?_map
def tl:=@List.mem_of_mem_drop
def u4:=@Prod.mk.injEq
def u5:=@List.getElem?_take
def u6:=@List.mem_map
def u7:=@List.map_nil
def v9:=@wpListIn_plain
def wl:=@if_true
def w3:=@List.getElem?_append_right
def yd:=@Option.isSome_iff_exists
def ye:=@Nat.mul_le_mul_right
def yk:=@Array.length_toList
def yw:=@List.getElem?_append_left
def z5:=@Nat.zero_add
def An:=@Array.getElem?_append_left
def By:=@Sem.run_pure
def Dj:=@List.length_take
def Dk:=@List.take_of_length_le
def Dy:=@List.nil_append
def Dz:=@Array.mem_toList_iff
def DO:=@Option.getD_some
def If:=@Option.map_some
def In:=@Classical.byContradiction
def IT:=@List.take_succ_eq_append_getElem
def Qf:=@List.getElem?_drop
def Ts:=@Bool.not_true
def T4:=@List.mem_range
def aas:=@Array.getElem?_toList
def aaC:=@Array.toArray_toList
def ac6:=@Nat.add_mul
def af0:=@Addr.add_mid
def agQ:=@Array.toList_map
def ah0:=@List.length_drop
def aix:=@Nat.add_zero
def aiE:=@Nat.sub_zero
def ajT:=@Nat.ble_eq_true_of_le
def alQ:=@beq_iff_eq
def alR:=@List.take_length
def alS:=@Array.toList_inj
def alV:=@List.ext_getElem?
def alW:=@List.length_set
def alY:=@IntKind.wrap_i64
def al4:=@Nat.one_mul
def al5:=@List.mem_or_eq_of_mem_set
def al6:=@List.getElem?_replicate
def amc:=@Nat.add_sub_cancel
def amd:=@List.foldl_cons
def amf:=@List.getElem?_set
def amg:=@List.getElem?_of_mem
def amh:=@List.exists_mem_of_ne_nil
def amm:=@cell_of_row
def amr:=@Nat.mul_comm
def ams:=@Nat.add_assoc
def amy:=@calls_of_wp
def amC:=@List.take_append_of_le_length
def amD:=@Nat.mod_eq_of_lt
def amL:=@Bool.true_and
def amP:=@Array.map_empty
def amZ:=@Array.toList_setIfInBounds
def am5:=@heap_alloc_new
def am6:=@List.drop_drop
def am9:=@List.size_toArray
def ana:=@List.set_eq_of_length_le
def anb:=@run_equalIn_bool'
def anj:=@Nat.mul_one
def ank:=@Nat.div_eq_of_lt
def anl:=@List.map_toArray
def anm:=@List.head?_eq_getElem?
def anI:=@Below.refl
def anJ:=@Int.mul_comm
def anK:=@callsIn_wide
def anM:=@setRow_heap
class FM where
 l:Option Nat
 ds:List Deferred
instance(priority:=10) fm0:FM:=⟨none,[]⟩
variable[FM]
inductive AV where
 | int (k:IntKind) (n:Int)
 | bool (b:Bool)
 | str (s:ByteArray)
 | nils
 | sl (l:List (List AV))
 | fn (f:FuncId) (aV:List AV)
 | fno (f:FuncId) (aV:List AV)
 | nilf
 | nilp
 | ptr (id off:Nat)
 | eptr (id sz j off:Nat)
 | sref (id sz off m:Nat)
 | cptr (cs:List AV)
 | adr (g off:Nat)
 | pp (id g off:Nat)
 | sit (id g:Nat) (s:ByteArray) (pos:Nat)
 | ref (id:Nat)
 | nilm
 | mref (id q:Nat)
 | omp (m:Option (List (Int×Bool)))
 | osl (e:TypeId) (sz:Nat) (l:List (List AV))
 | vv (x:Value)
 | lk (id:Nat) (x:Value)
 | agg (cs:List AV)
 | tup (vs:List AV)
 | any
instance:Inhabited AV:=⟨.nilp⟩
abbrev Env:=Nat→Option Value
def bA:Env:=fun _=>none
def eA:Nat:=1000000000
def has(u:d4)(d:Nat):Bool:=u.contains d||Nat.ble eA d
theorem fJ{u}{d}(h:u.contains d=true):has u d=true:=by grind[has]
theorem ahc{u}{d}(h:has u d=true):u.contains d=true∨eA≤d:=by
 simp_all[has]
def nm(id q:Nat):Nat:=eA+2 ^ id*(2*q+1)
theorem RF:∀{a b j k},2 ^ a*(2*j+1)=2 ^ b*(2*k+1)→a=b∧j=k
 | 0,0,j,k,h=>by omega
 | 0,b+1,j,k,h=>by
  grind
 | a+1,0,j,k,h=>by
  grind
 | a+1,b+1,j,k,h=>by
  rw[Nat.pow_succ,amr (2 ^ a) 2,Nat.mul_assoc,Nat.pow_succ,amr (2 ^ b) 2,Nat.mul_assoc]at h;have:=RF (Nat.eq_of_mul_eq_mul_left (by omega) h);omega
theorem OP{a b j k}(h:nm a j=nm b k):a=b∧j=k:=RF (by grind[nm])
theorem QW u id q:has u (nm id q)=true:=by
 simp_all[has,nm]
def TG:Nat:=500000
def bg:Option Value→Option Nat
 | some (.pointer (some a))=>some a.block
 | some (.slice (some a) _ _)=>some a.block
 | some (.map (some r))=>some r
 | _=>none
inductive Rel (N:Nat→Prop) (w:World):Env→AV→Value→Prop
 | int (ι:Env) (k:IntKind) (n:Int):Rel N w ι (.int k n) (.int k n)
 | bool (ι b):Rel N w ι (.bool b) (.bool b)
 | str (ι s):Rel N w ι (.str s) (.string s)
 | nils (ι):Rel N w ι .nils (.slice none 0 0)
 | sl0 (ι A c):Rel N w ι (.sl []) (.slice A 0 c)
 | sl (ι:Env) (l:List (List AV)) (b o c sz:Nat) (val:Nat→Nat→Value) (hz:∀e∈l,e.length=sz) (hb:b<w.heap.size) (hN:¬ N b)
   (h1:∀j i,(val j i).oneCell'=true)
   (hc:∀(j:Nat) (e:List AV),l[j]?=some e→∀(i:Nat) (x:AV),e[i]?=some x→w.cell? ⟨b,o+j*sz+i,none⟩=some (val j i))
   (hr:∀(j:Nat) (e:List AV),l[j]?=some e→∀(i:Nat) (x:AV),e[i]?=some x→Rel N w bA x (val j i)) (hcap:l.length≤c):Rel N w ι (.sl l) (.slice (some ⟨b,o,none⟩) l.length c)
 | fn (ι:Env) (f:FuncId) (aV:List AV) (ys:d5) (hl:aV.length=ys.length) (hr:∀(i:Nat) (c:AV) (y:Value),aV[i]?=some c→ys[i]?=some y→Rel N w bA c y):Rel N w ι (.fn f aV) (.func (.func f) #[] ys.toArray)
 | fno (ι:Env) (f:FuncId) (aV:List AV) (ys:d5) (hl:aV.length=ys.length) (hr:∀(i:Nat) (c:AV) (y:Value),aV[i]?=some c→ys[i]?=some y→Rel N w ι c y):Rel N w ι (.fno f aV) (.func (.func f) #[] ys.toArray)
 | nilf (ι):Rel N w ι .nilf .nilFunc
 | nilp (ι):Rel N w ι .nilp (.pointer none)
 | any (ι:Env) (x:Value) (h:x.oneCell'=true):Rel N w ι .any x
 | ptr (ι:Env) (id off g:Nat) (h:ι id=some (.pointer (some ⟨g,0,none⟩))):Rel N w ι (.ptr id off) (.pointer (some ⟨g,off,none⟩))
 | eptr (ι:Env) (id sz j off g n c:Nat) (h:ι id=some (.slice (some ⟨g,0,none⟩) n c)):Rel N w ι (.eptr id sz j off) (.pointer (some ⟨g,j*sz+off,none⟩))
 | sref (ι:Env) (id sz off m n c c':Nat) (A B:Option Addr) (h:ι id=some (.slice A n c)) (hB:m=0∨∃g,A=some ⟨g,0,none⟩∧B=some ⟨g,off*sz,none⟩∧m≤c'∧c'+off=c):Rel N w ι (.sref id sz off m) (.slice B m c')
 | cptr (ι:Env) (cs:List AV) (b o:Nat) (val:Nat→Value) (hb:b<w.heap.size) (hN:¬ N b) (h1:∀i,(val i).oneCell'=true)
   (hc:∀(i:Nat) (x:AV),cs[i]?=some x→w.cell? ⟨b,o+i,none⟩=some (val i))
   (hr:∀(i:Nat) (x:AV),cs[i]?=some x→Rel N w bA x (val i)):Rel N w ι (.cptr cs) (.pointer (some ⟨b,o,none⟩))
 | adr (ι:Env) (g off:Nat):Rel N w ι (.adr g off) (.pointer (some ⟨g,off,none⟩))
 | pp (ι:Env) (id g off:Nat) (h:ι id=some (.pointer (some ⟨g,0,none⟩))):Rel N w ι (.pp id g off) (.pointer (some ⟨g,off,none⟩))
 | sit (ι:Env) (id g:Nat) (s:ByteArray) (pos:Nat) (h:ι id=some (.int .u64 (g:Nat))) (hg:g<w.heap.size) (hn:¬ N g) (hb:w.heap[g]?=some (.stringIter s pos)):Rel N w ι (.sit id g s pos) (.pointer (some ⟨g,0,none⟩))
 | ref (ι:Env) (id:Nat) A n c (h:ι id=some (.slice A n c)):Rel N w ι (.ref id) (.slice A n c)
 | nilm (ι):Rel N w ι .nilm (.map none)
 | vv ι x (h:x.oneCell'=true):Rel N w ι (.vv x) x
 | lk ι id v x (h:ι id=some v) (h1:x.oneCell'=true):Rel N w ι (.lk id v) x
 | mref ι id q r v (h:ι (nm id q)=some (.map r)) (h2:ι id=some v):Rel N w ι (.mref id q) (.map r)
 | agg ι cs (vs:d5) (hl:cs.length=vs.length) (h1:∀v∈vs,v.oneCell'=true)
   (hr:∀(i:Nat) (x:AV) (v:Value),cs[i]?=some x→vs[i]?=some v→Rel N w ι x v):Rel N w ι (.agg cs) (.agg vs.toArray)
 | tup ι cs (vs:d5) (hl:cs.length=vs.length)
   (hr:∀(i:Nat) (x:AV) (v:Value),cs[i]?=some x→vs[i]?=some v→Rel N w ι x v):Rel N w ι (.tup cs) (.tuple vs.toArray)
structure Cells N w ι(cs:List AV)(vs:d5):Prop where
 len:cs.length=vs.length
 one:∀v∈vs,v.oneCell'=true
 rel:∀(i:Nat) x v,cs[i]?=some x→vs[i]?=some v→Rel N w ι x v
theorem Gj{w w':World}{b o}(h:w'.heap[b]?=w.heap[b]?):w'.cell? ⟨b,o,none⟩=w.cell? ⟨b,o,none⟩:=World.cell?_of_block (w:=w) (a:=⟨b,o,none⟩) h
theorem Rel.mono{N N':Nat→Prop}{w w':World}{ι:Env}{v:AV}{x:Value}(h:Rel N w ι v x)(R:w.heap.size≤w'.heap.size)
  (H:∀b,b<w.heap.size→N' b→N b) (M:∀b,b<w.heap.size→¬ N b→w'.heap[b]?=w.heap[b]?) :
  ∀{ι':Env},(∀id y,ι id=some y→ι' id=some y)→Rel N' w' ι' v x:=by
 induction h with
 | int ι k n=>intro ι' _;exact .int _ _ _
 | bool ι b=>intro ι' _;exact .bool _ _
 | str ι s=>intro ι' _;exact .str _ _
 | nils ι=>intro ι' _;exact .nils _
 | sl0 ι A c=>intro ι' _;exact .sl0 _ _ _
 | sl ι l b o c sz D S z u d I G F t =>
  intro ι' _;exact .sl ι' l b o c sz D S (by omega) (fun h=>u (H b z h)) d (fun j e J i x p=>(Gj (M b z u)).trans (I j e J i x p)) (fun j e J i x p=>t j e J i x p (fun _ _ h=>h)) F
 | fn ι f aV O C G t=>intro ι' _;exact .fn _ f aV O C (fun i c y d E=>t i c y d E (fun _ _ h=>h))
 | fno ι f aV O C G t=>intro ι' a;exact .fno ι' f aV O C (fun i c y d E=>t i c y d E a)
 | nilf ι=>intro ι' _;exact .nilf _
 | nilp ι=>intro ι' _;exact .nilp _
 | any ι x h=>intro ι' _;exact .any _ _ h
 | ptr ι id off g h=>intro ι' a;exact .ptr _ _ _ _ (a _ _ h)
 | eptr ι id sz j off g n c h=>intro ι' a;exact .eptr _ _ _ _ _ _ n c (a _ _ h)
 | sref ι id sz off m n c P A B h Q=>intro ι' a;exact .sref _ _ _ _ _ n c P A B (a _ _ h) Q
 | cptr ι cs b o D z u d I G t =>
  intro ι' _;exact .cptr ι' cs b o D (by omega) (fun h=>u (H b z h)) d (fun i x p=>(Gj (M b z u)).trans (I i x p)) (fun i x p=>t i x p (fun _ _ h=>h))
 | adr ι g off=>intro ι' _;exact .adr _ _ _
 | pp ι id g off h=>intro ι' a;exact .pp _ _ _ _ (a _ _ h)
 | sit ι id g s T h K u z=>intro ι' a;exact .sit _ _ _ _ _ (a _ _ h) (nx K R) (fun h=>u (H g K h)) ((M g K u).trans z)
 | ref ι id A n c h=>intro ι' a;exact .ref _ _ _ _ _ (a _ _ h)
 | nilm ι=>intro ι' _;exact .nilm _
 | vv ι x h=>intro ι' _;exact .vv _ _ h
 | lk ι id v x h d=>intro ι' a;exact .lk _ _ _ _ (a _ _ h) d
 | mref ι id q r v h E=>intro ι' a;exact .mref _ _ _ _ v (a _ _ h) (a _ _ E)
 | agg ι cs vs C d G t=>intro ι' a;exact .agg ι' cs vs C d (fun i x v p L=>t i x v p L a)
 | tup ι cs vs C G t=>intro ι' a;exact .tup ι' cs vs C (fun i x v p L=>t i x v p L a)
theorem Cells.mono{N N'}{w w'}{ι ι'}{cs}{vs}(h:Cells N w ι cs vs)(c:w.heap.size≤w'.heap.size)
  (a:∀b,b<w.heap.size→N' b→N b) (e:∀b,b<w.heap.size→¬ N b→w'.heap[b]?=w.heap[b]?) (g:∀id y,ι id=some y→ι' id=some y):Cells N' w' ι' cs vs :=
 ⟨h.len,h.one,fun i x v f d=>(h.rel i x v f d).mono c a e g⟩
mutual
def AV.dg(u:d4):AV→Bool
 | .ptr id _=>u.contains id
 | .eptr id _ _ _=>u.contains id
 | .sref id _ _ _=>u.contains id
 | .ref id=>u.contains id
 | .lk id _=>u.contains id
 | .mref id q=>u.contains (nm id q)&&u.contains id
 | .pp id _ _=>u.contains id
 | .sit id _ _ _=>u.contains id
 | .agg cs=>ex u cs
 | .tup cs=>ex u cs
 | .fno _ cs=>ex u cs
 | _=>true
def ex(u:d4):List AV→Bool
 | []=>true
 | c::r=>c.dg u&&ex u r
end
theorem mb{u}:∀{l},ex u l=true→∀(i:Nat) x,l[i]?=some x→x.dg u=true
 | [],_,i,x,a=>by grind
 | c::r,h,0,x,a=>by grind[ex]
 | c::r,h,i+1,x,a=>by simp only[ex,g6]at h;exact mb h.2 i x a
theorem Rel.env{N:Nat→Prop}{w:World}{ι:Env}{v:AV}{x:Value}(h:Rel N w ι v x){u:d4}{ι':Env}(d:∀id,u.contains id=true→ι' id=ι id):v.dg u=true→Rel N w ι' v x:=by
 induction h with
 | int ι k n=>intro _;exact .int _ _ _
 | bool ι b=>intro _;exact .bool _ _
 | str ι s=>intro _;exact .str _ _
 | nils ι=>intro _;exact .nils _
 | sl0 ι A c=>intro _;exact .sl0 _ _ _
 | sl ι l b o c sz C R E G t D e F p=>intro _;exact .sl _ l b o c sz C R E G t D e F
 | fn ι f aV K z e p=>intro _;exact .fn _ f aV K z e
 | fno ι f aV K z e p=>intro a;exact .fno _ f aV K z (fun i c y D Q=>p i c y D Q d (mb (by simpa[AV.dg]using a) i c D))
 | nilf ι=>intro _;exact .nilf _
 | nilp ι=>intro _;exact .nilp _
 | any ι x h=>intro _;exact .any _ _ h
 | ptr ι id off g h=>intro a;exact .ptr _ _ _ _ ((d id (by simpa[AV.dg]using a)).trans h)
 | eptr ι id sz j off g n c h=>intro a;exact .eptr _ _ _ _ _ _ n c ((d id (by simpa[AV.dg]using a)).trans h)
 | sref ι id sz off m n c L A B h O=>intro a;exact .sref _ _ _ _ _ n c L A B ((d id (by simpa[AV.dg]using a)).trans h) O
 | cptr ι cs b o C E G t D e p=>intro _;exact .cptr _ cs b o C E G t D e
 | adr ι g off=>intro _;exact .adr _ _ _
 | pp ι id g off h=>intro a;exact .pp _ _ _ _ ((d id (by simpa[AV.dg]using a)).trans h)
 | sit ι id g s S h P G E=>intro a;exact .sit _ _ _ _ _ ((d id (by simpa[AV.dg]using a)).trans h) P G E
 | ref ι id A n c h=>intro a;exact .ref _ _ _ _ _ ((d id (by simpa[AV.dg]using a)).trans h)
 | nilm ι=>intro _;exact .nilm _
 | vv ι x h=>intro _;exact .vv _ _ h
 | lk ι id v x h t=>intro a;exact .lk _ _ _ _ ((d id (by simpa[AV.dg]using a)).trans h) t
 | mref ι id q r v h M=>intro a;have H:=Bool.and_eq_true_iff.1 a;exact .mref _ _ _ _ v ((d _ H.1).trans h) ((d _ H.2).trans M)
 | agg ι cs vs z t e p=>intro a;exact .agg _ cs vs z t (fun i x v I J=>p i x v I J d (mb (by simpa[AV.dg]using a) i x I))
 | tup ι cs vs z e p=>intro a;exact .tup _ cs vs z (fun i x v I J=>p i x v I J d (mb (by simpa[AV.dg]using a) i x I))
theorem Rel.pure{N}{w}{ι}{v}{x}(h:Rel N w ι v x)(b:v.dg []=true) ι':Rel N w ι' v x :=
 h.env (u:=[]) (fun id a=>by grind) b
def AV.Ef:AV→Bool
 | .agg _|.tup _=>false
 | _=>true
theorem Rel.one{N}{w}{ι}{v}{x}(h:Rel N w ι v x)(a:v.Ef=true):x.oneCell'=true:=by
 cases h<;>first|rfl|assumption|grind
def look{α:Type}(k:Nat):List (Nat×α)→Option α
 | []=>none
 | (j,v)::r=>if k=j then some v else look k r
def bj{α:Type}(k:Nat)(v:α):List (Nat×α)→List (Nat×α)
 | []=>[(k,v)]
 | (j,x)::r=>if k=j then (k,v)::r else (j,x)::bj k v r
theorem cp{α} k(v:α):∀l i,look i (bj k v l)=if i=k then some v else look i l
 | [],i=>rfl
 | (j,x)::r,i=>by
  unfold bj;by_cases h:k=j
  ·grind[look]
  ·rw[io h];simp only[look,cp k v r]
   grind
def IZ(w:World)(m:Option (List (Int×Bool)))(x:Value):Prop :=
 match m with
 | none=>x=.map none
 | some l=>∃r b a,x=.map (some r)∧w.heap[r]?=some (.map b a)∧b.toList.map (fun e=>(e.key,e.val))=l.map (fun p=>(Value.int .i64 p.1,Value.bool p.2))
theorem fS{w w':World}{B}{e}{sz}{v}{n}{xs}(h:w.ownsRow B e sz v n xs)(f:∀g,bg (some v)=some g→w'.heap[g]?=w.heap[g]?):w'.ownsRow B e sz v n xs:=by
 refine⟨h.1,?_⟩;rcases h.2 with i|⟨g,a,b,rfl,c,d,r⟩
 ·grind
 ·exact .inr ⟨g,a,b,rfl,c,(f g rfl).trans d,r⟩
def El(N:Nat→Prop)(w:World)(e:TypeId)(sz:Nat)(l:List (List AV))(x:Value):Prop :=
 ∃xs,w.ownsRow 0 e sz x l.length xs∧(∀c∈l,c.length=sz)∧(∀y∈xs,y.oneCell'=true) ∧
  (∀j c,l[j]?=some c→∀i a,c[i]?=some a→∃y,xs[j*sz+i]?=some y∧Rel N w bA a y)
theorem El.mono{N N'}{w w'}{e}{sz}{l}{x}(h:El N w e sz l x)(t:w.heap.size≤w'.heap.size)
  (p:∀b,b<w.heap.size→N' b→N b) (u:∀b,b<w.heap.size→¬ N b→w'.heap[b]?=w.heap[b]?) (q:∀g,bg (some x)=some g→w'.heap[g]?=w.heap[g]?):El N' w' e sz l x:=by
 obtain⟨xs,k,m,n,o⟩:=h;refine⟨xs,fS k q,m,n,fun j c s i a r=>?_⟩;obtain⟨y,d,f⟩:=o j c s i a r;exact⟨y,d,f.mono t p u (fun _ _ h=>h)⟩
def im(N:Nat→Prop)(w:World)(t:Prop)(o:Option Value)(c:AV)(x:Value):Prop :=
 Rel N w bA c x∨(t∧∃m r,c=.omp m∧x=.map r∧o=some x∧IZ w m x)∨(t∧∃e sz l r,c=.osl e sz l∧o=some (.map r)∧bg (some x)=r∧El N w e sz l x)
theorem im.mono{N N':Nat→Prop}{w w':World}{t v:Prop}{o u:Option Value}{c:AV}{x:Value}(h:im N w t o c x)(p:w.heap.size≤w'.heap.size)
  (k:∀b,b<w.heap.size→N' b→N b) (s:∀b,b<w.heap.size→¬ N b→w'.heap[b]?=w.heap[b]?) (n:∀r,o=some (.map r)→u=some (.map r)) (y:∀r,o=some (.map (some r))→w'.heap[r]?=w.heap[r]?) (q:t→v):im N' w' v u c x:=by
 rcases h with h|⟨a,m,r,d,f,i,j⟩|⟨a,e,sz,l,r,d,f,i,j⟩
 ·exact .inl (h.mono p k s (fun _ _ h=>h))
 ·subst f;refine .inr (.inl ⟨q a,m,r,d,rfl,n r i,?_⟩);unfold IZ at j⊢
  grind
 ·exact .inr (.inr ⟨q a,e,sz,l,r,d,n r f,i,j.mono p k s (fun g z=>y g (by grind))⟩)
def AV.Vl:AV→Bool
 | .omp _=>false
 | .osl _ _ _=>false
 | _=>true
def AV.uI:AV→AV
 | .omp _=>.any
 | .osl _ _ _=>.any
 | c=>c
theorem im.uI{N}{w}{t}{o}{c}{x}(h:im N w t o c x)(a:x.oneCell'=true):Rel N w bA c.uI x:=by
 rcases h with h|⟨_,_,_,e,_⟩|⟨_,_,_,_,_,e,_⟩
 ·have:c.uI=c:=by cases h<;>rfl
  grind
 ·subst e;exact .any _ _ a
 ·subst e;exact .any _ _ a
theorem im.ags{N}{w}{t}{o}{c}{x}(h:im N w t o c x)(a:t→c.Vl=true):Rel N w bA c x:=by
 rcases h with h|⟨h,_,_,e,_⟩|⟨h,_,_,_,_,e,_⟩
 ·grind
 ·have:=a h;rw[e]at this;cases this
 ·have:=a h;rw[e]at this;cases this
theorem im.flat{N}{w}{t}{o}{c}{x}(h:im N w t o c x)(a:¬ t):Rel N w bA c x:=by
 rcases h with h|⟨h,_⟩|⟨h,_⟩
 ·grind
 ·grind
 grind
structure bZ where
 e:TypeId
 sz:Nat
 l:List (List AV)
structure AS where
 t:List (Nat×AV)
 o:List (Nat×List AV)
 r:List (Nat×bZ)
 u:d4
def NN(M:Nat→Prop)(ι:Env):Nat→Prop:=fun b=>M b∨∃id,bg (ι id)=some b
structure az where
 w:World
 G:Nat→Prop
 pv:Nat→Option Value
def az.O(b:az)(g:Nat):Prop:=b.w.heap.size≤g∨b.G g
structure jR(b:az)(w w':World):Prop where
 os:w'.os=w.os
 tape:w'.tape=w.tape
 output:w'.output=w.output
 size:w.heap.size≤w'.heap.size
 block:∀k,k<b.w.heap.size→¬ b.G k→w'.heap[k]?=w.heap[k]?
abbrev Ql(b:az)(w:World):Prop:=jR b b.w w
theorem jR.trans{b}{u v w}(h:jR b u v)(k:jR b v w):jR b u w:=⟨k.os.trans h.os,k.tape.trans h.tape,k.output.trans h.output,oR h.size k.size,fun i c a=>(k.block i c a).trans (h.block i c a)⟩
theorem jR.of{b}{v w}(h:Below v.heap.size v w)(c:b.w.heap.size≤v.heap.size):jR b v w:=⟨h.os,h.tape,h.output,h.size,fun k a _=>h.block k (nx a c)⟩
def gC(w:World):az:=⟨w,fun _=>False,fun _=>none⟩
theorem jR.plain{w w'}(h:Ql (gC w) w'):Below w.heap.size w w':=⟨h.os,h.tape,h.output,h.size,fun k a=>h.block k a (fun h=>h)⟩
def cS(id:Nat):Nat:=id+1000000
def tyName(id T:Nat):Prop:=450000≤id→id<500000→T=(id-450000) % 1000
abbrev NS id:={ T:TypeId // tyName id T }
def rl:Option Value→Bool
 | some (.bool _)=>false
 | some _=>true
 | none=>false
theorem BH{o:Option Value}(h:rl o=true):∃y,o=some y:=by cases o with|none=>cases h|some y=>exact⟨y,rfl⟩
structure HS(M:Nat→Prop)(w0:az)(w:World)(ι:Env)(s:AS):Prop where
 below:Ql w0 w
 old:∀b,M b→b<w0.w.heap.size∧¬ w0.G b
 use:∀id y,ι id=some y→has s.u id=true
 own:∀id g,bg (ι id)=some g→w0.O g∧g<w.heap.size
 inj:∀id id' g,bg (ι id)=some g→bg (ι id')=some g→id=id'
 ko:∀id cs,look id s.o=some cs→has s.u id=true
 kr:∀id a,look id s.r=some a→has s.u id=true
 objs:∀id cs,look id s.o=some cs→rl (ι id)=true→∃(g:Nat) (T:NS id) (vs:Array Value),ι id=some (.pointer (some ⟨g,0,none⟩))∧w.heap[g]?=some (.cells vs T.1 (0,0))∧Cells (NN M ι) w ι cs vs.toList
 arrs:∀id a,look id s.r=some a→(ι id).isSome=true→∃v xs,ι id=some v∧w.ownsRow 0 a.e a.sz v a.l.length xs∧(∀e∈a.l,e.length=a.sz)∧(∀x∈xs,x.oneCell'=true) ∧
  (∀(j:Nat) (e:List AV),a.l[j]?=some e→∀(i:Nat) (c:AV),e[i]?=some c→∃x,xs[j*a.sz+i]?=some x∧im (NN M ι) w (TG≤id) (ι (nm id (j*a.sz+i))) c x)
 pin:∀id v,w0.pv id=some v→ι id=some v∧s.u.contains (cS id)=true
theorem HS.sep{M}{e}{w}{ι}{s}(h:HS M e w ι s){id b}(c:M b)(d:bg (ι id)=some b):False:=by
 have f:=h.old b c;rcases (h.own id b d).1 with a|a
 ·omega
 grind
theorem HS.pc{M}{b}{w}{ι}{s}(h:HS M b w ι s){k id r}{v}(a:ι k=some (.map (some r)))(d:ι id=some v)(c:∀r,v ≠ .map r):bg (some v)≠some r:=fun e=>by
 have:=h.inj k id r (by rw[a];rfl) (by grind)
 grind
theorem HS.kR{M}{b}{w}{ι}{s}(h:HS M b w ι s){k r}(a:ι k=some (.map (some r))):r<w.heap.size:=(h.own k r (by rw[a];rfl)).2
theorem HS.np{M}{a}{w}{ι}{s}(h:HS M a w ι s){id}(c:s.u.contains (cS id)=false):a.pv id=none:=by
 cases b:a.pv id with
 | none=>rfl
 | some y=>have:=(h.pin id y b).2;grind
structure Cx where
 P:Program
 n:Nat
 M:Nat→Prop
 w0:az
structure aI(cx:Cx)(s:AS)(a:Act)(w:World)(ι:Env):Prop where
 hs:HS cx.M cx.w0 w ι s
 dfr:a.defers=FM.ds
 n:a.tmps.size=cx.n
 tmp:∀k v,look k s.t=some v→∃x,a.tmps[k]?=some x∧Rel (NN cx.M ι) w ι v x
def AS.put(s:AS)(d:Option Tmp)(v:AV):AS:=match d with|some k=>{ s with t:=bj k v s.t }|none=>s
theorem aI.put{c:Cx}{s:AS}{a:Act}{w:World}{ι:Env}(h:aI c s a w ι){d:Option Tmp}(f:∀k,d=some k→k<c.n){v:AV}{x:Value}(l:Rel (NN c.M ι) w ι v x):aI c (s.put d v) (a.put d x) w ι:=by
 cases d with
 | none=>exact h
 | some k =>
  have g:=f k rfl;refine⟨⟨h.hs.below,h.hs.old,h.hs.use,h.hs.own,h.hs.inj,h.hs.ko,h.hs.kr,h.hs.objs,h.hs.arrs,h.hs.pin⟩,h.dfr,by simp[Act.put,h.n],fun j y b=>?_⟩;simp only[AS.put,cp]at b;by_cases e:j=k
  ·subst e;rw[iF rfl]at b;injection b with b;subst b
   exact⟨x,by simp[Act.put,h.n,g],l⟩
  ·rw[io e]at b;obtain⟨z,m,i⟩:=h.tmp j y b;exact⟨z,by simp only[Act.put];grind,i⟩
def era{α:Type}(k:Nat):List (Nat×α)→List (Nat×α)
 | []=>[]
 | (j,x)::r=>if k=j then era k r else (j,x)::era k r
theorem AE{α} k:∀(l:List (Nat×α)) i,look i (era k l)=if i=k then none else look i l
 | [],i=>by simp[era,look]
 | (j,x)::r,i=>by
  unfold era;by_cases h:k=j
  ·rw[iF h,AE k r i];grind[look]
  ·rw[io h];simp only[look,AE k r]
   grind
def AS.drop(s:AS)(d:Option Tmp):AS:=match d with|some k=>{ s with t:=era k s.t }|none=>s
theorem aI.drop{c}{s}{a}{w}{ι}(h:aI c s a w ι) d x:aI c (s.drop d) (a.put d x) w ι:=by
 cases d with
 | none=>exact h
 | some k =>
  refine⟨⟨h.hs.below,h.hs.old,h.hs.use,h.hs.own,h.hs.inj,h.hs.ko,h.hs.kr,h.hs.objs,h.hs.arrs,h.hs.pin⟩,h.dfr,by simp[Act.put,h.n],fun j y b=>?_⟩;simp only[AS.drop,AE]at b;by_cases e:j=k
  ·grind
  ·rw[io e]at b;obtain⟨z,g,f⟩:=h.tmp j y b;exact⟨z,by simp only[Act.put];grind,f⟩
def zx:Value→Option AV
 | .int k n=>some (.int k n)
 | .bool b=>some (.bool b)
 | .string s=>some (.str s)
 | .slice none 0 0=>some .nils
 | .nilFunc=>some .nilf
 | .pointer none=>some .nilp
 | .map none=>some .nilm
 | .nilIface=>some (.vv .nilIface)
 | _=>none
def n0:d5→Option (List AV)
 | []=>some []
 | v::r=>match zx v,n0 r with|some x,some y=>some (x::y)|_,_=>none
def JV:Value→Option AV
 | .agg cs=>(n0 cs.toList).map .agg
 | v=>zx v
theorem LS N w ι{v}{x}(h:zx v=some x):Rel N w ι x v∧v.oneCell'=true:=by
 unfold zx at h;split at h<;>first|grind|(injection h with h;subst h;exact⟨by first|exact .vv _ _ rfl|constructor,rfl⟩)
theorem oh(N:Nat→Prop)(w:World)(ι:Env):∀{l:d5} {x:List AV},n0 l=some x→Cells N w ι x l
 | [],x,h=>by injection h with h;subst h;exact⟨rfl,fun v k=>(by cases k),fun i x v m _=>by simp at m⟩
 | v::r,x,h=>by
  unfold n0 at h;cases f:zx v with
  | none=>grind
  | some a =>
   cases g:n0 r with
   | none=>grind
   | some b =>
    rw[f,g]at h;injection h with h;subst h
    obtain⟨n,o⟩:=LS N w ι f;have e:=oh N w ι g;refine⟨by simp[e.len],fun y d=>?_,fun i c y j d=>?_⟩
    ·rcases l3.1 d with rfl|d
     ·grind
     ·exact e.one _ d
    ·cases i with
     | zero=>grind
     | succ i=>exact e.rel i c y j d
theorem afC N w ι{v}{x}(h:JV v=some x):Rel N w ι x v:=by
 unfold JV at h;split at h
 ·rename_i cs;cases b:n0 cs.toList with
  | none=>grind
  | some a =>
   have c:=oh N w ι b;have:=Rel.agg (N:=N) (w:=w) ι a cs.toList c.len c.one c.rel
   simp_all
 ·exact(LS N w ι h).1
def AS.ev(s:AS):Operand→Option AV
 | .tmp t=>look t s.t
 | .const v=>JV v
 | .func f=>some (.fn f [])
 | .global _=>none
theorem aI.ev{d}{s}{a}{w}{ι}(h:aI d s a w ι){x}{v}(b:s.ev x=some v):Rel (NN d.M ι) w ι v (a.eval x):=by
 cases x with
 | tmp t =>
  obtain⟨y,j,e⟩:=h.tmp t v b;show Rel _ _ _ _ (a.tmps.getD t undef)
  simp_all
 | const c=>exact afC _ _ _ b
 | func f=>injection b with b;subst b;exact .fn _ _ [] [] rfl (fun i c y h _=>by grind)
 | global g=>cases b
end Go.Proofs.YtocgkfoifehcbaaGreat
namespace Go.Proofs.YtocgkfoifehcbaaGreat
set_option linter.all false
open Go.RowKit
variable[FM]
theorem eT{w:World}{g b}{c}(h:b≠g):(w.setRow g c).heap[b]?=w.heap[b]?:=setRow_other w g b c h
theorem HS.setObj{M:Nat→Prop}{I:az}{w:World}{ι:Env}{s:AS}(h:HS M I w ι s){id g:Nat}{T:NS id}{vs:Array Value}{t:List AV}{l:d5}
  (p:ι id=some (.pointer (some ⟨g,0,none⟩))) (P:w.heap[g]?=some (.cells vs T.1 (0,0))) (O:Cells (NN M ι) w ι t l) :
  HS M I (w.setRow g l.toArray) ι { s with o:=bj id t s.o }:=by
 have n:bg (ι id)=some g:=by rw[p];rfl
 obtain⟨A,R⟩:=h.own id g n;have J:∀b,¬ NN M ι b→(w.setRow g l.toArray).heap[b]?=w.heap[b]?:=fun b m=>eT (fun e=>m (.inr ⟨id,by rw[e];exact n⟩));have d:∀b,b<w.heap.size→¬ NN M ι b→(w.setRow g l.toArray).heap[b]?=w.heap[b]?:=fun b _ m=>J b m;refine⟨?_,h.old,h.use,fun i k z=>?_,h.inj,fun i cs f=>?_,h.kr,fun i cs f E=>?_,fun i a f E=>?_,h.pin⟩
 ·exact h.below.trans ⟨rfl,rfl,rfl,by simp,fun k z N=>eT (fun e=>by subst e;rcases A with A|A;omega;exact N A)⟩
 ·have:=h.own i k z;simp;exact this
 ·simp only[cp]at f;by_cases e:i=id
  ·subst e;exact h.use i _ p
  ·rw[io e]at f;exact h.ko i cs f
 ·simp only[cp]at f;by_cases e:i=id
  ·subst e;rw[iF rfl]at f;injection f with f;subst f
   exact⟨g,T,l.toArray,p,anM w g vs _ T.1 _ P,by simpa using O.mono (by simp) (fun b _ m=>m) d (fun _ _ h=>h)⟩
  ·rw[io e]at f;obtain⟨u,T',G,q,y,B⟩:=h.objs i cs f E;have D:u≠g:=fun e'=>e (h.inj i id g (by rw[q,e'];rfl) n);exact⟨u,T',G,q,(eT D).trans y,B.mono (by simp) (fun b _ m=>m) d (fun _ _ h=>h)⟩
 ·obtain⟨v,xs,q,y,B,K,L⟩:=h.arrs i a f E;refine⟨v,xs,q,fS y (fun u C=>eT ?_),B,K,fun j e Q k c z=>?_⟩
  ·intro e;subst e;have:=h.inj i id u (by rw[q];exact C) n;subst this;rw[q]at p;injection p with p
   subst p;rcases y.2 with⟨H,_⟩|⟨_,_,_,H,_⟩<;>cases H
  ·obtain⟨x,U,S⟩:=L j e Q k c z;exact⟨x,U,S.mono (by simp) (fun b _ m=>m) d (fun _ h=>h) (fun r F=>eT (fun e=>h.pc F p (fun _ e=>by cases e) (by rw[e];rfl))) (fun h=>h)⟩
theorem aI.world{c}{s}{a}{w w'}{ι ι'}(h:aI c s a w ι){s'}(g:HS c.M c.w0 w' ι' s')(i:s'.t=s.t)(m:w.heap.size≤w'.heap.size)
  (e:∀b,b<w.heap.size→NN c.M ι' b→NN c.M ι b) (j:∀b,b<w.heap.size→¬ NN c.M ι b→w'.heap[b]?=w.heap[b]?) (n:∀id y,ι id=some y→ι' id=some y):aI c s' a w' ι' :=
 ⟨g,h.dfr,h.n,fun k v d=>by
  rw[i]at d;obtain⟨x,l,f⟩:=h.tmp k v d;exact⟨x,l,f.mono m e j n⟩⟩
def ext(ι:Env)(d:Nat)(v:Value):Env:=fun i=>if i=d then some v else ι i
theorem cH ι d v:ext ι d v d=some v:=by simp[ext]
theorem bR ι{d i} v(h:i≠d):ext ι d v i=ι i:=by simp[ext,h]
theorem fa{ι}{d}(h:ι d=none) v:∀id y,ι id=some y→ext ι d v id=some y:=fun id y a=>by
 grind[bR]
theorem gJ{M}{ι}{d}{v}{b}(h:NN M (ext ι d v) b):NN M ι b∨bg (some v)=some b:=by
 rcases h with h|⟨id,h⟩
 ·exact .inl (.inl h)
 ·by_cases e:id=d
  ·grind[cH]
  ·rw[bR _ _ e]at h;exact .inl (.inr ⟨id,h⟩)
theorem HS.free{M}{a}{w}{ι}{s}(h:HS M a w ι s){d}(b:has s.u d=false):ι d=none:=by
 cases e:ι d with
 | none=>rfl
 | some y=>have:=h.use d y e;grind
theorem nS{u:d4}{d i}(h:u.contains i=true):(d::u).contains i=true:=by
 grind
theorem dN{u}{d i}(h:has u i=true):has (d::u) i=true:=by
 grind[has]
theorem iV u d:has (d::u) d=true:=fJ (by simp)
theorem jR.alloc{b}{v w}(h:jR b v w)(a:b.w.heap.size≤w.heap.size) o:jR b v (w.alloc o) :=
 h.trans (.of ((anI w.heap.size w).alloc (by omega) o) a)
theorem HS.alloc{M:Nat→Prop}{L:az}{w:World}{ι:Env}{s:AS}(h:HS M L w ι s){d:Nat}(O:has s.u d=false){T:TypeId}(U:tyName d T){cs:List AV}{vs:d5}(V:Cells (NN M ι) w ι cs vs):
  HS M L (w.alloc (.cells vs.toArray T)) (ext ι d (.pointer (some ⟨w.heap.size,0,none⟩))) { s with o:=bj d cs s.o,u:=d::s.u }:=by
 have X:=h.free O;have z:L.w.heap.size≤w.heap.size:=h.below.size;have D:∀b,b<w.heap.size→¬ NN M ι b→(w.alloc (.cells vs.toArray T)).heap[b]?=w.heap[b]?:=fun b N _=>mm _ _ _ N;have H:∀b,b<w.heap.size→NN M (ext ι d (.pointer (some ⟨w.heap.size,0,none⟩))) b→NN M ι b:=fun b N q=>by
  rcases gJ q with q|q
  ·exact q
  ·injection q with q;simp only[]at q;omega
 have B:=fa X (.pointer (some ⟨w.heap.size,0,none⟩));refine⟨h.below.alloc z _,h.old,fun i y P=>?_,fun i g l=>?_,fun i C g l f=>?_,fun i p m=>?_,fun i a m=>dN (h.kr i a m),fun i p m n=>?_,fun i a m n=>?_,fun i v n=>⟨B i v (h.pin i v n).1,nS (h.pin i v n).2⟩⟩
 ·by_cases e:i=d
  ·subst e;exact iV _ _
  ·rw[bR _ _ e]at P;exact dN (h.use i y P)
 ·by_cases e:i=d
  ·subst e;rw[cH]at l;injection l with l;simp only[]at l;subst l;exact⟨.inl z,by simp⟩
  ·rw[bR _ _ e]at l;exact⟨(h.own i g l).1,by have:=(h.own i g l).2;simp;omega⟩
 ·by_cases e:i=d
  ·by_cases e':C=d
   ·omega
   ·subst e;rw[cH]at l;rw[bR _ _ e']at f;injection l with l;simp only[]at l
    have:=(h.own C g f).2;omega
  ·by_cases e':C=d
   ·subst e';rw[cH]at f;rw[bR _ _ e]at l;injection f with f;simp only[]at f
    have:=(h.own i g l).2;omega
   ·rw[bR _ _ e]at l;rw[bR _ _ e']at f;exact h.inj i C g l f
 ·simp only[cp]at m;by_cases e:i=d
  ·subst e;exact iV _ _
  ·rw[io e]at m;exact dN (h.ko i p m)
 ·simp only[cp]at m;by_cases e:i=d
  ·subst e;rw[iF rfl]at m;injection m with m;subst m
   exact⟨w.heap.size,⟨T,U⟩,vs.toArray,cH _ _ _,am5 w _,by simpa using V.mono (by simp) H D B⟩
  ·rw[io e]at m;rw[bR _ _ e]at n;obtain⟨A,T',K,t,F,G⟩:=h.objs i p m n;have J:=(h.own i A (by rw[t];rfl)).2;exact⟨A,T',K,(bR _ _ e).trans t,(mm _ _ _ J).trans F,G.mono (by simp) H D B⟩
 ·have e:i≠d:=by rintro rfl;have:=h.kr i a m;rw[O]at this;cases this
  rw[bR _ _ e]at n;obtain⟨v,xs,t,F,G,R,S⟩:=h.arrs i a m n;refine⟨v,xs,(bR _ _ e).trans t,fS F (fun A f=>mm _ _ _ (h.own i A (by rw[t];exact f)).2),G,R,fun j Q W k c I=>?_⟩;obtain⟨x,Z,Y⟩:=S j Q W k c I;exact⟨x,Z,Y.mono (by simp) H D (fun r E=>B _ _ E) (fun r E=>mm _ _ _ (h.kR E)) (fun h=>h)⟩
theorem HS.fresh{M:Nat→Prop}{A:az}{w:World}{ι:Env}{s:AS}(h:HS M A w ι s)(o:Obj):HS M A (w.alloc o) ι s:=by
 have y:A.w.heap.size≤w.heap.size:=h.below.size;have B:∀b,b<w.heap.size→¬ NN M ι b→(w.alloc o).heap[b]?=w.heap[b]?:=fun b d _=>mm _ _ _ d;refine⟨h.below.alloc y _,h.old,h.use,fun i g C=>?_,h.inj,h.ko,h.kr,fun i l p u=>?_,fun i a p u=>?_,h.pin⟩
 ·exact⟨(h.own i g C).1,by have:=(h.own i g C).2;simp;omega⟩
 ·obtain⟨e,T',z,f,m,n⟩:=h.objs i l p u;have t:=(h.own i e (by rw[f];rfl)).2;exact⟨e,T',z,f,(mm _ _ _ t).trans m,n.mono (by simp) (fun b _ d=>d) B (fun _ _ h=>h)⟩
 ·obtain⟨v,xs,f,m,n,F,G⟩:=h.arrs i a p u;refine⟨v,xs,f,fS m (fun e H=>mm _ _ _ (h.own i e (by grind)).2),n,F,fun j D I k c q=>?_⟩;obtain⟨x,K,J⟩:=G j D I k c q;exact⟨x,K,J.mono (by simp) (fun b _ d=>d) B (fun _ h=>h) (fun r E=>mm _ _ _ (h.kR E)) (fun h=>h)⟩
theorem mq{M}{c}{w}{ι}{s}(h:HS M c w ι s){b}(a:NN M ι b):b<w.heap.size:=by
 rcases a with a|⟨id,a⟩
 ·exact nx (h.old b a).1 h.below.size
 ·exact(h.own id b a).2
theorem Vm{M:Nat→Prop}{n:az}{w:World}{ι:Env}{s:AS}(h:HS M n w ι s){T:TypeId}{sz:Nat}{l:List (List AV)}{vs:d5}(m:∀e∈l,e.length=sz)(o:∀v∈vs,v.oneCell'=true)
  (f:∀(j:Nat) (e:List AV),l[j]?=some e→∀(i:Nat) (x:AV),e[i]?=some x→∃v,vs[j*sz+i]?=some v∧Rel (NN M ι) w bA x v) :
  Rel (NN M ι) (w.alloc (.cells vs.toArray T)) ι (.sl l) (.slice (some ⟨w.heap.size,0,none⟩) l.length l.length):=by
 refine .sl _ l _ 0 _ sz (fun j i=>(vs[j*sz+i]?).getD (.bool true)) m (by simp) (fun a=>by have:=mq h a;omega) (fun j i=>?_) (fun j e c i x d=>?_) (fun j e c i x d=>?_) (by omega)
 ·cases e:vs[j*sz+i]? with
  | none=>rfl
  | some v=>grind
 ·obtain⟨v,g,_⟩:=f j e c i x d
  simp_all
 ·obtain⟨v,g,k⟩:=f j e c i x d;simp only[g];exact k.mono (by simp) (fun b _ a=>a) (fun b a _=>mm _ _ _ a) (fun _ _ h=>h)
end Go.Proofs.YtocgkfoifehcbaaGreat
namespace Go.Proofs.YtocgkfoifehcbaaGreat
set_option linter.all false
open Go.RowKit
variable[FM]
def cz(P:Program)(T:TypeId):Option Nat:=(P.info? T).map (·.size)
def rN(P:Program)(T:TypeId):Option Bool:=(P.underlying T).map (·.isRow)
def KG(P:Program)(T:TypeId)(f:Nat):Option Nat :=
 match P.underlying T with
 | some (.struct a)=>match a[f]? with
  | some g=>match cz P g.type with
   | some (_+1)=>some g.offset
   | _=>none
  | none=>none
 | _=>none
def oq(P:Program)(T:TypeId):Option ed :=
 match P.underlying T with
 | some (.array n e)=>(cz P e).map (n,·)
 | _=>none
def g8(P:Program)(T:TypeId):Option (TypeId×Nat) :=
 match P.underlying T with
 | some (.slice e)=>(cz P e).map (e,·)
 | _=>none
def O7(P:Program)(T:TypeId):Bool:=match P.underlying T with|some .string=>true|_=>false
def fE(P:Program)(T:TypeId):Option (List AV):=((P.info? T).bind (·.zero)).bind fun z=>n0 z.cells.toList
def Jg(P:Program)(T:TypeId):Option (List ed) :=
 match P.underlying T with
 | some (.struct a)=>a.toList.mapM fun f=>(cz P f.type).map (f.offset,·)
 | some (.array n e)=>(cz P e).map fun k=>(List.range n).map fun i=>(i*k,k)
 | _=>none
def AS.mem(s:AS):AV→Option (List AV)
 | .ptr id off=>match look id s.o with|some cs=>some (cs.drop off)|none=>none
 | .pp id _ off=>match look id s.o with|some cs=>some (cs.drop off)|none=>none
 | .cptr cs=>some cs
 | .eptr id sz j off=>match look id s.r with
  | some a=>if a.sz=sz then match a.l[j]? with|some e=>some (if id<TG then e.drop off else (e.drop off).map AV.uI)|none=>none else none
  | none=>none
 | _=>none
theorem M8{H:Cx}{s:AS}{a:Act}{w:World}{ι:Env}(h:aI H s a w ι){p:AV}{x:Value}(hp:Rel (NN H.M ι) w ι p x){cs:List AV}(d:s.mem p=some cs):
  ∃(b o:Nat) (l:Nat→Value),x=.pointer (some ⟨b,o,none⟩)∧∀(i:Nat) (c:AV),cs[i]?=some c→w.cell? ⟨b,o+i,none⟩=some (l i)∧(l i).oneCell'=true∧Rel (NN H.M ι) w ι c (l i):=by
 cases hp with
 | ptr _ id off g t =>
  simp only[AS.mem]at d;cases e:look id s.o with
  | none=>rw[e]at d;cases d
  | some m =>
   rw[e]at d;injection d with d;subst d
   obtain⟨Q,T,vs,f,E,q⟩:=h.hs.objs id m e (by rw[t];rfl);rw[t]at f;injection f with f;injection f with f;injection f with f;injection f with f;subst f
   refine⟨g,off,fun i=>(vs[off+i]?).getD (.bool true),rfl,fun i c k=>?_⟩;rw[Qf]at k;have z:off+i<vs.size:=by have:=(g7.1 k).1;rw[q.len]at this;simpa using this
   have B:vs[off+i]?=some vs[off+i]:=h8 z;have C:vs.toList[off+i]?=some vs[off+i]:=by simp
   rw[amm w g _ vs T (0,0) E];simp only[B,DO];exact⟨trivial,q.one _ (by simp),q.rel _ _ _ k C⟩
 | pp _ id g off t =>
  simp only[AS.mem]at d;cases e:look id s.o with
  | none=>rw[e]at d;cases d
  | some m =>
   rw[e]at d;injection d with d;subst d
   obtain⟨Q,T,vs,f,E,q⟩:=h.hs.objs id m e (by rw[t];rfl);rw[t]at f;injection f with f;injection f with f;injection f with f;injection f with f;subst f
   refine⟨g,off,fun i=>(vs[off+i]?).getD (.bool true),rfl,fun i c k=>?_⟩;rw[Qf]at k;have z:off+i<vs.size:=by have:=(g7.1 k).1;rw[q.len]at this;simpa using this
   have B:vs[off+i]?=some vs[off+i]:=h8 z;have C:vs.toList[off+i]?=some vs[off+i]:=by simp
   rw[amm w g _ vs T (0,0) E];simp only[B,DO];exact⟨trivial,q.one _ (by simp),q.rel _ _ _ k C⟩
 | eptr _ id sz j off g n c t =>
  simp only[AS.mem]at d;cases e:look id s.r with
  | none=>rw[e]at d;cases d
  | some ar =>
   simp only[e]at d;split at d
   ·rename_i O;cases K:ar.l[j]? with
    | none=>rw[K]at d;cases d
    | some L =>
     rw[K]at d;injection d with d
     obtain⟨v,xs,f,E,q,W,X⟩:=h.hs.arrs id ar e (by rw[t];rfl);rw[t]at f;injection f with f;subst f
     obtain⟨B,_⟩|⟨Q,V,J,B,Y,Z,a0,S,N,A⟩:=E.2
     ·cases B
     ·injection B with F hn u
      injection F with F;injection F with F;subst F
      refine⟨g,j*sz+off,fun i=>(xs[j*sz+off+i]?).getD (.bool true),rfl,fun i c k=>?_⟩;have y:∃c0,L[off+i]?=some c0∧(c=c0∧id<TG∨c=c0.uI):=by
       subst d;split at k
       ·rename_i U;rw[Qf]at k;exact⟨c,k,.inl ⟨rfl,U⟩⟩
       ·rw[th,Qf]at k;cases R:L[off+i]? with
        | none=>rw[R]at k;cases k
        | some c0=>rw[R]at k;injection k with k;exact⟨c0,rfl,.inr k.symm⟩
      obtain⟨c0,y,M⟩:=y;obtain⟨x,D,I⟩:=X j L K _ c0 y;rw[O]at D;have P:xs[j*sz+off+i]?=some x:=by rw[ams];exact D
      have r:=W _ (jt D);have G:Rel (NN H.M ι) w bA c x:=by
       rcases M with⟨rfl,U⟩|rfl
       ·exact I.flat (by omega)
       ·exact I.uI r
      rw[ams];simp only[P,DO];refine⟨?_,r,G.mono (h7 _) (fun _ _ h=>h) (fun _ _ _=>rfl) (fun _ _ h=>by cases h)⟩;rw[amm w g _ J _ (0,0) Z];rw[←A,u5]at D;split at D
      ·simpa using D
      ·cases D
   ·cases d
 | cptr _ m b o l Y hn f k I =>
  injection d with d;subst d
  exact⟨b,o,l,rfl,fun i c u=>⟨k i c u,f i,(I i c u).mono (by omega) (fun _ _ h=>h) (fun _ _ _=>rfl) (fun _ _ h=>by cases h)⟩⟩
 | _=>cases d
def jj(P:Program)(T:TypeId)(cs:List AV):Option AV :=
 match rN P T with
 | some true=>match cz P T with
  | some n=>if n≤cs.length then some (.agg (cs.take n)) else none
  | none=>none
 | some false=>cs.head?
 | none=>none
theorem Qi{P:Program}{w:World}{N:Nat→Prop}{ι:Env}{T:TypeId}{cs:List AV}{v:AV}(h:jj P T cs=some v){b o:Nat}{e:Nat→Value}
  (m:∀(i:Nat) (c:AV),cs[i]?=some c→w.cell? ⟨b,o+i,none⟩=some (e i)∧(e i).oneCell'=true∧Rel N w ι c (e i)) :
  ∃x,(Instr.loadAt T (.pointer (some ⟨b,o,none⟩))).run P w=.ok x w∧Rel N w ι v x:=by
 unfold jj at h;cases l:P.underlying T with
 | none=>simp[rN,l]at h
 | some d =>
  cases q:d.isRow with
  | true =>
   simp only[rN,l,If,q]at h;cases t:cz P T with
   | none=>simp[t]at h
   | some n =>
    simp only[t]at h;split at h
    ·rename_i B;injection h with h;subst h
     have f:∀i,((List.range n).map e)[i]?=if i<n then some (e i) else none:=fun i=>by
      by_cases k:i<n<;>simp[k]
     have C:w.rangeAt b o ((List.range n).map e):=fun j y a=>by
      rw[f]at a;split at a
      ·rename_i E;injection a with a;subst a
       have s:j<cs.length:=by omega
       exact(m j cs[j] (h6 s)).1
      ·cases a
     refine⟨_,run_loadAt_mid w b o T _ d C l q (by rw[lp,List.length_range];exact t),.agg _ _ _ (by simp;omega) (fun y a=>?_) (fun i c y p a=>?_)⟩
     ·obtain⟨i,k,rfl⟩:=u6.1 a;have r:i<cs.length:=by have:=T4.1 k;omega
      exact(m i cs[i] (h6 r)).2.1
     ·rw[f]at a;rw[u5]at p;split at a
      ·rename_i k;rw[iF k]at p;injection a with a;subst a
       exact(m i c p).2.2
      ·cases a
    ·cases h
  | false =>
   simp only[rN,l,If,q]at h;have A:cs[0]?=some v:=by simpa[anm]using h
   obtain⟨u,D,z⟩:=m 0 v A;refine⟨e 0,?_,z⟩;have g:(isAgg T).run P w=.ok false w:=by
    unfold isAgg;rw[n4,ls l w];cases d<;>simp_all
   simp only[aix]at u;simp[Instr.loadAt,Instr.sureAddr,loadVar,g,u]
def Good(b:Cx)(ι:Env)(s':AS)(a:Act)(o:Oper)(r:Result Next):Prop :=
 ∃ι',(∀i,some i≠o.dst→ι i=none→ι' i=none)∧((∃x w',r=.ok (.value x) w'∧aI b s' (a.put o.dst x) w' ι')∨(∃w',r=.ok .skip w'∧aI b s' (a.put o.dst undef) w' ι'))
def iQ(k:IntKind)(x y:Int):Int:=k.wrap (BitVec.ofInt k.bits x &&& BitVec.ofInt k.bits y).toNat
def fz(k:IntKind)(x y:Int):Int:=k.wrap (BitVec.ofInt k.bits x ||| BitVec.ofInt k.bits y).toNat
def u0:BinOp→AV→AV→Option AV
 | .add,.int k x,.int a y=>if k=a then some (.int k (k.wrap (x+y))) else none
 | .sub,.int k x,.int a y=>if k=a then some (.int k (k.wrap (x-y))) else none
 | .mul,.int k x,.int a y=>if k=a then some (.int k (k.wrap (x*y))) else none
 | .quo,.int k x,.int a y=>if k=a∧¬ y=0 then some (.int k (k.wrap (x.tdiv y))) else none
 | .rem,.int k x,.int a y=>if k=a∧¬ y=0 then some (.int k (x.tmod y)) else none
 | .shr,.int k x,.int _ y=>if 0≤y then some (.int k (x / 2 ^ min y.toNat k.bits)) else none
 | .and,.int k x,.int a y=>if k=a then some (.int k (iQ k x y)) else none
 | .or,.int k x,.int a y=>if k=a then some (.int k (fz k x y)) else none
 | .shl,.int k x,.int _ y=>if 0≤y then some (.int k (k.wrap (x*2 ^ min y.toNat k.bits))) else none
 | .eql,.int k x,.int a y=>if k=a then some (.bool (x == y)) else none
 | .neq,.int k x,.int a y=>if k=a then some (.bool (x != y)) else none
 | .lss,.int k x,.int a y=>if k=a then some (.bool (decide (x<y))) else none
 | .leq,.int k x,.int a y=>if k=a then some (.bool (decide (x≤y))) else none
 | .gtr,.int k x,.int a y=>if k=a then some (.bool (decide (x>y))) else none
 | .geq,.int k x,.int a y=>if k=a then some (.bool (decide (x≥y))) else none
 | .eql,.str x,.str y=>some (.bool (x.toList == y.toList))
 | .neq,.str x,.str y=>some (.bool (!(x.toList == y.toList)))
 | _,_,_=>none
theorem Zi {P:Program} {w:World} {N:Nat→Prop} {ι:Env} {op:BinOp} {u v r:AV} (h:u0 op u v=some r) {x y:Value} (d:Rel N w ι u x) (e:Rel N w ι v y) (T:TypeId) (a b:Operand) :
    ∃z,(do eqGuard op T a b x y;binOp op T x y).run P w=.ok z w∧Rel N w ι r z:=by
  unfold u0 at h;split at h<;>first
    | (cases h;done)
    | (cases d;cases e
       split at h
       · rename_i c
         first
          | (obtain⟨rfl,g⟩:=c;injection h with h;subst h
             refine⟨_,?_,.int _ _ _⟩;simp[eqGuard,binOp,Op.intDiv,g])
          | (injection h with h;subst h
             refine⟨_,?_,.int _ _ _⟩;simp[eqGuard,binOp,Op.shift,Int.not_lt.mpr c]
             done)
          | (have f:=fun k i x=>shift_shr_any k i x _ c
             injection h with h;subst h
             refine⟨_,?_,.int _ _ _⟩;simp[eqGuard,binOp,f]
             done)
          | (subst c;injection h with h;subst h
             first
              | (refine⟨_,?_,.int _ _ _⟩;simp[eqGuard,binOp,Op.intArith];done)
              | (refine⟨_,?_,.int _ _ _⟩;simp[eqGuard,binOp,Op.intBits,iQ,fz];done)
              | (refine⟨_,?_,.bool _ _⟩;simp[eqGuard,binOp,Op.intCmp];done))
       · cases h)
    | (cases d;cases e
       injection h with h;subst h
       refine⟨_,?_,.bool _ _⟩;simp[eqGuard,binOp,Op.stringOp])
def Lx:UnOp→AV→Option AV
 | .not,.bool b=>some (.bool (!b))
 | .neg,.int k x=>some (.int k (k.wrap (0-x)))
 | _,_=>none
theorem ai2{P}{w}{N}{ι}{op}{u r}(h:Lx op u=some r){x}(a:Rel N w ι u x):
  ∃z,(Op.unary op x).run P w=.ok z w∧Rel N w ι r z:=by
 unfold Lx at h;split at h<;>first|grind|(cases a;injection h with h;subst h;first|exact⟨_,rfl,.bool _ _⟩|exact⟨_,rfl,.int _ _ _⟩)
def O6(b:Bool)(x y:Option AV):Option AV :=
 match x,y with
 | some (.bool p),some (.bool q)=>some (.bool (bif b then p else q))
 | x,y=>if b=true then x else y
end Go.Proofs.YtocgkfoifehcbaaGreat
namespace Go.Proofs.YtocgkfoifehcbaaGreat
set_option linter.all false
open Go.RowKit
variable[FM]
def zh(k:Nat):AV→Option AV
 | .ptr id off=>some (.ptr id (off+k))
 | .cptr cs=>some (.cptr (cs.drop k))
 | .eptr id sz j off=>some (.eptr id sz j (off+k))
 | .adr g off=>some (.adr g (off+k))
 | .pp _ g off=>some (.adr g (off+k))
 | _=>none
theorem MV{N:Nat→Prop}{w:World}{ι:Env}{k:Nat}{p q:AV}{x:Value}(h:zh k p=some q)(a:Rel N w ι p x):
  ∃b o,x=.pointer (some ⟨b,o,none⟩)∧Rel N w ι q (.pointer (some ⟨b,o+k,none⟩)):=by
 unfold zh at h;split at h<;>first|(cases h;done)|skip
 ·injection h with h;subst h
  cases a with
  | ptr _ _ _ g e=>exact⟨g,_,rfl,.ptr _ _ _ g e⟩
 ·injection h with h;subst h
  cases a with
  | cptr _ cs b o f l r j m s =>
   refine⟨b,o,rfl,.cptr _ _ b (o+k) (fun i=>f (k+i)) l r (fun i=>j _) (fun i x d=>?_) (fun i x d=>?_)⟩
   ·rw[Qf]at d;have:=m _ x d;rwa[←ams]at this
   ·rw[Qf]at d;exact s _ x d
 ·injection h with h;subst h
  cases a with
  | eptr _ _ _ _ _ g n c e =>
   refine⟨g,_,rfl,?_⟩;rw[ams];exact .eptr _ _ _ _ _ g n c e
 ·injection h with h;subst h
  cases a with
  | adr _ _ _=>exact⟨_,_,rfl,.adr _ _ _⟩
 ·injection h with h;subst h
  cases a with
  | pp _ _ _ _ _=>exact⟨_,_,rfl,.adr _ _ _⟩
theorem alo{P:Program}{w:World}{N:Nat→Prop}{ι:Env}{T:TypeId}{f k:Nat}{p q:AV}{x:Value}(a:KG P T f=some k)(h:zh k p=some q)(l:Rel N w ι p x):
  ∃z,(Instr.fieldAt T x f).run P w=.ok z w∧Rel N w ι q z:=by
 obtain⟨b,o,rfl,n⟩:=MV h l;unfold KG at a;split at a
 ·rename_i t s;split at a
  ·rename_i g e;split at a
   ·rename_i m d;injection a with a;subst a
    refine⟨_,?_,n⟩;cases c:P.info? g.type with
    | none=>simp[cz,c]at d
    | some i =>
     have r:i.size=m+1:=by simpa[cz,c]using d
     have j:¬ i.size=0:=by omega
     simp[Instr.fieldAt,ls s,e,Instr.sureAddr,fieldPlace,sizeOf,typeInfo,c,r,af0]
   grind
  grind
 grind
def zK(P:Program)(s:AS)(T:TypeId)(x:AV)(i:Int):Option AV :=
 if 0≤i then
  match oq P T with
  | some (n,k)=>if i.toNat<n then zh (i.toNat*k) x else none
  | none=>match g8 P T with
   | some (_,k)=>match x with
    | .sl l=>match l[i.toNat]? with
     | some e=>if e.length=k then some (.cptr e) else none
     | none=>none
    | .ref id=>match look id s.r with
     | some a=>if a.sz=k∧i.toNat<a.l.length then some (.eptr id k i.toNat 0) else none
     | none=>none
    | .sref id sz off m=>if sz=k∧i.toNat<m then some (.eptr id k (off+i.toNat) 0) else none
    | _=>none
   | none=>none
 else none
theorem ag0{y:Cx}{s:AS}{a:Act}{w:World}{ι:Env}(J:aI y s a w ι){T:TypeId}{x r:AV}{k:IntKind}{i:Int}(h:zK y.P s T x i=some r){X:Value}(O:Rel (NN y.M ι) w ι x X):
  ∃z,(Instr.indexAt T X (.int k i)).run y.P w=.ok z w∧Rel (NN y.M ι) w ι r z:=by
 unfold zK at h;split at h
 ·rename_i N;split at h
  ·rename_i n sz j;split at h
   ·rename_i G;obtain⟨b,o,rfl,hq⟩:=MV h O;refine⟨_,?_,hq⟩;unfold oq at j;split at j
    ·rename_i n' e L;cases C:cz y.P e with
     | none=>rw[C]at j;cases j
     | some u =>
      rw[C]at j;injection j with j;injection j with H Q;subst H;subst Q
      cases f:y.P.info? e with
      | none=>simp[cz,f]at C
      | some V =>
       have I:V.size=u:=by simpa[cz,f]using C
       have d:i<(n':Int):=by omega
       simp[Instr.indexAt,asIntOf,ls L,Instr.sureAddr,N,d,sizeOf,typeInfo,f,I,af0]
    ·cases j
   ·cases h
  ·split at h
   ·rename_i e sz p;unfold g8 at p;split at p
    ·rename_i e' L;cases C:cz y.P e' with
     | none=>rw[C]at p;cases p
     | some u =>
      rw[C]at p;injection p with p;injection p with he Q;subst he;subst Q
      cases f:y.P.info? e' with
      | none=>simp[cz,f]at C
      | some V =>
       have I:V.size=u:=by simpa[cz,f]using C
       split at h
       ·rename_i l;split at h
        ·rename_i el t;split at h
         ·rename_i F;injection h with h;subst h
          cases O with
          | sl0 A c=>simp at t
          | sl _ _ b o c D W U hb H E hc hr _ =>
           have G:i.toNat<l.length:=(g7.1 t).1;have d:i<(l.length:Int):=by omega
           have K:D=u:=by rw[←F];exact(U el (jt t)).symm
           subst K;refine⟨.pointer (some ⟨b,o+i.toNat*D,none⟩),?_,.cptr _ _ b _ (W i.toNat) hb H (E _) (hc _ _ t) (hr _ _ t)⟩;simp[Instr.indexAt,asIntOf,ls L,N,d,sizeOf,typeInfo,f,I,af0]
         ·cases h
        ·cases h
       ·rename_i id;split at h
        ·rename_i ar P;split at h
         ·rename_i q;injection h with h;subst h
          cases O with
          | ref _ _ A n c M =>
           obtain⟨v,xs,E,h2,h3,h4,h5⟩:=J.hs.arrs id ar P (by rw[M];rfl);rw[M]at E;injection E with E;subst E
           obtain⟨hv,h0⟩|⟨Y,b0,c0,hv,hb,hg,e0,a0,R,S⟩:=h2.2
           ·omega
           ·injection hv with hA H d0
            subst hA;subst H;have d:i<(ar.l.length:Int):=by omega
            refine⟨.pointer (some ⟨Y,i.toNat*u+0,none⟩),?_,.eptr _ _ _ _ _ Y _ c M⟩;simp[Instr.indexAt,asIntOf,ls L,N,d,sizeOf,typeInfo,f,I,af0]
         ·cases h
        ·cases h
       ·rename_i id D off m;split at h
        ·rename_i q;obtain⟨rfl,G⟩:=q;injection h with h;subst h
         cases O with
         | sref _ _ _ _ _ n c c' A B M Z =>
          rcases Z with Z|⟨g,rfl,rfl,_⟩
          ·omega
          ·have d:i<(m:Int):=by omega
           refine⟨.pointer (some ⟨g,(off+i.toNat)*D+0,none⟩),?_,.eptr _ _ _ _ _ g n c M⟩;rw[aix,ac6];simp[Instr.indexAt,asIntOf,ls L,N,d,sizeOf,typeInfo,f,I,af0]
        ·cases h
       ·cases h
    grind
   grind
 grind
def kN:AV→Option (List AV)
 | .agg cs=>some cs
 | .tup _=>none
 | v=>some [v]
theorem yP{N:Nat→Prop}{w:World}{ι:Env}{v:AV}{x:Value}{cs:List AV}(h:kN v=some cs)(g:Rel N w ι v x):Cells N w ι cs x.cells.toList:=by
 have key:∀(y:Value),Rel N w ι v y→v.Ef=true→y.cells = #[y]→Cells N w ι [v] y.cells.toList:=fun y j m k=>by
  rw[k];exact⟨rfl,fun u d=>by simp at d;subst d;exact j.one m,fun i c u b d=>by
   cases i with
   | zero=>simp at b d;subst b;subst d;exact j
   | succ i=>simp at b⟩
 unfold kN at h;split at h
 ·injection h with h;subst h
  cases g with
  | agg _ _ vs l f n=>exact⟨by simpa[Value.cells]using l,by simpa[Value.cells]using f,by simpa[Value.cells]using n⟩
 ·cases h
 ·rename_i f o;injection h with h;subst h
  cases g<;>first
   | exact key _ (by constructor<;>assumption) rfl rfl
   | (rename_i a;exact key _ (.any _ _ a) rfl (by cases x<;>first|rfl|cases a))
   | (rename_i a;exact key _ (.vv _ _ a) rfl (by cases x<;>first|rfl|cases a))
   | (rename_i e a;exact key _ (.lk _ _ _ _ e a) rfl (by cases x<;>first|rfl|cases a))
   | grind
   | grind
def jG(off:Nat)(a cs:List AV):List AV:=cs.take off++a++cs.drop (off+a.length)
theorem lr{α:Type} off(a cs:List α)(h:off+a.length≤cs.length) i:(cs.take off++a++cs.drop (off+a.length))[i]?=if i<off then cs[i]? else if i<off+a.length then a[i-off]? else cs[i]?:=by
 have b:(cs.take off).length=off:=by grind
 grind
theorem oP{α:Type} off(a cs:List α)(h:off+a.length≤cs.length):(cs.take off++a++cs.drop (off+a.length)).length=cs.length:=by
 grind
theorem Cells.jG{N:Nat→Prop}{w:World}{ι:Env}{cs e:List AV}{vs c:d5}(h:Cells N w ι cs vs)(f:Cells N w ι e c){off:Nat}(k:off+e.length≤cs.length):
  Cells N w ι (jG off e cs) (vs.take off++c++vs.drop (off+c.length)):=by
 have d:off+c.length≤vs.length:=by rw[←f.len,← h.len];exact k
 refine⟨?_,fun v a=>?_,fun i x v b a=>?_⟩
 ·unfold Proofs.YtocgkfoifehcbaaGreat.jG;rw[oP off e cs k,oP off c vs d,h.len]
 ·rcases kb.1 a with a|a
  ·rcases kb.1 a with a|a
   ·exact h.one v (nk a)
   ·exact f.one v a
  ·exact h.one v (tl a)
 ·unfold Proofs.YtocgkfoifehcbaaGreat.jG at b;rw[lr off e cs k]at b;rw[lr off c vs d]at a;rw[f.len]at b;split at b
  ·rename_i g;rw[iF g]at a;exact h.rel i x v b a
  ·rename_i g;rw[io g]at a;split at b
   ·rename_i j;rw[iF j]at a;exact f.rel _ x v b a
   ·rename_i j;rw[io j]at a;exact h.rel i x v b a
def qB(P:Program)(s:AS)(T:TypeId)(p v:AV):Option AS :=
 match p with
 | .ptr id off=>match look id s.o,kN v with
  | some cs,some b=>if cz P T=some b.length∧off+b.length≤cs.length then some { s with o:=bj id (jG off b cs) s.o } else none
  | _,_=>none
 | .eptr id sz j off=>match look id s.r,kN v with
  | some a,some b=>match a.l[j]? with
   | some e=>if a.sz=sz∧cz P T=some b.length∧off+b.length≤e.length∧ex [] b=true then some { s with r:=bj id { a with l:=a.l.set j (jG off b e) } s.r } else none
   | none=>none
  | _,_=>none
 | _=>none
theorem Mc{P:Program}{w:World}{g off:Nat}{T T':TypeId}{a:Array Value}{x:Value}(d:w.heap[g]?=some (.cells a T' (0,0)))(j:cz P T=some x.cells.toList.length)(h:off+x.cells.toList.length≤a.size)(c:∀v∈x.cells.toList,v.oneCell'=true):
  (Instr.storeAt T (.pointer (some ⟨g,off,none⟩)) x).run P w=.ok () (w.setRow g (a.toList.take off++x.cells.toList++a.toList.drop (off+x.cells.toList.length)).toArray):=by
 have b:=run_storeCells_at P g off T' x.cells.toList 0 a w d (by grind) c;cases e:P.info? T with
 | none=>grind[cz]
 | some i =>
  have f:i.size=x.cells.size:=by grind[cz]
  simp only[aix]at b;simp[Instr.storeAt,Instr.sureAddr,storeVar,sizeOf,typeInfo,e,f,b]
theorem Cells.TW{N}{w}{ι}{cs}{vs}(h:Cells N w ι cs vs)(b:ex [] cs=true) ι':Cells N w ι' cs vs :=
 ⟨h.len,h.one,fun i x v a c=>(h.rel i x v a c).pure (mb b i x a) ι'⟩
theorem HS.ag6{M:Nat→Prop}{w0:az}{w:World}{ι:Env}{s:AS}(h:HS M w0 w ι s){id g n c:Nat}{ar:bZ}{j off:Nat}{e nv:List AV}{u:d5}
  (d0:look id s.r=some ar) (D:ι id=some (.slice (some ⟨g,0,none⟩) n c)) (he:ar.l[j]?=some e) (hl:off+nv.length≤e.length) (F:Cells (NN M ι) w bA nv u) :
  ∃d T,w.heap[g]?=some (.cells d T (0,0))∧j*ar.sz+off+u.length≤d.size ∧
   HS M w0 (w.setRow g (d.toList.take (j*ar.sz+off)++u++d.toList.drop (j*ar.sz+off+u.length)).toArray) ι { s with r:=bj id { ar with l:=ar.l.set j (jG off nv e) } s.r }:=by
 obtain⟨v,xs,I,h2,h3,h4,h5⟩:=h.arrs id ar d0 (by rw[D];rfl);rw[D]at I;injection I with I;subst I
 have E:bg (ι id)=some g:=by rw[D];rfl
 obtain⟨hv,_⟩|⟨Q,m0,d,hv,o,hg,Y,U,B,N⟩:=h2.2
 ·cases hv
 injection hv with S hn e0
 injection S with S;injection S with S;subst S;subst e0
 have W:j<ar.l.length:=(g7.1 he).1;have f0:e.length=ar.sz:=h3 e (jt he);have a0:xs.length=ar.l.length*ar.sz:=h2.1;have l0:(j+1)*ar.sz≤ar.l.length*ar.sz:=ye _ W;have h0:ar.l.length*ar.sz≤c*ar.sz:=ye _ Y;have p0:(j+1)*ar.sz=j*ar.sz+ar.sz:=by rw[ac6,al4]
 have z:j*ar.sz+off+u.length≤d.size:=by rw[←F.len,B];omega
 have p:j*ar.sz+off+u.length≤xs.length:=by rw[←F.len,a0];omega
 refine⟨d,ar.e,hg,z,?_⟩;generalize hC:(d.toList.take (j*ar.sz+off)++u++d.toList.drop (j*ar.sz+off+u.length)).toArray=C;have O:∀b,b<w.heap.size→¬ NN M ι b→(w.setRow g C).heap[b]?=w.heap[b]?:=fun b _ o=>eT (fun e=>o (.inr ⟨id,by rw[e];exact E⟩));obtain⟨ho,r0⟩:=h.own id g E;refine⟨?_,h.old,h.use,fun i k t=>?_,h.inj,h.ko,fun i a y=>?_,fun i cs y hp=>?_,fun i a y hp=>?_,h.pin⟩
 ·exact h.below.trans ⟨rfl,rfl,rfl,by simp,fun k t hG=>eT (fun e=>by subst e;rcases ho with ho|ho;exact Nat.lt_irrefl _ (nx t ho);exact hG ho)⟩
 ·have:=h.own i k t;simp;exact this
 ·simp only[cp]at y;by_cases P:i=id
  ·subst P;exact h.use i _ D
  ·rw[io P]at y;exact h.kr i a y
 ·obtain⟨Q,T',k0,I,J,K⟩:=h.objs i cs y hp;have i0:Q≠g:=fun e'=>by
   have:=h.inj i id g (by rw[I,e'];rfl) E;subst this;rw[I]at D;cases D
  exact⟨Q,T',k0,I,(eT i0).trans J,K.mono (by simp) (fun b _ o=>o) O (fun _ _ h=>h)⟩
 ·simp only[cp]at y;by_cases P:i=id
  ·subst P;rw[iF rfl]at y;injection y with y;subst y
   refine⟨_,xs.take (j*ar.sz+off)++u++xs.drop (j*ar.sz+off+u.length),D,⟨?_,.inr ⟨g,c,C,?_,o,anM w g d _ _ _ hg,?_,U,?_,?_⟩⟩,?_,?_,?_⟩
   ·rw[oP _ _ _ p];simpa using a0
   ·simp[hn]
   ·simpa using Y
   ·rw[←B,← hC];have A:=z;rw[←yk]at A;rw[am9,oP _ _ _ A,yk]
   ·rw[←hC];apply alV;intro i;simp only[u5,alW];rw[lr _ _ _ (by simpa using z),lr _ _ _ p];have ht:∀i,xs[i]?=if i<ar.l.length*ar.sz then d.toList[i]? else none:=fun i=>by rw[←N,u5]
    simp only[ht];have o0:=F.len;by_cases g1:i<ar.l.length*ar.sz
    ·simp only[iF g1]
    ·simp only[io g1];have g2:¬ i<j*ar.sz+off:=by omega
     have g3:¬ i<j*ar.sz+off+u.length:=by omega
     simp only[io g2,io g3]
   ·intro e' G;simp only[]at G⊢;rcases al5 G with G|rfl
    ·exact h3 e' G
    ·unfold jG;rw[oP _ _ _ hl];exact f0
   ·intro x m;rcases kb.1 m with m|m
    ·rcases kb.1 m with m|m
     ·exact h4 x (nk m)
     ·exact F.one x m
    ·exact h4 x (tl m)
   ·intro j' e' f k c' t;simp only[]at f⊢;rw[lr _ _ _ p];rw[amf]at f;by_cases ej:j=j'
    ·subst ej;rw[iF rfl,iF W]at f;injection f with f;subst f
     unfold jG at t;have X:k<e.length:=by have:=(g7.1 t).1;rwa[oP _ _ _ hl]at this
     rw[lr _ _ _ hl]at t;split at t
     ·rename_i g1;obtain⟨x,m,L⟩:=h5 j e he k c' t;rw[iF (by omega)];exact⟨x,m,L.mono (by simp) (fun b _ o=>o) O (fun _ h=>h) (fun r q=>eT (fun e=>h.pc q D (fun _ e=>by cases e) (by rw[e];rfl))) (fun h=>h)⟩
     ·rename_i g1;split at t
      ·rename_i g2;have H:k-off<u.length:=by rw[←F.len];omega
       rw[io (by omega),iF (by rw[←F.len];omega)];have e2:j*ar.sz+k-(j*ar.sz+off)=k-off:=by omega
       rw[e2];exact⟨u[k-off],h6 H,.inl ((F.rel _ _ _ t (h6 H)).mono (by simp) (fun b _ o=>o) O (fun _ _ h=>h))⟩
      ·rename_i g2;obtain⟨x,m,L⟩:=h5 j e he k c' t;rw[io (by omega),io (by rw[←F.len];omega)];exact⟨x,m,L.mono (by simp) (fun b _ o=>o) O (fun _ h=>h) (fun r q=>eT (fun e=>h.pc q D (fun _ e=>by cases e) (by rw[e];rfl))) (fun h=>h)⟩
    ·rw[io ej]at f;obtain⟨x,m,L⟩:=h5 j' e' f k c' t;have X:k<ar.sz:=by have:=(g7.1 t).1;rwa[h3 e' (jt f)]at this
     have q0:off+u.length≤ar.sz:=by rw[←F.len];omega
     refine⟨x,?_,L.mono (by simp) (fun b _ o=>o) O (fun _ h=>h) (fun r q=>eT (fun e=>h.pc q D (fun _ e=>by cases e) (by rw[e];rfl))) (fun h=>h)⟩;rcases Nat.lt_or_gt_of_ne ej with Z|V
     ·have:(j+1)*ar.sz≤j'*ar.sz:=ye _ Z;rw[io (by omega),io (by omega)];exact m
     ·have:(j'+1)*ar.sz≤j*ar.sz:=ye _ V;rw[ac6,al4]at this;rw[iF (by omega)];exact m
  ·rw[io P]at y;obtain⟨v',xs',R,J,K,b0,c0⟩:=h.arrs i a y hp;refine⟨v',xs',R,fS J (fun Q g0=>eT ?_),K,b0,fun j el hj k c H=>?_⟩
   ·intro e';subst e';exact P (h.inj i id Q (by rw[R];exact g0) E)
   ·obtain⟨x,m,L⟩:=c0 j el hj k c H;exact⟨x,m,L.mono (by simp) (fun b _ o=>o) O (fun _ h=>h) (fun r q=>eT (fun e=>h.pc q D (fun _ e=>by cases e) (by rw[e];rfl))) (fun h=>h)⟩
theorem adT{r:Cx}{s s':AS}{a:Act}{w:World}{ι:Env}(f:aI r s a w ι){T:TypeId}{p v:AV}(h:qB r.P s T p v=some s'){X Y:Value}(B:Rel (NN r.M ι) w ι p X)(C:Rel (NN r.M ι) w ι v Y):
  ∃w',(Instr.storeAt T X Y).run r.P w=.ok () w'∧aI r s' a w' ι:=by
 unfold qB at h;split at h
 ·rename_i id off;split at h
  ·rename_i cs I x o;split at h
   ·rename_i d;injection h with h;subst h
    cases B with
    | ptr _ _ _ g q =>
     obtain⟨J,T',vs,i,z,A⟩:=f.hs.objs id cs x (by rw[q];rfl);rw[q]at i;injection i with i;injection i with i;injection i with i;injection i with i;subst i
     have k:=yP o C;have m:bg (ι id)=some g:=by rw[q];rfl
     refine⟨_,Mc z (by rw[←k.len];exact d.1) (by have:=A.len;have:=d.2;rw[←k.len];simp at *;omega) k.one,?_⟩;refine f.world (f.hs.setObj q z (A.jG k d.2)) rfl (by simp) (fun b _ l=>l) (fun b _ l=>eT (fun e=>l (.inr ⟨id,by rw[e];exact m⟩))) (fun _ _ h=>h)
   ·cases h
  ·cases h
 ·rename_i id sz j off;split at h
  ·rename_i ar I u o;split at h
   ·rename_i e G;split at h
    ·rename_i d;obtain⟨c1,D,E,c4⟩:=d;subst c1;injection h with h;subst h
     cases B with
     | eptr _ _ _ _ _ g n c q =>
      have k:=yP o C;obtain⟨F,T',H,t,y⟩:=f.hs.ag6 u q G E (k.TW c4 bA);have m:bg (ι id)=some g:=by rw[q];rfl
      refine⟨_,Mc H (by rw[←k.len];exact D) t k.one,?_⟩;refine f.world y rfl (by simp) (fun b _ l=>l) (fun b _ l=>eT (fun e=>l (.inr ⟨id,by rw[e];exact m⟩))) (fun _ _ h=>h)
    grind
   grind
  grind
 grind
end Go.Proofs.YtocgkfoifehcbaaGreat
namespace Go.Proofs.YtocgkfoifehcbaaGreat
set_option linter.all false
open Go.RowKit
variable[FM]
theorem X0(l:d5):∀(off:Nat) (cs:Array Value),off+l.length≤cs.size →
  ((l.zipIdx off).foldl (fun (a:Array Value) (x:Value×Nat)=>a.setIfInBounds x.2 x.1) cs).toList=cs.toList.take off++l++cs.toList.drop (off+l.length):=by
 induction l with
 | nil=>intro off cs _;simp
 | cons v r e =>
  intro off cs h;simp only[iN]at h;simp only[List.zipIdx_cons,amd];rw[e (off+1) _ (by simp;omega)];simp only[amZ,iN];have b:off<cs.toList.length:=by simp;omega
  have c:(cs.toList.set off v).take (off+1)=cs.toList.take off++[v]:=by
   rw[IT (by simpa using b),List.take_set,ana (by rw[Dj];omega)];simp
  have d:(cs.toList.set off v).drop (off+1+r.length)=cs.toList.drop (off+(r.length+1)):=by
   rw[List.drop_set,iF (by omega)];congr 1;omega
  rw[c,d];simp
theorem RO(cs f:Array Value)(off:Nat)(h:off+f.size≤cs.size):
  (f.zipIdx.foldl (fun (a:Array Value) (x:Value×Nat)=>a.setIfInBounds (off+x.2) x.1) cs)=(cs.toList.take off++f.toList++cs.toList.drop (off+f.toList.length)).toArray:=by
 have e:=X0 f.toList off cs (by simpa using h);rw[←Array.foldl_toList];simp only[Array.toList_zipIdx];have key:∀(l:d5) (k:Nat) (a:Array Value),(l.zipIdx k).foldl (fun (a:Array Value) (x:Value×Nat)=>a.setIfInBounds (off+x.2) x.1) a=(l.zipIdx (off+k)).foldl (fun (a:Array Value) (x:Value×Nat)=>a.setIfInBounds x.2 x.1) a:=by
  intro l
  induction l with
  | nil=>intro k a;rfl
  | cons v r b=>intro k a;simp only[List.zipIdx_cons,amd];rw[b];rfl
 grind
def Bj(pl:List ed)(cs:List AV):List (Nat×AV)→Option (List AV)
 | []=>some cs
 | (i,v)::r=>match pl[i]?,kN v with
  | some (off,sz),some a=>if a.length=sz∧off+a.length≤cs.length then Bj pl (jG off a cs) r else none
  | _,_=>none
def mC(s:AS):List (Nat×Operand)→Option (List (Nat×AV))
 | []=>some []
 | (i,x)::r=>match s.ev x,mC s r with|some v,some l=>some ((i,v)::l)|_,_=>none
theorem HV{N:Nat→Prop}{w:World}{ι:Env}{pl:List ed}{a:Nat→Option ed}(g:∀i l,pl[i]?=some l→a i=some l):∀{ps:List (Nat×AV)} {qs:List (Nat×Value)} {cs b:List AV} {zs:Array Value},Cells N w ι cs zs.toList →
  ps.length=qs.length→(∀(i:Nat) (p:Nat×AV) (q:Nat×Value),ps[i]?=some p→qs[i]?=some q→p.1=q.1∧Rel N w ι p.2 q.2)→Bj pl cs ps=some b→∃d,Instr.fill a zs qs=some d∧Cells N w ι b d.toList
 | [],[],cs,b,zs,m,_,_,h=>by injection h with h;subst h;exact⟨zs,rfl,m⟩
 | [],_::_,_,_,_,_,f,_,_=>by simp at f
 | _::_,[],_,_,_,_,f,_,_=>by simp at f
 | (i,v)::ps,(j,x)::qs,cs,b,zs,m,f,B,h=>by
  obtain⟨y,z⟩:=B 0 (i,v) (j,x) rfl rfl;simp only[]at y z;subst y;simp only[Bj]at h;cases c:pl[i]? with
  | none=>rw[c]at h;cases h
  | some l =>
   have E:=g i l c;obtain⟨off,sz⟩:=l;cases u:kN v with
   | none=>rw[c,u]at h;cases h
   | some F =>
    rw[c,u]at h;simp only[]at h;split at h
    ·rename_i e;have A:=yP u z;have n:=m.len;have o:=A.len;simp only[yk]at n o;have t:=m.jG A e.2;obtain⟨d,C,D⟩:=HV g (zs:=(zs.toList.take off++x.cells.toList++zs.toList.drop (off+x.cells.toList.length)).toArray) (by simpa using t) (by simpa using f) (fun k p q r s=>B (k+1) p q (by simpa using r) (by simpa using s)) h;refine⟨d,?_,D⟩;unfold Instr.fill;rw[E];simp only[];rw[io (by simp;omega),RO zs x.cells off (by omega)];exact C
    ·cases h
theorem B9{g:Cx}{s:AS}{a:Act}{w:World}{ι:Env}(h:aI g s a w ι):∀{ps:List (Nat×Operand)} {l:List (Nat×AV)},mC s ps=some l→l.length=(ps.map fun y=>(y.1,a.eval y.2)).length ∧
  ∀(i:Nat) (p:Nat×AV) (q:Nat×Value),l[i]?=some p→(ps.map fun y=>(y.1,a.eval y.2))[i]?=some q→p.1=q.1∧Rel (NN g.M ι) w ι p.2 q.2
 | [],l,e=>by injection e with e;subst e;exact⟨rfl,fun i p q b _=>by simp at b⟩
 | (i,x)::r,l,e=>by
  unfold mC at e;cases c:s.ev x with
  | none=>rw[c]at e;cases e
  | some v =>
   cases d:mC s r with
   | none=>rw[c,d]at e;cases e
   | some l' =>
    rw[c,d]at e;injection e with e;subst e
    obtain⟨j,m⟩:=B9 h d;refine⟨by simp at j;simp[j],fun k p q b f=>?_⟩;cases k with
    | zero=>simp at b f;subst b;subst f;exact⟨rfl,h.ev c⟩
    | succ k=>exact m k p q (by simpa using b) (by simpa using f)
def ug(P:Program)(s:AS)(T:TypeId)(parts:List (Nat×Operand)):Option AV :=
 match Jg P T,fE P T,mC s parts with
 | some pl,some z,some ps=>(Bj pl z ps).map .agg
 | _,_,_=>none
theorem W5{b:Cx}{s:AS}{a:Act}{w:World}{ι:Env}(r:aI b s a w ι){T:TypeId}{parts:Array (Nat×Operand)}{v:AV}(h:ug b.P s T parts.toList=some v):
  ∃x,(Instr.build T (parts.map fun (i,x)=>(i,a.eval x))).run b.P w=.ok x w∧Rel (NN b.M ι) w ι v x:=by
 unfold ug at h;cases c:Jg b.P T with
 | none=>rw[c]at h;cases h
 | some pl =>
  cases o:fE b.P T with
  | none=>rw[c,o]at h;cases h
  | some z =>
   cases C:mC s parts.toList with
   | none=>rw[c,o,C]at h;cases h
   | some ps =>
    simp only[c,o,C]at h;cases u:Bj pl z ps with
    | none=>simp[u]at h
    | some cs =>
     simp only[u,If,qv]at h;subst h;obtain⟨E,F⟩:=B9 r C;unfold fE at o;cases g:b.P.info? T with
     | none=>simp[g]at o
     | some K =>
      cases p:K.zero with
      | none=>simp[g,p]at o
      | some G =>
       simp only[g,go,p]at o;have I:(parts.map fun (y:Nat×Operand)=>(y.1,a.eval y.2)).toList=parts.toList.map fun y=>(y.1,a.eval y.2):=agQ;have B:∃j,b.P.built T (parts.map fun (y:Nat×Operand)=>(y.1,a.eval y.2)).toList=some j∧Cells (NN b.M ι) w ι cs j.toList:=by
        rw[I];unfold Program.built;unfold Jg at c;cases t:b.P.underlying T with
        | none=>simp[t]at c
        | some d =>
         cases d<;>try (simp[t]at c;done)
         case array n e =>
          cases q:b.P.info? e with
          | none=>simp[t,cz,q]at c
          | some M =>
           simp only[t,cz,q,If,qv]at c;subst c;simp only[g,p,q];refine HV (fun i L m=>?_) (zs:=G.cells) (oh (NN b.M ι) w ι o) E F u;rw[th]at m;cases D:(List.range n)[i]? with
           | none=>rw[D]at m;cases m
           | some k =>
            rw[D]at m;injection m with m;subst m
            have:=(g7.1 D).2;simp at this;subst this;rfl
         case struct l =>
          simp only[t,cz,Option.map_map]at c;have J:l.toList.mapM (fun f=>(b.P.info? f.type).map fun i=>(f.offset,i.size))=some pl:=c;simp only[g,p,J];exact HV (fun i L m=>by simpa using m) (zs:=G.cells) (oh (NN b.M ι) w ι o) E F u
       obtain⟨j,H,A⟩:=B;refine⟨_,run_build w T _ j H,?_⟩;have:=Rel.agg (N:=NN b.M ι) (w:=w) ι cs j.toList A.len A.one A.rel;simpa using this
def jF:AV→AV
 | .nils=>.sl []
 | v=>v
theorem akb{N}{w}{ι}{v}{x}(h:Rel N w ι v x):Rel N w ι (jF v) x:=by
 cases h<;>first|grind|(constructor<;>assumption)
theorem Cells.pz{N}{w}{ι}{cs}{vs}(h:Cells N w ι cs vs):Cells N w ι (cs.map jF) vs :=
 ⟨by simpa using h.len,h.one,fun i x v a b=>by
  rw[th]at a;cases e:cs[i]? with
  | none=>grind
  | some c=>rw[e]at a;injection a with a;subst a;exact akb (h.rel i c v e b)⟩
def aan:Nat:=900000
def ux(z:Bool)(cs:List AV):List AV:=match z with
 | true=>cs
 | false=>cs.map jF
theorem Cells.ux{N}{w}{ι}{cs}{vs}(h:Cells N w ι cs vs) z:Cells N w ι (ux z cs) vs:=by
 cases z
 ·exact h.pz
 ·exact h
theorem ahE z cs:(ux z cs).length=cs.length:=by cases z<;>simp[ux]
def xD(z:Bool)(sz k:Nat):List (Nat×AV)→Option (List (List AV))
 | []=>some []
 | (i,v)::r=>match kN v,xD z sz (k+1) r with
  | some a,some l=>if i=k∧a.length=sz∧ex [] a=true then some (ux z a::l) else none
  | _,_=>none
theorem Hs{N:Nat→Prop}{w:World}{ι:Env}{sz:Nat}{z:Bool}:∀{ps:List (Nat×AV)} {qs:List (Nat×Value)} {k:Nat} {zs:Array Value} {l:List (List AV)},
  ps.length=qs.length→(∀(i:Nat) (p:Nat×AV) (q:Nat×Value),ps[i]?=some p→qs[i]?=some q→p.1=q.1∧Rel N w ι p.2 q.2)→xD z sz k ps=some l→(k+ps.length)*sz≤zs.size →
  ∃a n,Instr.fill (fun i=>some (i*sz,sz)) zs qs=some a∧a.toList=zs.toList.take (k*sz)++n++zs.toList.drop ((k+ps.length)*sz)∧n.length=ps.length*sz∧l.length=ps.length∧(∀e∈l,e.length=sz)∧(∀y∈n,y.oneCell'=true) ∧
   (∀(j:Nat) (e:List AV),l[j]?=some e→∀(i:Nat) (x:AV),e[i]?=some x→∃v,n[j*sz+i]?=some v∧Rel N w bA x v)
 | [],[],k,zs,l,_,_,h,_=>by
  injection h with h;subst h
  exact⟨zs,[],rfl,by simp,by simp,rfl,fun e he=>(by cases he),fun y g=>(by cases g),fun j e he=>by simp at he⟩
 | [],_::_,_,_,_,r,_,_,_=>by simp at r
 | _::_,[],_,_,_,r,_,_,_=>by simp at r
 | (i,v)::ps,(j,x)::qs,k,zs,l,r,J,h,K=>by
  obtain⟨H,I⟩:=J 0 (i,v) (j,x) rfl rfl;simp only[]at H I;subst H;simp only[xD]at h;cases t:kN v with
  | none=>rw[t]at h;cases h
  | some nv =>
   cases f:xD z sz (k+1) ps with
   | none=>rw[t,f]at h;cases h
   | some l' =>
    rw[t,f]at h;simp only[]at h;split at h
    ·rename_i b;obtain⟨rfl,O,P⟩:=b;injection h with h;subst h
     have A:=yP t I;have B:=A.len;simp only[yk]at B;simp only[iN]at K r;have s:(i+1+ps.length)*sz≤zs.size:=by rw[show i+1+ps.length=i+(ps.length+1) by omega];exact K
     have X:(i+1)*sz=i*sz+sz:=by rw[ac6,al4]
     have Y:(i+1)*sz≤zs.size:=oR (ye _ (by omega)) s;have F:(zs.toList.take (i*sz)++x.cells.toList++zs.toList.drop (i*sz+x.cells.toList.length)).toArray.size=zs.size:=by
      rw[am9,oP _ _ _ (by simp;omega),yk]
     obtain⟨a,n,Q,R,S,T,U,V,W⟩:=Hs (zs:=(zs.toList.take (i*sz)++x.cells.toList++zs.toList.drop (i*sz+x.cells.toList.length)).toArray) (ps:=ps) (qs:=qs) (k:=i+1) (by omega)
      (fun k p q C D=>J (k+1) p q (by simpa using C) (by simpa using D)) f (by rw[F];exact s)
     refine⟨a,x.cells.toList++n,?_,?_,?_,by simp[T],?_,?_,?_⟩
     ·unfold Instr.fill;simp only[];rw[io (by simp;omega),RO zs x.cells (i*sz) (by omega)];exact Q
     ·rw[R];have Z:x.cells.toList.length=sz:=by simp;omega
      have t1:(zs.toList.take (i*sz)).length=i*sz:=by rw[Dj,yk];omega
      have L:((zs.toList.take (i*sz)++x.cells.toList++zs.toList.drop (i*sz+x.cells.toList.length)).toArray.toList).take ((i+1)*sz)=zs.toList.take (i*sz)++x.cells.toList:=by
       rw[amC (by rw[kc];omega)];rw[Dk (by rw[kc];omega)]
      have M:((zs.toList.take (i*sz)++x.cells.toList++zs.toList.drop (i*sz+x.cells.toList.length)).toArray.toList).drop ((i+1+ps.length)*sz)=zs.toList.drop ((i+(ps.length+1))*sz):=by
       have hm:(i+1+ps.length)*sz=(i+1)*sz+ps.length*sz:=by rw[ac6]
       rw[List.drop_append,la (by rw[kc];omega),Dy,am6,kc,t1,Z];congr 1;rw[show i+(ps.length+1)=i+1+ps.length by omega];omega
      rw[L,M];simp
     ·rw[kc,S,iN,ac6,al4,yk];omega
     ·intro e he;rcases l3.1 he with rfl|he
      ·rw[ahE];exact O
      ·exact U e he
     ·intro y g;rcases kb.1 g with g|g
      ·exact A.one y g
      ·exact V y g
     ·intro j e he m c u;cases j with
      | zero =>
       simp at he;subst he;have o:=(A.TW P bA).ux z;have d:m<x.cells.toList.length:=by have:=(g7.1 u).1;rw[o.len]at this;exact this
       refine⟨x.cells.toList[m],?_,o.rel m c _ u (h6 d)⟩;rw[Nat.zero_mul,z5,yw d,h6 d]
      | succ j =>
       simp at he;obtain⟨v',G,E⟩:=W j e he m c u;refine⟨v',?_,E⟩;rw[w3 (by rw[ac6,al4,yk];omega),yk,ac6,al4];rw[show j*sz+sz+m - x.cells.size=j*sz+m by omega];exact G
    ·cases h
def oJ(P:Program)(s:AS)(T:TypeId)(a:Nat)(parts:List (Nat×Operand)):Option AV :=
 match g8 P T,mC s parts with
 | some (e,sz+1),some ps=>match xD (s.u.contains aan) (sz+1) 0 ps with
  | some l=>if ps.length=a∧0<a∧a*(sz+1)≤16777216∧(fE P e).isSome=true then some (.sl l) else none
  | none=>none
 | _,_=>none
theorem aaF{k:Cx}{s:AS}{a:Act}{w:World}{ι:Env}(c:aI k s a w ι){T:TypeId}{f:Nat}{parts:Array (Nat×Operand)}{v:AV}(h:oJ k.P s T f parts.toList=some v):
  ∃x w',(Instr.buildSlice T f (parts.map fun (i,x)=>(i,a.eval x))).run k.P w=.ok x w'∧aI k s a w' ι∧Rel (NN k.M ι) w' ι v x:=by
 unfold oJ at h;split at h
 ·rename_i e sz ps d B;split at h
  ·rename_i l J;split at h
   ·rename_i m;obtain⟨c1,D,Q,c4⟩:=m;injection h with h;subst h
    obtain⟨M,N⟩:=B9 c B;unfold g8 at d;split at d
    ·rename_i e' K;cases g:k.P.info? e' with
     | none=>simp[cz,g]at d
     | some q =>
      simp only[cz,g,If,qv,u4]at d;obtain⟨rfl,n⟩:=d;unfold fE at c4;cases p:q.zero with
      | none=>simp[g,p]at c4
      | some z =>
       have A:(parts.map fun (y:Nat×Operand)=>(y.1,a.eval y.2)).toList=parts.toList.map fun y=>(y.1,a.eval y.2):=agQ;obtain⟨r,O,t,E,R,F,G,H,I⟩:=Hs (zs:=(Array.range (f*q.size)).map (z.cells[· % z.cells.size]!)) M N J (by simp[c1,n]);rw[←A]at t;have L:r.toList=O:=by
        rw[E,c1];simp[n]
       have j:q.size=sz+1:=n;rw[←j]at t;have C:0<f*q.size:=Nat.mul_pos D (by omega);have o:=run_buildSlice (P:=k.P) w T e' f (parts.map fun (y:Nat×Operand)=>(y.1,a.eval y.2)) r q z K g p (by rw[j];omega) (by omega) t;refine⟨_,_,o,?_,?_⟩
       ·exact c.world (c.hs.fresh _) rfl (by simp) (fun b _ u=>u) (fun b u _=>mm _ _ _ u) (fun _ _ h=>h)
       ·have:=Vm (T:=e') c.hs G H I;rw[F,c1,← L]at this;simpa using this
    ·cases d
   ·cases h
  grind
 grind
end Go.Proofs.YtocgkfoifehcbaaGreat
namespace Go.Proofs.YtocgkfoifehcbaaGreat
set_option linter.all false
open Go.RowKit
variable[FM]
theorem vZ{P:Program}{N:Nat→Prop}{w:World}{ι:Env}{cs:List AV}{vs:d5}(e:Cells N w ι cs vs){T:TypeId}{off:Nat}{v:AV}(h:jj P T (cs.drop off)=some v):
  ∃x,(part T vs.toArray off).run P w=.ok x w∧Rel N w ι v x:=by
 unfold jj at h;cases f:P.underlying T with
 | none=>simp[rN,f]at h
 | some d =>
  cases m:d.isRow with
  | true =>
   simp only[rN,f,If,m]at h;cases j:cz P T with
   | none=>simp[j]at h
   | some n =>
    simp only[j]at h;split at h
    ·rename_i q;injection h with h;subst h
     have a:(isAgg T).run P w=.ok true w:=by
      unfold isAgg;rw[n4,ls f w];cases d<;>simp_all[TypeDesc.isRow]
     cases k:P.info? T with
     | none=>simp[cz,k]at j
     | some s =>
      have r:s.size=n:=by simpa[cz,k]using j
      refine⟨.agg ((vs.drop off).take n).toArray,?_,.agg _ _ _ (by simp[e.len]) (fun y c=>e.one y (tl (nk c))) (fun i x y g c=>?_)⟩
      ·simp[part,a,sizeOf,typeInfo,k,r,List.extract_eq_take_drop]
      ·rw[u5]at g c;split at g
       ·rename_i b;rw[iF b]at c;rw[Qf]at g c;exact e.rel _ x y g c
       ·cases g
    ·cases h
  | false =>
   simp only[rN,f,If,m]at h;have p:cs[off]?=some v:=by simpa[anm]using h
   have b:off<vs.length:=by rw[←e.len];grind
   have o:=h6 (l:=vs) b;have a:(isAgg T).run P w=.ok false w:=by
    unfold isAgg;rw[n4,ls f w];cases d<;>simp_all
   refine⟨vs[off],?_,e.rel off v _ p o⟩;simp[part,a,o]
def Bk(c:TypeId→AV→AV→Option Bool)(P:Program)(xs d:List AV):List Field→Option Bool
 | []=>some true
 | f::e=>if f.name ≠ "_" then
   match jj P f.type (xs.drop f.offset),jj P f.type (d.drop f.offset) with
   | some a,some b=>match c f.type a b,Bk c P xs d e with
    | some r,some q=>some (r&&q)
    | _,_=>none
   | _,_=>none
  else Bk c P xs d e
def wO(c:AV→AV→Option Bool)(P:Program)(e:TypeId)(sz:Nat)(xs d:List AV):Nat→Nat→Option Bool
 | _,0=>some true
 | i,k+1 =>
  match jj P e (xs.drop (i*sz)),jj P e (d.drop (i*sz)) with
  | some a,some b=>match c a b,wO c P e sz xs d (i+1) k with
   | some r,some q=>some (r&&q)
   | _,_=>none
  | _,_=>none
def kG(P:Program):Nat→TypeId→AV→AV→Option Bool
 | 0,_,_,_=>none
 | d+1,T,u,v=>match P.underlying T,u,v with
  | some .bool,.bool a,.bool b=>some (a == b)
  | some (.int _),.int k a,.int g b=>if k=g then some (a == b) else none
  | some .string,.str a,.str b=>some (a.toList == b.toList)
  | some (.struct f),.agg xs,.agg c=>if P.stoodInHeld T=true then none else Bk (kG P d) P xs c f.toList
  | some (.array n e),.agg xs,.agg c=>match cz P e with
   | some sz=>wO (kG P d e) P e sz xs c 0 n
   | none=>none
  | _,_,_=>none
theorem KH{P:Program}{N:Nat→Prop}{w:World}{ι:Env}{d:Nat}(j:∀T u v r x y,kG P d T u v=some r→Rel N w ι u x→Rel N w ι v y→(Op.equalIn d T x y).run P w=.ok r w)
  {xs m:List AV} {as k:d5} (e:Cells N w ι xs as) (g:Cells N w ι m k):∀(c:List Field) (r:Bool),Bk (kG P d) P xs m c=some r→(Op.eqFields d as.toArray k.toArray c).run P w=.ok r w
 | [],r,h=>by injection h with h;subst h;simp[Op.eqFields]
 | f::c,r,h=>by
  unfold Bk at h;unfold Op.eqFields;split at h
  ·rename_i i;rw[iF i];split at h
   ·rename_i a b A B;split at h
    ·rename_i l q C D;injection h with h;subst h
     obtain⟨x,n,o⟩:=vZ e A;obtain⟨y,p,s⟩:=vZ g B;have t:=j f.type a b l x y C o s;have z:=KH j e g c q D;simp only[n4,n,pt,p,t,Sem.run_ite,By,z];cases l<;>simp
    ·cases h
   grind
  ·rename_i i;rw[io i];exact KH j e g c r h
theorem Vw{P:Program}{N:Nat→Prop}{w:World}{ι:Env}{d:Nat}{e:TypeId}{sz:Nat}(l:∀u v r x y,kG P d e u v=some r→Rel N w ι u x→Rel N w ι v y→(Op.equalIn d e x y).run P w=.ok r w)
  {xs n:List AV} {as c:d5} (f:Cells N w ι xs as) (g:Cells N w ι n c):∀(k i:Nat) (r:Bool),wO (kG P d e) P e sz xs n i k=some r →
  (forIn (List.range' i k) ((none,()):Option Bool×Unit) (fun (j:Nat) (_:Option Bool×Unit)=>(do
    let a ← part e as.toArray (j*sz)
    let b ← part e c.toArray (j*sz)
    let q ← Op.equalIn d e a b
    if (!q)=true then pure (ForInStep.done (some false,())) else pure (ForInStep.yield (none,())):Sem (ForInStep (Option Bool×Unit)))):Sem (Option Bool×Unit)).run P w=.ok (if r=true then none else some false,()) w
 | 0,i,r,h=>by injection h with h;subst h;simp
 | k+1,i,r,h=>by
  unfold wO at h;split at h
  ·rename_i a b B C;split at h
   ·rename_i m q D E;injection h with h;subst h
    obtain⟨x,o,p⟩:=vZ f B;obtain⟨y,s,t⟩:=vZ g C;have z:=l a b m x y D p t;have A:=Vw l f g k (i+1) q E;rw[List.range'_succ,List.forIn_cons];simp only[n4,o,pt,s,z,Sem.run_ite,By];cases m
    ·simp
    ·simp only[Ts,hH,rv,pt,amL];exact A
   grind
  grind
theorem Ze{P}{N}{w}{ι}{d}{t e}{n sz}(k:P.underlying t=some (.array n e))(o:cz P e=some sz)
  (l:∀u v r x y,kG P d e u v=some r→Rel N w ι u x→Rel N w ι v y→(Op.equalIn d e x y).run P w=.ok r w) {xs b} {as a} (c:Cells N w ι xs as) (f:Cells N w ι b a) {r} (h:wO (kG P d e) P e sz xs b 0 n=some r) :
  (Op.equalIn (d+1) t (.agg as.toArray) (.agg a.toArray)).run P w=.ok r w:=by
 have j:(sizeOf e).run P w=.ok sz w:=by
  cases g:P.info? e with
  | none=>grind[cz]
  | some m =>
   have : m.size=sz:=by grind[cz]
   simp[sizeOf,typeInfo,g,this]
 simp only[Op.equalIn,n4,ls k,pt,j];rw[Std.Legacy.Range.forIn_eq_forIn_range'];have i:=Vw l c f n 0 r h;simp only[Std.Legacy.Range.size,aiE,amc,Nat.div_one];rw[i];cases r<;>simp
theorem Iq{P:Program}{N:Nat→Prop}{w:World}{ι:Env}:∀(d:Nat) (T:TypeId) (u v:AV) (r:Bool) (x y:Value),kG P d T u v=some r→Rel N w ι u x→Rel N w ι v y→(Op.equalIn d T x y).run P w=.ok r w
 | 0,_,_,_,_,_,_,h,_,_=>by cases h
 | d+1,T,u,v,r,x,y,h,g,i=>by
  unfold kG at h;split at h
  ·rename_i a;injection h with h;subst h;cases g;cases i;exact anb w d T _ _ a
  ·rename_i a;split at h
   ·rename_i q;subst q;injection h with h;subst h;cases g;cases i;exact run_equalIn_int w d T _ _ _ _ a
   ·cases h
  ·rename_i a;injection h with h;subst h;cases g;cases i;exact run_equalIn_string w d T _ _ a
  ·rename_i m xs z a;split at h
   ·cases h
   ·rename_i s;cases g with
    | agg _ _ as k j l =>
     cases i with
     | agg _ _ p c b f =>
      have o:P.fieldsOf T=m:=by unfold Program.fieldsOf;rw[a]
      rw[run_equalIn_struct w d T _ _ (by rw[o];exact a) (by simpa using s),o];exact KH (fun T u v r x y=>Iq d T u v r x y) ⟨k,j,l⟩ ⟨c,b,f⟩ m.toList r h
  ·rename_i n e xs z a;split at h
   ·rename_i sz t;cases g with
    | agg _ _ as k j l =>
     cases i with
     | agg _ _ p c b f =>
      exact Ze a t (fun u v r x y=>Iq d e u v r x y) ⟨k,j,l⟩ ⟨c,b,f⟩ h
   grind
  grind
def S9:AV→Bool
 | .ptr _ _|.eptr _ _ _ _|.cptr _|.adr _ _|.pp _ _ _=>true
 | _=>false
def lq(s:AS)(n:Nat):Option Operand→Option Operand→Option eb
 | none,none=>some (0,n)
 | some lo,none=>match s.ev lo with|some (.int _ a)=>some (a,n)|_=>none
 | none,some c=>match s.ev c with|some (.int _ b)=>some (0,b)|_=>none
 | some lo,some c=>match s.ev lo,s.ev c with|some (.int _ a),some (.int _ b)=>some (a,b)|_,_=>none
def kw(s:AS)(x:AV)(lo c:Option Operand):Option AV :=
 match x with
 | .sl l=>match lq s l.length lo c with
  | some (a,b)=>if 0≤a∧a≤b∧b≤l.length then some (.sl ((l.take b.toNat).drop a.toNat)) else none
  | none=>none
 | .ref id=>match look id s.r with
  | some ar=>(match lq s ar.l.length lo c with
   | some (a,b)=>if 0≤a∧a≤b∧b≤ar.l.length then some (.sref id ar.sz a.toNat (b.toNat-a.toNat)) else none
   | none=>none)
  | none=>none
 | .str b=>match lq s b.size lo c with
  | some (i,j)=>if 0≤i∧i≤j∧j≤b.size then some (.str (b.extract i.toNat j.toNat)) else none
  | none=>none
 | _=>none
def Ug(P:Program)(T:TypeId)(x:AV)(j:Int):Option AV :=
 match P.underlying T,x with
 | some (.array n e),.agg cs=>match cz P e with
  | some k=>if 0≤j∧j<n then jj P e (cs.drop (j.toNat*k)) else none
  | none=>none
 | some .string,.str s=>if 0≤j then (match s[j.toNat]? with|some b=>some (.int .u8 b.toNat)|none=>none) else none
 | _,_=>none
def Nz(P:Program)(T:TypeId)(f:Nat):AV→Option AV
 | .agg cs=>match P.underlying T with
  | some (.struct a)=>match a[f]? with|some g=>jj P g.type (cs.drop g.offset)|none=>none
  | _=>none
 | _=>none
def BG:List (List AV)→Option b5
 | []=>some []
 | [.int .i32 n]::r=>match BG r with|some l=>some (n::l)|none=>none
 | _::_=>none
theorem Oc:∀{l} {ns},BG l=some ns→l=ns.map fun n=>[.int .i32 n]
 | [],ns,h=>by injection h with h;grind
 | e::r,ns,h=>by
  unfold BG at h;split at h
  ·grind
  ·rename_i n d q;injection q with b c;subst b;subst c
   split at h
   ·rename_i l a;injection h with h;subst h;rw[n5,← Oc a]
   grind
  grind
def OL(P:Program)(S D:TypeId):AV→Option AV
 | .int _ n=>match P.underlying S,P.underlying D with|some (.int _),some (.int k)=>some (.int k (k.wrap n))|some (.int _),some .string=>some (.str (Utf8.encode n))|_,_=>none
 | .sl l=>match P.underlying S,P.underlying D with
  | some (.slice e),some .string=>match P.underlying e,BG l with
   | some (.int .i32),some ns=>some (.str (runesBytes ns))
   | _,_=>none
  | _,_=>none
 | _=>none
def Jc:Option TypeDesc→Bool
 | some (.slice _)=>true
 | _=>false
def ur(a b:ByteArray):Bool:=decide (a.size+b.size≤9223372036854775807)
def G1(P:Program)(op:BinOp)(T:TypeId)(u v:AV):Option AV :=
 match op with
 | .add=>match u,v with
  | .str a,.str b=>if ur a b=true then some (.str (a++b)) else none
  | _,_=>none
 | .eql|.neq=>match u,v with
  | .agg _,.agg _=>if P.eqGuardType P.depth T=true then none else (match kG P 10000 T u v with|some r=>some (.bool (match op with|.neq=>!r|_=>r))|none=>none)
  | .bool a,.bool b=>match P.underlying T with|some .bool=>some (.bool (match op with|.neq=>!(a == b)|_=>(a == b)))|_=>none
  | .nils,.nils=>if Jc (P.underlying T)=true then some (.bool (match op with|.neq=>false|_=>true)) else none
  | _,_=>none
 | _=>none
def Ig(s:AS)(g:FuncId):List Operand→List Operand→Option AV
 | [x],[]=>match s.ev x with|some (.adr b off)=>some (.vv (.func (.func g) #[.pointer (some ⟨b,off,none⟩)] #[]))|_=>none
 | _,_=>none
def lD(P:Program)(s:AS)(o:Oper):Option AV :=
 match o.op with
 | .makeFunc (.func g) b cs=>Ig s g b.toList cs.toList
 | .nilCheck x=>match s.ev x with|some v=>if S9 v=true then some v else none|none=>none
 | .field T x f=>match s.ev x with|some p=>Nz P T f p|none=>none
 | .index T x i=>match s.ev x,s.ev i with|some p,some (.int _ j)=>Ug P T p j|_,_=>none
 | .convert S D x=>match s.ev x with|some p=>OL P S D p|none=>none
 | .binOp op T x y _=>match s.ev x,s.ev y with|some u,some v=>G1 P op T u v|_,_=>none
 | .slice T x lo a none=>match s.ev x with
  | some p=>match P.underlying T with
   | some (.slice e)=>(match p,cz P e with|.sl l,some sz=>if l.all (fun e=>e.length == sz)=true then kw s p lo a else none|.ref id,some sz=>(match look id s.r with|some ar=>if ar.sz=sz then kw s p lo a else none|none=>none)|_,_=>none)
   | some .string=>(match p with|.str _=>kw s p lo a|_=>none)
   | _=>none
  | none=>none
 | _=>none
theorem mz{c}{s}{a}{w}{ι}(b:aI c s a w ι){x}{k}{n}(h:s.ev x=some (.int k n)):a.eval x=.int k n:=by
 have:=b.ev h;cases d:a.eval x<;>rw[d]at this<;>cases this;rfl
theorem IW{m:Cx}{s:AS}{a:Act}{w:World}{ι:Env}(g:aI m s a w ι){n c:Nat}{b:Bool}{lo e:Option Operand}{i j:Int}(h:lq s n lo e=some (i,j))(l:0≤i)(p:i≤j)(r:j≤n)(t:n≤c):
  (Instr.sliceBounds b n c (lo.map a.eval) (e.map a.eval) none).run m.P w=.ok (i.toNat,j.toNat,c) w:=by
 have sb:∀{x:Operand} {k:IntKind} {z:Int} {y:Nat} {f:BoundsCode},s.ev x=some (.int k z)→0≤z→z≤(y:Int)→(Instr.sliceBound (a.eval x) y f).run m.P w=.ok z.toNat w:=fun d l p=>by
  rw[mz g d];simp[Instr.sliceBound,asIntOf,l,p]
 unfold lq at h;unfold Instr.sliceBounds;cases lo with
 | none =>
  cases e with
  | none =>
   simp only[qv,u4]at h;obtain⟨rfl,rfl⟩:=h;simp
  | some e =>
   simp only[]at h;split at h
   ·rename_i k z d;simp only[qv,u4]at h;obtain⟨rfl,rfl⟩:=h;simp[sb d (by omega) (by omega:z≤(c:Int))]
   ·cases h
 | some lo =>
  cases e with
  | none =>
   simp only[]at h;split at h
   ·rename_i k z d;simp only[qv,u4]at h;obtain⟨rfl,rfl⟩:=h;simp[sb d l (by omega:z≤(n:Int))]
   ·cases h
  | some e =>
   simp only[]at h;split at h
   ·rename_i k z u q d o;simp only[qv,u4]at h;obtain⟨rfl,rfl⟩:=h;simp[sb o (by omega) (by omega:q≤(c:Int)),sb d l (by omega:z≤((q.toNat:Nat):Int))]
   grind
theorem ahm{N:Nat→Prop}{w:World}{ι:Env}{l:List (List AV)}{b o c sz:Nat}{a:Nat→Nat→Value}(s:∀e∈l,e.length=sz)(m:b<w.heap.size)(k:¬ N b)(h:∀j i,(a j i).oneCell'=true)
  (t:∀(j:Nat) (e:List AV),l[j]?=some e→∀(i:Nat) (x:AV),e[i]?=some x→w.cell? ⟨b,o+j*sz+i,none⟩=some (a j i)) (y:∀(j:Nat) (e:List AV),l[j]?=some e→∀(i:Nat) (x:AV),e[i]?=some x→Rel N w bA x (a j i))
  {p q:Nat} (n:p≤q) (v:q≤l.length) (f:l.length≤c):Rel N w ι (.sl ((l.take q).drop p)) (.slice (some ⟨b,o+p*sz,none⟩) (q-p) (c-p)):=by
 have u:∀j,((l.take q).drop p)[j]?=if p+j<q then l[p+j]? else none:=fun j=>by
  rw[Qf,u5]
 have d:((l.take q).drop p).length=q-p:=by grind
 rw[←d];refine .sl ι _ b _ _ sz (fun j i=>a (p+j) i) (fun e g=>s e (by grind)) m k (fun j i=>h _ _) (fun j e g i x r=>?_) (fun j e g i x r=>?_) (by omega)
 ·grind
 grind
theorem Rr{P}{w}{T e}(a:P.underlying T=some (.slice e)) d:(Op.equalIn (d+1) T (.slice none 0 0) (.slice none 0 0)).run P w=.ok true w:=by
 unfold Op.equalIn;rw[n4,ls a w];rfl
theorem acq{P}{w}{T e}(a:P.underlying T=some (.slice e)):(binOp .eql T (.slice none 0 0) (.slice none 0 0)).run P w=.ok (.bool true) w:=by
 have e:binOp .eql T (.slice none 0 0) (.slice none 0 0)=(do pure (.bool (← Op.equalIn 10000 T (.slice none 0 0) (.slice none 0 0)))):=rfl;rw[e,n4,Rr a 9999];rfl
theorem akO{P}{w}{T e}(a:P.underlying T=some (.slice e)):(binOp .neq T (.slice none 0 0) (.slice none 0 0)).run P w=.ok (.bool false) w:=by
 have e:binOp .neq T (.slice none 0 0) (.slice none 0 0)=(do pure (.bool (!(← Op.equalIn 10000 T (.slice none 0 0) (.slice none 0 0))))):=rfl;rw[e,n4,Rr a 9999];rfl
theorem Wf{G:Cx}{s:AS}{a:Act}{w:World}{ι:Env}(d:aI G s a w ι){o:Oper}{v:AV}(h:lD G.P s o=some v):∃x,(execOp a.eval o).run G.P w=.ok (.value x) w∧Rel (NN G.M ι) w ι v x:=by
 unfold lD at h;unfold execOp;cases I:o.op with
 | nilCheck x =>
  simp only[I]at h⊢;split at h
  ·rename_i u K;split at h
   ·rename_i P;injection h with h;subst h
    have t:=d.ev K;generalize hy:a.eval x=y at t;refine⟨y,?_,t⟩;cases t<;>first|(simp[S9]at P;done)|simp[hy]
   ·cases h
  ·cases h
 | field T x f =>
  simp only[I]at h⊢;split at h
  ·rename_i p P;unfold Nz at h;split at h
   ·rename_i cs;split at h
    ·rename_i fs K;split at h
     ·rename_i g hg;have t:=d.ev P;generalize a.eval x=X at t⊢;cases t with
      | agg _ _ vs hl Q t =>
       obtain⟨y,W,Y⟩:=vZ ⟨hl,Q,t⟩ h;exact⟨y,by simp[Instr.field,ls K,hg,asAgg,W],Y⟩
     ·cases h
    ·cases h
   ·cases h
  ·cases h
 | index T x i =>
  simp only[I]at h⊢;split at h
  ·rename_i p k j P hj;have Z:=mz d hj;unfold Ug at h;split at h
   ·rename_i n e cs K;split at h
    ·rename_i sz hz;split at h
     ·rename_i V;have t:=d.ev P;generalize a.eval x=X at t⊢;obtain⟨vs,rfl,y,W,Y⟩:∃vs:d5,X=.agg vs.toArray∧∃y,(part e vs.toArray (j.toNat*sz)).run G.P w=.ok y w∧Rel (NN G.M ι) w ι v y:=by
       cases t with
       | agg _ _ vs hl Q t=>exact⟨vs,rfl,vZ ⟨hl,Q,t⟩ h⟩
      have J:(sizeOf e).run G.P w=.ok sz w:=by
       cases L:G.P.info? e with
       | none=>simp[cz,L]at hz
       | some it =>
        have : it.size=sz:=by simpa[cz, L]using hz
        simp[sizeOf,typeInfo,L,this]
      exact⟨y,by simp[Instr.index,Z,asIntOf,ls K,V,J,W],Y⟩
     ·cases h
    ·cases h
   ·rename_i b K;split at h
    ·rename_i h0;split at h
     ·rename_i y hy;injection h with h;subst h
      have t:=d.ev P;cases E:a.eval x<;>rw[E]at t<;>cases t;exact⟨_,by simp[Instr.index,Z,asIntOf,ls K,h0,hy],.int _ _ _⟩
     ·cases h
    ·cases h
   ·cases h
  ·cases h
 | convert S D x =>
  simp only[I]at h⊢;split at h
  ·rename_i p P;unfold OL at h;split at h
   ·rename_i k n;split at h
    ·rename_i k1 k2 hS hD;injection h with h;subst h
     rw[mz d P];exact⟨_,by simp[convert,ls hS,ls hD,Conv.intToInt],.int _ _ _⟩
    ·rename_i hS hD;injection h with h;subst h
     rw[mz d P];exact⟨_,by simp[convert,ls hS,ls hD,Conv.intToString],.str _ _⟩
    ·cases h
   ·rename_i l;split at h
    ·rename_i e hS hD;split at h
     ·rename_i ns hE o0;injection h with h;subst h
      have hl:=Oc o0;have t:=d.ev P;generalize a.eval x=X at t⊢;have R:l.length=ns.length:=by rw[hl,lp]
      cases t with
      | sl0 _ A c =>
       have:ns=[]:=ne (by simpa using R.symm);subst this;cases A with
       | none=>exact⟨_,by simp only[n4,run_convert_runes_nil w S D e 0 c hS hE hD,pt,By];rfl,.str _ _⟩
       | some a0=>exact⟨_,by simp only[n4,run_convert_runes w S D e a0 0 c [] (h7 _) hS hE hD (fun j hj=>by simp at hj),pt,By];rfl,.str _ _⟩
      | sl _ _ b o c sz d0 hz V hn Q E t O =>
       refine⟨.string (runesBytes ns),?_,.str _ _⟩;have b0:∀j,j<ns.length→w.cell? ((⟨b,o,none⟩:Addr).add j)=some (.int .i32 (ns.getD j 0)):=fun j hj=>by
        have Z:j<l.length:=by omega
        have M:sz=1:=by
         have:=hz l[j] (sj Z);simp[hl]at this;omega
        have he:l[j]?=some [.int .i32 ns[j]]:=by rw[hl];simp[hj]
        have q:=E j _ he 0 _ rfl;have q2:=t j _ he 0 _ rfl;rw[M]at q;have e3:d0 j 0=.int .i32 ns[j]:=by
         generalize d0 j 0=z at q2;cases q2;rfl
        rw[e3]at q;have:(⟨b,o,none⟩:Addr).add j=⟨b,o+j*1+0,none⟩:=by simp[af0]
        rw[this,q];simp[List.getD,hj]
       have:=run_convert_runes w S D e ⟨b,o,none⟩ l.length c ns (by omega) hS hE hD b0;rw[R,alR]at this;rw[R];simp only[n4,this,pt,By]
     ·cases h
    ·cases h
   ·cases h
  ·cases h
 | binOp op T x y Ty =>
  simp only[I]at h⊢;split at h
  ·rename_i u v' K hv;have t:=d.ev K;have C:=d.ev hv;unfold G1 at h;have agg:∀{cs ds:List AV} {r:Bool},u=.agg cs→v'=.agg ds→G.P.eqGuardType G.P.depth T=false→kG G.P 10000 T u v'=some r→(∃as bs,a.eval x=.agg as∧a.eval y=.agg bs∧(Op.equalIn 10000 T (.agg as) (.agg bs)).run G.P w=.ok r w∧(eqGuard op T x y (.agg as) (.agg bs)).run G.P w=.ok () w):=by
    intro cs ds r W Y hg hq;subst W;subst Y;have i0:=Iq 10000 T _ _ _ _ _ hq t C;cases E:a.eval x<;>rw[E]at t<;>cases t;cases B:a.eval y<;>rw[B]at C<;>cases C;rw[E,B]at i0;exact⟨_,_,rfl,rfl,i0,run_eqGuard_agg w op T x y _ _ hg⟩
   split at h
   ·split at h
    ·split at h
     ·rename_i J;injection h with h;subst h
      cases E:a.eval x<;>rw[E]at t<;>cases t;cases B:a.eval y<;>rw[B]at C<;>cases C;exact⟨_,by simp[eqGuard,binOp,run_string_add_sum w _ _ (il J)],.str _ _⟩
     ·cases h
    ·cases h
   ·split at h
    ·split at h
     ·cases h
     ·rename_i hg;split at h
      ·rename_i r hq;injection h with h;subst h
       obtain⟨as,bs,W,Y,e3,e4⟩:=agg rfl rfl (by simpa using hg) hq;exact⟨.bool r,by simp only[n4,W,Y,e4,pt,run_eql_struct,e3,By],.bool _ _⟩
      ·cases h
    ·split at h
     ·rename_i N;injection h with h;subst h
      cases E:a.eval x<;>rw[E]at t<;>cases t;cases B:a.eval y<;>rw[B]at C<;>cases C;exact⟨_,by simp[eqGuard,binOp,Op.equal,Op.maxDepth,anb w 9999 T _ _ N],.bool _ _⟩
     ·cases h
    ·split at h
     ·rename_i J;injection h with h;subst h
      cases E:a.eval x<;>rw[E]at t<;>cases t;cases B:a.eval y<;>rw[B]at C<;>cases C;unfold Jc at J;split at J
      ·rename_i e N;exact⟨_,by simp only[n4,acq N];simp[eqGuard],.bool _ _⟩
      ·cases J
     ·cases h
    ·cases h
   ·split at h
    ·split at h
     ·cases h
     ·rename_i hg;split at h
      ·rename_i r hq;injection h with h;subst h
       obtain⟨as,bs,W,Y,e3,e4⟩:=agg rfl rfl (by simpa using hg) hq;exact⟨.bool (!r),by simp only[n4,W,Y,e4,pt,run_neq_struct,e3,By],.bool _ _⟩
      ·cases h
    ·split at h
     ·rename_i N;injection h with h;subst h
      cases E:a.eval x<;>rw[E]at t<;>cases t;cases B:a.eval y<;>rw[B]at C<;>cases C;exact⟨_,by simp[eqGuard,binOp,Op.equal,Op.maxDepth,anb w 9999 T _ _ N],.bool _ _⟩
     ·cases h
    ·split at h
     ·rename_i J;injection h with h;subst h
      cases E:a.eval x<;>rw[E]at t<;>cases t;cases B:a.eval y<;>rw[B]at C<;>cases C;unfold Jc at J;split at J
      ·rename_i e N;exact⟨_,by simp only[n4,akO N];simp[eqGuard],.bool _ _⟩
      ·cases J
     ·cases h
    ·cases h
   ·cases h
  ·cases h
 | slice T x lo L mx =>
  cases mx with
  | some m=>simp[I]at h
  | none =>
   simp only[I]at h⊢;split at h
   ·rename_i p P;have t:=d.ev P;split at h
    ·rename_i e K;split at h
     ·rename_i l sz M;split at h
      case isFalse=>cases h
      rename_i f0;unfold kw at h;simp only[]at h;split at h
      ·rename_i i j V;split at h
       ·rename_i F;obtain⟨c0,c1,c2⟩:=F;injection h with h;subst h
        have J:(sizeOf e).run G.P w=.ok sz w:=by
         cases L:G.P.info? e with
         | none=>simp[cz,L]at M
         | some it =>
          have : it.size=sz:=by simpa[cz, L]using M
          simp[sizeOf,typeInfo,L,this]
        have H:∀c,l.length≤c→(Instr.sliceBounds true l.length c (lo.map a.eval) (L.map a.eval) none).run G.P w=.ok (i.toNat,j.toNat,c) w:=fun c E=>IW d V c0 c1 c2 E;generalize a.eval x=X at t⊢;cases t with
        | sl0 _ A c =>
         have:=H c (by simp);simp only[ro]at this c2;refine⟨.slice (if c=i.toNat then A else A.map (·.add (i.toNat*sz))) (j.toNat-i.toNat) (c-i.toNat),by simp[Instr.sliceAt,ls K,Instr.slice,this,J],?_⟩;have e0:j.toNat-i.toNat=0:=by omega
         rw[e0];simpa using Rel.sl0 _ _ _
        | sl _ _ b o c r0 d0 hz k0 hn Q E t O =>
         have:=H c O;refine⟨.slice (if c=i.toNat then some ⟨b,o,none⟩ else (some ⟨b,o,none⟩:Option Addr).map (·.add (i.toNat*sz))) (j.toNat-i.toNat) (c-i.toNat),by simp[Instr.sliceAt,ls K,Instr.slice,this,J],?_⟩;by_cases h0:i.toNat=j.toNat
         ·have e0:j.toNat-i.toNat=0:=by omega
          rw[e0,show(l.take j.toNat).drop i.toNat=[] from la (by rw[Dj];omega)];exact .sl0 _ _ _
         ·rw[io (by omega)];have U:r0=sz:=by
           have w0:0<l.length:=by omega
           have h4:=hz l[0] (sj _);have h5:=ll.1 f0 l[0] (sj _);simp only[alQ]at h5;omega
          ·subst U;have:=ahm (ι:=ι) hz k0 hn Q E t (p:=i.toNat) (q:=j.toNat) (by omega) (by omega) O;simpa[af0]using this
       ·cases h
      ·cases h
     ·rename_i id sz M;split at h
      case h_2=>cases h
      rename_i ar g0;split at h
      case isFalse=>cases h
      rename_i U;unfold kw at h;simp only[g0]at h;split at h
      case h_2=>cases h
      rename_i i j V;split at h
      case isFalse=>cases h
      rename_i F;obtain⟨c0,c1,c2⟩:=F;injection h with h;subst h
      subst U;have J:(sizeOf e).run G.P w=.ok ar.sz w:=by
       cases L:G.P.info? e with
       | none=>simp[cz,L]at M
       | some it =>
        have : it.size=ar.sz:=by simpa[cz, L]using M
        simp[sizeOf,typeInfo,L,this]
      have H:∀c,ar.l.length≤c→(Instr.sliceBounds true ar.l.length c (lo.map a.eval) (L.map a.eval) none).run G.P w=.ok (i.toNat,j.toNat,c) w:=fun c E=>IW d V c0 c1 c2 E;generalize a.eval x=X at t⊢;cases t with
      | ref _ _ A n c hι =>
       obtain⟨v,xs,Q,h2,h3,h4,h5⟩:=d.hs.arrs id ar g0 (by rw[hι];rfl);rw[hι]at Q;injection Q with Q;subst Q
       obtain⟨hv,h0⟩|⟨g',s0,t0,hv,v0,hg,m0,O,p0,q0⟩:=h2.2
       ·injection hv with hA hn B
        subst hA;subst hn;subst B;have:=H 0 (by omega);rw[h0]at this;have ei:i.toNat=0:=by omega
        have ej:j.toNat=0:=by omega
        refine⟨.slice (if 0=i.toNat then none else (none:Option Addr).map (·.add (i.toNat*ar.sz))) (j.toNat-i.toNat) (0-i.toNat),by simp[Instr.sliceAt,ls K,Instr.slice,this,J],?_⟩;exact .sref _ _ _ _ _ _ _ _ _ _ hι (.inl (by omega))
       ·injection hv with hA hn B
        subst hA;subst hn;subst B;have:=H c m0;refine⟨.slice (if c=i.toNat then some ⟨g',0,none⟩ else (some ⟨g',0,none⟩:Option Addr).map (·.add (i.toNat*ar.sz))) (j.toNat-i.toNat) (c-i.toNat),by simp[Instr.sliceAt,ls K,Instr.slice,this,J],?_⟩;by_cases h0:i.toNat=j.toNat
        ·exact .sref _ _ _ _ _ _ _ _ _ _ hι (.inl (by omega))
        ·rw[io (by omega)];refine .sref _ _ _ _ _ _ _ _ _ _ hι (.inr ⟨g',rfl,?_,by omega,by omega⟩);simp[af0]
     ·cases h
    ·rename_i K;split at h
     ·rename_i b;unfold kw at h;simp only[]at h;split at h
      ·rename_i i j V;split at h
       ·rename_i F;obtain⟨c0,c1,c2⟩:=F;injection h with h;subst h
        have H:(Instr.sliceBounds false b.size b.size (lo.map a.eval) (L.map a.eval) none).run G.P w=.ok (i.toNat,j.toNat,b.size) w:=IW d V c0 c1 c2 (h7 _);generalize a.eval x=X at t⊢;cases t with
        | str _ _=>exact⟨.string (b.extract i.toNat j.toNat),by simp[Instr.sliceAt,ls K,Instr.slice,H],.str _ _⟩
       ·cases h
      ·cases h
     ·cases h
    ·cases h
   ·cases h
 | makeFunc fn bs cs =>
  cases fn with
  | func g =>
   simp only[I]at h⊢;unfold Ig at h;split at h
   case h_2=>cases h
   rename_i x H l0;have V:bs = #[x]:=by rw[←aaC (xs:=bs),H]
   have E:cs = #[]:=by rw[←aaC (xs:=cs),l0]
   subst V;subst E;split at h
   ·rename_i b off hx;injection h with h;subst h
    have t:=d.ev hx;generalize hX:a.eval x=X at t;cases t with
    | adr _ _ _ =>
     refine⟨_,?_,.vv _ _ rfl⟩;simp only[Instr.makeFunc,n4,By,pt,amP];simp[hX]
   ·cases h
  | _=>simp[I]at h
 | _=>grind
end Go.Proofs.YtocgkfoifehcbaaGreat
namespace Go.Proofs.YtocgkfoifehcbaaGreat
set_option linter.all false
open Go.RowKit
variable[FM]
mutual
def AV.cW(id:Nat):AV→AV
 | .ref i=>if i=id then .any else .ref i
 | .eptr i sz j off=>if i=id then .any else .eptr i sz j off
 | .sref i sz off m=>if i=id then .any else .sref i sz off m
 | .ptr i off=>if i=id then .any else .ptr i off
 | .pp i g off=>if i=id then .any else .pp i g off
 | .sit i g s p=>if i=id then .any else .sit i g s p
 | .adr g off=>.adr g off
 | .agg cs=>.agg (kL id cs)
 | .tup cs=>.tup (kL id cs)
 | .int k n=>.int k n
 | .bool b=>.bool b
 | .str s=>.str s
 | .nils=>.nils
 | .sl l=>.sl l
 | .nilm=>.nilm
 | .mref _ _=>.any
 | .omp m=>.omp m
 | .osl e sz l=>.osl e sz l
 | .vv x=>.vv x
 | .lk i x=>if i=id then .any else .lk i x
 | .fn f c=>.fn f c
 | .fno f c=>.fno f (kL id c)
 | .nilf=>.nilf
 | .nilp=>.nilp
 | .cptr cs=>.cptr cs
 | .any=>.any
def kL(id:Nat):List AV→List AV
 | []=>[]
 | c::r=>c.cW id::kL id r
end
theorem mi{id}:∀{l} {i:Nat} {x},(kL id l)[i]?=some x→∃y,l[i]?=some y∧x=y.cW id
 | [],i,x,h=>by grind[kL]
 | c::r,0,x,h=>by grind[kL]
 | c::r,i+1,x,h=>by simp[kL]at h;obtain⟨y,a,b⟩:=mi h;grind
theorem l4{id}:∀l,(kL id l).length=l.length
 | []=>rfl
 | c::r=>by simp[kL,l4 r]
theorem Rel.cW{N:Nat→Prop}{w:World}{ι:Env}{v:AV}{x:Value}(h:Rel N w ι v x){id:Nat}{ι':Env}(p:∀i,i≠id→ι' i=ι i):Rel N w ι' (v.cW id) x:=by
 induction h with
 | int ι k n=>simp only[AV.cW];exact .int _ _ _
 | bool ι b=>simp only[AV.cW];exact .bool _ _
 | str ι s=>simp only[AV.cW];exact .str _ _
 | nils ι=>simp only[AV.cW];exact .nils _
 | nilm ι=>simp only[AV.cW];exact .nilm _
 | mref ι i q r v h Q=>simp only[AV.cW];exact .any _ _ rfl
 | sl0 ι A c=>simp only[AV.cW];exact .sl0 _ _ _
 | sl ι l b o c sz t O z E d F e C u=>simp only[AV.cW];exact .sl _ l b o c sz t O z E d F e C
 | fn ι f aV I D e u=>simp only[AV.cW];exact .fn _ f aV I D e
 | fno ι f aV I D e u =>
  simp only[AV.cW];exact .fno _ _ _ I (by rw[l4];exact D) (fun i x v H G=>by
   obtain⟨y,M,rfl⟩:=mi H;exact u i y v M G p)
 | nilf ι=>simp only[AV.cW];exact .nilf _
 | nilp ι=>simp only[AV.cW];exact .nilp _
 | any ι x h=>simp only[AV.cW];exact .any _ _ h
 | ptr ι i off g h =>
  simp only[AV.cW];split
  ·exact .any _ _ rfl
  ·rename_i a;exact .ptr _ _ _ _ ((p i a).trans h)
 | eptr ι i sz j off g n c h =>
  simp only[AV.cW];split
  ·exact .any _ _ rfl
  ·rename_i a;exact .eptr _ _ _ _ _ _ n c ((p i a).trans h)
 | sref ι i sz off m n c J A B h K =>
  simp only[AV.cW];split
  ·exact .any _ _ rfl
  ·rename_i a;exact .sref _ _ _ _ _ n c J A B ((p i a).trans h) K
 | adr ι g off=>simp only[AV.cW];exact .adr _ _ _
 | vv ι x h=>simp only[AV.cW];exact .vv _ _ h
 | lk ι i v x h d =>
  simp only[AV.cW];split
  ·exact .any _ _ d
  ·rename_i a;exact .lk _ _ _ _ ((p i a).trans h) d
 | pp ι i g off h =>
  simp only[AV.cW];split
  ·exact .any _ _ rfl
  ·rename_i a;exact .pp _ _ _ _ ((p i a).trans h)
 | sit ι i g s P h L E z =>
  simp only[AV.cW];split
  ·exact .any _ _ rfl
  ·rename_i a;exact .sit _ _ _ _ _ ((p i a).trans h) L E z
 | cptr ι cs b o t z E d F e u=>simp only[AV.cW];exact .cptr _ cs b o t z E d F e
 | ref ι i A n c h =>
  simp only[AV.cW];split
  ·exact .any _ _ rfl
  ·rename_i a;exact .ref _ _ _ _ _ ((p i a).trans h)
 | agg ι cs vs D d e u =>
  exact .agg _ _ vs (by grind[l4]) d (fun i x v H G=>by
   grind[mi])
 | tup ι cs vs D e u =>
  exact .tup _ _ vs (by grind[l4]) (fun i x v H G=>by
   grind[mi])
def dB(id:Nat):List (Nat×AV)→List (Nat×AV)
 | []=>[]
 | (k,v)::r=>(k,v.cW id)::dB id r
def eS(id:Nat):List (Nat×List AV)→List (Nat×List AV)
 | []=>[]
 | (k,v)::r=>(k,kL id v)::eS id r
theorem lJ{id}:∀{l} {k} {v},look k (dB id l)=some v→∃u,look k l=some u∧v=u.cW id
 | [],k,v,h=>by cases h
 | (j,x)::r,k,v,h=>by
  simp only[dB,look]at h⊢;split at h
  ·grind
  ·rename_i e;rw[io e];exact lJ h
theorem kv{id}:∀{l} {k} {v},look k (eS id l)=some v→∃u,look k l=some u∧v=kL id u
 | [],k,v,h=>by cases h
 | (j,x)::r,k,v,h=>by
  simp only[eS,look]at h⊢;split at h
  ·grind
  ·rename_i e;rw[io e];exact kv h
def rep(ι:Env)(id:Nat)(v:Value):Env:=fun i=>if i=id then some v else ι i
theorem lA ι id v:rep ι id v id=some v:=by simp[rep]
theorem qI ι{id i} v(h:i≠id):rep ι id v i=ι i:=by grind[rep]
theorem akZ{P:Program}(w:World)(base:Nat)(t ty e:TypeId)(i:TypeInfo)(z:Value)(size bytes:Nat)(I:P.underlying t=some (.slice e))(G:P.info? e=some i)(Q:i.zero=some z)
  (r:i.size=size) (C:i.bytes=bytes) (R:z.cells.size=size) (N:0<size)
  (v:Value) (n:Nat) (xs:d5) (b:w.ownsRow base e size v n xs)
  (a:Addr) (m c:Nat) (news:d5) (E:news.length=m*size) (f:∀j u,news[j]?=some u→w.cell? (a.add j)=some u) (S:∀u∈news,u.oneCell'=true)
  (B:n+m≤maxLen) (d:(n+m)*bytes≤140737488355328) (y:base≤w.heap.size) :
  ∃v' w',(Builtin.append_ #[t,t] ty #[v,.slice (some a) m c]).run P w=.ok v' w'∧w'.ownsRow base e size v' (n+m) (xs++news)∧w.grownBy w' v.ownBlock ∧
   (bg (some v')=bg (some v)∨bg (some v')=some w.heap.size)∧(∀A k c,v'=.slice A k c→k=n+m)∧∃A k c,v'=.slice A k c:=by
 have M:=b;obtain⟨v',w',l,o,W,L⟩:=run_append_own (P:=P) w base t ty e i z size bytes I G Q r C R N v n xs b a m c news E f S B d y;have h:(∀A k c,v'=.slice A k c→k=n+m)∧∃A k c,v'=.slice A k c:=by
  obtain⟨F,Z⟩|⟨g,s,x,F,_⟩:=o.2
  ·exact⟨fun A k c e=>by rw[F]at e;injection e with _ e _;omega,_,_,_,F⟩
  ·exact⟨fun A k c e=>by rw[F]at e;injection e with _ e _;exact e.symm,_,_,_,F⟩
 refine⟨v',w',l,o,W,?_,h.1,h.2⟩;subst r;subst C;have H:n+m≤9223372036854775807:=by simp only[maxLen]at B;omega
 obtain⟨rfl,rfl⟩|⟨g,s,x,rfl,U,K,Y,V,J,O⟩:=b.2
 ·have hx:xs=[]:=ne (by simpa using b.1);by_cases X:m=0
  ·have:=L.2 ⟨rfl,X⟩;left;rw[this]
  ·have p:=run_append_nil (P:=P) w t ty e i z I G Q a m c news E f (by omega) (by omega) (by have T:=d;simp only[z5]at T;omega);rw[p]at l;injection l with l _
   right;rw[←l];rfl
 ·by_cases q:n+m≤s
  ·have D:n*i.size+news.length≤x.size:=by rw[E,J,← ac6];exact ye _ q
   have p:=run_append_room (P:=P) w t ty e i I G g n s x K a m c news E f S q D;rw[p]at l;injection l with l _
   left;rw[←l];rfl
  ·have holds:∀j u,xs[j]?=some u→w.cell? ((⟨g,0,none⟩:Addr).add j)=some u:=b.cells (g:=g) rfl;have p:=run_append_grow (P:=P) w t ty e i z I G Q ⟨g,0,none⟩ n s xs b.1 holds a m c news E f (by omega) (by omega) (growslice_fits (by omega) d);rw[p]at l;injection l with l _
   right;rw[←l];rfl
theorem XP{P:Program}(w:World)(t ty e:TypeId)(i:TypeInfo)(j:P.underlying t=some (.slice e))(h:P.info? e=some i)(base size:Nat)(v:Value)(n:Nat)(xs:d5)(d:w.ownsRow base e size v n xs)(A:Option Addr)(c:Nat):
  (Builtin.append_ #[t,t] ty #[v,.slice A 0 c]).run P w=.ok v w:=by
 have f:∀a:Addr,(loadCells a 0).run P w=.ok #[] w:=fun a=>by simp[loadCells,loadCellsFrom]
 obtain⟨rfl,rfl⟩|⟨g,l,m,rfl,o,r,b,p,q,k⟩:=d.2
 ·cases A with
  | none=>simp[Builtin.append_,ls j,sizeOf,typeInfo,h,Builtin.lenOf,Builtin.firstCells]
  | some a=>simp[Builtin.append_,ls j,sizeOf,typeInfo,h,Builtin.lenOf,Builtin.firstCells,f]
 ·cases A with
  | none=>simp[Builtin.append_,ls j,sizeOf,typeInfo,h,Builtin.lenOf,Builtin.firstCells,b,storeCells]
  | some a=>simp[Builtin.append_,ls j,sizeOf,typeInfo,h,Builtin.lenOf,Builtin.firstCells,f,b,storeCells]
def iJ(P:Program)(T:TypeId):Option (TypeId×Nat×Nat) :=
 match P.underlying T with
 | some (.slice e)=>match P.info? e with
  | some i=>match i.zero with
   | some z=>if z.cells.size=i.size∧0<i.size then some (e,i.size,i.bytes) else none
   | none=>none
  | none=>none
 | _=>none
def pM(s:AS)(sz:Nat):AV→Option (List (List AV))
 | .nils=>some []
 | .sl l=>if l.all (fun e=>e.length == sz)=true then some l else none
 | .ref id=>match look id s.r with|some a=>if a.sz=sz∧id<TG then some a.l else none|none=>none
 | _=>none
def AD(P:Program)(s:AS)(d:Nat)(T:TypeId)(v x:AV):Option AS :=
 match iJ P T with
 | some (e,sz,bytes)=>match pM s sz x with
  | some new=>match v with
   | .nils=>if has s.u d=true∨¬ (new.length≤maxLen∧new.length*bytes≤140737488355328) then none else some { t:=bj d (.ref d) (dB d s.t),o:=eS d s.o,r:=bj d ⟨e,sz,new⟩ s.r,u:=d::s.u }
   | .ref id=>match look id s.r with
    | some a=>if s.u.contains (cS id)=false∧a.e=e∧a.sz=sz∧a.l.length+new.length≤maxLen∧(a.l.length+new.length)*bytes≤140737488355328 then
      some { t:=bj d (.ref id) (dB id s.t),o:=eS id s.o,r:=bj id { a with l:=a.l++new } s.r,u:=s.u } else none
    | none=>none
   | _=>none
  | none=>none
 | none=>none
theorem M6{L:Cx}{s:AS}{a:Act}{w:World}{ι:Env}(I:aI L s a w ι){sz:Nat}{x:AV}{X:Value}{new:List (List AV)}(h:pM s sz x=some new)(K:Rel (NN L.M ι) w ι x X):
  ∃A c,X=.slice A new.length c∧(∀e∈new,e.length=sz)∧(new=[]∨∃(ad:Addr) (vs:d5),A=some ad∧vs.length=new.length*sz∧(∀(j:Nat) (u:Value),vs[j]?=some u→w.cell? (ad.add j)=some u)∧(∀u∈vs,u.oneCell'=true) ∧
   ∀(j:Nat) (e:List AV),new[j]?=some e→∀(i:Nat) (c:AV),e[i]?=some c→∃y,vs[j*sz+i]?=some y∧Rel (NN L.M ι) w bA c y):=by
 unfold pM at h;split at h
 ·injection h with h;subst h
  cases K;exact⟨_,_,rfl,fun e f=>(by cases f),.inl rfl⟩
 ·rename_i l;split at h
  ·rename_i G;injection h with h;subst h
   have hz:∀e∈l,e.length=sz:=fun e f=>by
    have:=ll.1 G e f;simpa using this
   cases K with
   | sl0 _ A c=>exact⟨A,c,rfl,hz,.inl rfl⟩
   | sl _ _ b o c d q B hb M C R W _ =>
    refine⟨_,c,rfl,hz,?_⟩;by_cases hl:l=[]
    ·exact .inl hl
    ·right;have J:d=sz:=by
      obtain⟨e,f⟩:=amh l hl;rw[←B e f,hz e f]
     subst J;have r:∀k,((List.range (l.length*d)).map fun k=>q (k / d) (k % d))[k]?=if k<l.length*d then some (q (k / d) (k % d)) else none:=fun k=>by
      by_cases E:k<l.length*d<;>simp[E]
     have p:∀k,k<l.length*d→0<d∧k / d<l.length∧k % d<d∧k / d*d+k % d=k:=fun k E=>by
      have m : 0<d:=by
       rcases Nat.eq_zero_or_pos d with h|h;· rw[h]at E;omega
       ·exact h
      refine⟨m,(Nat.div_lt_iff_lt_mul m).2 E,Nat.mod_lt _ m,?_⟩;rw[amr];exact Nat.div_add_mod k d
     refine⟨⟨b,o,none⟩,_,rfl,(by simp:((List.range (l.length*d)).map fun k=>q (k / d) (k % d)).length=l.length*d),fun j u D=>?_,fun u hu=>?_,fun j e f i c hi=>?_⟩
     ·rw[r]at D;split at D
      ·rename_i E;injection D with D;subst D
       obtain⟨N,t,F,O⟩:=p j E;have f:=h6 t;have T:=B _ (sj t);have:=R _ _ f (j % d) _ (h6 (by rw[T];exact F));rw[af0];rw[ams,O]at this;exact this
      ·cases D
     ·obtain⟨k,_,rfl⟩:=u6.1 hu;exact C _ _
     ·have U:j<l.length:=(g7.1 f).1;have H:i<d:=by have:=(g7.1 hi).1;rwa[B e (jt f)]at this
      have V:j*d+i<l.length*d:=by
       have:(j+1)*d≤l.length*d:=ye _ U;rw[ac6,al4]at this;omega
      refine⟨q j i,?_,W j e f i c hi⟩;rw[r,iF V];have e1:(j*d+i) / d=j:=by rw[Nat.add_comm,Nat.add_mul_div_right _ _ (by omega),ank H,z5]
      have e2:(j*d+i) % d=i:=by rw[Nat.add_comm,Nat.add_mul_mod_self_right,amD H]
      rw[e1,e2]
  ·cases h
 ·rename_i id;split at h
  ·rename_i ar Q;split at h
   ·rename_i z;obtain⟨z,e0⟩:=z;injection h with h;subst h
    cases K with
    | ref _ _ A n c hι =>
     obtain⟨v,xs,C,t,F,O,P⟩:=I.hs.arrs id ar Q (by rw[hι];rfl);have h5:∀(j:Nat) (e:List AV),ar.l[j]?=some e→∀(i:Nat) (c:AV),e[i]?=some c→∃x,xs[j*ar.sz+i]?=some x∧Rel (NN L.M ι) w bA c x:=fun j e f i c R=>by
      obtain⟨x,K,W⟩:=P j e f i c R;exact⟨x,K,W.flat (by omega)⟩
     rw[hι]at C;injection C with C;subst C
     rw[z]at F h5 t;obtain⟨hv,N⟩|⟨g',b0,c0,hv,hb,hg,d0,a0,Y,Z⟩:=t.2
     ·injection hv with hA M S
      refine⟨A,c,?_,F,.inl (ne N)⟩;rw[M,N]
     ·injection hv with hA M S
      subst hA;subst M;refine⟨_,c,rfl,F,.inr ⟨⟨g',0,none⟩,xs,rfl,t.1,t.cells (g:=g') (by rfl),O,h5⟩⟩
   ·cases h
  grind
 grind
theorem jR.grown{b}{v w w'}{c}(h:jR b v w)(a:w.grownBy w' c)(g:b.w.heap.size≤w.heap.size)(f:∀k,c=some k→b.O k):jR b v w' :=
 h.trans ⟨a.os,a.tape,a.output,a.size,fun k j i=>a.block k (by omega) (fun e=>(by rcases f k e.symm with d|d;omega;grind))⟩
theorem HS.app{M:Nat→Prop}{w0:az}{w w':World}{ι:Env}{s:AS}(h:HS M w0 w ι s){id:Nat}{ar:bZ}{v v':Value}{xs news:d5}{new:List (List AV)}
  (e0:w0.pv id=none) (l0:look id s.r=some ar) (E:ι id=some v) (n:w.ownsRow 0 ar.e ar.sz v ar.l.length xs) (b0:∀e∈ar.l,e.length=ar.sz) (W:∀x∈xs,x.oneCell'=true)
  (a0:∀(j:Nat) (e:List AV),ar.l[j]?=some e→∀(i:Nat) (c:AV),e[i]?=some c→∃x,xs[j*ar.sz+i]?=some x∧im (NN M ι) w (TG≤id) (ι (nm id (j*ar.sz+i))) c x)
  (G:w.ownsRow 0 ar.e ar.sz v ar.l.length xs→w'.ownsRow 0 ar.e ar.sz v' (ar.l.length+new.length) (xs++news)) (J:w.grownBy w' v.ownBlock) (p:bg (some v')=bg (some v)∨bg (some v')=some w.heap.size)
  (m0:∃A k c,v'=.slice A k c) (f0:∀e∈new,e.length=ar.sz) (c0:∀x∈news,x.oneCell'=true)
  (d0:∀(j:Nat) (e:List AV),new[j]?=some e→∀(i:Nat) (c:AV),e[i]?=some c→∃x,news[j*ar.sz+i]?=some x∧Rel (NN M ι) w bA c x) (U:∀g,bg (some v')=some g→w0.O g∧g<w'.heap.size) :
  HS M w0 w' (rep ι id v') { t:=dB id s.t,o:=eS id s.o,r:=bj id { ar with l:=ar.l++new } s.r,u:=s.u } ∧
   (∀b,b<w.heap.size→NN M (rep ι id v') b→NN M ι b)∧(∀b,b<w.heap.size→¬ NN M ι b→w'.heap[b]?=w.heap[b]?):=by
 have P:=G n;have I:v.ownBlock=bg (some v):=by
  rcases n.2 with⟨rfl,_⟩|⟨g,i0,k0,rfl,_⟩<;>rfl
 have Q:∀b,b<w.heap.size→¬ NN M ι b→w'.heap[b]?=w.heap[b]?:=fun b D N=>J.block b D (fun e=>N (.inr ⟨id,by rw[E,← I];exact e.symm⟩));have N:∀b,b<w.heap.size→NN M (rep ι id v') b→NN M ι b:=fun b D H=>by
  rcases H with H|⟨i,H⟩
  ·exact .inl H
  ·by_cases e:i=id
   ·subst e;rw[lA]at H;rcases p with p|p
    ·exact .inr ⟨i,by rw[E,← p];exact H⟩
    ·rw[p]at H;injection H with H;omega
   ·rw[qI _ _ e]at H;exact .inr ⟨i,H⟩
 have d:∀i,i≠id→rep ι id v' i=ι i:=fun i z=>qI _ _ z;have Y:∀r,v ≠ .map r:=fun r e=>by subst e;rcases n.2 with⟨G,_⟩|⟨_,_,_,G,_⟩<;>cases G
 have ho:∀k r,ι k=some (.map r)→rep ι id v' k=some (.map r):=fun k r B=>by
  rw[d];exact B;intro e;subst e;rw[E]at B;injection B with B;exact Y _ B
 have V:∀k r,ι k=some (.map (some r))→w'.heap[r]?=w.heap[r]?:=fun k r B=>J.block r (h.kR B) (fun e=>h.pc B E Y (by rw[←I];exact e.symm));refine⟨⟨?_,h.old,fun i y hy=>?_,fun i g q=>?_,fun i L g f m=>?_,fun i cs z=>?_,fun i a z=>?_,fun i cs z K=>?_,fun i a z K=>?_,fun i y K=>(by
  have e:i≠id:=fun e=>by subst e;rw[e0]at K;cases K
  exact⟨(d i e).trans (h.pin i y K).1,(h.pin i y K).2⟩)⟩,N,Q⟩
 ·refine h.below.grown J h.below.size (fun k B=>?_);have:=h.own id k (by rw[E,← I];exact B);exact this.1
 ·by_cases e:i=id
  ·subst e;exact h.use i _ E
  ·rw[d i e]at hy;exact h.use i y hy
 ·by_cases e:i=id
  ·subst e;rw[lA]at q;exact U g q
  ·rw[d i e]at q;exact⟨(h.own i g q).1,by have:=(h.own i g q).2;have:=J.size;omega⟩
 ·by_cases e:i=id
  ·by_cases e':L=id
   ·omega
   ·subst e;rw[lA]at f;rw[d L e']at m;rcases p with p|p
    ·exact h.inj i L g (by rw[E,← p];exact f) m
    ·rw[p]at f;injection f with f;have:=(h.own L g m).2;omega
  ·by_cases e':L=id
   ·subst e';rw[lA]at m;rw[d i e]at f;rcases p with p|p
    ·exact h.inj i L g f (by rw[E,← p];exact m)
    ·rw[p]at m;injection m with m;have:=(h.own i g f).2;omega
   ·rw[d i e]at f;rw[d L e']at m;exact h.inj i L g f m
 ·obtain⟨u,Z,_⟩:=kv z;exact h.ko i u Z
 ·simp only[cp]at z;by_cases e:i=id
  ·subst e;exact h.use i _ E
  ·rw[io e]at z;exact h.kr i a z
 ·obtain⟨u,Z,rfl⟩:=kv z;have e:i≠id:=by
   rintro rfl
   obtain⟨g,T,vs,F,_,_⟩:=h.objs i u Z (by rw[E];rcases n.2 with⟨G,_⟩|⟨_,_,_,G,_⟩<;>rw[G]<;>rfl);rw[E]at F;injection F with F;subst F
   rcases n.2 with⟨G,_⟩|⟨_,_,_,G,_⟩<;>cases G
  rw[d i e]at K;obtain⟨g,T,vs,F,R,S⟩:=h.objs i u Z K;have O:some g≠v.ownBlock:=by
   rw[I];intro e';exact e (h.inj i id g (by rw[F];rfl) (by rw[E];exact e'.symm))
  refine⟨g,T,vs,(d i e).trans F,(J.block g (h.own i g (by rw[F];rfl)).2 O).trans R,by rw[l4];exact S.len,S.one,fun j x v C G=>?_⟩;obtain⟨y,hy,rfl⟩:=mi C;exact((S.rel j y v hy G).cW d).mono J.size (fun b D p=>N b D p) Q (fun _ _ h=>h)
 ·simp only[cp]at z;by_cases e:i=id
  ·subst e;rw[iF rfl]at z;injection z with z;subst z
   refine⟨v',xs++news,lA _ _ _,by simpa using P,fun e he=>?_,fun x C=>?_,fun j e he k c B=>?_⟩
   ·rcases kb.1 he with he|he
    ·exact b0 e he
    ·exact f0 e he
   ·rcases kb.1 C with C|C
    ·exact W x C
    ·exact c0 x C
   ·simp only[]at he⊢;have g0:xs.length=ar.l.length*ar.sz:=n.1;by_cases hj:j<ar.l.length
    ·rw[yw hj]at he;obtain⟨x,C,X⟩:=a0 j e he k c B;have D:=(g7.1 C).1;exact⟨x,by rw[yw D];exact C,X.mono J.size N Q (ho _) (V _) (fun h=>h)⟩
    ·rw[w3 (by omega)]at he;obtain⟨x,C,X⟩:=d0 _ e he k c B;refine⟨x,?_,.inl (X.mono J.size N Q (fun _ _ h=>h))⟩;have hm:ar.l.length*ar.sz≤j*ar.sz:=ye _ (by omega);rw[w3 (by omega),g0];have R:j*ar.sz+k-ar.l.length*ar.sz=(j-ar.l.length)*ar.sz+k:=by rw[Nat.sub_mul];omega
     rw[R];exact C
  ·rw[io e]at z;rw[d i e]at K;obtain⟨v1,h0,F,R,S,e4,e5⟩:=h.arrs i a z K;refine⟨v1,h0,(d i e).trans F,fS R (fun g q=>?_),S,e4,fun j el hj k c B=>?_⟩
   ·have O:some g≠v.ownBlock:=by
     rw[I];intro e';exact e (h.inj i id g (by rw[F];exact q) (by rw[E];exact e'.symm))
    exact J.block g (h.own i g (by rw[F];exact q)).2 O
   ·obtain⟨x,C,X⟩:=e5 j el hj k c B;exact⟨x,C,X.mono J.size N Q (ho _) (V _) (fun h=>h)⟩
theorem GK{α} k(v u:α):∀l,bj k v (bj k u l)=bj k v l
 | []=>by simp[bj]
 | (j,x)::r=>by
  by_cases h:k=j
  ·grind[bj]
  ·simp[bj,h,GK k v u r]
theorem HS.nil{M:Nat→Prop}{H:az}{w:World}{ι:Env}{s:AS}(h:HS M H w ι s){d:Nat}(E:has s.u d=false)(e:TypeId)(sz:Nat):
  HS M H w (ext ι d (.slice none 0 0)) { s with r:=bj d ⟨e,sz,[]⟩ s.r,u:=d::s.u }∧(∀b,NN M (ext ι d (.slice none 0 0)) b→NN M ι b):=by
 have B:=h.free E;have v:∀b,NN M (ext ι d (.slice none 0 0)) b→NN M ι b:=fun b l=>by
  rcases gJ l with l|l
  ·exact l
  ·cases l
 have n:∀i g,bg (ext ι d (.slice none 0 0) i)=some g→bg (ι i)=some g:=fun i g o=>by
  by_cases e:i=d
  ·subst e;rw[cH]at o;cases o
  ·rwa[bR _ _ e]at o
 refine⟨⟨h.below,h.old,fun i y F=>?_,fun i g o=>h.own i g (n i g o),fun i G g o A=>h.inj i G g (n i g o) (n G g A),fun i cs f=>dN (h.ko i cs f),fun i a f=>?_,fun i cs f m=>?_,fun i a f m=>?_,fun i y m=>⟨fa B _ i y (h.pin i y m).1,nS (h.pin i y m).2⟩⟩,v⟩
 ·by_cases e:i=d
  ·subst e;exact iV _ _
  ·rw[bR _ _ e]at F;exact dN (h.use i y F)
 ·simp only[cp]at f;by_cases e:i=d
  ·subst e;exact iV _ _
  ·rw[io e]at f;exact dN (h.kr i a f)
 ·have e:i≠d:=by rintro rfl;have:=h.ko i cs f;rw[E]at this;cases this
  rw[bR _ _ e]at m;obtain⟨g,T,vs,p,q,t⟩:=h.objs i cs f m;exact⟨g,T,vs,(bR _ _ e).trans p,q,t.mono (h7 _) (fun b _ l=>v b l) (fun _ _ _=>rfl) (fa B _)⟩
 ·simp only[cp]at f;by_cases e:i=d
  ·subst e;rw[iF rfl]at f;injection f with f;subst f
   exact⟨.slice none 0 0,[],cH _ _ _,World.ownsRow_nil _ _ _ _,fun e z=>(by cases z),fun x C=>(by cases C),fun j e z=>by simp at z⟩
  ·rw[io e]at f;rw[bR _ _ e]at m;obtain⟨Q,D,p,q,t,I,J⟩:=h.arrs i a f m;refine⟨Q,D,(bR _ _ e).trans p,q,t,I,fun j K N k c O=>?_⟩;obtain⟨x,C,P⟩:=J j K N k c O;exact⟨x,C,P.mono (h7 _) (fun b _ l=>v b l) (fun _ _ _=>rfl) (fun r L=>fa B _ _ _ L) (fun _ _=>rfl) (fun h=>h)⟩
theorem adY{m:Cx}{s s':AS}{a:Act}{w:World}{ι:Env}(q:aI m s a w ι){d:Nat}(hd:d<m.n){T ty:TypeId}{v x:AV}{V X:Value}(h:AD m.P s d T v x=some s')(R:Rel (NN m.M ι) w ι v V)(hx:Rel (NN m.M ι) w ι x X):
  ∃y w' ι',(Builtin.append_ #[T,T] ty #[V,X]).run m.P w=.ok y w'∧aI m s' (a.put (some d) y) w' ι'∧(∀i,i≠d→ι i=none→ι' i=none):=by
 unfold AD at h;split at h
 case h_2=>cases h
 rename_i e sz bytes f;unfold iJ at f;split at f
 case h_2=>cases f
 rename_i e' hu;split at f
 case h_2=>cases f
 rename_i L p0;split at f
 case h_2=>cases f
 rename_i z hz;split at f
 case isFalse=>cases f
 rename_i m0;injection f with f
 injection f with U f
 injection f with n s0
 subst U;subst n;subst s0;split at h
 case h_2=>cases h
 rename_i new i0;obtain⟨A,c,rfl,y0,W⟩:=M6 q i0 hx
 -- the general step,for a slice that has a name
 have key:∀{C:AS} {D:Env} {id:Nat} {ar:bZ},aI m C a w D→m.w0.pv id=none→look id C.r=some ar→D id=some V→ar.e=e'→ar.sz=L.size→ar.l.length+new.length≤maxLen→(ar.l.length+new.length)*L.bytes≤140737488355328 →
   (∀{y:AV} {Y:Value},y.dg []=true→Rel (NN m.M ι) w ι y Y→Rel (NN m.M D) w D y Y)→(∀b,NN m.M D b→NN m.M ι b) →
   ∃y w' ι',(Builtin.append_ #[T,T] ty #[V,.slice A new.length c]).run m.P w=.ok y w'∧aI m { t:=bj d (.ref id) (dB id C.t),o:=eS id C.o,r:=bj id { ar with l:=ar.l++new } C.r,u:=C.u } (a.put (some d) y) w' ι'∧(∀i,D i=none→ι' i=none):=by
  intro C D id ar n k0 H E r0 has h0 t0 _ G;obtain⟨v1,xs,h1,h2,h3,h4,h5⟩:=n.hs.arrs id ar H (by rw[E];rfl);rw[E]at h1;injection h1 with h1;subst h1
  have F:∀(v':Value) (i:Nat),D i=none→rep D id v' i=none:=fun v' i J=>by
   rw[qI];exact J
   rintro rfl;rw[E]at J;cases J
  have d0:∀{v':Value} {w':World},(HS m.M m.w0 w' (rep D id v') { t:=dB id C.t,o:=eS id C.o,r:=bj id { ar with l:=ar.l++new } C.r,u:=C.u }∧(∀b,b<w.heap.size→NN m.M (rep D id v') b→NN m.M D b)∧(∀b,b<w.heap.size→¬ NN m.M D b→w'.heap[b]?=w.heap[b]?))→w.heap.size≤w'.heap.size→(∃A k c,v'=.slice A k c) →
    aI m { t:=bj d (.ref id) (dB id C.t),o:=eS id C.o,r:=bj id { ar with l:=ar.l++new } C.r,u:=C.u } (a.put (some d) v') w' (rep D id v'):=by
   intro v' w' ⟨g1,g2,g3⟩ o0 ⟨A',k',c',O⟩;have M:aI m { t:=dB id C.t,o:=eS id C.o,r:=bj id { ar with l:=ar.l++new } C.r,u:=C.u } a w' (rep D id v'):=by
    refine⟨g1,n.dfr,n.n,fun k y hk=>?_⟩;obtain⟨u,A0,rfl⟩:=lJ hk;obtain⟨Y,hY,Z⟩:=n.tmp k u A0;exact⟨Y,hY,(Z.cW (fun i J=>qI _ _ J)).mono o0 g2 g3 (fun _ _ h=>h)⟩
   subst O;exact M.put (d:=some d) (fun k hk=>by injection hk with hk;subst hk;exact hd) (.ref _ _ _ _ _ (lA _ _ _))
  subst r0;rcases W with K|⟨ad,vs,hA,S0,F0,q0,T0⟩
  ·subst K;have p:=XP (P:=m.P) w T ty ar.e L hu p0 0 ar.sz V ar.l.length xs h2 A c;refine⟨V,w,rep D id V,by simpa using p,d0 ?_ (h7 _) ?_,F _⟩
   ·refine n.hs.app (news:=[]) k0 H E h2 h3 h4 h5 (fun h=>by simpa using h) ⟨rfl,rfl,rfl,h7 _,fun _ _ _=>rfl⟩ (.inl rfl) ?_ (fun e U=>by cases U) (fun x hx=>by cases hx) (fun j e U=>by simp at U) (fun g N=>n.hs.own id g (by rw[E];exact N));rcases h2.2 with⟨R,_⟩|⟨g,a0,b0,R,_⟩<;>exact⟨_,_,_,R⟩
   ·rcases h2.2 with⟨R,_⟩|⟨g,a0,b0,R,_⟩<;>exact⟨_,_,_,R⟩
  ·subst hA;obtain⟨v',w',p,l0,g0,S,hk,O⟩:=akZ (P:=m.P) w 0 T ty ar.e L z ar.sz L.bytes hu p0 hz has.symm rfl (by rw[has];exact m0.1) (by rw[has];exact m0.2) V ar.l.length xs h2 ad new.length c vs (by rw[has];exact S0) F0 q0 h0 t0 (n3 _);refine⟨v',w',rep D id v',p,d0 ?_ g0.size O,F _⟩;refine n.hs.app k0 H E h2 h3 h4 h5 (fun _=>l0) g0 S O (by rw[has];exact y0) q0 (fun j e U i c J=>?_) (fun g N=>?_)
   ·rw[has];obtain⟨y,hy,Z⟩:=T0 j e U i c J;exact⟨y,hy,Z.mono (h7 _) (fun b _ M=>G b M) (fun _ _ _=>rfl) (fun _ _ h=>h)⟩
   ·obtain⟨Q,_⟩|⟨g2,a0,b0,Q,a1,w0,_⟩:=l0.2
    ·rw[Q]at N;cases N
    ·rw[Q]at N;injection N with N;simp only[]at N;subst N
     refine⟨?_,(lc.1 w0).1⟩;rw[Q]at S;rcases S with e|e
     ·exact(n.hs.own id g2 (by rw[E,← e];rfl)).1
     ·have e':some g2=some w.heap.size:=e;injection e' with e';subst e'
      exact .inl n.hs.below.size
 split at h
 ·split at h
  ·cases h
  ·rename_i B;injection h with h;subst h
   have e0:has s.u d=false:=by
    cases v0:has s.u d
    ·rfl
    ·exact absurd (.inl v0) B
   have f0:new.length≤maxLen∧new.length*L.bytes≤140737488355328:=by
    by_cases h':new.length≤maxLen∧new.length*L.bytes≤140737488355328
    ·exact h'
    ·exact absurd (.inr h') B
   cases R;obtain⟨K,G⟩:=q.hs.nil e0 e' L.size;have hn:=q.hs.free e0;have n:aI m { s with r:=bj d ⟨e',L.size,[]⟩ s.r,u:=d::s.u } a w (ext ι d (.slice none 0 0)) :=
    q.world K rfl (h7 _) (fun b _ M=>G b M) (fun _ _ _=>rfl) (fa hn _)
   obtain⟨y,w',ι',p,I,F⟩:=key (id:=d) (ar:=⟨e',L.size,[]⟩) n (by cases hp:m.w0.pv d with|none=>rfl|some y=>have:=(q.hs.pin d y hp).1;rw[hn]at this;cases this) (by simp[cp]) (cH _ _ _) rfl rfl (by simpa using f0.1) (by simpa using f0.2)
    (fun hp Z=>(Z.pure hp _).mono (h7 _) (fun b _ M=>G b M) (fun _ _ _=>rfl) (fun _ _ h=>h)) G
   refine⟨y,w',ι',p,?_,fun i J x0=>F i ((bR _ _ J).trans x0)⟩;simpa[GK]using I
 ·split at h
  ·rename_i id _ ar H;split at h
   ·rename_i B;injection h with h;subst h
    obtain⟨c0,c1,c2,c3,c4⟩:=B;cases R with
    | ref _ _ A' n' c' hι =>
     obtain⟨y,w',ι',p,I,F⟩:=key q (by cases hp:m.w0.pv id with|none=>rfl|some y=>have:=(q.hs.pin id y hp).2;rw[c0]at this;cases this) H hι c1 c2 c3 c4 (fun hp Z=>Z) (fun b M=>M);exact⟨y,w',ι',p,I,fun i _ J=>F i J⟩
   ·cases h
  ·cases h
 ·cases h
end Go.Proofs.YtocgkfoifehcbaaGreat
namespace Go.Proofs.YtocgkfoifehcbaaGreat
set_option linter.all false
open Go.RowKit
variable[FM]
theorem Pq:Array.range 0 = #[]:=rfl
def fO(n:Int)(bytes:Nat):Bool:=decide (0≤n)&&(decide (n≤9223372036854775807)&&decide (n.toNat*bytes≤140737488355328))
theorem RQ{P:Program}(w:World)(t e:TypeId)(i:TypeInfo)(z:Value)(f:P.underlying t=some (.slice e))(c:P.info? e=some i)(m:i.zero=some z)
  (kl n:IntKind) (l:Int) (g:0≤l) (j:l≤9223372036854775807) (b:l.toNat*i.bytes≤140737488355328) (d:0<i.size) :
  (Instr.makeSlice t (.int kl l) (.int n l)).run P w=.ok (.slice (some ⟨w.heap.size,0,none⟩) l.toNat l.toNat) (w.alloc (.cells ((Array.range (l.toNat*i.size)).map (z.cells[· % z.cells.size]!)) e)):=by
 have r:IntKind.i64.wrap l=l:=by rw[alY];omega
 have o:¬ l<0:=by omega
 have p:¬ (281474976710656<(i.bytes:Int)*l):=by
  have:(i.bytes:Int)*l=((l.toNat*i.bytes:Nat):Int):=by
   rw[Int.natCast_mul,Int.toNat_of_nonneg g,anJ]
  omega
 have q:¬ (140737488355328<l.toNat*i.bytes):=by omega
 by_cases k:l.toNat*i.size=0
 ·have a:l.toNat=0:=by
   rcases Nat.mul_eq_zero.1 k with h|h
   ·exact h
   ·omega
  simp[Instr.makeSlice,ls f,asInt,asIntOf,typeInfo,c,sizeOf,r,o,p,q,newRow,askRoom,roomBytes,a,Pq]
 ·simp[Instr.makeSlice,ls f,asInt,asIntOf,typeInfo,c,sizeOf,zeroValue,m,newRow]
  grind
theorem TT{P:Program}{N:Nat→Prop}(w:World){T e:TypeId}{sz bytes:Nat}{m:Int}{zc:List AV}(d:iJ P T=some (e,sz,bytes))(Q:fE P e=some zc)(D:fO m bytes=true)(kd kd':IntKind):
  ∃vs:d5,(Instr.makeSlice T (.int kd m) (.int kd' m)).run P w=.ok (.slice (some ⟨w.heap.size,0,none⟩) m.toNat m.toNat) (w.alloc (.cells vs.toArray e))∧m.toNat≤maxLen∧vs.length=m.toNat*sz∧(∀c∈List.replicate m.toNat (zc.map jF),c.length=sz)∧(∀v∈vs,v.oneCell'=true) ∧
   ∀(j:Nat) (c:List AV),(List.replicate m.toNat (zc.map jF))[j]?=some c→∀(i:Nat) (x:AV),c[i]?=some x→∃v,vs[j*sz+i]?=some v∧Rel N w bA x v:=by
 simp only[fO,g6,ob]at D;obtain⟨H,I,J⟩:=D;unfold iJ at d;split at d
 case h_2=>cases d
 rename_i e' B;split at d
 case h_2=>cases d
 rename_i b r;split at d
 case h_2=>cases d
 rename_i z s;split at d
 case isFalse=>cases d
 rename_i g;injection d with d;injection d with K d;injection d with L M
 subst K;subst L;subst M;have C:n0 z.cells.toList=some zc:=by simpa[fE,r,s]using Q
 have a:=(oh N w bA C);have A:=a.pz;have p:=RQ w T e' b z B r s kd kd' m H I J g.2;have f:zc.length=b.size:=by rw[a.len,← g.1];simp
 have h:∀q,q<m.toNat*b.size→((Array.range (m.toNat*b.size)).map (z.cells[· % z.cells.size]!)).toList[q]?=z.cells.toList[q % b.size]?:=fun q k=>by
  have F:q % b.size<z.cells.size:=by rw[g.1];exact Nat.mod_lt _ g.2
  simp[k,g.1];rw[getElem!_pos z.cells (q % b.size) F,h8 F]
 refine⟨((Array.range (m.toNat*b.size)).map (z.cells[· % z.cells.size]!)).toList,by rw[aaC];exact p,by unfold maxLen;omega,by simp,fun c O=>?_,fun v t=>?_,fun j c n i x G=>?_⟩
 ·rw[(List.mem_replicate.1 O).2,lp,f]
 ·obtain⟨q,k⟩:=amg t;have y:q<m.toNat*b.size:=by have:=(g7.1 k).1;simpa using this
  rw[h q y]at k;exact a.one v (jt k)
 ·rw[al6]at n;split at n
  ·rename_i u;injection n with n;subst n
   have E:i<b.size:=by have:=(g7.1 G).1;rw[lp,f]at this;exact this
   have k:j*b.size+i<m.toNat*b.size:=by
    have:(j+1)*b.size≤m.toNat*b.size:=ye _ u;rw[ac6,al4]at this;omega
   have o:(j*b.size+i) % b.size=i:=by rw[amr,Nat.mul_add_mod,amD E]
   rw[h _ k,o];have t:=h6 (l:=z.cells.toList) (i:=i) (by rw[←a.len,f];exact E);exact⟨_,t,A.rel i x _ G t⟩
  ·cases n
def um(P:Program)(s:AS)(T:TypeId)(x y:Operand):Option AV :=
 match s.ev x,s.ev y,iJ P T with
 | some (.int _ m),some (.int _ a),some (e,_,bytes)=>match fE P e with
  | some zc=>if m=a∧fO m bytes=true then some (.sl (List.replicate m.toNat (zc.map jF))) else none
  | none=>none
 | _,_,_=>none
theorem ag9{c:Cx}{s:AS}{a:Act}{w:World}{ι:Env}(g:aI c s a w ι){T:TypeId}{x y:Operand}{v:AV}(h:um c.P s T x y=some v):
  ∃X w',(Instr.makeSlice T (a.eval x) (a.eval y)).run c.P w=.ok X w'∧aI c s a w' ι∧Rel (NN c.M ι) w' ι v X:=by
 unfold um at h;split at h
 case h_2=>cases h
 rename_i kd m kd' r e sz bytes k l j;split at h
 case h_2=>cases h
 rename_i zc n;split at h
 case isFalse=>cases h
 rename_i i;obtain⟨rfl,d⟩:=i;injection h with h;subst h
 obtain⟨vs,f,t,u,o,p,q⟩:=TT (P:=c.P) (N:=NN c.M ι) w j n d kd kd';refine⟨_,_,by rw[mz g k,mz g l];exact f,?_,?_⟩
 ·exact g.world (g.hs.fresh _) rfl (by simp) (fun b _ d=>d) (fun b d _=>mm _ _ _ d) (fun _ _ h=>h)
 ·have:=Vm (T:=e) g.hs o p q;simpa using this
theorem HS.SZ{M:Nat→Prop}{w0:az}{w:World}{ι:Env}{s:AS}(h:HS M w0 w ι s){id g n c:Nat}{ar:bZ}{l':List (List AV)}{xs':d5}{m:Array Value}{T:TypeId}
  (U:look id s.r=some ar) (t:ι id=some (.slice (some ⟨g,0,none⟩) n c)) (hg:w.heap[g]?=some (.cells m T (0,0))) (P:l'.length=ar.l.length) (hz:∀e∈l',e.length=ar.sz) (N:xs'.length=ar.l.length*ar.sz) (E:∀x∈xs',x.oneCell'=true)
  (hc:∀(j:Nat) (e:List AV),l'[j]?=some e→∀(i:Nat) (c:AV),e[i]?=some c→∃x,xs'[j*ar.sz+i]?=some x∧im (NN M ι) w (TG≤id) (ι (nm id (j*ar.sz+i))) c x) :
  HS M w0 (w.setRow g (xs'++m.toList.drop xs'.length).toArray) ι ({ s with r:=bj id { ar with l:=l' } s.r }):=by
 obtain⟨v,xs,O,e2,e3,e4,e5⟩:=h.arrs id ar U (by rw[t];rfl);rw[t]at O;injection O with O;subst O
 have q:bg (ι id)=some g:=by rw[t];rfl
 obtain⟨hv,_⟩|⟨D,f0,e0,hv,p,d,J,H,o,a0⟩:=e2.2
 ·cases hv
 injection hv with G hn V
 injection G with G;injection G with G;subst G;subst V
 rw[hg]at d;injection d with d;injection d with q1 q2 q3;subst q1;subst q2
 have z:ar.l.length*ar.sz≤c*ar.sz:=ye _ J;generalize hC:(xs'++m.toList.drop xs'.length).toArray=C;have Q:∀b,b<w.heap.size→¬ NN M ι b→(w.setRow g C).heap[b]?=w.heap[b]?:=fun b _ p=>eT (fun e=>p (.inr ⟨id,by rw[e];exact q⟩));obtain⟨L,g0⟩:=h.own id g q;refine⟨?_,h.old,h.use,fun i k I=>?_,h.inj,h.ko,fun i a f=>?_,fun i cs f Z=>?_,fun i a f Z=>?_,h.pin⟩
 ·exact h.below.trans ⟨rfl,rfl,rfl,by simp,fun k I hG=>eT (fun e=>by subst e;rcases L with L|L;exact Nat.lt_irrefl _ (nx I L);exact hG L)⟩
 ·have:=h.own i k I;simp;exact this
 ·simp only[cp]at f;by_cases B:i=id
  ·subst B;exact h.use i _ t
  ·rw[io B]at f;exact h.kr i a f
 ·obtain⟨D,T',c0,E,u,y⟩:=h.objs i cs f Z;have Y:D≠g:=fun e'=>by
   have:=h.inj i id g (by rw[E,e'];rfl) q;subst this;rw[E]at t;cases t
  exact⟨D,T',c0,E,(eT Y).trans u,y.mono (by simp) (fun b _ p=>p) Q (fun _ _ h=>h)⟩
 ·simp only[cp]at f;by_cases B:i=id
  ·subst B;rw[iF rfl]at f;injection f with f;subst f
   have K:xs'.length≤m.toList.length:=by rw[N,yk,o];exact z
   refine⟨_,xs',t,⟨by simpa[P]using N,.inr ⟨g,c,C,by simp[hn,P],p,anM w g m _ _ _ hg,by simpa[P]using J,H,?_,?_⟩⟩,hz,E,fun j e W k c' I=>?_⟩
   ·rw[←hC];simp only[am9,kc,ah0];rw[←Nat.add_sub_assoc K,Nat.add_sub_cancel_left,yk];exact o
   ·rw[←hC];simp only[P,← N];rw[List.take_left'];rfl
   ·obtain⟨x,b0,hr⟩:=hc j e W k c' I;exact⟨x,b0,hr.mono (by simp) (fun b _ p=>p) Q (fun _ h=>h) (fun r A=>eT (fun e=>h.pc A t (fun _ e=>by cases e) (by rw[e];rfl))) (fun h=>h)⟩
  ·rw[io B]at f;obtain⟨v',d0,F,u,y,R,S⟩:=h.arrs i a f Z;refine⟨v',d0,F,fS u (fun D d=>eT ?_),y,R,fun j el W k c X=>?_⟩
   ·intro e';subst e';exact B (h.inj i id D (by rw[F];exact d) q)
   ·obtain⟨x,N,hr⟩:=S j el W k c X;exact⟨x,N,hr.mono (by simp) (fun b _ p=>p) Q (fun _ h=>h) (fun r A=>eT (fun e=>h.pc A t (fun _ e=>by cases e) (by rw[e];rfl))) (fun h=>h)⟩
def mG{α:Type}(L:List α)(off m:Nat)(S:List α)(a b:Nat):List α:=List.take off L++(List.take (min b m) (List.drop a S)++List.drop (off+min b m) L)
def MR(off m n a b c:Nat):Bool:=decide (off+m≤n)&&decide (a+b≤c)
theorem Xw{α:Type}(L:List α) off m S a b(c:off+m≤L.length)(d:a+b≤S.length):(mG L off m S a b).length=L.length:=by
 grind[mG]
theorem akJ{α:Type}(L:List α)(off m:Nat)(S:List α)(a b:Nat)(e:off+m≤L.length)(f:a+b≤S.length)(j:Nat):(mG L off m S a b)[j]?=if j<off then L[j]? else if j<off+min b m then S[a+(j-off)]? else L[j]?:=by
 have c:(List.take off L).length=off:=by grind
 have d:(List.take (min b m) (List.drop a S)).length=min b m:=by grind
 grind[mG]
section
variable{d:Cx}{s:AS}
def oO(s:AS):AV→Option (Nat×TypeId×List (List AV)×Option ed)
 | .ref id=>match look id s.r with|some ⟨et,sz,l⟩=>(match Nat.beq sz 1&&Nat.ble (id+1) TG with|true=>some (id,et,l,none)|false=>none)|none=>none
 | .sref id sz off m=>match look id s.r with|some ⟨et,a,l⟩=>(match (Nat.beq sz 1&&Nat.beq a 1)&&Nat.ble (id+1) TG with|true=>some (id,et,l,some (off,m))|false=>none)|none=>none
 | _=>none
def uW(s:AS):AV→Option (List (List AV)×Option ed)
 | .sl l=>some (l,none)
 | v=>(oO s v).map fun x=>(x.2.2.1,x.2.2.2)
def fR(o:Option ed)(n:Nat):Nat×Nat:=match o with|some q=>q|none=>(0,n)
theorem NR{a:Act}{w:World}{ι:Env}(Q:aI d s a w ι){u:AV}{X:Value}(H:Rel (NN d.M ι) w ι u X){id:Nat}{et:TypeId}{l:List (List AV)}{I:Option ed}(h:oO s u=some (id,et,l,I)){off m:Nat}(q:fR I l.length=(off,m)):
  id<TG∧look id s.r=some ⟨et,1,l⟩∧∃B k,X=.slice B m k∧((m=0∧(B=none→k=0∨True))∨∃g n c,ι id=some (.slice (some ⟨g,0,none⟩) n c)∧B=some ⟨g,off,none⟩)∧(B=none∨∃a,B=some a):=by
 have x:∀B:Option Addr,B=none∨∃a,B=some a:=fun B=>by cases B with|none=>exact .inl rfl|some a=>exact .inr ⟨a,rfl⟩
 unfold oO at h;split at h
 ·split at h
  case h_2=>cases h
  rename_i r sz l' p;split at h
  case h_2=>cases h
  rename_i b;rw[g6]at b;have f:=hF b.2;have b:=iO b.1;simp only[qv,u4]at h;obtain⟨rfl,rfl,rfl,rfl⟩:=h;subst b;simp only[fR,u4]at q;obtain⟨rfl,rfl⟩:=q;refine⟨f,p,?_⟩;cases H with
  | ref _ _ A n c j =>
   obtain⟨v,xs,o,K,S,T,U⟩:=Q.hs.arrs _ _ p (by rw[j];rfl);rw[j]at o;injection o with o;subst o
   obtain⟨E,i⟩|⟨L,J,F,E,V,O,P,G,C,D⟩:=K.2
   ·injection E with t z e
    subst t;subst z;subst e;exact⟨none,0,by simp only[]at i⊢;rw[i],.inl ⟨i,fun _=>.inl rfl⟩,x _⟩
   ·injection E with t z e
    subst t;subst z;subst e;exact⟨_,c,rfl,.inr ⟨L,_,c,j,rfl⟩,x _⟩
 ·split at h
  case h_2=>cases h
  rename_i r R l' p;split at h
  case h_2=>cases h
  rename_i b;rw[g6,g6]at b;have f:=hF b.2;have M:=iO b.1.1;have N:=iO b.1.2;simp only[qv,u4]at h;obtain⟨rfl,rfl,rfl,rfl⟩:=h;subst M;subst N;simp only[fR,u4]at q;obtain⟨rfl,rfl⟩:=q;refine⟨f,p,?_⟩;cases H with
  | sref _ _ _ _ _ n c k A B j y =>
   refine⟨B,k,rfl,?_,x _⟩;rcases y with i|⟨g,rfl,rfl,_⟩
   ·exact .inl ⟨i,fun _=>.inr trivial⟩
   ·exact .inr ⟨g,n,c,j,by simp⟩
 grind
theorem YS{a:Act}{w:World}{ι:Env}(M:aI d s a w ι){u:AV}{X:Value}(o:Rel (NN d.M ι) w ι u X){l:List (List AV)}{Q:Option ed}(h:uW s u=some (l,Q)){off m:Nat}(L:fR Q l.length=(off,m))(P:∀e∈l,e.length=1)(V:off+m≤l.length):
  ∃A t,X=.slice A m t∧∀k,k≤m→k=0∨∃(p:Addr) (vs:d5),A=some p∧vs.length=k∧(∀(j:Nat) (u:Value),vs[j]?=some u→w.cell? (p.add j)=some u)∧(∀x∈vs,x.oneCell'=true)∧∀(j:Nat),j<k→∀(e:List AV),l[off+j]?=some e→∀(i:Nat) (c:AV),e[i]?=some c→∃y,vs[j*1+i]?=some y∧Rel (NN d.M ι) w bA c y:=by
 have R:∀{id:Nat} {et:TypeId},oO s u=some (id,et,l,Q)→∃A t,X=.slice A m t∧∀k,k≤m→k=0∨∃(p:Addr) (vs:d5),A=some p∧vs.length=k∧(∀(j:Nat) (u:Value),vs[j]?=some u→w.cell? (p.add j)=some u)∧(∀x∈vs,x.oneCell'=true)∧∀(j:Nat),j<k→∀(e:List AV),l[off+j]?=some e→∀(i:Nat) (c:AV),e[i]?=some c→∃y,vs[j*1+i]?=some y∧Rel (NN d.M ι) w bA c y:=fun {id et} z=>by
  obtain⟨a0,hl,B,t,rfl,hB,_⟩:=NR M o z L;refine⟨B,t,rfl,fun k J=>?_⟩;obtain⟨U,_⟩|⟨g,n,c,W,rfl⟩:=hB
  ·exact .inl (by omega)
  ·right;obtain⟨v,xs,E,S,e3,Y,G⟩:=M.hs.arrs _ _ hl (by rw[W];rfl);have T:∀(j:Nat) (e:List AV),l[j]?=some e→∀(i:Nat) (c:AV),e[i]?=some c→∃x,xs[j*1+i]?=some x∧Rel (NN d.M ι) w bA c x:=fun j e f i c H=>by
    obtain⟨x,D,o⟩:=G j e f i c H;exact⟨x,D,o.flat (by omega)⟩
   rw[W]at E;injection E with E;subst E
   have r:=S.cells (g:=g) rfl;have N:=S.1;simp only[anj]at N T;refine⟨⟨g,off,none⟩,(xs.drop off).take k,rfl,by rw[Dj,ah0];omega,fun j y b=>?_,fun x D=>Y x (tl (nk D)),fun j b e f i c C=>?_⟩
   ·rw[u5]at b;split at b
    ·rw[Qf]at b;have:=r _ _ b;rw[af0]at this⊢;rw[z5]at this;exact this
    ·cases b
   ·have I:i=0:=by
     have F:=(g7.1 C).1;rw[P e (jt f)]at F;omega
    obtain⟨y,O,o⟩:=T _ e f i c C;refine⟨y,?_,o⟩;rw[u5,iF (by omega),Qf,anj,← ams];exact O
 unfold uW at h;split at h
 ·rename_i l';simp only[qv,u4]at h;obtain⟨rfl,rfl⟩:=h;simp only[fR,u4]at L;obtain⟨rfl,rfl⟩:=L;have K:pM s 1 (.sl l')=some l':=by
   have ha:l'.all (fun e=>e.length == 1)=true:=ll.2 fun e f=>by simp[P e f]
   simp only[pM,ha,wl]
  obtain⟨A,c,rfl,_,H⟩:=M6 M K o;refine⟨A,c,rfl,fun k J=>?_⟩;by_cases U:k=0
  ·exact .inl U
  rcases H with rfl|⟨p,vs,rfl,F,Z,h4,h5⟩
  ·simp at J;exact .inl J
  ·refine .inr ⟨p,vs.take k,rfl,by rw[Dj];omega,fun j y b=>?_,fun x D=>h4 x (nk D),fun j b e f i c C=>?_⟩
   ·rw[u5]at b;split at b
    ·exact Z j y b
    ·cases b
   ·have I:i=0:=by
     have F:=(g7.1 C).1;rw[P e (jt f)]at F;omega
    rw[z5]at f;obtain⟨y,O,o⟩:=h5 j e f i c C;exact⟨y,by rw[u5,iF (by omega)];exact O,o⟩
 ·cases z:oO s u with
  | none=>rw[z]at h;cases h
  | some q =>
   obtain⟨id,et,l',b0⟩:=q;rw[z]at h;simp only[If,qv,u4]at h;obtain⟨rfl,rfl⟩:=h;exact R z
def sW(P:Program)(s:AS)(T:TypeId)(u v:AV):Option (AS×AV) :=
 match g8 P T,oO s u,uW s v with
 | some (et,sz),some (id,d,l,b),some (a,c) =>
  if sz=1∧et=d∧(∀e∈l,e.length=1)∧(∀e∈a,e.length=1)∧MR (fR b l.length).1 (fR b l.length).2 l.length (fR c a.length).1 (fR c a.length).2 a.length=true then
   some ({ s with r:=bj id ⟨et,1,mG l (fR b l.length).1 (fR b l.length).2 a (fR c a.length).1 (fR c a.length).2⟩ s.r },.int .i64 (min (fR c a.length).2 (fR b l.length).2:Nat)) else none
 | _,_,_=>none
theorem afd{a:Act}{w:World}{ι:Env}(f:aI d s a w ι){T T' ty:TypeId}{u v r:AV}{s':AS}(h:sW d.P s T u v=some (s',r)){X Y:Value}(o0:Rel (NN d.M ι) w ι u X)(p0:Rel (NN d.M ι) w ι v Y):
  ∃y w',(Builtin.copy_ #[T,T'] ty #[X,Y]).run d.P w=.ok y w'∧aI d s' a w' ι∧Rel (NN d.M ι) w' ι r y:=by
 unfold sW at h;split at h
 case h_2=>cases h
 rename_i et sz id T0 l od Z os J hu hv;split at h
 case isFalse=>cases h
 rename_i M;obtain⟨c1,c2,hz,V,hc⟩:=M;subst c1;subst c2;injection h with h;injection h with W e2;subst W;subst e2
 generalize e0:(fR od l.length).1=off at *;generalize w0:(fR od l.length).2=m at *;generalize O:(fR os Z.length).1=o at *;generalize d0:(fR os Z.length).2=D at *;have ho:fR od l.length=(off,m):=by rw[←e0,← w0]
 have x0:fR os Z.length=(o,D):=by rw[←O,← d0]
 simp only[MR,g6,ob]at hc;obtain⟨a0,L⟩:=hc;obtain⟨d1,F,B,c',rfl,hB,a1⟩:=NR (off:=off) (m:=m) f o0 hu ho;obtain⟨A,c2,rfl,s0⟩:=YS (off:=o) (m:=D) f p0 hv x0 V L;unfold g8 at J;split at J
 case h_2=>cases J
 rename_i e' C;cases p:d.P.info? e' with
 | none=>simp[cz,p]at J
 | some ie =>
  simp only[cz,p,If,qv,u4]at J;obtain⟨rfl,f0⟩:=J;have q:Nat.min D m=min D m:=rfl;by_cases K:min D m=0
  ·-- nothing is copied
   have hL:mG l off m Z o D=l:=by unfold mG;rw[K];simp
   have t:(Builtin.copy_ #[T,T'] ty #[.slice B m c',.slice A D c2]).run d.P w=.ok (goInt 0) w:=by
    have l0:∀a:Addr,(loadCells a 0).run d.P w=.ok #[] w:=fun a=>by simp[loadCells,loadCellsFrom]
    cases A with
    | none=>cases B with
     | none=>simp[Builtin.copy_,ls C,Builtin.lenOf,Builtin.firstCells,sizeOf,typeInfo,p,q,K]
     | some b=>simp[Builtin.copy_,ls C,Builtin.lenOf,Builtin.firstCells,sizeOf,typeInfo,p,q,K,storeCells]
    | some a=>cases B with
     | none=>simp[Builtin.copy_,ls C,Builtin.lenOf,Builtin.firstCells,sizeOf,typeInfo,p,q,K,l0]
     | some b=>simp[Builtin.copy_,ls C,Builtin.lenOf,Builtin.firstCells,sizeOf,typeInfo,p,q,K,l0,storeCells]
   rw[hL,K];have Q:aI d { s with r:=bj id ⟨e',1,l⟩ s.r } a w ι:=by
    refine⟨⟨f.hs.below,f.hs.old,f.hs.use,f.hs.own,f.hs.inj,f.hs.ko,fun j ar k=>?_,f.hs.objs,fun j ar k hp=>?_,f.hs.pin⟩,f.dfr,f.n,f.tmp⟩
    ·simp only[cp]at k;split at k
     ·rename_i e;subst e;exact f.hs.kr j _ F
     ·exact f.hs.kr j ar k
    ·simp only[cp]at k;split at k
     ·rename_i e;subst e;injection k with k;subst k;exact f.hs.arrs j _ F hp
     ·exact f.hs.arrs j ar k hp
   exact⟨_,w,t,Q,.int _ _ _⟩
  ·rcases s0 (min D m) (Nat.min_le_left _ _)with m0|⟨ad,vs,rfl,i0,y0,g0,A0⟩
   ·exact absurd m0 K
   obtain⟨b1,_⟩|⟨g,n,c,hι,rfl⟩:=hB
   ·omega
   obtain⟨v1,xs,W,e2,e3,e4,e5⟩:=f.hs.arrs _ _ F (by rw[hι];rfl);rw[hι]at W;injection W with W;subst W
   obtain⟨S,_⟩|⟨g',S0,i,S,hb,b0,v0,F0,R,z⟩:=e2.2
   ·cases S
   injection S with hA hn r0
   injection hA with hA;injection hA with hA;subst hA;subst r0
   have k0:=e2.1;simp only[anj]at k0 R z v0 hn e5;have H:off+vs.length≤i.size:=by omega
   have t:=run_copy_row (P:=d.P) w T T' ty e' g off m c' ad D c2 i e' vs C (by rw[p];simp[f0]) b0 i0 y0 H g0;have U:(xs.take off++vs++xs.drop (off+vs.length)).length=l.length:=by rw[oP _ _ _ (by omega)];exact k0
   have hC:i.toList.take off++vs++i.toList.drop (off+vs.length)=(xs.take off++vs++xs.drop (off+vs.length))++i.toList.drop (xs.take off++vs++xs.drop (off+vs.length)).length:=by
    apply alV;intro j;have J:∀j,xs[j]?=if j<l.length then i.toList[j]? else none:=fun j=>by rw[←z,u5]
    rw[lr _ _ _ (by rw[yk];exact H),U];by_cases k:j<l.length
    ·rw[yw (by omega),lr _ _ _ (by omega),J j,iF k]
    ·rw[w3 (by omega),U,Qf,io (by omega),io (by omega)];congr 1;omega
   have I:=f.hs.SZ (l':=mG l off m Z o D) (xs':=xs.take off++vs++xs.drop (off+vs.length)) F hι b0 (by rw[Xw _ _ _ _ _ _ a0 L]) (fun e he=>by
     unfold mG at he;rcases kb.1 he with he|he
     ·exact hz e (nk he)
     ·rcases kb.1 he with he|he
      ·exact V e (tl (nk he))
      ·exact hz e (tl he)) (by simpa using U) (fun x G=>by
     rcases kb.1 G with G|G
     ·rcases kb.1 G with G|G
      ·exact e4 x (nk G)
      ·exact g0 x G
     ·exact e4 x (tl G)) (fun j e he i' c0 E=>by
     rw[akJ _ _ _ _ _ _ a0 L]at he;simp only[anj];have N:e.length=1→i'=0:=fun hm=>by
      have h2:=(g7.1 E).1;omega
     split at he
     ·rename_i k;have:=N (hz e (jt he));subst this;rw[lr _ _ _ (by omega),aix,iF k];have:=e5 j e he 0 c0 E;simpa using this
     ·rename_i k;split at he
      ·rename_i t0;have:=N (V e (jt he));subst this;rw[lr _ _ _ (by omega),aix,io k,iF (by omega)];obtain⟨y,hy,hr⟩:=A0 (j-off) (by omega) e (by simpa using he) 0 c0 E;exact⟨y,by simpa using hy,.inl hr⟩
      ·rename_i t0;have:=N (hz e (jt he));subst this;rw[lr _ _ _ (by omega),aix,io k,io (by omega)];have:=e5 j e he 0 c0 E;simpa using this)
   rw[←hC]at I;have q0:bg (ι id)=some g:=by rw[hι];rfl
   have Q:aI d { s with r:=bj id ⟨e',1,mG l off m Z o D⟩ s.r } a (w.setRow g (i.toList.take off++vs++i.toList.drop (off+vs.length)).toArray) ι :=
    f.world I rfl (by simp) (fun b _ hb=>hb) (fun b _ hb=>eT (fun e=>hb (.inr ⟨id,by rw[e];exact q0⟩))) (fun _ _ h=>h)
   refine⟨_,_,t,Q,?_⟩;rw[i0];exact .int _ _ _
end
end Go.Proofs.YtocgkfoifehcbaaGreat
namespace Go.Proofs.YtocgkfoifehcbaaGreat
set_option linter.all false
open Go.RowKit
variable[FM]
def cQ(n:Nat):Option Tmp→Bool
 | none=>true
 | some k=>decide (k<n)
theorem ge{n}{d}(h:cQ n d=true):∀k,d=some k→k<n:=fun k a=>by grind[cQ]
def sc(s:AS)(d:Nat)(cs:List AV):Option AS:=if (has s.u d||Nat.ble 450000 d)=true then none else some { t:=bj d (.ptr d 0) s.t,o:=bj d cs s.o,r:=s.r,u:=d::s.u }
theorem UE{e:Cx}{s s':AS}{a:Act}{w:World}{ι:Env}(c:aI e s a w ι){d:Nat}(x:d<e.n){cs:List AV}(h:sc s d cs=some s'){vs:d5}(p:Cells (NN e.M ι) w ι cs vs)(T:TypeId):
  ∃ι',aI e s' (a.put (some d) (.pointer (some ⟨w.heap.size,0,none⟩))) (w.alloc (.cells vs.toArray T)) ι'∧(∀i,i≠d→ι i=none→ι' i=none):=by
 unfold sc at h;split at h
 ·cases h
 ·rename_i v;injection h with h;subst h
  have l:=Bool.or_eq_false_iff.1 (Bool.eq_false_iff.2 v:(has s.u d||Nat.ble 450000 d)=false);have g:has s.u d=false:=l.1;have t:=c.hs.alloc (d:=d) g (T:=T) (fun h=>by have:=ajT h;grind) p;have r:=c.hs.free g;have n:aI e { s with o:=bj d cs s.o,u:=d::s.u } a (w.alloc (.cells vs.toArray T)) (ext ι d (.pointer (some ⟨w.heap.size,0,none⟩))):=by
   refine c.world t rfl (by simp) (fun b m f=>?_) (fun b m _=>mm _ _ _ m) (fa r _);rcases gJ f with f|f
   ·grind
   ·injection f with f;grind
  exact⟨_,n.put (d:=some d) (fun k y=>by grind) (.ptr _ _ _ _ (cH _ _ _)),fun i q j=>(bR _ _ q).trans j⟩
def As(P:Program)(s:AS)(T:TypeId)(v:AV):Option AV :=
 match g8 P T with
 | some _=>match v with
  | .nils=>some (.int .i64 0)
  | .sl l=>some (.int .i64 l.length)
  | .ref id=>match look id s.r with|some a=>some (.int .i64 a.l.length)|none=>none
  | .sref _ _ _ m=>some (.int .i64 m)
  | _=>none
 | none=>match oq P T with
  | some (n,_)=>some (.int .i64 n)
  | none=>if O7 P T=true then (match v with|.str b=>some (.int .i64 b.size)|_=>none) else none
theorem YH{j:Cx}{s:AS}{a:Act}{w:World}{ι:Env}(q:aI j s a w ι){T:TypeId}{v r:AV}(h:As j.P s T v=some r){x:Value}(t:Rel (NN j.M ι) w ι v x)(ty:TypeId):
  ∃y,(Builtin.len_ #[T] ty #[x]).run j.P w=.ok y w∧Rel (NN j.M ι) w ι r y:=by
 unfold As at h;split at h
 ·rename_i e i;unfold g8 at i;split at i
  ·rename_i e' f;split at h
   ·injection h with h;subst h
    cases t;exact⟨_,by simp[Builtin.len_,ls f,goInt],.int _ _ _⟩
   ·rename_i l;injection h with h;subst h
    cases t with
    | sl0 A c=>exact⟨_,by simp[Builtin.len_,ls f,goInt],.int _ _ _⟩
    | sl _ _ b o c sz I D Q p m R U _=>exact⟨_,by simp[Builtin.len_,ls f,goInt],.int _ _ _⟩
   ·rename_i id;split at h
    ·rename_i ar u;injection h with h;subst h
     cases t with
     | ref _ _ A n c E =>
      obtain⟨v,xs,m,H,M,N,O⟩:=q.hs.arrs id ar u (by rw[E];rfl);rw[E]at m;injection m with m;subst m
      have p:n=ar.l.length:=by
       obtain⟨C,L⟩|⟨K,F,G,C,_⟩:=H.2
       ·injection C with _ p _;omega
       ·injection C
      subst p;exact⟨_,by simp[Builtin.len_,ls f,goInt],.int _ _ _⟩
    ·cases h
   ·injection h with h;subst h
    cases t with
    | sref _ _ _ _ _ n c J A B E P=>exact⟨_,by simp[Builtin.len_,ls f,goInt],.int _ _ _⟩
   ·cases h
  ·cases i
 ·split at h
  ·rename_i n k d;injection h with h;subst h
   unfold oq at d;split at d
   ·rename_i V e f;cases D:cz j.P e with
    | none=>rw[D]at d;cases d
    | some z =>
     rw[D]at d;injection d with d;injection d with p S;subst p
     exact⟨_,by simp[Builtin.len_,ls f,goInt],.int _ _ _⟩
   ·cases d
  ·split at h
   ·rename_i g;split at h
    ·injection h with h;subst h
     cases t;unfold O7 at g;split at g
     ·rename_i f;exact⟨_,by simp[Builtin.len_,ls f,goInt],.int _ _ _⟩
     ·cases g
    ·cases h
   grind
def Lc:List AV→Option AV
 | [.int k x,.int a y]=>if k=a then some (.int k (max x y)) else none
 | _=>none
def Gk:List AV→Option AV
 | [.int k x,.int a y]=>if k=a then some (.int k (min x y)) else none
 | _=>none
def dA(s:AS):List Operand→Option (List AV)
 | []=>some []
 | x::r=>match s.ev x,dA s r with|some v,some l=>some (v::l)|_,_=>none
def pO(P:Program)(s:AS)(b:Builtin)(xs:List Operand)(a:List TypeId):Option AV :=
 match b with
 | .len=>match xs,a with
  | [x],[T]=>match s.ev x with|some v=>As P s T v|none=>none
  | _,_=>none
 | .max=>match dA s xs with|some l=>Lc l|none=>none
 | .min=>match dA s xs with|some l=>Gk l|none=>none
 | _=>none
theorem lV{f:Cx}{s:AS}{a:Act}{w:World}{ι:Env}(h:aI f s a w ι):∀{xs:List Operand} {l:List AV},dA s xs=some l→l.length=xs.length ∧
  ∀(i:Nat) (v:AV) (y:Value),l[i]?=some v→(xs.map a.eval)[i]?=some y→Rel (NN f.M ι) w ι v y
 | [],l,e=>by injection e with e;subst e;exact⟨rfl,fun i p q c _=>by simp at c⟩
 | x::r,l,e=>by
  unfold dA at e;cases b:s.ev x with
  | none=>rw[b]at e;cases e
  | some v =>
   cases d:dA s r with
   | none=>rw[b,d]at e;cases e
   | some l' =>
    rw[b,d]at e;injection e with e;subst e
    obtain⟨j,m⟩:=lV h d;refine⟨by simp[j],fun k p q c g=>?_⟩;cases k with
    | zero=>simp at c g;subst c;subst g;exact h.ev b
    | succ k=>grind
theorem adC{t:Cx}{s:AS}{a:Act}{w:World}{ι:Env}(d:aI t s a w ι){b:Builtin}{args:Array Operand}{u:Array TypeId}{r:AV}(h:pO t.P s b args.toList u.toList=some r)(ty:TypeId)(i:Array Bool):
  ∃y,(builtin b u ty i (args.map a.eval)).run t.P w=.ok (.value y) w∧Rel (NN t.M ι) w ι r y:=by
 have o:∀{f:List AV→Option AV} {mx:Int→Int→Int},(f=Lc∧mx=max∨f=Gk∧mx=min)→∀{l:List AV},dA s args.toList=some l→f l=some r→∃k x y,args.map a.eval = #[.int k x,.int k y]∧r=.int k (mx x y):=by
  intro f mx I l m c;obtain⟨H,z⟩:=lV d m;have E:∃k x y,l=[.int k x,.int k y]∧r=.int k (mx x y):=by
   obtain⟨rfl,rfl⟩|⟨rfl,rfl⟩:=I
   ·unfold Lc at c;split at c
    ·split at c
     ·rename_i k x K y C;subst C;injection c with c;exact⟨_,_,_,rfl,c.symm⟩
     ·cases c
    ·cases c
   ·unfold Gk at c;split at c
    ·split at c
     ·rename_i k x K y C;subst C;injection c with c;exact⟨_,_,_,rfl,c.symm⟩
     ·cases c
    ·cases c
  obtain⟨k,x,y,rfl,D⟩:=E;refine⟨k,x,y,?_,D⟩;apply alS.1;rw[agQ]
  match g:args.toList,H with
  | [p,q],_ =>
   rw[g]at z;have F:=z 0 _ (a.eval p) rfl rfl;have G:=z 1 _ (a.eval q) rfl rfl;simp only[n5,u7];cases e:a.eval p<;>rw[e]at F<;>cases F;cases A:a.eval q<;>rw[A]at G<;>cases G;rfl
 unfold pO at h;split at h
 ·split at h
  ·rename_i x T g B;have n:args = #[x]:=alS.1 (by simpa using g);have j:u = #[T]:=alS.1 (by simpa using B);subst n;subst j;split at h
   ·rename_i v J;obtain⟨y,e,A⟩:=YH d h (d.ev J) ty;exact⟨y,by simp[builtin,e],A⟩
   ·cases h
  ·cases h
 ·split at h
  ·rename_i l m;obtain⟨k,x,y,e,rfl⟩:=o (.inl ⟨rfl,rfl⟩) m h;refine⟨.int k (max x y),?_,.int _ _ _⟩;rw[e];have:(if y>x then y else x)=max x y:=by omega
   simp[builtin,Builtin.max_,Builtin.max2,this]
  ·cases h
 ·split at h
  ·rename_i l m;obtain⟨k,x,y,e,rfl⟩:=o (.inr ⟨rfl,rfl⟩) m h;refine⟨.int k (min x y),?_,.int _ _ _⟩;rw[e];have:(if y<x then y else x)=min x y:=by omega
   simp[builtin,Builtin.min_,Builtin.min2,this]
  ·cases h
 grind
def Oa(i:Nat):AV→Option AV
 | .tup vs=>vs[i]?
 | _=>none
def mP(P:Program)(s:AS)(T:TypeId)(p:AV):Option AV:=match s.mem p with|some cs=>jj P T cs|none=>none
def VN(P:Program)(T:TypeId)(f:Nat)(p:AV):Option AV:=match KG P T f with|some k=>zh k p|none=>none
def uk(P:Program)(s:AS)(T:TypeId)(x:AV):AV→Option AV
 | .int _ i=>zK P s T x i
 | _=>none
def cd(P:Program)(n:Nat)(s:AS)(o:Oper):Option AS :=
 if cQ n o.dst=true then
  match o.op with
  | .move x|.assign x=>match s.ev x with|some v=>some (s.put o.dst v)|none=>none
  | .pick c x y=>match s.ev c with
   | some (.bool b)=>match O6 b (s.ev x) (s.ev y) with|some v=>some (s.put o.dst v)|none=>none
   | _=>none
  | .alloc T=>match o.dst,fE P T with|some d,some cs=>sc s d cs|_,_=>none
  | .box _ x=>match o.dst,s.ev x with
   | some d,some v=>match kN v with|some cs=>sc s d cs|none=>none
   | _,_=>none
  | .load T x=>match s.ev x with
   | some p=>match mP P s T p with|some v=>some (s.put o.dst v)|none=>none
   | none=>none
  | .store T x y=>match o.dst,s.ev x,s.ev y with|none,some p,some v=>qB P s T p v|_,_,_=>none
  | .fieldAddr T x f=>match s.ev x with
   | some p=>match VN P T f p with|some v=>some (s.put o.dst v)|none=>none
   | none=>none
  | .indexAddr T x i=>match s.ev x,s.ev i with
   | some p,some j=>match uk P s T p j with|some v=>some (s.put o.dst v)|none=>none
   | _,_=>none
  | .build T parts=>match ug P s T parts.toList with|some v=>some (s.put o.dst v)|none=>none
  | .buildSlice T a parts=>match oJ P s T a parts.toList with|some v=>some (s.put o.dst v)|none=>none
  | .makeSlice T x y=>match um P s T x y with|some v=>some (s.put o.dst v)|none=>none
  | .extract x i=>match s.ev x with
   | some p=>match Oa i p with|some v=>some (s.put o.dst v)|none=>none
   | none=>none
  | .binOp op _ x y _=>match s.ev x,s.ev y with
   | some u,some v=>match u0 op u v with
    | some r=>some (s.put o.dst r)
    | none=>match lD P s o with|some r=>some (s.put o.dst r)|none=>none
   | _,_=>none
  | .unOp op _ x=>match s.ev x with
   | some u=>match Lx op u with|some r=>some (s.put o.dst r)|none=>none
   | none=>none
  | .call c=>match c.callee with
   | .builtin .append=>match c.args.toList,c.argTypes.toList,o.dst with
    | [x,y],[T,T'],some d=>if T=T' then match s.ev x,s.ev y with
     | some v,some u=>AD P s d T v u
     | _,_=>none else none
    | _,_,_=>none
   | .builtin .copy=>match c.args.toList,c.argTypes.toList with
    | [x,y],[T,_]=>match s.ev x,s.ev y with
     | some u,some v=>match sW P s T u v with
      | some q=>some (q.1.put o.dst q.2)
      | none=>none
     | _,_=>none
    | _,_=>none
   | .builtin b=>match pO P s b c.args.toList c.argTypes.toList with|some r=>some (s.put o.dst r)|none=>none
   | _=>none
  | _=>match lD P s o with|some r=>some (s.put o.dst r)|none=>none
 else none
theorem OG{E:Cx}{s s':AS}{a:Act}{w:World}{ι:Env}(g:aI E s a w ι){o:Oper}(h:cd E.P E.n s o=some s'):Good E ι s' a o ((execOp a.eval o).run E.P w):=by
 unfold cd at h;split at h
 case isFalse=>cases h
 rename_i Y;have X:=ge Y;have A:∀{v:AV} {x:Value} {w':World} {r:Result Next},r=.ok (.value x) w'→aI E s a w' ι→Rel (NN E.M ι) w' ι v x→Good E ι (s.put o.dst v) a o r:=fun D N m=>⟨ι,fun _ _ h=>h,.inl ⟨_,_,D,N.put X m⟩⟩;unfold execOp;cases n:o.op with
 | move x =>
  simp only[n]at h⊢;split at h
  ·rename_i v m;injection h with h;subst h;exact A rfl g (g.ev m)
  ·cases h
 | assign x =>
  simp only[n]at h⊢;split at h
  ·rename_i v m;injection h with h;subst h;exact A rfl g (g.ev m)
  ·cases h
 | pick c x y =>
  simp only[n]at h⊢;split at h
  ·rename_i b M;split at h
   ·rename_i v m;injection h with h;subst h
    have V:=g.ev M;cases W:a.eval c<;>rw[W]at V<;>cases V;have key:Rel (NN E.M ι) w ι v (if b=true then a.eval x else a.eval y):=by
     unfold O6 at m;split at m
     ·rename_i p q H hq;injection m with m;subst m
      have U:=g.ev H;have h2:=g.ev hq;cases b
      ·simpa using h2
      ·simpa using U
     ·cases b
      ·simp only[hH,rv]at m⊢;exact g.ev m
      ·simp only[wl]at m⊢;exact g.ev m
    refine A (x:=if b=true then a.eval x else a.eval y) ?_ g key;simp[asBool]
   ·cases h
  ·cases h
 | alloc T =>
  simp only[n]at h⊢;split at h
  ·rename_i d cs B hz;unfold fE at hz;cases K:E.P.info? T with
   | none=>simp[K]at hz
   | some it =>
    cases S:it.zero with
    | none=>simp[K,S]at hz
    | some zv =>
     simp only[K,go,S]at hz;obtain⟨ι',U,G⟩:=UE g (X d B) h (oh (NN E.M ι) w ι hz) T;refine⟨ι',fun i Z=>G i (fun e=>Z (by rw[e,B])),.inl ⟨.pointer (some ⟨w.heap.size,0,none⟩),w.alloc (.cells zv.cells T),?_,?_⟩⟩
     ·simp[Instr.alloc,zeroValue,typeInfo,K,S,newVar,newRow]
     ·rw[B];simpa using U
  ·cases h
 | box T x =>
  simp only[n]at h⊢;split at h
  ·rename_i d v B m;split at h
   ·rename_i cs e0;obtain⟨ι',U,G⟩:=UE g (X d B) h (yP e0 (g.ev m)) T;refine⟨ι',fun i Z=>G i (fun e=>Z (by rw[e,B])),.inl ⟨.pointer (some ⟨w.heap.size,0,none⟩),w.alloc (.cells (a.eval x).cells T),?_,?_⟩⟩
    ·simp[Instr.box,newVar,newRow]
    ·rw[B];simpa using U
   ·cases h
  ·cases h
 | load T x =>
  simp only[n]at h⊢;split at h
  ·rename_i p H;split at h
   ·rename_i v m;injection h with h;subst h
    unfold mP at m;split at m
    ·rename_i cs hm;obtain⟨b,o',vl,hx,J⟩:=M8 g (g.ev H) hm;obtain⟨x,l,D⟩:=Qi m J;refine A ?_ g D;rw[hx];simp[l]
    ·cases m
   ·cases h
  ·cases h
 | store T x y =>
  simp only[n]at h⊢;split at h
  ·rename_i p v B H m;obtain⟨w',l,N⟩:=adT g h (g.ev H) (g.ev m);refine⟨ι,fun _ _ h=>h,.inr ⟨w',by simp[l],?_⟩⟩;rw[B];exact N
  ·cases h
 | fieldAddr T x f =>
  simp only[n]at h⊢;split at h
  ·rename_i p H;split at h
   ·rename_i v m;injection h with h;subst h
    unfold VN at m;split at m
    ·rename_i k hk;obtain⟨z,l,D⟩:=alo hk m (g.ev H);exact A (by simp[l]) g D
    ·cases m
   ·cases h
  ·cases h
 | indexAddr T x y =>
  simp only[n]at h⊢;split at h
  ·rename_i p j H hj;split at h
   ·rename_i v m;injection h with h;subst h
    unfold uk at m;split at m
    ·rename_i k i;have a0:=g.ev hj;cases W:a.eval y<;>rw[W]at a0<;>cases a0;obtain⟨z,l,D⟩:=ag0 g (k:=k) m (g.ev H);exact A (by simp[l]) g D
    ·cases m
   ·cases h
  ·cases h
 | build T parts =>
  simp only[n]at h⊢;split at h
  ·rename_i v m;injection h with h;subst h
   obtain⟨x,l,D⟩:=W5 g m;exact A (by simp only[n4,l];rfl) g D
  ·cases h
 | buildSlice T f0 parts =>
  simp only[n]at h⊢;split at h
  ·rename_i v m;injection h with h;subst h
   obtain⟨x,w',l,N,D⟩:=aaF g m;exact A (by simp only[n4,l];rfl) N D
  ·cases h
 | makeSlice T x y =>
  simp only[n]at h⊢;split at h
  ·rename_i v m;injection h with h;subst h
   obtain⟨x,w',l,N,D⟩:=ag9 g m;exact A (by simp only[n4,l];rfl) N D
  ·cases h
 | extract x i =>
  simp only[n]at h⊢;split at h
  ·rename_i p H;split at h
   ·rename_i v m;injection h with h;subst h
    unfold Oa at m;split at m
    ·rename_i vs;have c0:=g.ev H;cases W:a.eval x<;>rw[W]at c0<;>cases c0;rename_i ws hl D;have b0:i<ws.length:=by rw[←hl];exact(g7.1 m).1
     refine A (x:=ws[i]) ?_ g (D i v _ m (h6 b0));simp[Instr.extract,h6 b0]
    ·cases m
   ·cases h
  ·cases h
 | binOp op T x y Ty =>
  simp only[n]at h⊢;split at h
  ·rename_i u v Q m;split at h
   ·rename_i r D;injection h with h;subst h
    obtain⟨z,l,t⟩:=Zi D (g.ev Q) (g.ev m) T x y;refine A ?_ g t;simp only[n4]at l⊢;rw[l];rfl
   ·split at h
    ·rename_i r D;injection h with h;subst h
     obtain⟨z,l,t⟩:=Wf g D;unfold execOp at l;simp only[n]at l;exact A l g t
    ·cases h
  ·cases h
 | unOp op T x =>
  simp only[n]at h⊢;split at h
  ·rename_i u Q;split at h
   ·rename_i r D;injection h with h;subst h
    obtain⟨z,l,t⟩:=ai2 (P:=E.P) D (g.ev Q);exact A (by simp[l]) g t
   ·cases h
  ·cases h
 | call c =>
  simp only[n]at h⊢;split at h
  ·rename_i M;split at h
   ·rename_i x y T T' d R L B;split at h
    ·rename_i d0;subst d0;split at h
     ·rename_i v u m Q;have I:c.args = #[x,y]:=alS.1 (by simpa using R);have F:c.argTypes = #[T,T]:=alS.1 (by simpa using L);obtain⟨z,w',ι',l,O,G⟩:=adY (ty:=o.type) g (X d B) h (g.ev m) (g.ev Q);refine⟨ι',fun i Z=>G i (fun e=>Z (by rw[e,B])),.inl ⟨z,w',?_,by rw[B];exact O⟩⟩;simp only[n4,resolve,M,By,pt,invoke,builtin,I,F,anl,n5,u7,l]
     ·cases h
    ·cases h
   ·cases h
  ·rename_i M;split at h
   ·rename_i x y T T' R L;split at h
    ·rename_i u v Q m;split at h
     ·rename_i q hq;injection h with h;subst h
      have I:c.args = #[x,y]:=alS.1 (by simpa using R);have F:c.argTypes = #[T,T']:=alS.1 (by simpa using L);obtain⟨z,w',l,O,t⟩:=afd (T':=T') (ty:=o.type) g (s':=q.1) (r:=q.2) hq (g.ev Q) (g.ev m);refine⟨ι,fun _ _ h=>h,.inl ⟨z,w',?_,O.put X t⟩⟩;simp only[n4,resolve,M,By,pt,invoke,builtin,I,F,anl,n5,u7,l]
     ·cases h
    ·cases h
   ·cases h
  ·rename_i b _ _ M;split at h
   ·rename_i r D;injection h with h;subst h
    simp only[n4,resolve,M,By,pt,invoke];generalize (Array.map _ c.args:Array Bool)=C;obtain⟨y,l,t⟩:=adC g D o.type C;exact A l g t
   ·cases h
  ·cases h
 | _ =>
  simp only[n]at h⊢;split at h
  ·rename_i r D;injection h with h;subst h
   obtain⟨z,l,t⟩:=Wf g D;unfold execOp at l;simp only[n]at l;exact A l g t
  ·cases h
end Go.Proofs.YtocgkfoifehcbaaGreat
namespace Go.Proofs.YtocgkfoifehcbaaGreat
set_option linter.all false
open Go.RowKit
def FF[FM]:Fence:={ Fence.wide with round:=FM.l }
theorem EX{g:Option Nat}{ρ:Operand→Value}{o:Oper}{P:Program}{w w':World}{x:Next}(h:(execOp ρ o).run P w=.ok x w')(i:∀d,x ≠ .defer d):(o.semAt g ρ).run P w=.ok x w':=by
 by_cases b:∃c,o.op=.defer c
 ·exfalso;obtain⟨c,a⟩:=b;unfold execOp at h;simp only[a,n4]at h;cases f:(resolve ρ c o.type).run P w with
  | ok d j=>rw[f]at h;simp only[pt,By]at h;injection h with h;exact i _ h.symm
  | halt e j=>rw[f]at h;cases h
 ·rw[Oper.semAt_eq g ρ o (fun c a=>b ⟨c,a⟩)];exact h
def Dl(P:Program)(o:Oper)(a:Act)(next:Act→World→Prop)(Q:Exit→Act→World→Prop):Result Next→Prop
 | .ok (.value v) w'=>next (a.put o.dst v) w'
 | .ok .skip w'=>next (a.put o.dst undef) w'
 | .ok (.enter f args) w'=>Calls P f args w' fun
   | .returned v,c=>next (a.put o.dst v) c
   | .panicked b,c=>Q (.panic b) a c
   | .outgrown,_=>LetsOut Q
 | .ok (.round l f tmps assign body) w'=>RoundIn Fence.wide 0 P l f tmps assign body w' fun
   | .returned v,c=>next (a.put o.dst v) c
   | .panicked b,c=>Q (.panic b) a c
   | .outgrown,_=>LetsOut Q
 | _=>False
theorem iL(P:Program)(o:Oper)(a:Act)(next:Act→World→Prop)(Q:Exit→Act→World→Prop)(w:World)(f:FuncId)(args:Array Value):Dl P o a next Q (.ok (.enter f args) w)=Calls P f args w fun
  | .returned v,c=>next (a.put o.dst v) c
  | .panicked b,c=>Q (.panic b) a c
  | .outgrown,_=>LetsOut Q:=rfl
theorem dK[FM]{P:Program}{o:Oper}{a:Act}{w:World}{K:Act→World→Prop}{Q:Exit→Act→World→Prop}(h:Dl P o a K Q ((execOp a.eval o).run P w)):o.wpIn FF 0 P a w K Q:=by
 refine⟨fun _ _=>trivial,?_⟩;generalize b:(execOp a.eval o).run P w=r at h;unfold Dl at h;split at h
 ·rw[EX b (by simp)];exact h
 ·rw[EX b (by simp)];exact h
 ·rw[EX b (by simp)];exact⟨(fun e=>nomatch e),anK.2 h⟩
 ·rw[EX b (by simp)];exact⟨(fun e=>nomatch e),h⟩
 ·exact h.elim
theorem rQ{P:Program}{c:Code}{Q b:Exit→Act→World→Prop}{a:Act}{w:World}(h:c.wpIn (@FF fm0) 0 P Q a w)(d:∀e a w,Q e a w→b e a w):c.wp P b a w:=wp_mono (wpIn_wide.1 h) d
inductive aq where
 | c (c:Code)
 | b (id:Nat)
 | l (back:Act→World→Prop)
def Kw[FM](P:Program)(Q:Exit→Act→World→Prop):List aq→Exit→Act→World→Prop
 | []=>Q
 | .c c::a=>Exit.then (c.wpIn FF 0 P (Kw P Q a)) (Kw P Q a)
 | .b id::a=>Exit.inBlock id (Kw P Q a)
 | .l b::a=>Exit.then b (Kw P Q a)
def VE[fm:FM](b:Cx)(Q:Exit→Act→World→Prop)(c:List aq)(e:Exit)(s:AS):Prop:=∀a w ι,aI b s a w ι→Kw b.P Q c e a w
def OT[FM](c:Cx)(Q:Exit→Act→World→Prop)(d:List aq)(b:Array Oper)(l:List Oper)(s:AS):Prop:=∀a w ι,aI c s a w ι→wpListIn FF 0 c.P b (Kw c.P Q d) l a w
variable[FM]
section
variable{f:Cx}{Q:Exit→Act→World→Prop}{n:List aq}{s:AS}
theorem afw(h:VE f Q n .normal s):VE f Q (.c .skip::n) .normal s:=fun a w ι b=>wpIn_skip (h a w ι b)
theorem ZZ{x y:Code}(h:VE f Q (.c x :: .c y::n) .normal s):VE f Q (.c (.seq x y)::n) .normal s:=fun a w ι b=>wpIn_seq (h a w ι b)
theorem ajr{id:Nat}{c:Code}(h:VE f Q (.c c :: .b id::n) .normal s):VE f Q (.c (.block id c)::n) .normal s:=fun a w ι b=>wpIn_block (h a w ι b)
theorem ada{id}(h:VE f Q n .normal s):VE f Q (.b id::n) .normal s:=fun a w ι b=>h a w ι b
theorem YZ{id:Nat}(h:VE f Q n (.exit id) s):VE f Q (.c (.exit id)::n) .normal s:=fun a w ι b=>wpIn_exit (h a w ι b)
theorem abT(h:VE f Q n .ret s):VE f Q (.c .ret::n) .normal s:=fun a w ι b=>wpIn_ret (h a w ι b)
theorem ZQ{id}{b}(h:VE f Q n (.exit id) s):VE f Q (.l b::n) (.exit id) s:=fun a w ι c=>h a w ι c
theorem ahN{id}(h:VE f Q n .normal s):VE f Q (.b id::n) (.exit id) s:=fun a w ι b=>by
 show Exit.inBlock id _ _ _ _;simp only[Exit.inBlock];exact h a w ι b
theorem ab2{id b}(c:¬ id=b)(h:VE f Q n (.exit id) s):VE f Q (.b b::n) (.exit id) s:=fun a w ι d=>by
 show Exit.inBlock b _ _ _ _;simp only[Exit.inBlock,io c];exact h a w ι d
theorem Ye{b}(h:VE f Q n .ret s):VE f Q (.l b::n) .ret s:=fun a w ι c=>h a w ι c
theorem ab9{id}(h:VE f Q n .ret s):VE f Q (.b id::n) .ret s:=fun a w ι b=>h a w ι b
theorem Ws{c:Operand}{x y:Code}{b:Bool}(i:s.ev c=some (.bool b))(k:b=true→VE f Q (.c x::n) .normal s)(j:b=false→VE f Q (.c y::n) .normal s):VE f Q (.c (.cond c x y)::n) .normal s:=fun a w ι e=>by
 have h:=e.ev i;have d:a.eval c=.bool b:=by cases g:a.eval c<;>rw[g]at h<;>cases h;rfl
 cases b
 ·exact wpIn_cond d (j rfl a w ι e)
 ·exact wpIn_cond d (k rfl a w ι e)
theorem ai0{c}{x y}(a:s.ev c=some (.bool true))(b:VE f Q (.c x::n) .normal s):VE f Q (.c (.cond c x y)::n) .normal s :=by grind[Ws]
theorem alh{c}{x y}(a:s.ev c=some (.bool false))(b:VE f Q (.c y::n) .normal s):VE f Q (.c (.cond c x y)::n) .normal s :=by grind[Ws]
theorem LL{id:Nat}{ops:Array Oper}(h:OT f Q n ops ops.toList s):VE f Q (.c (.region id ops false)::n) .normal s:=fun a w ι b=>wpIn_region_list (h a w ι b)
theorem SW{b}(h:VE f Q n .normal s):OT f Q n b [] s:=fun a w ι c=>h a w ι c
theorem Jk{d:Array Oper}{o:Oper}{r:List Oper}{s':AS}(i:o.guard=none)(h:cd f.P f.n s o=some s')(k:OT f Q n d r s'):OT f Q n d (o::r) s:=fun a w ι j=>by
 refine v9 i fun K g=>?_;refine dK ?_;obtain⟨ι',_,b⟩:=OG j h;obtain⟨x,w',e,c⟩|⟨w',e,c⟩:=b
 ·rw[e];exact g _ _ (k _ _ _ c)
 ·rw[e];exact g _ _ (k _ _ _ c)
theorem abp{c:Array Oper}{o i:Oper}{r:List Oper}{j d:Nat}{b:Bool}(m:o.guard=some (j,b))(p:c[j]?=some i)(l:i.dst=some d)(t:look d s.t=some (.bool b))(k:OT f Q n c ({ o with guard:=none }::r) s):OT f Q n c (o::r) s:=fun a w ι h=>by
 have e:=k a w ι h;obtain⟨x,v,q⟩:=h.tmp d _ t;cases q;have u:Region.wanted o (yielded c a.tmps)=true:=by simp[Region.wanted,m,yielded,p,l,v]
 have g:Region.wanted { o with guard:=none } (yielded c a.tmps)=true:=by simp[Region.wanted]
 unfold wpListIn at e⊢;rw[iF g]at e;rw[iF u];exact e
def Da(u:d4)(l:List (Nat×AV)):List (Nat×AV)→Prop
 | []=>True
 | (k,v)::r=>look k l=some v∧v.dg u=true∧Da u l r
def Ep(u:d4)(l:List (Nat×List AV)):List (Nat×List AV)→Prop
 | []=>True
 | (k,v)::r=>look k l=some v∧ex u v=true∧u.contains k=true∧Ep u l r
def CC(u:d4)(l:List (Nat×bZ)):List (Nat×bZ)→Prop
 | []=>True
 | (k,v)::r=>look k l=some v∧u.contains k=true∧CC u l r
def Sub(s' s:AS):Prop:=Da s'.u s.t s'.t∧Ep s'.u s.o s'.o∧CC s'.u s.r s'.r∧∀id,s.u.contains (cS id)=true→s'.u.contains (cS id)=true∧s'.u.contains id=true
theorem T9{u}{l}:∀{m},Da u l m→∀k v,look k m=some v→look k l=some v∧v.dg u=true
 | [],_,k,v,a=>by cases a
 | (j,x)::r,h,k,v,a=>by
  simp only[look]at a;split at a
  ·rename_i e;subst e;injection a with a;subst a;exact⟨h.1,h.2.1⟩
  ·exact T9 h.2.2 k v a
theorem Hf{u}{l}:∀{m},Ep u l m→∀k v,look k m=some v→look k l=some v∧ex u v=true∧u.contains k=true
 | [],_,k,v,a=>by cases a
 | (j,x)::r,h,k,v,a=>by
  simp only[look]at a;split at a
  ·rename_i e;subst e;injection a with a;subst a;exact⟨h.1,h.2.1,h.2.2.1⟩
  ·exact Hf h.2.2.2 k v a
theorem JT{u}{l}:∀{m},CC u l m→∀k v,look k m=some v→look k l=some v∧u.contains k=true
 | [],_,k,v,a=>by cases a
 | (j,x)::r,h,k,v,a=>by
  simp only[look]at a;split at a
  ·rename_i e;subst e;injection a with a;subst a;exact⟨h.1,h.2.1⟩
  ·exact JT h.2.2 k v a
def jS(ι:Env)(u:d4):Env:=fun i=>if has u i=true then ι i else none
theorem rO{ι}{u}{i}(h:has u i=true):jS ι u i=ι i:=by grind[jS]
theorem aiW{ι}{u}{i}{y}(h:jS ι u i=some y):ι i=some y∧has u i=true:=by
 grind[jS]
theorem BW{ι}{u}{i g}(h:bg (jS ι u i)=some g):bg (ι i)=some g:=by
 unfold jS at h;split at h
 ·grind
 ·cases h
theorem Rel.jS{N N'}{w}{ι}{v}{x}(h:Rel N w ι v x){u}(e:v.dg u=true)(c:∀b,N' b→N b):Rel N' w (jS ι u) v x :=
 (h.env (ι':=Proofs.YtocgkfoifehcbaaGreat.jS ι u) (fun id a=>rO (fJ a)) e).mono (by omega) (fun b _ d=>c b d) (fun _ _ _=>rfl) (fun _ _ h=>h)
theorem HL{M}{ι}{u}:∀b,NN M (jS ι u) b→NN M ι b:=fun b a=>by
 rcases a with a|⟨id,a⟩
 ·exact .inl a
 ·exact .inr ⟨id,BW a⟩
theorem HS.sub{M:Nat→Prop}{A:az}{w:World}{ι:Env}{s s':AS}(h:HS M A w ι s)(m:Sub s' s):HS M A w (jS ι s'.u) s':=by
 refine⟨h.below,h.old,fun i y K=>(aiW K).2,fun i g u=>h.own i g (BW u),fun i L g u z=>h.inj i L g (BW u) (BW z),fun i cs l=>fJ (Hf m.2.1 i cs l).2.2,fun i a l=>fJ (JT m.2.2.1 i a l).2,fun i cs l f=>?_,fun i ar l f=>?_,fun i y f=>⟨(rO (fJ (m.2.2.2 i (h.pin i y f).2).2)).trans (h.pin i y f).1,(m.2.2.2 i (h.pin i y f).2).1⟩⟩
 ·obtain⟨t,E,d⟩:=Hf m.2.1 i cs l;have d:=fJ d;rw[rO d]at f;obtain⟨g,T,vs,p,q,n⟩:=h.objs i cs t f;exact⟨g,T,vs,(rO d).trans p,q,n.len,n.one,fun j x v o J=>(n.rel j x v o J).jS (mb E j x o) HL⟩
 ·obtain⟨t,d⟩:=JT m.2.2.1 i ar l;have d:=fJ d;rw[rO d]at f;obtain⟨v,xs,p,q,n,B,C⟩:=h.arrs i ar t f;refine⟨v,xs,(rO d).trans p,q,n,B,fun j e G k c H=>?_⟩;obtain⟨x,o,I⟩:=C j e G k c H;exact⟨x,o,I.mono (by omega) (fun b _ F=>HL b F) (fun _ _ _=>rfl) (fun r D=>(rO (QW _ _ _)).trans D) (fun _ _=>rfl) (fun h=>h)⟩
theorem aI.sub{s'}{a}{w}{ι}(h:aI f s a w ι)(b:Sub s' s):aI f s' a w (jS ι s'.u) :=
 ⟨h.hs.sub b,h.dfr,h.n,fun k v e=>by
  obtain⟨c,d⟩:=T9 b.1 k v e;obtain⟨x,i,g⟩:=h.tmp k v c;exact⟨x,i,g.jS d HL⟩⟩
theorem NV{e} s'(c:Sub s' s)(h:VE f Q n e s'):VE f Q n e s:=fun a w ι b=>h a w _ (b.sub c)
end
def uc(N:Nat→Prop)(w:World)(args:List AV)(xs:Array Value):Prop:=args.length=xs.size∧∀(i:Nat) v y,args[i]?=some v→xs[i]?=some y→Rel N w bA v y
def aZ(P:Program)(f:FuncId)(args:List AV)(Q:AV→AS→Prop):Prop :=
 ∀M w xs,(∀b,M b→b<w.heap.size)→uc M w args xs →
  Calls P f xs w fun e w'=>∃x v s ι,e=.returned x∧Q v s∧HS M (gC w) w' ι s∧Rel (NN M ι) w' ι v x
theorem aZ.mono{P}{f}{args}{Q a}(h:aZ P f args Q)(j:∀v s,Q v s→a v s):aZ P f args a:=fun M w xs g i =>
 (h M w xs g i).mono fun _ _ ⟨x,v,s,ι,b,c,d,e⟩=>⟨x,v,s,ι,b,j _ _ c,d,e⟩
def idxs(k:Nat):List AV→List (Nat×AV)
 | []=>[]
 | v::r=>(k,v)::idxs (k+1) r
theorem nM:∀l k i,look i (idxs k l)=if k≤i then l[i-k]? else none
 | [],k,i=>by simp[idxs,look]
 | v::r,k,i=>by
  simp only[idxs,look,nM r (k+1) i]
  grind
def bP(M:Nat→Prop)(w:az)(Q:AV→AS→Prop)(e:Ending)(w':World):Prop:=∃x v s ι,e=.returned x∧Q v s∧HS M w w' ι s∧Rel (NN M ι) w' ι v x
theorem af8{P:Program}{f:FuncId}{fn:Func}{c:Code}{args:List AV}{Q:AV→AS→Prop}(s:P.funcs[f]?=some fn)(d:fn.body=some c)(n:Nat)(B:fn.ntmps=n)(A:args.length≤n)
  (h:∀M q,VE (fm:=fm0) ⟨P,n,M,q⟩ (bodyPost P fn (bP M q Q)) [.c c] .normal ⟨idxs 0 args,[],[],[]⟩):aZ P f args Q:=by
 intro M w xs r p;refine amy s d ?_;refine rQ (h M (gC w) { tmps:=xs++Array.replicate (fn.ntmps-xs.size) undef,defers:=[] } w bA ?_) (fun e a w' u=>?_)
 ·have t:HS M (gC w) w bA ⟨idxs 0 args,[],[],[]⟩:=⟨⟨rfl,rfl,rfl,h7 _,fun _ _ _=>rfl⟩,fun b d=>⟨r b d,fun h=>h⟩,fun i y z=>(by cases z),fun i g m=>(by cases m),fun i C g m=>(by cases m),fun i cs j=>(by cases j),fun i a j=>(by cases j),fun i cs j=>(by cases j),fun i a j=>(by cases j),fun i v x=>(by cases x)⟩;refine @aI.mk fm0 _ _ _ _ _ t rfl ?_ (fun k v o=>?_)
  ·have:=p.1;simp;omega
  ·rw[nM,iF (n3 _),aiE]at o;have l:k<xs.size:=by rw[←p.1];exact(g7.1 o).1
   refine⟨xs[k],?_,(p.2 k v _ o (h8 l)).mono (h7 _) (fun b _ d=>?_) (fun _ _ _=>rfl) (fun _ _ h=>h)⟩
   ·simp only[];rw[An l,h8 l]
   ·rcases d with d|⟨id,d⟩
    ·exact d
    ·cases d
 ·cases e<;>exact u
def gz(P:Program)(s:AS):List ResultVar→Option (List AV)
 | []=>some []
 | .tmp t::r=>match look t s.t,gz P s r with|some v,some l=>some (v::l)|_,_=>none
 | .cell t T::r=>match look t s.t with
  | some p=>match mP P s T p,gz P s r with|some v,some l=>some (v::l)|_,_=>none
  | none=>none
def oe:List AV→AV
 | [v]=>v
 | l=>.tup l
def xo(tmps:Array Value):ResultVar→Sem Value
 | .tmp t=>pure (tmps.getD t undef)
 | .cell a t=>do loadVar t (← asAddr (tmps.getD a undef))
theorem yW{f:Cx}{s:AS}{a:Act}{w:World}{ι:Env}(c:aI f s a w ι):∀{rs:List ResultVar} {l:List AV},gz f.P s rs=some l →
  ∃vs:d5,(rs.mapM (xo a.tmps)).run f.P w=.ok vs w∧l.length=vs.length∧∀(i:Nat) (v:AV) (y:Value),l[i]?=some v→vs[i]?=some y→Rel (NN f.M ι) w ι v y
 | [],l,h=>by injection h with h;subst h;exact⟨[],by simp,rfl,fun i v y e _=>by simp at e⟩
 | .tmp t::r,l,h=>by
  unfold gz at h;cases g:look t s.t with
  | none=>rw[g]at h;cases h
  | some v =>
   cases j:gz f.P s r with
   | none=>rw[g,j]at h;cases h
   | some l' =>
    rw[g,j]at h;injection h with h;subst h
    obtain⟨vs,o,q,u⟩:=yW c j;obtain⟨x,C,A⟩:=c.tmp t v g;refine⟨x::vs,?_,by simp[q],fun i v' y e m=>?_⟩
    ·rw[List.mapM_cons];simp[xo,o,qk,C]
    ·cases i with
     | zero=>simp at e m;subst e;subst m;exact A
     | succ i=>exact u i v' y (by simpa using e) (by simpa using m)
 | .cell t T::r,l,h=>by
  unfold gz at h;cases g:look t s.t with
  | none=>rw[g]at h;cases h
  | some p =>
   simp only[g]at h;cases k:mP f.P s T p with
   | none=>rw[k]at h;cases h
   | some v =>
    cases j:gz f.P s r with
    | none=>rw[k,j]at h;cases h
    | some l' =>
     rw[k,j]at h;injection h with h;subst h
     obtain⟨vs,o,q,u⟩:=yW c j;obtain⟨x,C,A⟩:=c.tmp t p g;unfold mP at k;split at k
     ·rename_i cs F;obtain⟨b,G,H,D,d⟩:=M8 c A F;obtain⟨z,n,B⟩:=Qi k d;refine⟨z::vs,?_,by simp[q],fun i v' y e m=>?_⟩
      ·rw[List.mapM_cons];have E:(loadVar T ⟨b,G,none⟩).run f.P w=.ok z w:=by simpa[Instr.loadAt,Instr.sureAddr]using n
       simp[xo,o,qk,C,D,asAddr,E]
      ·cases i with
       | zero=>simp at e m;subst e;subst m;exact B
       | succ i=>exact u i v' y (by simpa using e) (by simpa using m)
     ·cases k
def afB:d5→Value
 | [v]=>v
 | l=>.tuple l.toArray
theorem aaH fn tmps:results fn tmps=(do let vs ← fn.results.mapM (xo tmps);pure (if h:vs.size=1 then vs[0] else .tuple vs)):=by
 rfl
theorem IV{P}{w}{fn}{tmps}{vs}(h:(fn.results.toList.mapM (xo tmps)).run P w=.ok vs w):
  (results fn tmps).run P w=.ok (afB vs) w:=by
 rw[aaH,Array.mapM_eq_mapM_toList];simp only[n4,Sem.run_map,h];congr 1
 match vs with
 | []=>rfl
 | [v]=>rfl
 | v::u::r=>rfl
theorem rr{d:Cx}{fn:Func}{s:AS}{Q:AV→AS→Prop}{l:List AV}{rs:Array ResultVar}(f:fn.results=rs)(h:gz d.P s rs.toList=some l)(j:Q (oe l) s):VE (fm:=fm0) d (bodyPost d.P fn (bP d.M d.w0 Q)) [] .ret s:=fun a w ι b=>by
 letI:FM:=fm0
 obtain⟨vs,g,e,c⟩:=yW b h;refine⟨b.dfr,_,IV (by rw[f];exact g),_,oe l,s,ι,rfl,j,b.hs,?_⟩
 match l,vs,e,c with
 | [],[],_,c=>exact .tup _ _ _ rfl (fun i x v k _=>by simp at k)
 | [v],[y],_,c=>exact c 0 v y rfl rfl
 | v::u::r,y::z::q,e,c=>exact .tup _ _ _ e c
def cN (P:Program) (f:FuncId):Bool:=match P.funcs[f]? with | some fn=>!(fn.name == "runtime.NumGoroutine") && !fn.body.isNone | none=>false
theorem EK{P}{w}{f}(h:cN P f=true) xs:(callFunc f xs).run P w=.ok (.enter f xs) w:=by
 unfold cN at h;cases a:P.funcs[f]? with
 | none=>grind
 | some fn =>
  simp only[a]at h;unfold callFunc;simp only[n4,run_program,pt,a];rw[io (by grind),io (by grind)];rfl
def iu:AV→AV
 | .agg cs=>.agg (cs.map jF)
 | v=>jF v
theorem Ac{N}{w}{ι}{v}{x}(h:Rel N w ι v x):Rel N w ι (iu v) x:=by
 cases h with
 | agg _ cs vs b a d =>
  have c:=(Cells.mk b a d).pz;exact .agg _ _ _ c.len c.one c.rel
 | nils _=>exact .sl0 _ _ _
 | _=>simp only[iu];constructor<;>assumption
theorem af3{f:Cx}{s:AS}{a:Act}{w:World}{ι:Env}(h:aI f s a w ι){xs:Array Operand}{l:List AV}(k:dA s xs.toList=some l)(m:ex [] l=true):uc (NN f.M ι) w (l.map iu) (xs.map a.eval):=by
 obtain⟨g,j⟩:=lV h k;refine⟨by simp at g;simp[g],fun i v y b n=>?_⟩;rw[th]at b;cases e:l[i]? with
 | none=>rw[e]at b;cases b
 | some c =>
  rw[e]at b;injection b with b;subst b
  have d:(xs.toList.map a.eval)[i]?=some y:=by rw[←agQ];simpa using n
  exact Ac ((j i c y e d).pure (mb m i c e) bA)
theorem HS.mj{M:Nat→Prop}{t:az}{w w':World}{ι:Env}{s:AS}(h:HS M t w ι s)(a:Below w.heap.size w w'):HS M t w' ι s:=by
 have q:∀b,b<w.heap.size→¬ NN M ι b→w'.heap[b]?=w.heap[b]?:=fun b n _=>a.block b n;refine⟨h.below.trans (.of a h.below.size),h.old,h.use,fun i g c=>⟨(h.own i g c).1,by have:=(h.own i g c).2;have:=a.size;omega⟩,h.inj,h.ko,h.kr,fun i cs l o=>?_,fun i ar l o=>?_,h.pin⟩
 ·obtain⟨g,T,vs,d,f,k⟩:=h.objs i cs l o;exact⟨g,T,vs,d,(a.block g (h.own i g (by rw[d];rfl)).2).trans f,k.mono a.size (fun b _ a=>a) q (fun _ _ h=>h)⟩
 ·obtain⟨v',xs,d,f,k,v,x⟩:=h.arrs i ar l o;refine⟨v',xs,d,fS f (fun g c=>a.block g (h.own i g (by grind)).2),k,v,fun j e A C u m=>?_⟩;obtain⟨y,B,p⟩:=x j e A C u m;exact⟨y,B,p.mono a.size (fun b _ a=>a) q (fun _ h=>h) (fun r z=>a.block r (h.kR z)) (fun h=>h)⟩
theorem aI.mj{e}{s}{a}{w w'}{ι}(h:aI e s a w ι)(c:Below w.heap.size w w'):aI e s a w' ι :=
 h.world (h.hs.mj c) rfl c.size (fun b _ c=>c) (fun b d _=>c.block b d) (fun _ _ h=>h)
theorem ld{e:Cx}{s:AS}{a:Act}{w:World}{ι:Env}(p:aI e s a w ι){o:Oper}{c:Call}{h:Operand}{f:FuncId}{aV:List AV}(n:o.op=.call c)(b:c.callee=.value h)(l:s.ev h=some (.fn f aV))(k:cN e.P f=true):
  ∃d:d5,(execOp a.eval o).run e.P w=.ok (.enter f (c.args.map a.eval++d.toArray)) w∧aV.length=d.length∧∀(i:Nat) (c:AV) (y:Value),aV[i]?=some c→d[i]?=some y→Rel (NN e.M ι) w bA c y:=by
 have g:=p.ev l;generalize j:a.eval h=X at g;cases g with
 | fn _ _ _ d m g =>
  refine⟨d,?_,m,g⟩;unfold execOp;simp only[n,resolve,b,j,Deferred.ofValue,By,pt,invoke]
  grind[EK]
theorem xn{b:Cx}{s:AS}{a:Act}{w:World}{ι:Env}(h:aI b s a w ι){xs:Array Operand}{l:List AV}(m:dA s xs.toList=some l)(n:ex [] l=true){aV:List AV}{e:d5}(o:aV.length=e.length)
  (p:∀(i:Nat) (c:AV) (y:Value),aV[i]?=some c→e[i]?=some y→Rel (NN b.M ι) w bA c y):uc (NN b.M ι) w (l.map iu++aV) (xs.map a.eval++e.toArray):=by
 have f:=af3 h m n;have d:=f.1;refine⟨by simp at d⊢;omega,fun i v y g j=>?_⟩;by_cases k:i<(l.map iu).length
 ·rw[yw k]at g;rw[An (by grind)]at j;exact f.2 i v y g j
 grind
theorem alr{d:Cx}{Q:Exit→Act→World→Prop}{C:List aq}{s:AS}{i:Array Oper}{o:Oper}{r:List Oper}{c:Call}{B:Operand}{f:FuncId}{aV l:List AV}{A:AV→AS→Prop}
  (F:aZ d.P f (l.map iu++aV) A)
  (I:o.guard=none) (M:o.op=.call c) (j:c.callee=.value B) (H:s.ev B=some (.fn f aV)) (t:cN d.P f=true) (G:cQ d.n o.dst=true) (L:dA s c.args.toList=some l) (N:ex [] l=true)
  (k:∀v z,A v z→v.dg []=true∧OT d Q C i r (s.put o.dst v)):OT d Q C i (o::r) s:=fun a w ι m=>by
 refine v9 I fun K E=>?_;refine dK ?_;obtain⟨R,y,p,q⟩:=ld m M j H t;rw[y,iL];refine (F (NN d.M ι) w _ (fun b n=>mq m.hs n) (xn m L N p q)).mono ?_
 rintro e w' ⟨x,v,z,S,rfl,O,u,P⟩
 obtain⟨g,J⟩:=k v z O;have D:Rel (NN d.M ι) w' ι v x:=(P.pure g ι).mono (h7 _) (fun b _ n=>.inl n) (fun _ _ _=>rfl) (fun _ _ h=>h);exact E _ _ (J _ _ _ ((m.mj u.below.plain).put (ge G) D))
theorem acW{b}{Q}{g}{s}{a}{o}{r}{c}{d}{f}{aV l args}{V}
  (j:aZ b.P f args (fun v _=>v=V))
  (p:o.guard=none) (t:o.op=.call c) (e:c.callee=.value d) (n:s.ev d=some (.fn f aV)) (h:cN b.P f=true) (m:cQ b.n o.dst=true) (q:dA s c.args.toList=some l) (i:l.map iu++aV=args) (u:ex [] l=true)
  (w:V.dg []=true) (k:OT b Q g a r (s.put o.dst V)):OT b Q g a (o::r) s :=by grind[alr]
end Go.Proofs.YtocgkfoifehcbaaGreat
namespace Go.Proofs.YtocgkfoifehcbaaGreat
set_option linter.all false
open Go.RowKit
variable[FM]
theorem T1{P:Program}{o:Oper}{a:Act}{w:World}{K f:Act→World→Prop}{Q g:Exit→Act→World→Prop}(h:∀a w,K a w→f a w)(d:∀e a w,e ≠ .normal→Q e a w→g e a w)
  (b:o.wpIn FF 0 P a w K Q):o.wpIn FF 0 P a w f g:=by
 unfold Oper.wpIn at *;refine⟨b.1,?_⟩
 replace b:=b.2
 generalize (o.semAt FF.round a.eval).run P w=r at *;cases r with
 | ok n w' =>
  cases n<;>simp only[Oper.uponIn]at b⊢ <;>
   first
    | exact h _ _ b
    | exact⟨b.1,b.2.mono (fun e k c=>by cases e<;>first|exact h _ _ c|exact d _ _ _ (by simp) c|(obtain⟨i,l,j⟩:=c;exact⟨i,l,d _ _ _ (by simp) j⟩))⟩
    | exact⟨b.1,b.2.mono (fun _ _ c=>h _ _ c)⟩
 | halt x w'=>cases x<;>simp only[Oper.uponIn]at b⊢<;>first|exact d _ _ _ (by simp) b|exact b
section
variable{a:Cx}{Q:Exit→Act→World→Prop}{c:List aq}{s:AS}
theorem s7{e:Array Oper}{o f}{r}{j d:Nat}{b}(h:o.guard=some (j,b))(i:e.toList[j]?=some f)(g:f.dst=some d)(l:look d s.t=some (.bool b))(k:OT a Q c e ({ o with guard:=none }::r) s):OT a Q c e (o::r) s :=by grind[abp]
end
end Go.Proofs.YtocgkfoifehcbaaGreat
namespace Go.Proofs.YtocgkfoifehcbaaGreat
set_option linter.all false
open Go.RowKit
variable[FM]
mutual
def AV.cA(id:Nat)(l:List (List AV)):AV→AV
 | .ref i=>if i=id then .sl l else .ref i
 | .eptr i sz j off=>if i=id then .any else .eptr i sz j off
 | .sref i sz off m=>if i=id then .any else .sref i sz off m
 | .ptr i off=>if i=id then .any else .ptr i off
 | .pp i g off=>if i=id then .any else .pp i g off
 | .sit i g s p=>if i=id then .any else .sit i g s p
 | .adr g off=>.adr g off
 | .agg cs=>.agg (ke id l cs)
 | .tup cs=>.tup (ke id l cs)
 | .int k n=>.int k n
 | .bool b=>.bool b
 | .str s=>.str s
 | .nils=>.nils
 | .sl m=>.sl m
 | .nilm=>.nilm
 | .mref _ _=>.any
 | .omp m=>.omp m
 | .osl e sz l=>.osl e sz l
 | .vv x=>.vv x
 | .lk i x=>if i=id then .any else .lk i x
 | .fn f c=>.fn f c
 | .fno f c=>.fno f (ke id l c)
 | .nilf=>.nilf
 | .nilp=>.nilp
 | .cptr cs=>.cptr cs
 | .any=>.any
def ke(id:Nat)(l:List (List AV)):List AV→List AV
 | []=>[]
 | c::r=>c.cA id l::ke id l r
end
theorem zn{id}{m}:∀{l} {i:Nat} {x},(ke id m l)[i]?=some x→∃y,l[i]?=some y∧x=y.cA id m
 | [],i,x,h=>by grind[ke]
 | c::r,0,x,h=>by grind[ke]
 | c::r,i+1,x,h=>by simp[ke]at h;obtain⟨y,a,b⟩:=zn h;grind
theorem xE{id}{m}:∀l,(ke id m l).length=l.length
 | []=>rfl
 | c::r=>by simp[ke,xE r]
theorem Rel.cA{N N':Nat→Prop}{w:World}{ι:Env}{v:AV}{x:Value}(h:Rel N w ι v x){id:Nat}{m:List (List AV)}{ι':Env}(J:∀b,N' b→N b):
  (∀i,i≠id→ι' i=ι i)→(∀A n c,ι id=some (.slice A n c)→Rel N' w ι' (.sl m) (.slice A n c))→Rel N' w ι' (v.cA id m) x:=by
 have M:∀{u:AV} {y:Value},Rel N w bA u y→Rel N' w bA u y:=fun V=>V.mono (h7 _) (fun b _ C=>J b C) (fun _ _ _=>rfl) (fun _ _ h=>h)
 induction h with
 | int ι k n=>intro _ _;simp only[AV.cA];exact .int _ _ _
 | bool ι b=>intro _ _;simp only[AV.cA];exact .bool _ _
 | str ι s=>intro _ _;simp only[AV.cA];exact .str _ _
 | nils ι=>intro _ _;simp only[AV.cA];exact .nils _
 | nilm ι=>intro _ _;simp only[AV.cA];exact .nilm _
 | mref ι i q r v h Q=>intro _ _;simp only[AV.cA];exact .any _ _ rfl
 | sl0 ι A c=>intro _ _;simp only[AV.cA];exact .sl0 _ _ _
 | sl ι l b o c sz E W C I p L t H D=>intro _ _;simp only[AV.cA];exact .sl _ l b o c sz E W C (fun h=>I (J b h)) p L (fun j e T i x z=>M (t j e T i x z)) H
 | fn ι f aV P F t D=>intro _ _;simp only[AV.cA];exact .fn _ f aV P F (fun i c y p Q=>M (t i c y p Q))
 | fno ι f aV P F t D =>
  intro d G;simp only[AV.cA];exact .fno _ _ _ P (by rw[xE];exact F) (fun i x v z K=>by
   obtain⟨y,O,rfl⟩:=zn z;exact D i y v O K d G)
 | nilf ι=>intro _ _;simp only[AV.cA];exact .nilf _
 | nilp ι=>intro _ _;simp only[AV.cA];exact .nilp _
 | any ι x h=>intro _ _;simp only[AV.cA];exact .any _ _ h
 | ptr ι i off g h =>
  intro d _;simp only[AV.cA];split
  ·exact .any _ _ rfl
  ·rename_i a;exact .ptr _ _ _ _ ((d i a).trans h)
 | eptr ι i sz j off g n c h =>
  intro d _;simp only[AV.cA];split
  ·exact .any _ _ rfl
  ·rename_i a;exact .eptr _ _ _ _ _ _ n c ((d i a).trans h)
 | sref ι i sz off m n c R A B h S =>
  intro d _;simp only[AV.cA];split
  ·exact .any _ _ rfl
  ·rename_i a;exact .sref _ _ _ _ _ n c R A B ((d i a).trans h) S
 | adr ι g off=>intro _ _;simp only[AV.cA];exact .adr _ _ _
 | vv ι x h=>intro _ _;simp only[AV.cA];exact .vv _ _ h
 | lk ι i v x h p =>
  intro d _;simp only[AV.cA];split
  ·exact .any _ _ p
  ·rename_i a;exact .lk _ _ _ _ ((d i a).trans h) p
 | pp ι i g off h =>
  intro d _;simp only[AV.cA];split
  ·exact .any _ _ rfl
  ·rename_i a;exact .pp _ _ _ _ ((d i a).trans h)
 | sit ι i g s X h U I C =>
  intro d _;simp only[AV.cA];split
  ·exact .any _ _ rfl
  ·rename_i a;exact .sit _ _ _ _ _ ((d i a).trans h) U (fun h=>I (J g h)) C
 | cptr ι cs b o E C I p L t D=>intro _ _;simp only[AV.cA];exact .cptr _ cs b o E C (fun h=>I (J b h)) p L (fun i x z=>M (t i x z))
 | ref ι i A n c h =>
  intro d G;simp only[AV.cA];split
  ·rename_i e;subst e;exact G _ _ _ h
  ·rename_i a;exact .ref _ _ _ _ _ ((d i a).trans h)
 | agg ι cs vs F p t D =>
  intro d G;simp only[AV.cA];exact .agg _ _ vs (by rw[xE];exact F) p (fun i x v z K=>by
   obtain⟨y,O,rfl⟩:=zn z;exact D i y v O K d G)
 | tup ι cs vs F t D =>
  intro d G;exact .tup _ _ vs (by grind[xE]) (fun i x v z K=>by
   grind[zn])
theorem Cells.cA{N N'}{w}{ι ι'}{cs}{vs}(h:Cells N w ι cs vs){id}{m}(a:∀b,N' b→N b)
  (j:∀i,i≠id→ι' i=ι i) (d:∀A n c,ι id=some (.slice A n c)→Rel N' w ι' (.sl m) (.slice A n c)):Cells N' w ι' (ke id m cs) vs :=
 ⟨by rw[xE];exact h.len,h.one,fun i x v f e=>by
  obtain⟨y,g,rfl⟩:=zn f;exact(h.rel i y v g e).cA a j d⟩
def CT(id:Nat)(m:List (List AV)):List (Nat×AV)→List (Nat×AV)
 | []=>[]
 | (k,v)::r=>(k,v.cA id m)::CT id m r
def CY(id:Nat)(m:List (List AV)):List (Nat×List AV)→List (Nat×List AV)
 | []=>[]
 | (k,v)::r=>(k,ke id m v)::CY id m r
theorem P6{id}{m}:∀{l} {k} {v},look k (CT id m l)=some v→∃u,look k l=some u∧v=u.cA id m
 | [],k,v,h=>by cases h
 | (j,x)::r,k,v,h=>by
  simp only[CT,look]at h⊢;split at h
  ·grind
  ·rename_i e;rw[io e];exact P6 h
theorem Ls{id}{m}:∀{l} {k} {v},look k (CY id m l)=some v→∃u,look k l=some u∧v=ke id m u
 | [],k,v,h=>by cases h
 | (j,x)::r,k,v,h=>by
  simp only[CY,look]at h⊢;split at h
  ·grind
  ·rename_i e;rw[io e];exact Ls h
def AS.cA(s:AS)(id:Nat)(l:List (List AV)):AS:=⟨CT id l s.t,CY id l s.o,s.r,s.u⟩
def gg(ι:Env)(id:Nat):Env:=fun i=>if i=id then none else ι i
theorem fM ι{id i}(h:i≠id):gg ι id i=ι i:=by grind[gg]
theorem nJ{ι}{id i}{y}(h:gg ι id i=some y):i≠id∧ι i=some y:=by
 grind[gg]
theorem kU{ι}{id i g}(h:bg (gg ι id i)=some g):i≠id∧bg (ι i)=some g:=by
 unfold gg at h;split at h
 ·cases h
 grind
theorem lB{M}{ι}{id}:∀b,NN M (gg ι id) b→NN M ι b:=fun b a=>by
 rcases a with a|⟨i,a⟩
 ·exact .inl a
 ·exact .inr ⟨i,(kU a).2⟩
theorem HS.AG{M}{g}{w}{ι}{s}(h:HS M g w ι s){k id}{r}{ar}(d:look id s.r=some ar)(f:ι k=some (.map r)):k≠id:=fun e=>by
 subst e;obtain⟨v,xs,a,c,_⟩:=h.arrs k ar d (by grind);rw[f]at a;injection a with a;subst a
 rcases c.2 with⟨b,_⟩|⟨_,_,_,b,_⟩<;>cases b
theorem HS.rK{M:Nat→Prop}{P:az}{w:World}{ι:Env}{s:AS}(h:HS M P w ι s){id:Nat}(O:id<TG){ar:bZ}(I:look id s.r=some ar)(A:Option Addr)(n c:Nat)(d:ι id=some (.slice A n c))(ι':Env):
  Rel (NN M (gg ι id)) w ι' (.sl ar.l) (.slice A n c):=by
 obtain⟨v,xs,f,F,G,H,y⟩:=h.arrs id ar I (by rw[d];rfl);rw[d]at f;injection f with f;subst f
 obtain⟨Q,u|⟨g,E,k,J,C,o,K,D,N,r⟩⟩:=F
 ·obtain⟨u,p⟩:=u;injection u with z l B;subst l
  have:ar.l=[]:=ne p;rw[this];exact .sl0 _ _ _
 ·injection J with z l B;subst z l B
  refine .sl _ ar.l g 0 _ ar.sz (fun j i=>(xs[j*ar.sz+i]?).getD (.bool true)) G ?_ (fun a=>?_) (fun j i=>?_) (fun j e m i x t=>?_) (fun j e m i x t=>?_) K
  ·exact(h.own id g (by rw[d];rfl)).2
  ·rcases a with a|⟨i,a⟩
   ·exact h.sep a (by rw[d];rfl)
   ·obtain⟨q,a⟩:=kU a;exact q (h.inj i id g a (by rw[d];rfl))
  ·cases e:xs[j*ar.sz+i]? with
   | none=>rfl
   | some v=>exact H v (jt e)
  ·obtain⟨v,d,_⟩:=y j e m i x t;rw[amm _ _ _ _ ar.e (0,0) o];have:k.toList[j*ar.sz+i]?=some v:=by
    rw[←r]at d;rw[u5]at d;split at d
    ·exact d
    ·cases d
   simp only[d,DO];rw[←aas,z5];exact this
  ·obtain⟨v,d,L⟩:=y j e m i x t;simp only[d,DO];exact(L.flat (by omega)).mono (h7 _) (fun b _ C=>lB b C) (fun _ _ _=>rfl) (fun _ _ h=>h)
theorem HS.cA{M:Nat→Prop}{E:az}{w:World}{ι:Env}{s:AS}(h:HS M E w ι s){id:Nat}(C:id<TG){ar:bZ}(G:look id s.r=some ar)(B:E.pv id=none):HS M E w (gg ι id) (s.cA id ar.l):=by
 refine⟨h.below,h.old,fun i y l=>h.use i y (nJ l).2,fun i g t=>h.own i g (kU t).2,fun i Q g t z=>h.inj i Q g (kU t).2 (kU z).2,fun i cs m=>?_,h.kr,fun i cs m d=>?_,fun i a m d=>?_,fun i y d=>(by
  have e:i≠id:=fun e=>by subst e;rw[B]at d;cases d
  exact⟨(fM ι e).trans (h.pin i y d).1,(h.pin i y d).2⟩)⟩
 ·obtain⟨u,D,_⟩:=Ls m;exact h.ko i u D
 ·obtain⟨u,D,rfl⟩:=Ls m;obtain⟨y,l⟩:=BH d;obtain⟨f,l⟩:=nJ l;obtain⟨g,T,vs,o,p,q⟩:=h.objs i u D (by rw[fM ι f]at d;exact d);exact⟨g,T,vs,(fM ι f).trans o,p,q.cA lB (fun _ h=>fM ι h) (fun A n c O=>h.rK C G A n c O _)⟩
 ·obtain⟨y,l⟩:=yd.mp d;obtain⟨f,l⟩:=nJ l;obtain⟨v,xs,o,p,q,H,I⟩:=h.arrs i a m (by rw[l];rfl);refine⟨v,xs,(fM ι f).trans o,p,q,H,fun j e L k c K=>?_⟩;obtain⟨x,P,N⟩:=I j e L k c K;exact⟨x,P,N.mono (h7 _) (fun b _ J=>lB b J) (fun _ _ _=>rfl) (fun r F=>(fM ι (h.AG G F)).trans F) (fun _ _=>rfl) (fun h=>h)⟩
section
variable{f:Cx}{Q:Exit→Act→World→Prop}{o:List aq}{s:AS}
theorem aI.cA{a}{w}{ι}(h:aI f s a w ι){id}(b:id<TG){ar}(e:look id s.r=some ar)(d:f.w0.pv id=none):aI f (s.cA id ar.l) a w (gg ι id) :=
 ⟨h.hs.cA b e d,h.dfr,h.n,fun k v g=>by
  obtain⟨u,j,rfl⟩:=P6 g;obtain⟨x,m,i⟩:=h.tmp k u j;exact⟨x,m,i.cA lB (fun _ h=>fM ι h) (fun A n c l=>h.hs.rK b e A n c l _)⟩⟩
theorem agD{e} id{ar}(c:id<TG)(g:look id s.r=some ar)(b:s.u.contains (cS id)=false)(h:VE f Q o e (s.cA id ar.l)):VE f Q o e s:=fun a w ι d=>h a w _ (d.cA c g (d.hs.np b))
theorem ajW{b}{l} id{ar}(d:id<TG)(g:look id s.r=some ar)(c:s.u.contains (cS id)=false)(h:OT f Q o b l (s.cA id ar.l)):OT f Q o b l s:=fun a w ι e=>h a w _ (e.cA d g (e.hs.np c))
theorem aI.own{a:Act}{w:World}{ι}(h:aI f s a w ι){d k} e sz(m:has s.u d=false)(p:look k s.t=some .nils):
  aI f ⟨bj k (.ref d) s.t,s.o,bj d ⟨e,sz,[]⟩ s.r,d::s.u⟩ a w (ext ι d (.slice none 0 0)):=by
 obtain⟨c,n⟩:=h.hs.nil m e sz;have q:=h.hs.free m;refine⟨⟨c.below,c.old,c.use,c.own,c.inj,c.ko,c.kr,c.objs,c.arrs,c.pin⟩,h.dfr,h.n,fun j v g=>?_⟩;simp only[cp]at g;split at g
 ·rename_i e;subst e;injection g with g;subst g
  obtain⟨x,l,i⟩:=h.tmp j _ p;cases i;exact⟨_,l,.ref _ _ _ _ _ (cH _ _ _)⟩
 ·obtain⟨x,l,i⟩:=h.tmp j v g;exact⟨x,l,i.mono (by omega) (fun b _ o=>n b o) (fun _ _ _=>rfl) (fa q _)⟩
theorem acZ{e} d k et sz(b:has s.u d=false)(c:look k s.t=some .nils)(h:VE f Q o e ⟨bj k (.ref d) s.t,s.o,bj d ⟨et,sz,[]⟩ s.r,d::s.u⟩):VE f Q o e s:=fun a w ι g=>h a w _ (g.own et sz b c)
theorem aI.QG{a:Act}{w:World}{ι:Env}(h:aI f s a w ι){d i n:Nat}{cs:List AV}(e:TypeId)(sz:Nat)(r:has s.u d=false)(t:look i s.o=some cs)(D:cs[n]?=some .nils):
  aI f ⟨s.t,bj i (cs.set n (.ref d)) s.o,bj d ⟨e,sz,[]⟩ s.r,d::s.u⟩ a w (ext ι d (.slice none 0 0)):=by
 obtain⟨k,B⟩:=h.hs.nil r e sz;have E:=h.hs.free r;refine⟨⟨k.below,k.old,k.use,k.own,k.inj,fun j c l=>?_,k.kr,fun j c l u=>?_,k.arrs,k.pin⟩,h.dfr,h.n,fun j v l=>?_⟩
 ·simp only[cp]at l;split at l
  ·rename_i e;subst e;exact k.ko j cs t
  ·exact k.ko j c l
 ·simp only[cp]at l;split at l
  ·rename_i e;subst e;injection l with l;subst l
   obtain⟨g,T,vs,z,A,p⟩:=k.objs j cs t u;refine⟨g,T,vs,z,A,⟨by rw[alW];exact p.len,p.one,fun m x v o y=>?_⟩⟩;rw[amf]at o;split at o
   ·rename_i e;subst e;split at o
    ·injection o with o;subst o
     have q:=p.rel n .nils v D y;cases q;exact .ref _ _ _ _ _ (cH _ _ _)
    ·cases o
   ·exact p.rel m x v o y
  ·exact k.objs j c l u
 ·obtain⟨x,o,q⟩:=h.tmp j v l;exact⟨x,o,q.mono (by omega) (fun b _ C=>B b C) (fun _ _ _=>rfl) (fa E _)⟩
theorem aio{e} d i n et sz{cs}(b:has s.u d=false)(c:look i s.o=some cs)(g:cs[n]?=some .nils)(h:VE f Q o e ⟨s.t,bj i (cs.set n (.ref d)) s.o,bj d ⟨et,sz,[]⟩ s.r,d::s.u⟩):VE f Q o e s:=fun a w ι j=>h a w _ (j.QG et sz b c g)
theorem Zz{b}{l} d i n et sz{cs}(c:has s.u d=false)(e:look i s.o=some cs)(g:cs[n]?=some .nils)(h:OT f Q o b l ⟨s.t,bj i (cs.set n (.ref d)) s.o,bj d ⟨et,sz,[]⟩ s.r,d::s.u⟩):OT f Q o b l s:=fun a w ι j=>h a w _ (j.QG et sz c e g)
end
end Go.Proofs.YtocgkfoifehcbaaGreat
namespace Go.Proofs.YtocgkfoifehcbaaGreat
set_option linter.all false
open Go.RowKit
variable[FM]
def AS.tt(s:AS)(t:List (Nat×AV)):AS:={ s with t:=t }
theorem adH(s:AS) t p:(s.tt t).mem p=s.mem p:=by rfl
theorem afS P s t T p:mP P (s.tt t) T p=mP P s T p:=by grind[mP,adH]
theorem akS P s t T x j:uk P (s.tt t) T x j=uk P s T x j:=rfl
theorem ahq s t sz x:pM (s.tt t) sz x=pM s sz x:=rfl
theorem pY{s}{t}:∀{xs},(∀x∈xs,(s.tt t).ev x=s.ev x)→dA (s.tt t) xs=dA s xs
 | [],_=>rfl
 | x::r,h=>by
  unfold dA;rw[h x pe,pY (fun y a=>h y (by grind))]
theorem Jh{s}{t}:∀{ps},(∀p∈ps,(s.tt t).ev p.2=s.ev p.2)→mC (s.tt t) ps=mC s ps
 | [],_=>rfl
 | (i,x)::r,h=>by
  unfold mC;have a:(s.tt t).ev x=s.ev x:=h (i,x) pe;rw[a,Jh (fun y b=>h y (by grind))]
theorem abE{P:Program}{s s':AS}{t:List (Nat×AV)}{T:TypeId}{p v:AV}(h:qB P s T p v=some s'):s'.t=s.t∧qB P (s.tt t) T p v=some (s'.tt t):=by
 unfold qB at h⊢;split at h
 ·rename_i id off;split at h
  ·rename_i cs g b c;split at h
   ·rename_i d;injection h with h;subst h
    refine⟨rfl,?_⟩;have a:look id (s.tt t).o=some cs:=b;simp only[a,c];rw[iF d];rfl
   ·cases h
  ·cases h
 ·rename_i id sz j off;split at h
  ·rename_i ar g b c;split at h
   ·rename_i e f;split at h
    ·rename_i d;injection h with h;subst h
     refine⟨rfl,?_⟩;have a:look id (s.tt t).r=some ar:=b;simp only[a,c,f];rw[iF d];rfl
    ·cases h
   ·cases h
  ·cases h
 grind
theorem N1{s s':AS}{t:List (Nat×AV)}{d:Nat}{cs:List AV}(h:sc s d cs=some s'):s'.t=bj d (.ptr d 0) s.t∧sc (s.tt t) d cs=some (s'.tt (bj d (.ptr d 0) t)):=by
 unfold sc at h⊢;split at h
 ·cases h
 ·rename_i b;injection h with h;subst h
  have a:¬ (has (s.tt t).u d||Nat.ble 450000 d)=true:=b;rw[io a];exact⟨rfl,rfl⟩
theorem Xk{s}{t}{n}{lo a}(b:∀x,lo=some x→(s.tt t).ev x=s.ev x)(c:∀x,a=some x→(s.tt t).ev x=s.ev x):lq (s.tt t) n lo a=lq s n lo a:=by
 unfold lq
 grind
theorem NZ(s:AS) t:(s.tt t).r=s.r:=rfl
theorem ae3{s:AS}{t:List (Nat×AV)}{v:AV}{lo a:Option Operand}(b:∀x,lo=some x→(s.tt t).ev x=s.ev x)(c:∀x,a=some x→(s.tt t).ev x=s.ev x):kw (s.tt t) v lo a=kw s v lo a:=by
 unfold kw;split<;>simp[Xk b c,NZ]
theorem We{P:Program}{s:AS}{t:List (Nat×AV)}{o:Oper}(b:∀x∈o.op.operands.toList,(s.tt t).ev x=s.ev x):lD P (s.tt t) o=lD P s o:=by
 unfold lD;cases a:o.op with
 | nilCheck x=>simp only[b x (by simp[a,Op.operands])]
 | field T x f=>simp only[b x (by simp[a,Op.operands])]
 | index T x i=>simp only[b x (by simp[a,Op.operands]),b i (by simp[a,Op.operands])]
 | convert S D x=>simp only[b x (by simp[a,Op.operands])]
 | makeFunc fn l cs =>
  cases fn with
  | func g =>
   simp only[];unfold Ig;split
   ·rename_i x h n;simp only[b x (by simp[a,Op.operands,← Array.mem_toList_iff,h])]
   ·rfl
  | _=>rfl
 | binOp op T x y k=>simp only[b x (by simp[a,Op.operands]),b y (by simp[a,Op.operands])]
 | slice T x lo j mx =>
  cases mx with
  | some m=>rfl
  | none =>
   have c:∀y,lo=some y→(s.tt t).ev y=s.ev y:=fun y e=>b y (by subst e;simp[a,Op.operands]);have d:∀y,j=some y→(s.tt t).ev y=s.ev y:=fun y e=>b y (by subst e;simp[a,Op.operands]);simp only[b x (by simp[a,Op.operands]),ae3 c d,NZ]
 | _=>rfl
theorem Nl s t v:oO (s.tt t) v=oO s v:=by rfl
theorem acM s t v:uW (s.tt t) v=uW s v:=by
 simp_all[uW,Nl]
theorem akW{P:Program}{s s':AS}{t:List (Nat×AV)}{T:TypeId}{u v r:AV}(h:sW P s T u v=some (s',r)):s'.t=s.t∧sW P (s.tt t) T u v=some (s'.tt t,r):=by
 unfold sW at h⊢;rw[Nl,acM];split at h
 ·rename_i c d e;split at h
  ·rename_i f;injection h with h;injection h with a b;subst a;subst b
   refine⟨rfl,?_⟩
   (try simp only[c,d,e])
   rw[iF f];rfl
  ·cases h
 ·cases h
theorem ah9{P:Program}{n:Nat}{s s':AS}{o:Oper}(t:List (Nat×AV))(h:cd P n s o=some s')(J:∀c,o.op=.call c→c.callee ≠ .builtin .append)(l:∀x∈o.op.operands.toList,(s.tt t).ev x=s.ev x):
  ∃v,s'.t=(s.put o.dst v).t∧cd P n (s.tt t) o=some (s'.tt ((s.tt t).put o.dst v).t):=by
 unfold cd at h⊢;split at h
 case isFalse=>cases h
 rename_i O;rw[iF O];have N:∀v,s.put o.dst v=(s.put o.dst v).tt (s.put o.dst v).t:=fun v=>rfl;have F:∀{q:AS} {v},q.t=s.t→(q.tt t).put o.dst v=(q.put o.dst v).tt ((s.tt t).put o.dst v).t:=fun {q v} M=>by cases h:o.dst<;>rfl
 have g:∀v,(s.tt t).put o.dst v=(s.put o.dst v).tt ((s.tt t).put o.dst v).t:=fun v=>by cases h:o.dst<;>rfl
 cases a:o.op with
 | move x =>
  simp only[a]at h⊢;rw[l x (by simp[a,Op.operands])];split at h
  ·rename_i v k;injection h with h;subst h;exact⟨v,rfl,by (try simp only[k]);rw[←g]⟩
  ·cases h
 | assign x =>
  simp only[a]at h⊢;rw[l x (by simp[a,Op.operands])];split at h
  ·rename_i v k;injection h with h;subst h;exact⟨v,rfl,by (try simp only[k]);rw[←g]⟩
  ·cases h
 | pick c x y =>
  simp only[a]at h⊢;rw[l c (by simp[a,Op.operands]),l x (by simp[a,Op.operands]),l y (by simp[a,Op.operands])];split at h
  ·rename_i b B;split at h
   ·rename_i v k;injection h with h;subst h;exact⟨v,rfl,by (try simp only[B,k]);rw[←g]⟩
   ·cases h
  ·cases h
 | alloc T =>
  simp only[a]at h⊢;split at h
  ·rename_i d cs m U;obtain⟨D,E⟩:=N1 (t:=t) h;refine⟨.ptr d 0,by rw[m];exact D,?_⟩;simp only[m,U];rw[E];rfl
  ·cases h
 | box T x =>
  simp only[a]at h⊢;rw[l x (by simp[a,Op.operands])];split at h
  ·rename_i d v m k;split at h
   ·rename_i cs K;obtain⟨D,E⟩:=N1 (t:=t) h;refine⟨.ptr d 0,by rw[m];exact D,?_⟩;simp only[m,k,K];rw[E];rfl
   ·cases h
  ·cases h
 | load T x =>
  simp only[a]at h⊢;rw[l x (by simp[a,Op.operands])];split at h
  ·rename_i p w;split at h
   ·rename_i v k;injection h with h;subst h;exact⟨v,rfl,by (try simp only[w,afS,k]);rw[←g]⟩
   ·cases h
  ·cases h
 | store T x y =>
  simp only[a]at h⊢;rw[l x (by simp[a,Op.operands]),l y (by simp[a,Op.operands])];split at h
  ·rename_i p v m w k;obtain⟨D,E⟩:=abE (t:=t) h;refine⟨.nilp,by rw[m];exact D,?_⟩;simp only[m,w,k];rw[E];rfl
  ·cases h
 | fieldAddr T x f =>
  simp only[a]at h⊢;rw[l x (by simp[a,Op.operands])];split at h
  ·rename_i p w;split at h
   ·rename_i v k;injection h with h;subst h;exact⟨v,rfl,by (try simp only[w,k]);rw[←g]⟩
   ·cases h
  ·cases h
 | indexAddr T x y =>
  simp only[a]at h⊢;rw[l x (by simp[a,Op.operands]),l y (by simp[a,Op.operands])];split at h
  ·rename_i p j w Q;split at h
   ·rename_i v k;injection h with h;subst h;exact⟨v,rfl,by (try simp only[w,Q,akS,k]);rw[←g]⟩
   ·cases h
  ·cases h
 | build T parts =>
  simp only[a]at h⊢;have e:ug P (s.tt t) T parts.toList=ug P s T parts.toList:=by
   unfold ug;rw[Jh (fun p w=>l p.2 (by simp[a,Op.operands];exact⟨p.1,Dz.1 w⟩))]
  rw[e];split at h
  ·rename_i v k;injection h with h;subst h;exact⟨v,rfl,by (try simp only[k]);rw[←g]⟩
  ·cases h
 | buildSlice T H parts =>
  simp only[a]at h⊢;have e:oJ P (s.tt t) T H parts.toList=oJ P s T H parts.toList:=by
   unfold oJ;rw[Jh (fun p w=>l p.2 (by simp[a,Op.operands];exact⟨p.1,Dz.1 w⟩))];rfl
  rw[e];split at h
  ·rename_i v k;injection h with h;subst h;exact⟨v,rfl,by (try simp only[k]);rw[←g]⟩
  ·cases h
 | makeSlice T x y =>
  simp only[a]at h⊢;have e:um P (s.tt t) T x y=um P s T x y:=by
   unfold um;rw[l x (by simp[a,Op.operands]),l y (by simp[a,Op.operands])]
  rw[e];split at h
  ·rename_i v k;injection h with h;subst h;exact⟨v,rfl,by (try simp only[k]);rw[←g]⟩
  ·cases h
 | extract x i =>
  simp only[a]at h⊢;rw[l x (by simp[a,Op.operands])];split at h
  ·rename_i p w;split at h
   ·rename_i v k;injection h with h;subst h;exact⟨v,rfl,by (try simp only[w,k]);rw[←g]⟩
   ·cases h
  ·cases h
 | binOp op T x y X =>
  simp only[a]at h⊢;rw[l x (by simp[a,Op.operands]),l y (by simp[a,Op.operands])];have z:=We (P:=P) (t:=t) l;split at h
  ·rename_i u v G k;split at h
   ·rename_i r C;injection h with h;subst h;exact⟨r,rfl,by (try simp only[G,k,C]);rw[←g]⟩
   ·rename_i C;split at h
    ·rename_i r L;injection h with h;subst h;exact⟨r,rfl,by (try simp only[G,k,C,z,L]);rw[←g]⟩
    ·cases h
  ·cases h
 | unOp op T x =>
  simp only[a]at h⊢;rw[l x (by simp[a,Op.operands])];split at h
  ·rename_i u G;split at h
   ·rename_i r C;injection h with h;subst h;exact⟨r,rfl,by (try simp only[G,C]);rw[←g]⟩
   ·cases h
  ·cases h
 | call c =>
  simp only[a]at h⊢;split at h
  ·rename_i B;exact(J c a B).elim
  ·rename_i B;split at h
   ·rename_i x y T T' A I;split at h
    ·rename_i u v G k;split at h
     ·rename_i q M;injection h with h;subst h
      have z:=l x (by simp[a,Op.operands,Call.operands,B];exact Dz.1 (by rw[A];simp));have S:=l y (by simp[a,Op.operands,Call.operands,B];exact Dz.1 (by rw[A];simp));obtain⟨V,W⟩:=q;obtain⟨D,E⟩:=akW (t:=t) M;refine⟨W,?_,?_⟩
      ·have:V.t=s.t:=D;cases o.dst<;>simp[AS.put,this]
      ·(try simp only[z,S,G,k,E]);rw[←F D]
     ·cases h
    ·cases h
   ·cases h
  ·rename_i b R _ B;split at h
   ·rename_i r C;injection h with h;subst h
    have e:pO P (s.tt t) b c.args.toList c.argTypes.toList=pO P s b c.args.toList c.argTypes.toList:=by
     have z:dA (s.tt t) c.args.toList=dA s c.args.toList:=pY (fun x z=>l x (by simp[a,Op.operands,Call.operands,B];exact Dz.1 z));unfold pO;split
     ·split
      ·rename_i x T A I;rw[A]at z;have:=l x (by simp[a,Op.operands,Call.operands,B];exact Dz.1 (by rw[A];simp));rw[this];split<;>rfl
      ·rfl
     ·rw[z]
     ·rw[z]
     ·rfl
    refine⟨r,rfl,?_⟩;rw[e]
    (try simp only[C]);rw[←g]
   ·cases h
  ·cases h
 | _ =>
  have z:=We (P:=P) (t:=t) l;simp only[a]at h⊢;split at h
  ·rename_i r C;injection h with h;subst h;exact⟨r,rfl,by simp only[z,C];rw[←g]⟩
  ·cases h
def cw(ok:Nat→Bool):List (Nat×AV)→List (Nat×AV)
 | []=>[]
 | (k,v)::r=>if ok k=true then (k,v)::cw ok r else cw ok r
theorem fb{ok}:∀l k,look k (cw ok l)=if ok k=true then look k l else none
 | [],k=>by simp[cw,look]
 | (j,x)::r,k=>by
  unfold cw;by_cases a:ok j=true
  ·rw[iF a];simp only[look,fb r k]
   grind
  ·rw[io a,fb r k];grind[look]
theorem sO{ok}{id}:∀l,dB id (cw ok l)=cw ok (dB id l)
 | []=>rfl
 | (j,x)::r=>by
  have b:cw ok ((j,x)::r)=if ok j=true then (j,x)::cw ok r else cw ok r:=rfl;have c:dB id ((j,x)::r)=(j,x.cW id)::dB id r:=rfl;have d:cw ok ((j,x.cW id)::dB id r)=if ok j=true then (j,x.cW id)::cw ok (dB id r) else cw ok (dB id r):=rfl;rw[b,c,d];by_cases a:ok j=true
  ·rw[iF a,iF a,← sO r];rfl
  ·rw[io a,io a,sO r]
theorem XK{P:Program}{n:Nat}{s s':AS}{o:Oper}{ok:Nat→Bool}(h:cd P n s o=some s')(O:∀x t,x∈o.op.operands.toList→x=.tmp t→ok t=true):
  ∃F,cd P n (s.tt (cw ok s.t)) o=some F∧F.o=s'.o∧F.r=s'.r∧F.u=s'.u∧∀k v,ok k=true∨some k=o.dst→look k s'.t=some v→look k F.t=some v:=by
 have z:∀x∈o.op.operands.toList,(s.tt (cw ok s.t)).ev x=s.ev x:=fun x L=>by
  cases x with
  | tmp t=>show look t (cw ok s.t)=look t s.t;rw[fb,iF (O _ t L rfl)]
  | const v=>rfl
  | func f=>rfl
  | global g=>rfl
 by_cases B:∀c,o.op=.call c→c.callee ≠ .builtin .append
 ·obtain⟨v,M,N⟩:=ah9 (cw ok s.t) h B z;refine⟨_,N,rfl,rfl,rfl,fun k u a j=>?_⟩;show look k ((s.tt (cw ok s.t)).put o.dst v).t=some u;rw[M]at j;cases G:o.dst with
  | none =>
   rw[G]at j a;rcases a with a|a
   ·show look k (cw ok s.t)=some u;rw[fb,iF a];exact j
   ·cases a
  | some d =>
   rw[G]at j a;simp only[AS.put,cp]at j⊢;by_cases e:k=d
   ·rw[iF e]at j⊢;exact j
   ·rw[io e]at j⊢;rcases a with a|a
    ·show look k (cw ok s.t)=some u;rw[fb,iF a];exact j
    ·injection a with a;exact(e a).elim
 ·have C:∃c,o.op=.call c∧c.callee=.builtin .append:=by
   refine In fun Q=>B fun c E i=>Q ⟨c,E,i⟩
  obtain⟨c,E,i⟩:=C;unfold cd at h⊢;split at h
  case isFalse=>cases h
  rename_i G;rw[iF G];simp only[E,i]at h⊢;split at h
  ·rename_i x y T T' d A I K;split at h
   ·rename_i H;have L:=z x (by simp[E,Op.operands,Call.operands,i];exact Dz.1 (by rw[A];simp));have U:=z y (by simp[E,Op.operands,Call.operands,i];exact Dz.1 (by rw[A];simp));split at h
    ·rename_i v u S j;simp only[A,I,K,iF H,L,U,S,j];unfold AD at h⊢;split at h
     ·rename_i e sz bytes R;simp only[ahq]at h⊢;split at h
      ·rename_i new q;split at h
       ·split at h
        ·cases h
        ·rename_i b;injection h with h;subst h
         have p:¬ (has (s.tt (cw ok s.t)).u d=true∨¬ (new.length≤maxLen∧new.length*bytes≤140737488355328)):=b;refine⟨{ t:=bj d (.ref d) (dB d (cw ok s.t)),o:=eS d s.o,r:=bj d ⟨e,sz,new⟩ s.r,u:=d::s.u },by (try simp only[q]);rw[io p];rfl,rfl,rfl,rfl,fun k w a m=>?_⟩;simp only[cp]at m⊢;by_cases e:k=d
         ·rw[iF e]at m⊢;exact m
         ·rw[io e]at m⊢;rcases a with a|a
          ·show look k (dB d (cw ok s.t))=some w;rw[sO,fb,iF a];exact m
          ·injection a with a;exact(e a).elim
       ·rename_i id;split at h
        ·rename_i ar J;split at h
         ·rename_i b;injection h with h;subst h
          have D:look id (s.tt (cw ok s.t)).r=some ar:=J;refine⟨{ t:=bj d (.ref id) (dB id (cw ok s.t)),o:=eS id s.o,r:=bj id { ar with l:=ar.l++new } s.r,u:=s.u },by (try simp only[q]);simp only[D];rw[iF (show(s.tt (cw ok s.t)).u.contains (cS id)=false∧ar.e=e∧ar.sz=sz∧ar.l.length+new.length≤maxLen∧(ar.l.length+new.length)*bytes≤140737488355328 from b)];rfl,rfl,rfl,rfl,fun k w a m=>?_⟩;simp only[cp]at m⊢;by_cases e:k=d
          ·rw[iF e]at m⊢;exact m
          ·rw[io e]at m⊢;rcases a with a|a
           ·show look k (dB id (cw ok s.t))=some w;rw[sO,fb,iF a];exact m
           ·injection a with a;exact(e a).elim
         ·cases h
        ·cases h
       ·cases h
      ·cases h
     ·cases h
    ·cases h
   ·cases h
  ·cases h
end Go.Proofs.YtocgkfoifehcbaaGreat
