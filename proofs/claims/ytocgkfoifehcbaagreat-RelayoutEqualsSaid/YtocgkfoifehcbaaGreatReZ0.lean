/- Abstract values and abstract memory: what a run holds, said without addresses. A value, its reading in a world, what keeps a reading. No program in sight. -/
import Derived.WalkKit
import Derived.ProofKit
import Derived.OpenShut
import Derived.WalkLawsBesides
import Derived.Deep.MidRow
import Derived.Laws.CopyRow
import Derived.Deep.AppendLies
import Derived.Deep.LoopGhost
import Derived.Lib.Hide
import Derived.Laws.Tables
import Derived.Great.BuildSlice
import Derived.Laws.StructEq
import Derived.Laws.Concat
import Derived.Laws.Cover4
import Derived.Laws.Runes
import Derived.Laws.AppendOwn
import Derived.LoopN
namespace Go.Proofs.YtocgkfoifehcbaaGreat
set_option linter.all false
open Go.RowKit
abbrev b7:=List Int
abbrev d7:=List Nat
abbrev eb:=List Value
abbrev eg:=Int×Int
abbrev ek:=Nat×Nat
def h7:=@Option.bind_some
def h8:=@Bool.and_eq_true
def il:=@Bool.false_eq_true
def io:=@List.getElem?_eq_some_iff
def iF:=@Nat.le_of_ble_eq_true
def iN:=@List.getElem?_eq_getElem
def iO:=@Array.getElem?_eq_getElem
def jf:=@Nat.le_refl
def jt:=@of_decide_eq_true
def kb:=@if_neg
def kc:=@if_pos
def la:=@List.length_cons
def ll:=@List.drop_eq_nil_of_le
def lp:=@List.mem_of_getElem?
def ls:=@List.mem_append
def mm:=@List.length_append
def mo:=@Nat.eq_of_beq_eq_true
def ne:=@List.all_eq_true
def nw:=@List.length_map
def nx:=@List.eq_nil_of_length_eq_zero
def n3:=@List.getElem_mem
def n5:=@run_underlying
def ob:=@Array.getElem?_eq_some_iff
def ol:=@if_false
def oR:=@List.mem_of_mem_take
def qk:=@List.mem_cons
def qv:=@decide_eq_true_eq
def rv:=@List.map_cons
def sj:=@Option.some.injEq
def th:=@Sem.run_bind
def ti:=@Array.getD_eq_getD_getElem?
def tl:=@Nat.zero_le
def u3:=@List.length_nil
def u4:=@Result.andThen_ok
def u5:=@Below.heap_alloc
def u6:=@List.mem_cons_self
def u7:=@Nat.lt_of_lt_of_le
def v9:=@List.mem_of_mem_drop
def wl:=@Prod.mk.injEq
def w3:=@if_true
def yk:=@List.getElem?_take
def zt:=@List.map_nil
def z3:=@Array.mem_toList_iff
def An:=@List.getElem?_map
def AT:=@List.getElem?_append_right
def By:=@Array.getElem?_append_left
def Db:=@Option.isSome_iff_exists
def Dj:=@Array.length_toList
def Dk:=@List.mem_map
def Do:=@Bool.not_true
def Dy:=@List.nil_append
def Dz:=@List.getElem?_append_left
def DO:=@Nat.zero_add
def IF:=@Option.getD_some
def IN:=@List.length_take
def IT:=@List.take_of_length_le
def MO:=@Option.map_some
def Qf:=@Nat.mul_le_mul_right
def RX:=@Sem.run_pure
def aal:=@Nat.le_trans
def aa2:=@Classical.byContradiction
def abL:=@wpList_plain
def ace:=@List.take_succ_eq_append_getElem
def acN:=@List.getElem?_drop
def acS:=@List.mem_range
def afK:=@Array.getElem?_toList
def af6:=@Oper.upon_enter
def agh:=@Nat.add_sub_cancel
def agk:=@List.length_drop
def ain:=@Array.toArray_toList
def aix:=@Nat.add_mul
def ajg:=@Addr.add_mid
def alG:=@Array.toList_map
def alH:=@Nat.sub_zero
def alJ:=@beq_iff_eq
def alM:=@Nat.ble_eq_true_of_le
def alP:=@List.take_length
def alQ:=@Array.toList_inj
def alS:=@Nat.add_zero
def alU:=@List.length_set
def alY:=@Nat.one_mul
def alZ:=@List.mem_or_eq_of_mem_set
def al0:=@List.drop_drop
def al1:=@List.ext_getElem?
def al2:=@List.foldl_cons
def al4:=@List.getElem?_replicate
def al9:=@List.getElem?_set
def ama:=@Bool.true_and
def amc:=@List.getElem?_of_mem
def amd:=@List.exists_mem_of_ne_nil
def amg:=@IntKind.wrap_i64
def ami:=@cell_of_row
def amn:=@Nat.mul_comm
def amo:=@Nat.add_assoc
def amp:=@List.getElem?_cons_succ
def amC:=@List.take_append_of_le_length
def amD:=@Nat.mod_eq_of_lt
def amO:=@Array.map_empty
def amP:=@calls_of_wp
def amW:=@Array.toList_setIfInBounds
def am1:=@heap_alloc_new
def am3:=@List.size_toArray
def am4:=@List.set_eq_of_length_le
def am5:=@run_equalIn_bool'
def ana:=@Nat.div_eq_of_lt
def anb:=@List.map_toArray
def ane:=@List.head?_eq_getElem?
def ans:=@Nat.mul_one
def anB:=@Int.mul_comm
def anE:=@setRow_heap
def anF:=@wp_mono
inductive AV where
 | int (k:IntKind) (n:Int)
 | bool (b:Bool)
 | str (s:ByteArray)
 | nils
 | sl (l:List (List AV))
 | fn (f:FuncId) (aV:List AV)
 | fno (f:FuncId) (aV:List AV)
 | nilf
 | nilp
 | ptr (id off:Nat)
 | eptr (id sz j off:Nat)
 | sref (id sz off m:Nat)
 | cptr (cs:List AV)
 | adr (g off:Nat)
 | pp (id g off:Nat)
 | sit (id g:Nat) (s:ByteArray) (pos:Nat)
 | ref (id:Nat)
 | nilm
 | mref (id q:Nat)
 | omp (m:Option (List (Int×Bool)))
 | osl (e:TypeId) (sz:Nat) (l:List (List AV))
 | vv (x:Value)
 | lk (id:Nat) (x:Value)
 | agg (cs:List AV)
 | tup (vs:List AV)
 | any
instance:Inhabited AV:=⟨.nilp⟩
abbrev Env:=Nat→Option Value
def bG:Env:=fun _=>none
def eo:Nat:=1000000000
def has(u:d7)(d:Nat):Bool:=u.contains d||Nat.ble eo d
theorem fD{u}{d}(h:u.contains d=true):has u d=true:=by grind[has]
theorem aau{u}{d}(h:has u d=true):u.contains d=true∨eo≤d:=by
 simp_all[has]
def nm(id q:Nat):Nat:=eo+2 ^ id*(2*q+1)
theorem Sz:∀{a b j k},2 ^ a*(2*j+1)=2 ^ b*(2*k+1)→a=b∧j=k
 | 0,0,j,k,h=>by omega
 | 0,b+1,j,k,h=>by
  grind
 | a+1,0,j,k,h=>by
  grind
 | a+1,b+1,j,k,h=>by
  rw[Nat.pow_succ,amn (2 ^ a) 2,Nat.mul_assoc,Nat.pow_succ,amn (2 ^ b) 2,Nat.mul_assoc]at h;have:=Sz (Nat.eq_of_mul_eq_mul_left (by omega) h);omega
theorem S8{a b j k}(h:nm a j=nm b k):a=b∧j=k:=Sz (by grind[nm])
theorem P3 u id q:has u (nm id q)=true:=by
 simp_all[has,nm]
def TG:Nat:=500000
def bw:Option Value→Option Nat
 | some (.pointer (some a))=>some a.block
 | some (.slice (some a) _ _)=>some a.block
 | some (.map (some r))=>some r
 | _=>none
inductive Rel (N:Nat→Prop) (w:World):Env→AV→Value→Prop
 | int (ι:Env) (k:IntKind) (n:Int):Rel N w ι (.int k n) (.int k n)
 | bool (ι b):Rel N w ι (.bool b) (.bool b)
 | str (ι s):Rel N w ι (.str s) (.string s)
 | nils (ι):Rel N w ι .nils (.slice none 0 0)
 | sl0 (ι A c):Rel N w ι (.sl []) (.slice A 0 c)
 | sl (ι:Env) (l:List (List AV)) (b o c sz:Nat) (val:Nat→Nat→Value) (hz:∀e∈l,e.length=sz) (hb:b<w.heap.size) (hN:¬ N b)
   (h1:∀j i,(val j i).oneCell'=true)
   (hc:∀(j:Nat) (e:List AV),l[j]?=some e→∀(i:Nat) (x:AV),e[i]?=some x→w.cell? ⟨b,o+j*sz+i,none⟩=some (val j i))
   (hr:∀(j:Nat) (e:List AV),l[j]?=some e→∀(i:Nat) (x:AV),e[i]?=some x→Rel N w bG x (val j i)) (hcap:l.length≤c):Rel N w ι (.sl l) (.slice (some ⟨b,o,none⟩) l.length c)
 | fn (ι:Env) (f:FuncId) (aV:List AV) (ys:eb) (hl:aV.length=ys.length) (hr:∀(i:Nat) (c:AV) (y:Value),aV[i]?=some c→ys[i]?=some y→Rel N w bG c y):Rel N w ι (.fn f aV) (.func (.func f) #[] ys.toArray)
 | fno (ι:Env) (f:FuncId) (aV:List AV) (ys:eb) (hl:aV.length=ys.length) (hr:∀(i:Nat) (c:AV) (y:Value),aV[i]?=some c→ys[i]?=some y→Rel N w ι c y):Rel N w ι (.fno f aV) (.func (.func f) #[] ys.toArray)
 | nilf (ι):Rel N w ι .nilf .nilFunc
 | nilp (ι):Rel N w ι .nilp (.pointer none)
 | any (ι:Env) (x:Value) (h:x.oneCell'=true):Rel N w ι .any x
 | ptr (ι:Env) (id off g:Nat) (h:ι id=some (.pointer (some ⟨g,0,none⟩))):Rel N w ι (.ptr id off) (.pointer (some ⟨g,off,none⟩))
 | eptr (ι:Env) (id sz j off g n c:Nat) (h:ι id=some (.slice (some ⟨g,0,none⟩) n c)):Rel N w ι (.eptr id sz j off) (.pointer (some ⟨g,j*sz+off,none⟩))
 | sref (ι:Env) (id sz off m n c c':Nat) (A B:Option Addr) (h:ι id=some (.slice A n c)) (hB:m=0∨∃g,A=some ⟨g,0,none⟩∧B=some ⟨g,off*sz,none⟩∧m≤c'∧c'+off=c):Rel N w ι (.sref id sz off m) (.slice B m c')
 | cptr (ι:Env) (cs:List AV) (b o:Nat) (val:Nat→Value) (hb:b<w.heap.size) (hN:¬ N b) (h1:∀i,(val i).oneCell'=true)
   (hc:∀(i:Nat) (x:AV),cs[i]?=some x→w.cell? ⟨b,o+i,none⟩=some (val i))
   (hr:∀(i:Nat) (x:AV),cs[i]?=some x→Rel N w bG x (val i)):Rel N w ι (.cptr cs) (.pointer (some ⟨b,o,none⟩))
 | adr (ι:Env) (g off:Nat):Rel N w ι (.adr g off) (.pointer (some ⟨g,off,none⟩))
 | pp (ι:Env) (id g off:Nat) (h:ι id=some (.pointer (some ⟨g,0,none⟩))):Rel N w ι (.pp id g off) (.pointer (some ⟨g,off,none⟩))
 | sit (ι:Env) (id g:Nat) (s:ByteArray) (pos:Nat) (h:ι id=some (.int .u64 (g:Nat))) (hg:g<w.heap.size) (hn:¬ N g) (hb:w.heap[g]?=some (.stringIter s pos)):Rel N w ι (.sit id g s pos) (.pointer (some ⟨g,0,none⟩))
 | ref (ι:Env) (id:Nat) A n c (h:ι id=some (.slice A n c)):Rel N w ι (.ref id) (.slice A n c)
 | nilm (ι):Rel N w ι .nilm (.map none)
 | vv ι x (h:x.oneCell'=true):Rel N w ι (.vv x) x
 | lk ι id v x (h:ι id=some v) (h1:x.oneCell'=true):Rel N w ι (.lk id v) x
 | mref ι id q r v (h:ι (nm id q)=some (.map r)) (h2:ι id=some v):Rel N w ι (.mref id q) (.map r)
 | agg ι cs (vs:eb) (hl:cs.length=vs.length) (h1:∀v∈vs,v.oneCell'=true)
   (hr:∀(i:Nat) (x:AV) (v:Value),cs[i]?=some x→vs[i]?=some v→Rel N w ι x v):Rel N w ι (.agg cs) (.agg vs.toArray)
 | tup ι cs (vs:eb) (hl:cs.length=vs.length)
   (hr:∀(i:Nat) (x:AV) (v:Value),cs[i]?=some x→vs[i]?=some v→Rel N w ι x v):Rel N w ι (.tup cs) (.tuple vs.toArray)
structure Cells N w ι(cs:List AV)(vs:eb):Prop where
 len:cs.length=vs.length
 one:∀v∈vs,v.oneCell'=true
 rel:∀(i:Nat) x v,cs[i]?=some x→vs[i]?=some v→Rel N w ι x v
theorem H1{w w':World}{b o}(h:w'.heap[b]?=w.heap[b]?):w'.cell? ⟨b,o,none⟩=w.cell? ⟨b,o,none⟩:=World.cell?_of_block (w:=w) (a:=⟨b,o,none⟩) h
theorem Rel.mono{N N':Nat→Prop}{w w':World}{ι:Env}{v:AV}{x:Value}(h:Rel N w ι v x)(R:w.heap.size≤w'.heap.size)
  (H:∀b,b<w.heap.size→N' b→N b) (M:∀b,b<w.heap.size→¬ N b→w'.heap[b]?=w.heap[b]?) :
  ∀{ι':Env},(∀id y,ι id=some y→ι' id=some y)→Rel N' w' ι' v x:=by
 induction h with
 | int ι k n=>intro ι' _;exact .int _ _ _
 | bool ι b=>intro ι' _;exact .bool _ _
 | str ι s=>intro ι' _;exact .str _ _
 | nils ι=>intro ι' _;exact .nils _
 | sl0 ι A c=>intro ι' _;exact .sl0 _ _ _
 | sl ι l b o c sz D S z u d I G F t =>
  intro ι' _;exact .sl ι' l b o c sz D S (by omega) (fun h=>u (H b z h)) d (fun j e J i x p=>(H1 (M b z u)).trans (I j e J i x p)) (fun j e J i x p=>t j e J i x p (fun _ _ h=>h)) F
 | fn ι f aV O C G t=>intro ι' _;exact .fn _ f aV O C (fun i c y d E=>t i c y d E (fun _ _ h=>h))
 | fno ι f aV O C G t=>intro ι' a;exact .fno ι' f aV O C (fun i c y d E=>t i c y d E a)
 | nilf ι=>intro ι' _;exact .nilf _
 | nilp ι=>intro ι' _;exact .nilp _
 | any ι x h=>intro ι' _;exact .any _ _ h
 | ptr ι id off g h=>intro ι' a;exact .ptr _ _ _ _ (a _ _ h)
 | eptr ι id sz j off g n c h=>intro ι' a;exact .eptr _ _ _ _ _ _ n c (a _ _ h)
 | sref ι id sz off m n c P A B h Q=>intro ι' a;exact .sref _ _ _ _ _ n c P A B (a _ _ h) Q
 | cptr ι cs b o D z u d I G t =>
  intro ι' _;exact .cptr ι' cs b o D (by omega) (fun h=>u (H b z h)) d (fun i x p=>(H1 (M b z u)).trans (I i x p)) (fun i x p=>t i x p (fun _ _ h=>h))
 | adr ι g off=>intro ι' _;exact .adr _ _ _
 | pp ι id g off h=>intro ι' a;exact .pp _ _ _ _ (a _ _ h)
 | sit ι id g s T h K u z=>intro ι' a;exact .sit _ _ _ _ _ (a _ _ h) (u7 K R) (fun h=>u (H g K h)) ((M g K u).trans z)
 | ref ι id A n c h=>intro ι' a;exact .ref _ _ _ _ _ (a _ _ h)
 | nilm ι=>intro ι' _;exact .nilm _
 | vv ι x h=>intro ι' _;exact .vv _ _ h
 | lk ι id v x h d=>intro ι' a;exact .lk _ _ _ _ (a _ _ h) d
 | mref ι id q r v h E=>intro ι' a;exact .mref _ _ _ _ v (a _ _ h) (a _ _ E)
 | agg ι cs vs C d G t=>intro ι' a;exact .agg ι' cs vs C d (fun i x v p L=>t i x v p L a)
 | tup ι cs vs C G t=>intro ι' a;exact .tup ι' cs vs C (fun i x v p L=>t i x v p L a)
theorem Cells.mono{N N'}{w w'}{ι ι'}{cs}{vs}(h:Cells N w ι cs vs)(c:w.heap.size≤w'.heap.size)
  (a:∀b,b<w.heap.size→N' b→N b) (e:∀b,b<w.heap.size→¬ N b→w'.heap[b]?=w.heap[b]?) (g:∀id y,ι id=some y→ι' id=some y):Cells N' w' ι' cs vs :=
 ⟨h.len,h.one,fun i x v f d=>(h.rel i x v f d).mono c a e g⟩
mutual
def AV.di(u:d7):AV→Bool
 | .ptr id _=>u.contains id
 | .eptr id _ _ _=>u.contains id
 | .sref id _ _ _=>u.contains id
 | .ref id=>u.contains id
 | .lk id _=>u.contains id
 | .mref id q=>u.contains (nm id q)&&u.contains id
 | .pp id _ _=>u.contains id
 | .sit id _ _ _=>u.contains id
 | .agg cs=>ep u cs
 | .tup cs=>ep u cs
 | .fno _ cs=>ep u cs
 | _=>true
def ep(u:d7):List AV→Bool
 | []=>true
 | c::r=>c.di u&&ep u r
end
theorem l5{u}:∀{l},ep u l=true→∀(i:Nat) x,l[i]?=some x→x.di u=true
 | [],_,i,x,a=>by grind
 | c::r,h,0,x,a=>by grind[ep]
 | c::r,h,i+1,x,a=>by simp only[ep,h8]at h;exact l5 h.2 i x a
theorem Rel.env{N:Nat→Prop}{w:World}{ι:Env}{v:AV}{x:Value}(h:Rel N w ι v x){u:d7}{ι':Env}(d:∀id,u.contains id=true→ι' id=ι id):v.di u=true→Rel N w ι' v x:=by
 induction h with
 | int ι k n=>intro _;exact .int _ _ _
 | bool ι b=>intro _;exact .bool _ _
 | str ι s=>intro _;exact .str _ _
 | nils ι=>intro _;exact .nils _
 | sl0 ι A c=>intro _;exact .sl0 _ _ _
 | sl ι l b o c sz C R E G t D e F p=>intro _;exact .sl _ l b o c sz C R E G t D e F
 | fn ι f aV K z e p=>intro _;exact .fn _ f aV K z e
 | fno ι f aV K z e p=>intro a;exact .fno _ f aV K z (fun i c y D Q=>p i c y D Q d (l5 (by simpa[AV.di]using a) i c D))
 | nilf ι=>intro _;exact .nilf _
 | nilp ι=>intro _;exact .nilp _
 | any ι x h=>intro _;exact .any _ _ h
 | ptr ι id off g h=>intro a;exact .ptr _ _ _ _ ((d id (by simpa[AV.di]using a)).trans h)
 | eptr ι id sz j off g n c h=>intro a;exact .eptr _ _ _ _ _ _ n c ((d id (by simpa[AV.di]using a)).trans h)
 | sref ι id sz off m n c L A B h O=>intro a;exact .sref _ _ _ _ _ n c L A B ((d id (by simpa[AV.di]using a)).trans h) O
 | cptr ι cs b o C E G t D e p=>intro _;exact .cptr _ cs b o C E G t D e
 | adr ι g off=>intro _;exact .adr _ _ _
 | pp ι id g off h=>intro a;exact .pp _ _ _ _ ((d id (by simpa[AV.di]using a)).trans h)
 | sit ι id g s S h P G E=>intro a;exact .sit _ _ _ _ _ ((d id (by simpa[AV.di]using a)).trans h) P G E
 | ref ι id A n c h=>intro a;exact .ref _ _ _ _ _ ((d id (by simpa[AV.di]using a)).trans h)
 | nilm ι=>intro _;exact .nilm _
 | vv ι x h=>intro _;exact .vv _ _ h
 | lk ι id v x h t=>intro a;exact .lk _ _ _ _ ((d id (by simpa[AV.di]using a)).trans h) t
 | mref ι id q r v h M=>intro a;have H:=Bool.and_eq_true_iff.1 a;exact .mref _ _ _ _ v ((d _ H.1).trans h) ((d _ H.2).trans M)
 | agg ι cs vs z t e p=>intro a;exact .agg _ cs vs z t (fun i x v I J=>p i x v I J d (l5 (by simpa[AV.di]using a) i x I))
 | tup ι cs vs z e p=>intro a;exact .tup _ cs vs z (fun i x v I J=>p i x v I J d (l5 (by simpa[AV.di]using a) i x I))
theorem Rel.pure{N}{w}{ι}{v}{x}(h:Rel N w ι v x)(b:v.di []=true) ι':Rel N w ι' v x :=
 h.env (u:=[]) (fun id a=>by grind) b
def AV.En:AV→Bool
 | .agg _|.tup _=>false
 | _=>true
theorem Rel.one{N}{w}{ι}{v}{x}(h:Rel N w ι v x)(a:v.En=true):x.oneCell'=true:=by
 cases h<;>first|rfl|assumption|grind
def look{α:Type}(k:Nat):List (Nat×α)→Option α
 | []=>none
 | (j,v)::r=>if k=j then some v else look k r
def bm{α:Type}(k:Nat)(v:α):List (Nat×α)→List (Nat×α)
 | []=>[(k,v)]
 | (j,x)::r=>if k=j then (k,v)::r else (j,x)::bm k v r
theorem cr{α} k(v:α):∀l i,look i (bm k v l)=if i=k then some v else look i l
 | [],i=>rfl
 | (j,x)::r,i=>by
  unfold bm;by_cases h:k=j
  ·grind[look]
  ·rw[kb h];simp only[look,cr k v r]
   grind
def Hn(w:World)(m:Option (List (Int×Bool)))(x:Value):Prop :=
 match m with
 | none=>x=.map none
 | some l=>∃r b a,x=.map (some r)∧w.heap[r]?=some (.map b a)∧b.toList.map (fun e=>(e.key,e.val))=l.map (fun p=>(Value.int .i64 p.1,Value.bool p.2))
theorem f8{w w':World}{B}{e}{sz}{v}{n}{xs}(h:w.ownsRow B e sz v n xs)(f:∀g,bw (some v)=some g→w'.heap[g]?=w.heap[g]?):w'.ownsRow B e sz v n xs:=by
 refine⟨h.1,?_⟩;rcases h.2 with i|⟨g,a,b,rfl,c,d,r⟩
 ·grind
 ·exact .inr ⟨g,a,b,rfl,c,(f g rfl).trans d,r⟩
def CS(N:Nat→Prop)(w:World)(e:TypeId)(sz:Nat)(l:List (List AV))(x:Value):Prop :=
 ∃xs,w.ownsRow 0 e sz x l.length xs∧(∀c∈l,c.length=sz)∧(∀y∈xs,y.oneCell'=true) ∧
  (∀j c,l[j]?=some c→∀i a,c[i]?=some a→∃y,xs[j*sz+i]?=some y∧Rel N w bG a y)
theorem CS.mono{N N'}{w w'}{e}{sz}{l}{x}(h:CS N w e sz l x)(t:w.heap.size≤w'.heap.size)
  (p:∀b,b<w.heap.size→N' b→N b) (u:∀b,b<w.heap.size→¬ N b→w'.heap[b]?=w.heap[b]?) (q:∀g,bw (some x)=some g→w'.heap[g]?=w.heap[g]?):CS N' w' e sz l x:=by
 obtain⟨xs,k,m,n,o⟩:=h;refine⟨xs,f8 k q,m,n,fun j c s i a r=>?_⟩;obtain⟨y,d,f⟩:=o j c s i a r;exact⟨y,d,f.mono t p u (fun _ _ h=>h)⟩
def gK(N:Nat→Prop)(w:World)(t:Prop)(o:Option Value)(c:AV)(x:Value):Prop :=
 Rel N w bG c x∨(t∧∃m r,c=.omp m∧x=.map r∧o=some x∧Hn w m x)∨(t∧∃e sz l r,c=.osl e sz l∧o=some (.map r)∧bw (some x)=r∧CS N w e sz l x)
theorem gK.mono{N N':Nat→Prop}{w w':World}{t v:Prop}{o u:Option Value}{c:AV}{x:Value}(h:gK N w t o c x)(p:w.heap.size≤w'.heap.size)
  (k:∀b,b<w.heap.size→N' b→N b) (s:∀b,b<w.heap.size→¬ N b→w'.heap[b]?=w.heap[b]?) (n:∀r,o=some (.map r)→u=some (.map r)) (y:∀r,o=some (.map (some r))→w'.heap[r]?=w.heap[r]?) (q:t→v):gK N' w' v u c x:=by
 rcases h with h|⟨a,m,r,d,f,i,j⟩|⟨a,e,sz,l,r,d,f,i,j⟩
 ·exact .inl (h.mono p k s (fun _ _ h=>h))
 ·subst f;refine .inr (.inl ⟨q a,m,r,d,rfl,n r i,?_⟩);unfold Hn at j⊢
  grind
 ·exact .inr (.inr ⟨q a,e,sz,l,r,d,n r f,i,j.mono p k s (fun g z=>y g (by grind))⟩)
def AV.NY:AV→Bool
 | .omp _=>false
 | .osl _ _ _=>false
 | _=>true
def AV.uN:AV→AV
 | .omp _=>.any
 | .osl _ _ _=>.any
 | c=>c
theorem gK.uN{N}{w}{t}{o}{c}{x}(h:gK N w t o c x)(a:x.oneCell'=true):Rel N w bG c.uN x:=by
 rcases h with h|⟨_,_,_,e,_⟩|⟨_,_,_,_,_,e,_⟩
 ·have:c.uN=c:=by cases h<;>rfl
  grind
 ·subst e;exact .any _ _ a
 ·subst e;exact .any _ _ a
theorem gK.ac3{N}{w}{t}{o}{c}{x}(h:gK N w t o c x)(a:t→c.NY=true):Rel N w bG c x:=by
 rcases h with h|⟨h,_,_,e,_⟩|⟨h,_,_,_,_,e,_⟩
 ·grind
 ·have:=a h;rw[e]at this;cases this
 ·have:=a h;rw[e]at this;cases this
theorem gK.flat{N}{w}{t}{o}{c}{x}(h:gK N w t o c x)(a:¬ t):Rel N w bG c x:=by
 rcases h with h|⟨h,_⟩|⟨h,_⟩
 ·grind
 ·grind
 grind
structure bW where
 e:TypeId
 sz:Nat
 l:List (List AV)
structure AS where
 t:List (Nat×AV)
 o:List (Nat×List AV)
 r:List (Nat×bW)
 u:d7
def NN(M:Nat→Prop)(ι:Env):Nat→Prop:=fun b=>M b∨∃id,bw (ι id)=some b
structure aC where
 w:World
 G:Nat→Prop
 pv:Nat→Option Value
def aC.O(b:aC)(g:Nat):Prop:=b.w.heap.size≤g∨b.G g
structure jd(b:aC)(w w':World):Prop where
 os:w'.os=w.os
 tape:w'.tape=w.tape
 output:w'.output=w.output
 size:w.heap.size≤w'.heap.size
 block:∀k,k<b.w.heap.size→¬ b.G k→w'.heap[k]?=w.heap[k]?
abbrev S7(b:aC)(w:World):Prop:=jd b b.w w
theorem jd.trans{b}{u v w}(h:jd b u v)(k:jd b v w):jd b u w:=⟨k.os.trans h.os,k.tape.trans h.tape,k.output.trans h.output,aal h.size k.size,fun i c a=>(k.block i c a).trans (h.block i c a)⟩
theorem jd.of{b}{v w}(h:Below v.heap.size v w)(c:b.w.heap.size≤v.heap.size):jd b v w:=⟨h.os,h.tape,h.output,h.size,fun k a _=>h.block k (u7 a c)⟩
def nn(w:World):aC:=⟨w,fun _=>False,fun _=>none⟩
theorem jd.plain{w w'}(h:S7 (nn w) w'):Below w.heap.size w w':=⟨h.os,h.tape,h.output,h.size,fun k a=>h.block k a (fun h=>h)⟩
def dk(id:Nat):Nat:=id+1000000
def tyName(id T:Nat):Prop:=450000≤id→id<500000→T=(id-450000) % 1000
abbrev Qy id:={ T:TypeId // tyName id T }
def rl:Option Value→Bool
 | some (.bool _)=>false
 | some _=>true
 | none=>false
theorem EZ{o:Option Value}(h:rl o=true):∃y,o=some y:=by cases o with|none=>cases h|some y=>exact⟨y,rfl⟩
structure HS(M:Nat→Prop)(w0:aC)(w:World)(ι:Env)(s:AS):Prop where
 below:S7 w0 w
 old:∀b,M b→b<w0.w.heap.size∧¬ w0.G b
 use:∀id y,ι id=some y→has s.u id=true
 own:∀id g,bw (ι id)=some g→w0.O g∧g<w.heap.size
 inj:∀id id' g,bw (ι id)=some g→bw (ι id')=some g→id=id'
 ko:∀id cs,look id s.o=some cs→has s.u id=true
 kr:∀id a,look id s.r=some a→has s.u id=true
 objs:∀id cs,look id s.o=some cs→rl (ι id)=true→∃(g:Nat) (T:Qy id) (vs:Array Value),ι id=some (.pointer (some ⟨g,0,none⟩))∧w.heap[g]?=some (.cells vs T.1 (0,0))∧Cells (NN M ι) w ι cs vs.toList
 arrs:∀id a,look id s.r=some a→(ι id).isSome=true→∃v xs,ι id=some v∧w.ownsRow 0 a.e a.sz v a.l.length xs∧(∀e∈a.l,e.length=a.sz)∧(∀x∈xs,x.oneCell'=true) ∧
  (∀(j:Nat) (e:List AV),a.l[j]?=some e→∀(i:Nat) (c:AV),e[i]?=some c→∃x,xs[j*a.sz+i]?=some x∧gK (NN M ι) w (TG≤id) (ι (nm id (j*a.sz+i))) c x)
 pin:∀id v,w0.pv id=some v→ι id=some v∧s.u.contains (dk id)=true
theorem HS.sep{M}{e}{w}{ι}{s}(h:HS M e w ι s){id b}(c:M b)(d:bw (ι id)=some b):False:=by
 have f:=h.old b c;rcases (h.own id b d).1 with a|a
 ·omega
 grind
theorem HS.ot{M}{b}{w}{ι}{s}(h:HS M b w ι s){k id r}{v}(a:ι k=some (.map (some r)))(d:ι id=some v)(c:∀r,v ≠ .map r):bw (some v)≠some r:=fun e=>by
 have:=h.inj k id r (by rw[a];rfl) (by grind)
 grind
theorem HS.kq{M}{b}{w}{ι}{s}(h:HS M b w ι s){k r}(a:ι k=some (.map (some r))):r<w.heap.size:=(h.own k r (by rw[a];rfl)).2
theorem HS.np{M}{a}{w}{ι}{s}(h:HS M a w ι s){id}(c:s.u.contains (dk id)=false):a.pv id=none:=by
 cases b:a.pv id with
 | none=>rfl
 | some y=>have:=(h.pin id y b).2;grind
structure Cx where
 P:Program
 n:Nat
 M:Nat→Prop
 w0:aC
structure aX(cx:Cx) s(a:Act) w ι:Prop where
 hs:HS cx.M cx.w0 w ι s
 dfr:a.defers=[]
 n:a.tmps.size=cx.n
 tmp:∀k v,look k s.t=some v→∃x,a.tmps[k]?=some x∧Rel (NN cx.M ι) w ι v x
def AS.put(s:AS)(d:Option Tmp)(v:AV):AS:=match d with|some k=>{ s with t:=bm k v s.t }|none=>s
theorem aX.put{c:Cx}{s:AS}{a:Act}{w:World}{ι:Env}(h:aX c s a w ι){d:Option Tmp}(f:∀k,d=some k→k<c.n){v:AV}{x:Value}(l:Rel (NN c.M ι) w ι v x):aX c (s.put d v) (a.put d x) w ι:=by
 cases d with
 | none=>exact h
 | some k =>
  have g:=f k rfl;refine⟨⟨h.hs.below,h.hs.old,h.hs.use,h.hs.own,h.hs.inj,h.hs.ko,h.hs.kr,h.hs.objs,h.hs.arrs,h.hs.pin⟩,h.dfr,by simp[Act.put,h.n],fun j y b=>?_⟩;simp only[AS.put,cr]at b;by_cases e:j=k
  ·subst e;rw[kc rfl]at b;injection b with b;subst b
   exact⟨x,by simp[Act.put,h.n,g],l⟩
  ·rw[kb e]at b;obtain⟨z,m,i⟩:=h.tmp j y b;exact⟨z,by simp only[Act.put];grind,i⟩
def era{α:Type}(k:Nat):List (Nat×α)→List (Nat×α)
 | []=>[]
 | (j,x)::r=>if k=j then era k r else (j,x)::era k r
theorem zn{α} k:∀(l:List (Nat×α)) i,look i (era k l)=if i=k then none else look i l
 | [],i=>by simp[era,look]
 | (j,x)::r,i=>by
  unfold era;by_cases h:k=j
  ·rw[kc h,zn k r i];grind[look]
  ·rw[kb h];simp only[look,zn k r]
   grind
def AS.drop(s:AS)(d:Option Tmp):AS:=match d with|some k=>{ s with t:=era k s.t }|none=>s
theorem aX.drop{c}{s}{a}{w}{ι}(h:aX c s a w ι) d x:aX c (s.drop d) (a.put d x) w ι:=by
 cases d with
 | none=>exact h
 | some k =>
  refine⟨⟨h.hs.below,h.hs.old,h.hs.use,h.hs.own,h.hs.inj,h.hs.ko,h.hs.kr,h.hs.objs,h.hs.arrs,h.hs.pin⟩,h.dfr,by simp[Act.put,h.n],fun j y b=>?_⟩;simp only[AS.drop,zn]at b;by_cases e:j=k
  ·grind
  ·rw[kb e]at b;obtain⟨z,g,f⟩:=h.tmp j y b;exact⟨z,by simp only[Act.put];grind,f⟩
def yP:Value→Option AV
 | .int k n=>some (.int k n)
 | .bool b=>some (.bool b)
 | .string s=>some (.str s)
 | .slice none 0 0=>some .nils
 | .nilFunc=>some .nilf
 | .pointer none=>some .nilp
 | .map none=>some .nilm
 | .nilIface=>some (.vv .nilIface)
 | _=>none
def mQ:eb→Option (List AV)
 | []=>some []
 | v::r=>match yP v,mQ r with|some x,some y=>some (x::y)|_,_=>none
def Kp:Value→Option AV
 | .agg cs=>(mQ cs.toList).map .agg
 | v=>yP v
theorem Mp N w ι{v}{x}(h:yP v=some x):Rel N w ι x v∧v.oneCell'=true:=by
 unfold yP at h;split at h<;>first|grind|(injection h with h;subst h;exact⟨by first|exact .vv _ _ rfl|constructor,rfl⟩)
theorem mE(N:Nat→Prop)(w:World)(ι:Env):∀{l:eb} {x:List AV},mQ l=some x→Cells N w ι x l
 | [],x,h=>by injection h with h;subst h;exact⟨rfl,fun v k=>(by cases k),fun i x v m _=>by simp at m⟩
 | v::r,x,h=>by
  unfold mQ at h;cases f:yP v with
  | none=>grind
  | some a =>
   cases g:mQ r with
   | none=>grind
   | some b =>
    rw[f,g]at h;injection h with h;subst h
    obtain⟨n,o⟩:=Mp N w ι f;have e:=mE N w ι g;refine⟨by simp[e.len],fun y d=>?_,fun i c y j d=>?_⟩
    ·rcases qk.1 d with rfl|d
     ·grind
     ·exact e.one _ d
    ·cases i with
     | zero=>grind
     | succ i=>exact e.rel i c y j d
theorem aaU N w ι{v}{x}(h:Kp v=some x):Rel N w ι x v:=by
 unfold Kp at h;split at h
 ·rename_i cs;cases b:mQ cs.toList with
  | none=>grind
  | some a =>
   have c:=mE N w ι b;have:=Rel.agg (N:=N) (w:=w) ι a cs.toList c.len c.one c.rel
   simp_all
 ·exact(Mp N w ι h).1
def AS.ev(s:AS):Operand→Option AV
 | .tmp t=>look t s.t
 | .const v=>Kp v
 | .func f=>some (.fn f [])
 | .global _=>none
theorem aX.ev{d}{s}{a}{w}{ι}(h:aX d s a w ι){x}{v}(b:s.ev x=some v):Rel (NN d.M ι) w ι v (a.eval x):=by
 cases x with
 | tmp t =>
  obtain⟨y,j,e⟩:=h.tmp t v b;show Rel _ _ _ _ (a.tmps.getD t undef)
  simp_all
 | const c=>exact aaU _ _ _ b
 | func f=>injection b with b;subst b;exact .fn _ _ [] [] rfl (fun i c y h _=>by grind)
 | global g=>cases b
theorem eK{w:World}{g b}{c}(h:b≠g):(w.setRow g c).heap[b]?=w.heap[b]?:=setRow_other w g b c h
theorem HS.setObj{M:Nat→Prop}{I:aC}{w:World}{ι:Env}{s:AS}(h:HS M I w ι s){id g:Nat}{T:Qy id}{vs:Array Value}{t:List AV}{l:eb}
  (p:ι id=some (.pointer (some ⟨g,0,none⟩))) (Q:w.heap[g]?=some (.cells vs T.1 (0,0))) (P:Cells (NN M ι) w ι t l) :
  HS M I (w.setRow g l.toArray) ι { s with o:=bm id t s.o }:=by
 have n:bw (ι id)=some g:=by rw[p];rfl
 obtain⟨A,S⟩:=h.own id g n;have J:∀b,¬ NN M ι b→(w.setRow g l.toArray).heap[b]?=w.heap[b]?:=fun b m=>eK (fun e=>m (.inr ⟨id,by rw[e];exact n⟩));have d:∀b,b<w.heap.size→¬ NN M ι b→(w.setRow g l.toArray).heap[b]?=w.heap[b]?:=fun b _ m=>J b m;refine⟨?_,h.old,h.use,fun i k z=>?_,h.inj,fun i cs f=>?_,h.kr,fun i cs f E=>?_,fun i a f E=>?_,h.pin⟩
 ·exact h.below.trans ⟨rfl,rfl,rfl,by simp,fun k z O=>eK (fun e=>by subst e;rcases A with A|A;omega;exact O A)⟩
 ·have:=h.own i k z;simp;exact this
 ·simp only[cr]at f;by_cases e:i=id
  ·subst e;exact h.use i _ p
  ·rw[kb e]at f;exact h.ko i cs f
 ·simp only[cr]at f;by_cases e:i=id
  ·subst e;rw[kc rfl]at f;injection f with f;subst f
   exact⟨g,T,l.toArray,p,anE w g vs _ T.1 _ Q,by simpa using P.mono (by simp) (fun b _ m=>m) d (fun _ _ h=>h)⟩
  ·rw[kb e]at f;obtain⟨u,T',G,q,y,B⟩:=h.objs i cs f E;have D:u≠g:=fun K=>e (h.inj i id g (by rw[q,K];rfl) n);exact⟨u,T',G,q,(eK D).trans y,B.mono (by simp) (fun b _ m=>m) d (fun _ _ h=>h)⟩
 ·obtain⟨v,xs,q,y,B,L,N⟩:=h.arrs i a f E;refine⟨v,xs,q,f8 y (fun u C=>eK ?_),B,L,fun j e R k c z=>?_⟩
  ·intro e;subst e;have:=h.inj i id u (by rw[q];exact C) n;subst this;rw[q]at p;injection p with p
   subst p;rcases y.2 with⟨H,_⟩|⟨_,_,_,H,_⟩<;>cases H
  ·obtain⟨x,V,U⟩:=N j e R k c z;exact⟨x,V,U.mono (by simp) (fun b _ m=>m) d (fun _ h=>h) (fun r F=>eK (fun e=>h.ot F p (fun _ e=>by cases e) (by rw[e];rfl))) (fun h=>h)⟩
theorem aX.world{c}{s}{a}{w w'}{ι ι'}(h:aX c s a w ι){s'}(g:HS c.M c.w0 w' ι' s')(i:s'.t=s.t)(m:w.heap.size≤w'.heap.size)
  (e:∀b,b<w.heap.size→NN c.M ι' b→NN c.M ι b) (j:∀b,b<w.heap.size→¬ NN c.M ι b→w'.heap[b]?=w.heap[b]?) (n:∀id y,ι id=some y→ι' id=some y):aX c s' a w' ι' :=
 ⟨g,h.dfr,h.n,fun k v d=>by
  rw[i]at d;obtain⟨x,l,f⟩:=h.tmp k v d;exact⟨x,l,f.mono m e j n⟩⟩
def ext(ι:Env)(d:Nat)(v:Value):Env:=fun i=>if i=d then some v else ι i
theorem cN ι d v:ext ι d v d=some v:=by simp[ext]
theorem bT ι{d i} v(h:i≠d):ext ι d v i=ι i:=by simp[ext,h]
theorem fp{ι}{d}(h:ι d=none) v:∀id y,ι id=some y→ext ι d v id=some y:=fun id y a=>by
 grind[bT]
theorem gx{M}{ι}{d}{v}{b}(h:NN M (ext ι d v) b):NN M ι b∨bw (some v)=some b:=by
 rcases h with h|⟨id,h⟩
 ·exact .inl (.inl h)
 ·by_cases e:id=d
  ·grind[cN]
  ·rw[bT _ _ e]at h;exact .inl (.inr ⟨id,h⟩)
theorem HS.free{M}{a}{w}{ι}{s}(h:HS M a w ι s){d}(b:has s.u d=false):ι d=none:=by
 cases e:ι d with
 | none=>rfl
 | some y=>have:=h.use d y e;grind
theorem qj{u:d7}{d i}(h:u.contains i=true):(d::u).contains i=true:=by
 grind
theorem eh{u}{d i}(h:has u i=true):has (d::u) i=true:=by
 grind[has]
theorem ju u d:has (d::u) d=true:=fD (by simp)
theorem jd.alloc{b}{v w}(h:jd b v w)(a:b.w.heap.size≤w.heap.size) o:jd b v (w.alloc o) :=
 h.trans (.of ((Below.refl w.heap.size w).alloc (by omega) o) a)
theorem HS.alloc{M:Nat→Prop}{N:aC}{w:World}{ι:Env}{s:AS}(h:HS M N w ι s){d:Nat}(P:has s.u d=false){T:TypeId}(V:tyName d T){cs:List AV}{vs:eb}(W:Cells (NN M ι) w ι cs vs):
  HS M N (w.alloc (.cells vs.toArray T)) (ext ι d (.pointer (some ⟨w.heap.size,0,none⟩))) { s with o:=bm d cs s.o,u:=d::s.u }:=by
 have Y:=h.free P;have z:N.w.heap.size≤w.heap.size:=h.below.size;have E:∀b,b<w.heap.size→¬ NN M ι b→(w.alloc (.cells vs.toArray T)).heap[b]?=w.heap[b]?:=fun b O _=>u5 _ _ _ O;have I:∀b,b<w.heap.size→NN M (ext ι d (.pointer (some ⟨w.heap.size,0,none⟩))) b→NN M ι b:=fun b O q=>by
  rcases gx q with q|q
  ·exact q
  ·injection q with q;simp only[]at q;omega
 have C:=fp Y (.pointer (some ⟨w.heap.size,0,none⟩));refine⟨h.below.alloc z _,h.old,fun i y Q=>?_,fun i g l=>?_,fun i D g l f=>?_,fun i p m=>?_,fun i a m=>eh (h.kr i a m),fun i p m n=>?_,fun i a m n=>?_,fun i v n=>⟨C i v (h.pin i v n).1,qj (h.pin i v n).2⟩⟩
 ·by_cases e:i=d
  ·subst e;exact ju _ _
  ·rw[bT _ _ e]at Q;exact eh (h.use i y Q)
 ·by_cases e:i=d
  ·subst e;rw[cN]at l;injection l with l;simp only[]at l;subst l;exact⟨.inl z,by simp⟩
  ·rw[bT _ _ e]at l;exact⟨(h.own i g l).1,by have:=(h.own i g l).2;simp;omega⟩
 ·by_cases e:i=d
  ·by_cases A:D=d
   ·omega
   ·subst e;rw[cN]at l;rw[bT _ _ A]at f;injection l with l;simp only[]at l
    have:=(h.own D g f).2;omega
  ·by_cases A:D=d
   ·subst A;rw[cN]at f;rw[bT _ _ e]at l;injection f with f;simp only[]at f
    have:=(h.own i g l).2;omega
   ·rw[bT _ _ e]at l;rw[bT _ _ A]at f;exact h.inj i D g l f
 ·simp only[cr]at m;by_cases e:i=d
  ·subst e;exact ju _ _
  ·rw[kb e]at m;exact eh (h.ko i p m)
 ·simp only[cr]at m;by_cases e:i=d
  ·subst e;rw[kc rfl]at m;injection m with m;subst m
   exact⟨w.heap.size,⟨T,V⟩,vs.toArray,cN _ _ _,am1 w _,by simpa using W.mono (by simp) I E C⟩
  ·rw[kb e]at m;rw[bT _ _ e]at n;obtain⟨B,T',L,t,G,H⟩:=h.objs i p m n;have K:=(h.own i B (by rw[t];rfl)).2;exact⟨B,T',L,(bT _ _ e).trans t,(u5 _ _ _ K).trans G,H.mono (by simp) I E C⟩
 ·have e:i≠d:=by rintro rfl;have:=h.kr i a m;rw[P]at this;cases this
  rw[bT _ _ e]at n;obtain⟨v,xs,t,G,H,S,U⟩:=h.arrs i a m n;refine⟨v,xs,(bT _ _ e).trans t,f8 G (fun B f=>u5 _ _ _ (h.own i B (by rw[t];exact f)).2),H,S,fun j R X k c J=>?_⟩;obtain⟨x,hx,Z⟩:=U j R X k c J;exact⟨x,hx,Z.mono (by simp) I E (fun r F=>C _ _ F) (fun r F=>u5 _ _ _ (h.kq F)) (fun h=>h)⟩
theorem HS.fresh{M:Nat→Prop}{A:aC}{w:World}{ι:Env}{s:AS}(h:HS M A w ι s)(o:Obj):HS M A (w.alloc o) ι s:=by
 have y:A.w.heap.size≤w.heap.size:=h.below.size;have B:∀b,b<w.heap.size→¬ NN M ι b→(w.alloc o).heap[b]?=w.heap[b]?:=fun b d _=>u5 _ _ _ d;refine⟨h.below.alloc y _,h.old,h.use,fun i g C=>?_,h.inj,h.ko,h.kr,fun i l p u=>?_,fun i a p u=>?_,h.pin⟩
 ·exact⟨(h.own i g C).1,by have:=(h.own i g C).2;simp;omega⟩
 ·obtain⟨e,T',z,f,m,n⟩:=h.objs i l p u;have t:=(h.own i e (by rw[f];rfl)).2;exact⟨e,T',z,f,(u5 _ _ _ t).trans m,n.mono (by simp) (fun b _ d=>d) B (fun _ _ h=>h)⟩
 ·obtain⟨v,xs,f,m,n,F,G⟩:=h.arrs i a p u;refine⟨v,xs,f,f8 m (fun e H=>u5 _ _ _ (h.own i e (by grind)).2),n,F,fun j D I k c q=>?_⟩;obtain⟨x,K,J⟩:=G j D I k c q;exact⟨x,K,J.mono (by simp) (fun b _ d=>d) B (fun _ h=>h) (fun r E=>u5 _ _ _ (h.kq E)) (fun h=>h)⟩
theorem lN{M}{c}{w}{ι}{s}(h:HS M c w ι s){b}(a:NN M ι b):b<w.heap.size:=by
 rcases a with a|⟨id,a⟩
 ·exact u7 (h.old b a).1 h.below.size
 ·exact(h.own id b a).2
theorem Ny{M:Nat→Prop}{n:aC}{w:World}{ι:Env}{s:AS}(h:HS M n w ι s){T:TypeId}{sz:Nat}{l:List (List AV)}{vs:eb}(m:∀e∈l,e.length=sz)(o:∀v∈vs,v.oneCell'=true)
  (f:∀(j:Nat) (e:List AV),l[j]?=some e→∀(i:Nat) (x:AV),e[i]?=some x→∃v,vs[j*sz+i]?=some v∧Rel (NN M ι) w bG x v) :
  Rel (NN M ι) (w.alloc (.cells vs.toArray T)) ι (.sl l) (.slice (some ⟨w.heap.size,0,none⟩) l.length l.length):=by
 refine .sl _ l _ 0 _ sz (fun j i=>(vs[j*sz+i]?).getD (.bool true)) m (by simp) (fun a=>by have:=lN h a;omega) (fun j i=>?_) (fun j e c i x d=>?_) (fun j e c i x d=>?_) (by omega)
 ·cases e:vs[j*sz+i]? with
  | none=>rfl
  | some v=>grind
 ·obtain⟨v,g,_⟩:=f j e c i x d
  simp_all
 ·obtain⟨v,g,k⟩:=f j e c i x d;simp only[g];exact k.mono (by simp) (fun b _ a=>a) (fun b a _=>u5 _ _ _ a) (fun _ _ h=>h)
def cB(P:Program)(T:TypeId):Option Nat:=(P.info? T).map (·.size)
def pC(P:Program)(T:TypeId):Option Bool:=(P.underlying T).map (·.isRow)
def IH(P:Program)(T:TypeId)(f:Nat):Option Nat :=
 match P.underlying T with
 | some (.struct a)=>match a[f]? with
  | some g=>match cB P g.type with
   | some (_+1)=>some g.offset
   | _=>none
  | none=>none
 | _=>none
def mK(P:Program)(T:TypeId):Option ek :=
 match P.underlying T with
 | some (.array n e)=>(cB P e).map (n,·)
 | _=>none
def gk(P:Program)(T:TypeId):Option (TypeId×Nat) :=
 match P.underlying T with
 | some (.slice e)=>(cB P e).map (e,·)
 | _=>none
def Nk(P:Program)(T:TypeId):Bool:=match P.underlying T with|some .string=>true|_=>false
def ft(P:Program)(T:TypeId):Option (List AV):=((P.info? T).bind (·.zero)).bind fun z=>mQ z.cells.toList
def Ln(P:Program)(T:TypeId):Option (List ek) :=
 match P.underlying T with
 | some (.struct a)=>a.toList.mapM fun f=>(cB P f.type).map (f.offset,·)
 | some (.array n e)=>(cB P e).map fun k=>(List.range n).map fun i=>(i*k,k)
 | _=>none
def AS.mem(s:AS):AV→Option (List AV)
 | .ptr id off=>match look id s.o with|some cs=>some (cs.drop off)|none=>none
 | .pp id _ off=>match look id s.o with|some cs=>some (cs.drop off)|none=>none
 | .cptr cs=>some cs
 | .eptr id sz j off=>match look id s.r with
  | some a=>if a.sz=sz then match a.l[j]? with|some e=>some (if id<TG then e.drop off else (e.drop off).map AV.uN)|none=>none else none
  | none=>none
 | _=>none
theorem Ox{H:Cx}{s:AS}{a:Act}{w:World}{ι:Env}(h:aX H s a w ι){p:AV}{x:Value}(hp:Rel (NN H.M ι) w ι p x){cs:List AV}(d:s.mem p=some cs):
  ∃(b o:Nat) (l:Nat→Value),x=.pointer (some ⟨b,o,none⟩)∧∀(i:Nat) (c:AV),cs[i]?=some c→w.cell? ⟨b,o+i,none⟩=some (l i)∧(l i).oneCell'=true∧Rel (NN H.M ι) w ι c (l i):=by
 cases hp with
 | ptr _ id off g t =>
  simp only[AS.mem]at d;cases e:look id s.o with
  | none=>rw[e]at d;cases d
  | some m =>
   rw[e]at d;injection d with d;subst d
   obtain⟨Q,T,vs,f,E,q⟩:=h.hs.objs id m e (by rw[t];rfl);rw[t]at f;injection f with f;injection f with f;injection f with f;injection f with f;subst f
   refine⟨g,off,fun i=>(vs[off+i]?).getD (.bool true),rfl,fun i c k=>?_⟩;rw[acN]at k;have z:off+i<vs.size:=by have:=(io.1 k).1;rw[q.len]at this;simpa using this
   have B:vs[off+i]?=some vs[off+i]:=iO z;have C:vs.toList[off+i]?=some vs[off+i]:=by simp
   rw[ami w g _ vs T (0,0) E];simp only[B,IF];exact⟨trivial,q.one _ (by simp),q.rel _ _ _ k C⟩
 | pp _ id g off t =>
  simp only[AS.mem]at d;cases e:look id s.o with
  | none=>rw[e]at d;cases d
  | some m =>
   rw[e]at d;injection d with d;subst d
   obtain⟨Q,T,vs,f,E,q⟩:=h.hs.objs id m e (by rw[t];rfl);rw[t]at f;injection f with f;injection f with f;injection f with f;injection f with f;subst f
   refine⟨g,off,fun i=>(vs[off+i]?).getD (.bool true),rfl,fun i c k=>?_⟩;rw[acN]at k;have z:off+i<vs.size:=by have:=(io.1 k).1;rw[q.len]at this;simpa using this
   have B:vs[off+i]?=some vs[off+i]:=iO z;have C:vs.toList[off+i]?=some vs[off+i]:=by simp
   rw[ami w g _ vs T (0,0) E];simp only[B,IF];exact⟨trivial,q.one _ (by simp),q.rel _ _ _ k C⟩
 | eptr _ id sz j off g n c t =>
  simp only[AS.mem]at d;cases e:look id s.r with
  | none=>rw[e]at d;cases d
  | some ar =>
   simp only[e]at d;split at d
   ·rename_i O;cases K:ar.l[j]? with
    | none=>rw[K]at d;cases d
    | some L =>
     rw[K]at d;injection d with d
     obtain⟨v,xs,f,E,q,W,X⟩:=h.hs.arrs id ar e (by rw[t];rfl);rw[t]at f;injection f with f;subst f
     obtain⟨B,_⟩|⟨Q,V,J,B,Y,Z,a0,S,N,A⟩:=E.2
     ·cases B
     ·injection B with F hn u
      injection F with F;injection F with F;subst F
      refine⟨g,j*sz+off,fun i=>(xs[j*sz+off+i]?).getD (.bool true),rfl,fun i c k=>?_⟩;have y:∃c0,L[off+i]?=some c0∧(c=c0∧id<TG∨c=c0.uN):=by
       subst d;split at k
       ·rename_i U;rw[acN]at k;exact⟨c,k,.inl ⟨rfl,U⟩⟩
       ·rw[An,acN]at k;cases R:L[off+i]? with
        | none=>rw[R]at k;cases k
        | some c0=>rw[R]at k;injection k with k;exact⟨c0,rfl,.inr k.symm⟩
      obtain⟨c0,y,M⟩:=y;obtain⟨x,D,I⟩:=X j L K _ c0 y;rw[O]at D;have P:xs[j*sz+off+i]?=some x:=by rw[amo];exact D
      have r:=W _ (lp D);have G:Rel (NN H.M ι) w bG c x:=by
       rcases M with⟨rfl,U⟩|rfl
       ·exact I.flat (by omega)
       ·exact I.uN r
      rw[amo];simp only[P,IF];refine⟨?_,r,G.mono (jf _) (fun _ _ h=>h) (fun _ _ _=>rfl) (fun _ _ h=>by cases h)⟩;rw[ami w g _ J _ (0,0) Z];rw[←A,yk]at D;split at D
      ·simpa using D
      ·cases D
   ·cases d
 | cptr _ m b o l Y hn f k I =>
  injection d with d;subst d
  exact⟨b,o,l,rfl,fun i c u=>⟨k i c u,f i,(I i c u).mono (by omega) (fun _ _ h=>h) (fun _ _ _=>rfl) (fun _ _ h=>by cases h)⟩⟩
 | _=>cases d
def iP(P:Program)(T:TypeId)(cs:List AV):Option AV :=
 match pC P T with
 | some true=>match cB P T with
  | some n=>if n≤cs.length then some (.agg (cs.take n)) else none
  | none=>none
 | some false=>cs.head?
 | none=>none
theorem N6{P:Program}{w:World}{N:Nat→Prop}{ι:Env}{T:TypeId}{cs:List AV}{v:AV}(h:iP P T cs=some v){b o:Nat}{e:Nat→Value}
  (m:∀(i:Nat) (c:AV),cs[i]?=some c→w.cell? ⟨b,o+i,none⟩=some (e i)∧(e i).oneCell'=true∧Rel N w ι c (e i)) :
  ∃x,(Instr.loadAt T (.pointer (some ⟨b,o,none⟩))).run P w=.ok x w∧Rel N w ι v x:=by
 unfold iP at h;cases l:P.underlying T with
 | none=>simp[pC,l]at h
 | some d =>
  cases q:d.isRow with
  | true =>
   simp only[pC,l,MO,q]at h;cases t:cB P T with
   | none=>simp[t]at h
   | some n =>
    simp only[t]at h;split at h
    ·rename_i B;injection h with h;subst h
     have f:∀i,((List.range n).map e)[i]?=if i<n then some (e i) else none:=fun i=>by
      by_cases k:i<n<;>simp[k]
     have C:w.rangeAt b o ((List.range n).map e):=fun j y a=>by
      rw[f]at a;split at a
      ·rename_i E;injection a with a;subst a
       have s:j<cs.length:=by omega
       exact(m j cs[j] (iN s)).1
      ·cases a
     refine⟨_,run_loadAt_mid w b o T _ d C l q (by rw[nw,List.length_range];exact t),.agg _ _ _ (by simp;omega) (fun y a=>?_) (fun i c y p a=>?_)⟩
     ·obtain⟨i,k,rfl⟩:=Dk.1 a;have r:i<cs.length:=by have:=acS.1 k;omega
      exact(m i cs[i] (iN r)).2.1
     ·rw[f]at a;rw[yk]at p;split at a
      ·rename_i k;rw[kc k]at p;injection a with a;subst a
       exact(m i c p).2.2
      ·cases a
    ·cases h
  | false =>
   simp only[pC,l,MO,q]at h;have A:cs[0]?=some v:=by simpa[ane]using h
   obtain⟨u,D,z⟩:=m 0 v A;refine⟨e 0,?_,z⟩;have g:(isAgg T).run P w=.ok false w:=by
    unfold isAgg;rw[th,n5 l w];cases d<;>simp_all
   simp only[alS]at u;simp[Instr.loadAt,Instr.sureAddr,loadVar,g,u]
def Good(b:Cx)(ι:Env)(s':AS)(a:Act)(o:Oper)(r:Result Next):Prop :=
 ∃ι',(∀i,some i≠o.dst→ι i=none→ι' i=none)∧((∃x w',r=.ok (.value x) w'∧aX b s' (a.put o.dst x) w' ι')∨(∃w',r=.ok .skip w'∧aX b s' (a.put o.dst undef) w' ι'))
def g9(k:IntKind)(x y:Int):Int:=k.wrap (BitVec.ofInt k.bits x &&& BitVec.ofInt k.bits y).toNat
def fg(k:IntKind)(x y:Int):Int:=k.wrap (BitVec.ofInt k.bits x ||| BitVec.ofInt k.bits y).toNat
def vk:BinOp→AV→AV→Option AV
 | .add,.int k x,.int a y=>if k=a then some (.int k (k.wrap (x+y))) else none
 | .sub,.int k x,.int a y=>if k=a then some (.int k (k.wrap (x-y))) else none
 | .mul,.int k x,.int a y=>if k=a then some (.int k (k.wrap (x*y))) else none
 | .quo,.int k x,.int a y=>if k=a∧¬ y=0 then some (.int k (k.wrap (x.tdiv y))) else none
 | .rem,.int k x,.int a y=>if k=a∧¬ y=0 then some (.int k (x.tmod y)) else none
 | .shr,.int k x,.int _ y=>if 0≤y then some (.int k (x / 2 ^ min y.toNat k.bits)) else none
 | .and,.int k x,.int a y=>if k=a then some (.int k (g9 k x y)) else none
 | .or,.int k x,.int a y=>if k=a then some (.int k (fg k x y)) else none
 | .shl,.int k x,.int _ y=>if 0≤y then some (.int k (k.wrap (x*2 ^ min y.toNat k.bits))) else none
 | .eql,.int k x,.int a y=>if k=a then some (.bool (x == y)) else none
 | .neq,.int k x,.int a y=>if k=a then some (.bool (x != y)) else none
 | .lss,.int k x,.int a y=>if k=a then some (.bool (decide (x<y))) else none
 | .leq,.int k x,.int a y=>if k=a then some (.bool (decide (x≤y))) else none
 | .gtr,.int k x,.int a y=>if k=a then some (.bool (decide (x>y))) else none
 | .geq,.int k x,.int a y=>if k=a then some (.bool (decide (x≥y))) else none
 | .eql,.str x,.str y=>some (.bool (x.toList == y.toList))
 | .neq,.str x,.str y=>some (.bool (!(x.toList == y.toList)))
 | _,_,_=>none
theorem ah0 {P:Program} {w:World} {N:Nat→Prop} {ι:Env} {op:BinOp} {u v r:AV} (h:vk op u v=some r) {x y:Value} (d:Rel N w ι u x) (e:Rel N w ι v y) (T:TypeId) (a b:Operand) :
    ∃z,(do eqGuard op T a b x y;binOp op T x y).run P w=.ok z w∧Rel N w ι r z:=by
  unfold vk at h;split at h<;>first
    | (cases h;done)
    | (cases d;cases e
       split at h
       · rename_i c
         first
          | (obtain⟨rfl,g⟩:=c;injection h with h;subst h
             refine⟨_,?_,.int _ _ _⟩;simp[eqGuard,binOp,Op.intDiv,g])
          | (injection h with h;subst h
             refine⟨_,?_,.int _ _ _⟩;simp[eqGuard,binOp,Op.shift,Int.not_lt.mpr c]
             done)
          | (have f:=fun k i x=>shift_shr_any k i x _ c
             injection h with h;subst h
             refine⟨_,?_,.int _ _ _⟩;simp[eqGuard,binOp,f]
             done)
          | (subst c;injection h with h;subst h
             first
              | (refine⟨_,?_,.int _ _ _⟩;simp[eqGuard,binOp,Op.intArith];done)
              | (refine⟨_,?_,.int _ _ _⟩;simp[eqGuard,binOp,Op.intBits,g9,fg];done)
              | (refine⟨_,?_,.bool _ _⟩;simp[eqGuard,binOp,Op.intCmp];done))
       · cases h)
    | (cases d;cases e
       injection h with h;subst h
       refine⟨_,?_,.bool _ _⟩;simp[eqGuard,binOp,Op.stringOp])
def II:UnOp→AV→Option AV
 | .not,.bool b=>some (.bool (!b))
 | .neg,.int k x=>some (.int k (k.wrap (0-x)))
 | _,_=>none
theorem WR{P}{w}{N}{ι}{op}{u r}(h:II op u=some r){x}(a:Rel N w ι u x):
  ∃z,(Op.unary op x).run P w=.ok z w∧Rel N w ι r z:=by
 unfold II at h;split at h<;>first|grind|(cases a;injection h with h;subst h;first|exact⟨_,rfl,.bool _ _⟩|exact⟨_,rfl,.int _ _ _⟩)
def NB(b:Bool)(x y:Option AV):Option AV :=
 match x,y with
 | some (.bool p),some (.bool q)=>some (.bool (bif b then p else q))
 | x,y=>if b=true then x else y
def zR(k:Nat):AV→Option AV
 | .ptr id off=>some (.ptr id (off+k))
 | .cptr cs=>some (.cptr (cs.drop k))
 | .eptr id sz j off=>some (.eptr id sz j (off+k))
 | .adr g off=>some (.adr g (off+k))
 | .pp _ g off=>some (.adr g (off+k))
 | _=>none
theorem VR{N:Nat→Prop}{w:World}{ι:Env}{k:Nat}{p q:AV}{x:Value}(h:zR k p=some q)(a:Rel N w ι p x):
  ∃b o,x=.pointer (some ⟨b,o,none⟩)∧Rel N w ι q (.pointer (some ⟨b,o+k,none⟩)):=by
 unfold zR at h;split at h<;>first|(cases h;done)|skip
 ·injection h with h;subst h
  cases a with
  | ptr _ _ _ g e=>exact⟨g,_,rfl,.ptr _ _ _ g e⟩
 ·injection h with h;subst h
  cases a with
  | cptr _ cs b o f l r j m s =>
   refine⟨b,o,rfl,.cptr _ _ b (o+k) (fun i=>f (k+i)) l r (fun i=>j _) (fun i x d=>?_) (fun i x d=>?_)⟩
   ·rw[acN]at d;have:=m _ x d;rwa[←amo]at this
   ·rw[acN]at d;exact s _ x d
 ·injection h with h;subst h
  cases a with
  | eptr _ _ _ _ _ g n c e =>
   refine⟨g,_,rfl,?_⟩;rw[amo];exact .eptr _ _ _ _ _ g n c e
 ·injection h with h;subst h
  cases a with
  | adr _ _ _=>exact⟨_,_,rfl,.adr _ _ _⟩
 ·injection h with h;subst h
  cases a with
  | pp _ _ _ _ _=>exact⟨_,_,rfl,.adr _ _ _⟩
theorem XE{P:Program}{w:World}{N:Nat→Prop}{ι:Env}{T:TypeId}{f k:Nat}{p q:AV}{x:Value}(a:IH P T f=some k)(h:zR k p=some q)(l:Rel N w ι p x):
  ∃z,(Instr.fieldAt T x f).run P w=.ok z w∧Rel N w ι q z:=by
 obtain⟨b,o,rfl,n⟩:=VR h l;unfold IH at a;split at a
 ·rename_i t s;split at a
  ·rename_i g e;split at a
   ·rename_i m d;injection a with a;subst a
    refine⟨_,?_,n⟩;cases c:P.info? g.type with
    | none=>simp[cB,c]at d
    | some i =>
     have r:i.size=m+1:=by simpa[cB,c]using d
     have j:¬ i.size=0:=by omega
     simp[Instr.fieldAt,n5 s,e,Instr.sureAddr,fieldPlace,sizeOf,typeInfo,c,r,ajg]
   grind
  grind
 grind
def sX(P:Program)(s:AS)(T:TypeId)(x:AV)(i:Int):Option AV :=
 if 0≤i then
  match mK P T with
  | some (n,k)=>if i.toNat<n then zR (i.toNat*k) x else none
  | none=>match gk P T with
   | some (_,k)=>match x with
    | .sl l=>match l[i.toNat]? with
     | some e=>if e.length=k then some (.cptr e) else none
     | none=>none
    | .ref id=>match look id s.r with
     | some a=>if a.sz=k∧i.toNat<a.l.length then some (.eptr id k i.toNat 0) else none
     | none=>none
    | .sref id sz off m=>if sz=k∧i.toNat<m then some (.eptr id k (off+i.toNat) 0) else none
    | _=>none
   | none=>none
 else none
theorem agp{y:Cx}{s:AS}{a:Act}{w:World}{ι:Env}(J:aX y s a w ι){T:TypeId}{x r:AV}{k:IntKind}{i:Int}(h:sX y.P s T x i=some r){X:Value}(O:Rel (NN y.M ι) w ι x X):
  ∃z,(Instr.indexAt T X (.int k i)).run y.P w=.ok z w∧Rel (NN y.M ι) w ι r z:=by
 unfold sX at h;split at h
 ·rename_i N;split at h
  ·rename_i n sz j;split at h
   ·rename_i G;obtain⟨b,o,rfl,hq⟩:=VR h O;refine⟨_,?_,hq⟩;unfold mK at j;split at j
    ·rename_i n' e L;cases C:cB y.P e with
     | none=>rw[C]at j;cases j
     | some u =>
      rw[C]at j;injection j with j;injection j with H Q;subst H;subst Q
      cases f:y.P.info? e with
      | none=>simp[cB,f]at C
      | some V =>
       have I:V.size=u:=by simpa[cB,f]using C
       have d:i<(n':Int):=by omega
       simp[Instr.indexAt,asIntOf,n5 L,Instr.sureAddr,N,d,sizeOf,typeInfo,f,I,ajg]
    ·cases j
   ·cases h
  ·split at h
   ·rename_i e sz p;unfold gk at p;split at p
    ·rename_i Y L;cases C:cB y.P Y with
     | none=>rw[C]at p;cases p
     | some u =>
      rw[C]at p;injection p with p;injection p with he Q;subst he;subst Q
      cases f:y.P.info? Y with
      | none=>simp[cB,f]at C
      | some V =>
       have I:V.size=u:=by simpa[cB,f]using C
       split at h
       ·rename_i l;split at h
        ·rename_i el t;split at h
         ·rename_i F;injection h with h;subst h
          cases O with
          | sl0 A c=>simp at t
          | sl _ _ b o c D W U hb H E hc hr _ =>
           have G:i.toNat<l.length:=(io.1 t).1;have d:i<(l.length:Int):=by omega
           have K:D=u:=by rw[←F];exact(U el (lp t)).symm
           subst K;refine⟨.pointer (some ⟨b,o+i.toNat*D,none⟩),?_,.cptr _ _ b _ (W i.toNat) hb H (E _) (hc _ _ t) (hr _ _ t)⟩;simp[Instr.indexAt,asIntOf,n5 L,N,d,sizeOf,typeInfo,f,I,ajg]
         ·cases h
        ·cases h
       ·rename_i id;split at h
        ·rename_i ar P;split at h
         ·rename_i q;injection h with h;subst h
          cases O with
          | ref _ _ A n c M =>
           obtain⟨v,xs,E,h2,h3,h4,h5⟩:=J.hs.arrs id ar P (by rw[M];rfl);rw[M]at E;injection E with E;subst E
           obtain⟨hv,h0⟩|⟨Z,b0,c0,hv,hb,hg,e0,a0,R,S⟩:=h2.2
           ·omega
           ·injection hv with hA H d0
            subst hA;subst H;have d:i<(ar.l.length:Int):=by omega
            refine⟨.pointer (some ⟨Z,i.toNat*u+0,none⟩),?_,.eptr _ _ _ _ _ Z _ c M⟩;simp[Instr.indexAt,asIntOf,n5 L,N,d,sizeOf,typeInfo,f,I,ajg]
         ·cases h
        ·cases h
       ·rename_i id D off m;split at h
        ·rename_i q;obtain⟨rfl,G⟩:=q;injection h with h;subst h
         cases O with
         | sref _ _ _ _ _ n c c' A B M hB =>
          rcases hB with hB|⟨g,rfl,rfl,_⟩
          ·omega
          ·have d:i<(m:Int):=by omega
           refine⟨.pointer (some ⟨g,(off+i.toNat)*D+0,none⟩),?_,.eptr _ _ _ _ _ g n c M⟩;rw[alS,aix];simp[Instr.indexAt,asIntOf,n5 L,N,d,sizeOf,typeInfo,f,I,ajg]
        ·cases h
       ·cases h
    grind
   grind
 grind
def kj:AV→Option (List AV)
 | .agg cs=>some cs
 | .tup _=>none
 | v=>some [v]
theorem z8{N:Nat→Prop}{w:World}{ι:Env}{v:AV}{x:Value}{cs:List AV}(h:kj v=some cs)(g:Rel N w ι v x):Cells N w ι cs x.cells.toList:=by
 have key:∀(y:Value),Rel N w ι v y→v.En=true→y.cells = #[y]→Cells N w ι [v] y.cells.toList:=fun y j m k=>by
  rw[k];exact⟨rfl,fun u d=>by simp at d;subst d;exact j.one m,fun i c u b d=>by
   cases i with
   | zero=>simp at b d;subst b;subst d;exact j
   | succ i=>simp at b⟩
 unfold kj at h;split at h
 ·injection h with h;subst h
  cases g with
  | agg _ _ vs l f n=>exact⟨by simpa[Value.cells]using l,by simpa[Value.cells]using f,by simpa[Value.cells]using n⟩
 ·cases h
 ·rename_i f o;injection h with h;subst h
  cases g<;>first
   | exact key _ (by constructor<;>assumption) rfl rfl
   | (rename_i a;exact key _ (.any _ _ a) rfl (by cases x<;>first|rfl|cases a))
   | (rename_i a;exact key _ (.vv _ _ a) rfl (by cases x<;>first|rfl|cases a))
   | (rename_i e a;exact key _ (.lk _ _ _ _ e a) rfl (by cases x<;>first|rfl|cases a))
   | grind
   | grind
def jo(off:Nat)(a cs:List AV):List AV:=cs.take off++a++cs.drop (off+a.length)
theorem kJ{α:Type} off(a cs:List α)(h:off+a.length≤cs.length) i:(cs.take off++a++cs.drop (off+a.length))[i]?=if i<off then cs[i]? else if i<off+a.length then a[i-off]? else cs[i]?:=by
 have b:(cs.take off).length=off:=by grind
 grind
theorem nV{α:Type} off(a cs:List α)(h:off+a.length≤cs.length):(cs.take off++a++cs.drop (off+a.length)).length=cs.length:=by
 grind
theorem Cells.jo{N:Nat→Prop}{w:World}{ι:Env}{cs e:List AV}{vs c:eb}(h:Cells N w ι cs vs)(f:Cells N w ι e c){off:Nat}(k:off+e.length≤cs.length):
  Cells N w ι (jo off e cs) (vs.take off++c++vs.drop (off+c.length)):=by
 have d:off+c.length≤vs.length:=by rw[←f.len,← h.len];exact k
 refine⟨?_,fun v a=>?_,fun i x v b a=>?_⟩
 ·unfold Proofs.YtocgkfoifehcbaaGreat.jo;rw[nV off e cs k,nV off c vs d,h.len]
 ·rcases ls.1 a with a|a
  ·rcases ls.1 a with a|a
   ·exact h.one v (oR a)
   ·exact f.one v a
  ·exact h.one v (v9 a)
 ·unfold Proofs.YtocgkfoifehcbaaGreat.jo at b;rw[kJ off e cs k]at b;rw[kJ off c vs d]at a;rw[f.len]at b;split at b
  ·rename_i g;rw[kc g]at a;exact h.rel i x v b a
  ·rename_i g;rw[kb g]at a;split at b
   ·rename_i j;rw[kc j]at a;exact f.rel _ x v b a
   ·rename_i j;rw[kb j]at a;exact h.rel i x v b a
def rD(P:Program)(s:AS)(T:TypeId)(p v:AV):Option AS :=
 match p with
 | .ptr id off=>match look id s.o,kj v with
  | some cs,some b=>if cB P T=some b.length∧off+b.length≤cs.length then some { s with o:=bm id (jo off b cs) s.o } else none
  | _,_=>none
 | .eptr id sz j off=>match look id s.r,kj v with
  | some a,some b=>match a.l[j]? with
   | some e=>if a.sz=sz∧cB P T=some b.length∧off+b.length≤e.length∧ep [] b=true then some { s with r:=bm id { a with l:=a.l.set j (jo off b e) } s.r } else none
   | none=>none
  | _,_=>none
 | _=>none
theorem T9{P:Program}{w:World}{g off:Nat}{T T':TypeId}{a:Array Value}{x:Value}(d:w.heap[g]?=some (.cells a T' (0,0)))(j:cB P T=some x.cells.toList.length)(h:off+x.cells.toList.length≤a.size)(c:∀v∈x.cells.toList,v.oneCell'=true):
  (Instr.storeAt T (.pointer (some ⟨g,off,none⟩)) x).run P w=.ok () (w.setRow g (a.toList.take off++x.cells.toList++a.toList.drop (off+x.cells.toList.length)).toArray):=by
 have b:=run_storeCells_at P g off T' x.cells.toList 0 a w d (by grind) c;cases e:P.info? T with
 | none=>grind[cB]
 | some i =>
  have f:i.size=x.cells.size:=by grind[cB]
  simp only[alS]at b;simp[Instr.storeAt,Instr.sureAddr,storeVar,sizeOf,typeInfo,e,f,b]
theorem Cells.OI{N}{w}{ι}{cs}{vs}(h:Cells N w ι cs vs)(b:ep [] cs=true) ι':Cells N w ι' cs vs :=
 ⟨h.len,h.one,fun i x v a c=>(h.rel i x v a c).pure (l5 b i x a) ι'⟩
theorem HS.aeO{M:Nat→Prop}{w0:aC}{w:World}{ι:Env}{s:AS}(h:HS M w0 w ι s){id g n c:Nat}{ar:bW}{j off:Nat}{e nv:List AV}{u:eb}
  (e0:look id s.r=some ar) (D:ι id=some (.slice (some ⟨g,0,none⟩) n c)) (he:ar.l[j]?=some e) (hl:off+nv.length≤e.length) (F:Cells (NN M ι) w bG nv u) :
  ∃d T,w.heap[g]?=some (.cells d T (0,0))∧j*ar.sz+off+u.length≤d.size ∧
   HS M w0 (w.setRow g (d.toList.take (j*ar.sz+off)++u++d.toList.drop (j*ar.sz+off+u.length)).toArray) ι { s with r:=bm id { ar with l:=ar.l.set j (jo off nv e) } s.r }:=by
 obtain⟨v,xs,J,h2,h3,h4,h5⟩:=h.arrs id ar e0 (by rw[D];rfl);rw[D]at J;injection J with J;subst J
 have E:bw (ι id)=some g:=by rw[D];rfl
 obtain⟨hv,_⟩|⟨R,o0,d,hv,o,hg,Z,V,B,O⟩:=h2.2
 ·cases hv
 injection hv with U hn f0
 injection U with U;injection U with U;subst U;subst f0
 have X:j<ar.l.length:=(io.1 he).1;have g0:e.length=ar.sz:=h3 e (lp he);have b0:xs.length=ar.l.length*ar.sz:=h2.1;have m0:(j+1)*ar.sz≤ar.l.length*ar.sz:=Qf _ X;have i0:ar.l.length*ar.sz≤c*ar.sz:=Qf _ Z;have q0:(j+1)*ar.sz=j*ar.sz+ar.sz:=by rw[aix,alY]
 have z:j*ar.sz+off+u.length≤d.size:=by rw[←F.len,B];omega
 have p:j*ar.sz+off+u.length≤xs.length:=by rw[←F.len,b0];omega
 refine⟨d,ar.e,hg,z,?_⟩;generalize hC:(d.toList.take (j*ar.sz+off)++u++d.toList.drop (j*ar.sz+off+u.length)).toArray=C;have P:∀b,b<w.heap.size→¬ NN M ι b→(w.setRow g C).heap[b]?=w.heap[b]?:=fun b _ o=>eK (fun e=>o (.inr ⟨id,by rw[e];exact E⟩));obtain⟨ho,s0⟩:=h.own id g E;refine⟨?_,h.old,h.use,fun i k t=>?_,h.inj,h.ko,fun i a y=>?_,fun i cs y hp=>?_,fun i a y hp=>?_,h.pin⟩
 ·exact h.below.trans ⟨rfl,rfl,rfl,by simp,fun k t hG=>eK (fun e=>by subst e;rcases ho with ho|ho;exact Nat.lt_irrefl _ (u7 t ho);exact hG ho)⟩
 ·have:=h.own i k t;simp;exact this
 ·simp only[cr]at y;by_cases Q:i=id
  ·subst Q;exact h.use i _ D
  ·rw[kb Q]at y;exact h.kr i a y
 ·obtain⟨R,T',l0,J,K,L⟩:=h.objs i cs y hp;have k0:R≠g:=fun I=>by
   have:=h.inj i id g (by rw[J,I];rfl) E;subst this;rw[J]at D;cases D
  exact⟨R,T',l0,J,(eK k0).trans K,L.mono (by simp) (fun b _ o=>o) P (fun _ _ h=>h)⟩
 ·simp only[cr]at y;by_cases Q:i=id
  ·subst Q;rw[kc rfl]at y;injection y with y;subst y
   refine⟨_,xs.take (j*ar.sz+off)++u++xs.drop (j*ar.sz+off+u.length),D,⟨?_,.inr ⟨g,c,C,?_,o,anE w g d _ _ _ hg,?_,V,?_,?_⟩⟩,?_,?_,?_⟩
   ·rw[nV _ _ _ p];simpa using b0
   ·simp[hn]
   ·simpa using Z
   ·rw[←B,← hC];have A:=z;rw[←Dj]at A;rw[am3,nV _ _ _ A,Dj]
   ·rw[←hC];apply al1;intro i;simp only[yk,alU];rw[kJ _ _ _ (by simpa using z),kJ _ _ _ p];have ht:∀i,xs[i]?=if i<ar.l.length*ar.sz then d.toList[i]? else none:=fun i=>by rw[←O,yk]
    simp only[ht];have p0:=F.len;by_cases g1:i<ar.l.length*ar.sz
    ·simp only[kc g1]
    ·simp only[kb g1];have g2:¬ i<j*ar.sz+off:=by omega
     have g3:¬ i<j*ar.sz+off+u.length:=by omega
     simp only[kb g2,kb g3]
   ·intro I G;simp only[]at G⊢;rcases alZ G with G|rfl
    ·exact h3 I G
    ·unfold jo;rw[nV _ _ _ hl];exact g0
   ·intro x m;rcases ls.1 m with m|m
    ·rcases ls.1 m with m|m
     ·exact h4 x (oR m)
     ·exact F.one x m
    ·exact h4 x (v9 m)
   ·intro j' I f k c' t;simp only[]at f⊢;rw[kJ _ _ _ p];rw[al9]at f;by_cases ej:j=j'
    ·subst ej;rw[kc rfl,kc X]at f;injection f with f;subst f
     unfold jo at t;have Y:k<e.length:=by have:=(io.1 t).1;rwa[nV _ _ _ hl]at this
     rw[kJ _ _ _ hl]at t;split at t
     ·rename_i g1;obtain⟨x,m,N⟩:=h5 j e he k c' t;rw[kc (by omega)];exact⟨x,m,N.mono (by simp) (fun b _ o=>o) P (fun _ h=>h) (fun r q=>eK (fun e=>h.ot q D (fun _ e=>by cases e) (by rw[e];rfl))) (fun h=>h)⟩
     ·rename_i g1;split at t
      ·rename_i g2;have H:k-off<u.length:=by rw[←F.len];omega
       rw[kb (by omega),kc (by rw[←F.len];omega)];have e2:j*ar.sz+k-(j*ar.sz+off)=k-off:=by omega
       rw[e2];exact⟨u[k-off],iN H,.inl ((F.rel _ _ _ t (iN H)).mono (by simp) (fun b _ o=>o) P (fun _ _ h=>h))⟩
      ·rename_i g2;obtain⟨x,m,N⟩:=h5 j e he k c' t;rw[kb (by omega),kb (by rw[←F.len];omega)];exact⟨x,m,N.mono (by simp) (fun b _ o=>o) P (fun _ h=>h) (fun r q=>eK (fun e=>h.ot q D (fun _ e=>by cases e) (by rw[e];rfl))) (fun h=>h)⟩
    ·rw[kb ej]at f;obtain⟨x,m,N⟩:=h5 j' I f k c' t;have Y:k<ar.sz:=by have:=(io.1 t).1;rwa[h3 I (lp f)]at this
     have r0:off+u.length≤ar.sz:=by rw[←F.len];omega
     refine⟨x,?_,N.mono (by simp) (fun b _ o=>o) P (fun _ h=>h) (fun r q=>eK (fun e=>h.ot q D (fun _ e=>by cases e) (by rw[e];rfl))) (fun h=>h)⟩;rcases Nat.lt_or_gt_of_ne ej with a0|W
     ·have:(j+1)*ar.sz≤j'*ar.sz:=Qf _ a0;rw[kb (by omega),kb (by omega)];exact m
     ·have:(j'+1)*ar.sz≤j*ar.sz:=Qf _ W;rw[aix,alY]at this;rw[kc (by omega)];exact m
  ·rw[kb Q]at y;obtain⟨v',xs',S,K,L,c0,d0⟩:=h.arrs i a y hp;refine⟨v',xs',S,f8 K (fun R h0=>eK ?_),L,c0,fun j el hj k c H=>?_⟩
   ·intro I;subst I;exact Q (h.inj i id R (by rw[S];exact h0) E)
   ·obtain⟨x,m,N⟩:=d0 j el hj k c H;exact⟨x,m,N.mono (by simp) (fun b _ o=>o) P (fun _ h=>h) (fun r q=>eK (fun e=>h.ot q D (fun _ e=>by cases e) (by rw[e];rfl))) (fun h=>h)⟩
theorem aba{r:Cx}{s s':AS}{a:Act}{w:World}{ι:Env}(f:aX r s a w ι){T:TypeId}{p v:AV}(h:rD r.P s T p v=some s'){X Y:Value}(B:Rel (NN r.M ι) w ι p X)(C:Rel (NN r.M ι) w ι v Y):
  ∃w',(Instr.storeAt T X Y).run r.P w=.ok () w'∧aX r s' a w' ι:=by
 unfold rD at h;split at h
 ·rename_i id off;split at h
  ·rename_i cs J x o;split at h
   ·rename_i d;injection h with h;subst h
    cases B with
    | ptr _ _ _ g q =>
     obtain⟨K,T',vs,i,z,A⟩:=f.hs.objs id cs x (by rw[q];rfl);rw[q]at i;injection i with i;injection i with i;injection i with i;injection i with i;subst i
     have k:=z8 o C;have m:bw (ι id)=some g:=by rw[q];rfl
     refine⟨_,T9 z (by rw[←k.len];exact d.1) (by have:=A.len;have:=d.2;rw[←k.len];simp at *;omega) k.one,?_⟩;refine f.world (f.hs.setObj q z (A.jo k d.2)) rfl (by simp) (fun b _ l=>l) (fun b _ l=>eK (fun e=>l (.inr ⟨id,by rw[e];exact m⟩))) (fun _ _ h=>h)
   ·cases h
  ·cases h
 ·rename_i id sz j off;split at h
  ·rename_i ar J u o;split at h
   ·rename_i e H;split at h
    ·rename_i d;obtain⟨c1,D,E,F⟩:=d;subst c1;injection h with h;subst h
     cases B with
     | eptr _ _ _ _ _ g n c q =>
      have k:=z8 o C;obtain⟨G,T',I,t,y⟩:=f.hs.aeO u q H E (k.OI F bG);have m:bw (ι id)=some g:=by rw[q];rfl
      refine⟨_,T9 I (by rw[←k.len];exact D) t k.one,?_⟩;refine f.world y rfl (by simp) (fun b _ l=>l) (fun b _ l=>eK (fun e=>l (.inr ⟨id,by rw[e];exact m⟩))) (fun _ _ h=>h)
    grind
   grind
  grind
 grind
theorem aef(l:eb):∀(off:Nat) (cs:Array Value),off+l.length≤cs.size →
  ((l.zipIdx off).foldl (fun (a:Array Value) (x:Value×Nat)=>a.setIfInBounds x.2 x.1) cs).toList=cs.toList.take off++l++cs.toList.drop (off+l.length):=by
 induction l with
 | nil=>intro off cs _;simp
 | cons v r e =>
  intro off cs h;simp only[la]at h;simp only[List.zipIdx_cons,al2];rw[e (off+1) _ (by simp;omega)];simp only[amW,la];have b:off<cs.toList.length:=by simp;omega
  have c:(cs.toList.set off v).take (off+1)=cs.toList.take off++[v]:=by
   rw[ace (by simpa using b),List.take_set,am4 (by rw[IN];omega)];simp
  have d:(cs.toList.set off v).drop (off+1+r.length)=cs.toList.drop (off+(r.length+1)):=by
   rw[List.drop_set,kc (by omega)];congr 1;omega
  rw[c,d];simp
theorem Qs(cs f:Array Value)(off:Nat)(h:off+f.size≤cs.size):
  (f.zipIdx.foldl (fun (a:Array Value) (x:Value×Nat)=>a.setIfInBounds (off+x.2) x.1) cs)=(cs.toList.take off++f.toList++cs.toList.drop (off+f.toList.length)).toArray:=by
 have e:=aef f.toList off cs (by simpa using h);rw[←Array.foldl_toList];simp only[Array.toList_zipIdx];have key:∀(l:eb) (k:Nat) (a:Array Value),(l.zipIdx k).foldl (fun (a:Array Value) (x:Value×Nat)=>a.setIfInBounds (off+x.2) x.1) a=(l.zipIdx (off+k)).foldl (fun (a:Array Value) (x:Value×Nat)=>a.setIfInBounds x.2 x.1) a:=by
  intro l
  induction l with
  | nil=>intro k a;rfl
  | cons v r b=>intro k a;simp only[List.zipIdx_cons,al2];rw[b];rfl
 grind
def yz(pl:List ek)(cs:List AV):List (Nat×AV)→Option (List AV)
 | []=>some cs
 | (i,v)::r=>match pl[i]?,kj v with
  | some (off,sz),some a=>if a.length=sz∧off+a.length≤cs.length then yz pl (jo off a cs) r else none
  | _,_=>none
def lH(s:AS):List (Nat×Operand)→Option (List (Nat×AV))
 | []=>some []
 | (i,x)::r=>match s.ev x,lH s r with|some v,some l=>some ((i,v)::l)|_,_=>none
theorem F8{N:Nat→Prop}{w:World}{ι:Env}{pl:List ek}{a:Nat→Option ek}(g:∀i l,pl[i]?=some l→a i=some l):∀{ps:List (Nat×AV)} {qs:List (Nat×Value)} {cs b:List AV} {zs:Array Value},Cells N w ι cs zs.toList →
  ps.length=qs.length→(∀(i:Nat) (p:Nat×AV) (q:Nat×Value),ps[i]?=some p→qs[i]?=some q→p.1=q.1∧Rel N w ι p.2 q.2)→yz pl cs ps=some b→∃d,Instr.fill a zs qs=some d∧Cells N w ι b d.toList
 | [],[],cs,b,zs,m,_,_,h=>by injection h with h;subst h;exact⟨zs,rfl,m⟩
 | [],_::_,_,_,_,_,f,_,_=>by simp at f
 | _::_,[],_,_,_,_,f,_,_=>by simp at f
 | (i,v)::ps,(j,x)::qs,cs,b,zs,m,f,B,h=>by
  obtain⟨y,z⟩:=B 0 (i,v) (j,x) rfl rfl;simp only[]at y z;subst y;simp only[yz]at h;cases c:pl[i]? with
  | none=>rw[c]at h;cases h
  | some l =>
   have E:=g i l c;obtain⟨off,sz⟩:=l;cases u:kj v with
   | none=>rw[c,u]at h;cases h
   | some F =>
    rw[c,u]at h;simp only[]at h;split at h
    ·rename_i e;have A:=z8 u z;have n:=m.len;have o:=A.len;simp only[Dj]at n o;have t:=m.jo A e.2;obtain⟨d,C,D⟩:=F8 g (zs:=(zs.toList.take off++x.cells.toList++zs.toList.drop (off+x.cells.toList.length)).toArray) (by simpa using t) (by simpa using f) (fun k p q r s=>B (k+1) p q (by simpa using r) (by simpa using s)) h;refine⟨d,?_,D⟩;unfold Instr.fill;rw[E];simp only[];rw[kb (by simp;omega),Qs zs x.cells off (by omega)];exact C
    ·cases h
theorem Ck{g:Cx}{s:AS}{a:Act}{w:World}{ι:Env}(h:aX g s a w ι):∀{ps:List (Nat×Operand)} {l:List (Nat×AV)},lH s ps=some l→l.length=(ps.map fun y=>(y.1,a.eval y.2)).length ∧
  ∀(i:Nat) (p:Nat×AV) (q:Nat×Value),l[i]?=some p→(ps.map fun y=>(y.1,a.eval y.2))[i]?=some q→p.1=q.1∧Rel (NN g.M ι) w ι p.2 q.2
 | [],l,e=>by injection e with e;subst e;exact⟨rfl,fun i p q b _=>by simp at b⟩
 | (i,x)::r,l,e=>by
  unfold lH at e;cases c:s.ev x with
  | none=>rw[c]at e;cases e
  | some v =>
   cases d:lH s r with
   | none=>rw[c,d]at e;cases e
   | some l' =>
    rw[c,d]at e;injection e with e;subst e
    obtain⟨j,m⟩:=Ck h d;refine⟨by simp at j;simp[j],fun k p q b f=>?_⟩;cases k with
    | zero=>simp at b f;subst b;subst f;exact⟨rfl,h.ev c⟩
    | succ k=>exact m k p q (by simpa using b) (by simpa using f)
def rV(P:Program)(s:AS)(T:TypeId)(parts:List (Nat×Operand)):Option AV :=
 match Ln P T,ft P T,lH s parts with
 | some pl,some z,some ps=>(yz pl z ps).map .agg
 | _,_,_=>none
theorem acq{b:Cx}{s:AS}{a:Act}{w:World}{ι:Env}(r:aX b s a w ι){T:TypeId}{parts:Array (Nat×Operand)}{v:AV}(h:rV b.P s T parts.toList=some v):
  ∃x,(Instr.build T (parts.map fun (i,x)=>(i,a.eval x))).run b.P w=.ok x w∧Rel (NN b.M ι) w ι v x:=by
 unfold rV at h;cases c:Ln b.P T with
 | none=>rw[c]at h;cases h
 | some pl =>
  cases o:ft b.P T with
  | none=>rw[c,o]at h;cases h
  | some z =>
   cases C:lH s parts.toList with
   | none=>rw[c,o,C]at h;cases h
   | some ps =>
    simp only[c,o,C]at h;cases u:yz pl z ps with
    | none=>simp[u]at h
    | some cs =>
     simp only[u,MO,sj]at h;subst h;obtain⟨E,F⟩:=Ck r C;unfold ft at o;cases g:b.P.info? T with
     | none=>simp[g]at o
     | some K =>
      cases p:K.zero with
      | none=>simp[g,p]at o
      | some G =>
       simp only[g,h7,p]at o;have I:(parts.map fun (y:Nat×Operand)=>(y.1,a.eval y.2)).toList=parts.toList.map fun y=>(y.1,a.eval y.2):=alG;have B:∃j,b.P.built T (parts.map fun (y:Nat×Operand)=>(y.1,a.eval y.2)).toList=some j∧Cells (NN b.M ι) w ι cs j.toList:=by
        rw[I];unfold Program.built;unfold Ln at c;cases t:b.P.underlying T with
        | none=>simp[t]at c
        | some d =>
         cases d<;>try (simp[t]at c;done)
         case array n e =>
          cases q:b.P.info? e with
          | none=>simp[t,cB,q]at c
          | some M =>
           simp only[t,cB,q,MO,sj]at c;subst c;simp only[g,p,q];refine F8 (fun i L m=>?_) (zs:=G.cells) (mE (NN b.M ι) w ι o) E F u;rw[An]at m;cases D:(List.range n)[i]? with
           | none=>rw[D]at m;cases m
           | some k =>
            rw[D]at m;injection m with m;subst m
            have:=(io.1 D).2;simp at this;subst this;rfl
         case struct l =>
          simp only[t,cB,Option.map_map]at c;have J:l.toList.mapM (fun f=>(b.P.info? f.type).map fun i=>(f.offset,i.size))=some pl:=c;simp only[g,p,J];exact F8 (fun i L m=>by simpa using m) (zs:=G.cells) (mE (NN b.M ι) w ι o) E F u
       obtain⟨j,H,A⟩:=B;refine⟨_,run_build w T _ j H,?_⟩;have:=Rel.agg (N:=NN b.M ι) (w:=w) ι cs j.toList A.len A.one A.rel;simpa using this
def ji:AV→AV
 | .nils=>.sl []
 | v=>v
theorem akR{N}{w}{ι}{v}{x}(h:Rel N w ι v x):Rel N w ι (ji v) x:=by
 cases h<;>first|grind|(constructor<;>assumption)
theorem Cells.pz{N}{w}{ι}{cs}{vs}(h:Cells N w ι cs vs):Cells N w ι (cs.map ji) vs :=
 ⟨by simpa using h.len,h.one,fun i x v a b=>by
  rw[An]at a;cases e:cs[i]? with
  | none=>grind
  | some c=>rw[e]at a;injection a with a;subst a;exact akR (h.rel i c v e b)⟩
def ahR:Nat:=900000
def rS(z:Bool)(cs:List AV):List AV:=match z with
 | true=>cs
 | false=>cs.map ji
theorem Cells.rS{N}{w}{ι}{cs}{vs}(h:Cells N w ι cs vs) z:Cells N w ι (rS z cs) vs:=by
 cases z
 ·exact h.pz
 ·exact h
theorem afl z cs:(rS z cs).length=cs.length:=by cases z<;>simp[rS]
def Am(z:Bool)(sz k:Nat):List (Nat×AV)→Option (List (List AV))
 | []=>some []
 | (i,v)::r=>match kj v,Am z sz (k+1) r with
  | some a,some l=>if i=k∧a.length=sz∧ep [] a=true then some (rS z a::l) else none
  | _,_=>none
theorem KX{N:Nat→Prop}{w:World}{ι:Env}{sz:Nat}{z:Bool}:∀{ps:List (Nat×AV)} {qs:List (Nat×Value)} {k:Nat} {zs:Array Value} {l:List (List AV)},
  ps.length=qs.length→(∀(i:Nat) (p:Nat×AV) (q:Nat×Value),ps[i]?=some p→qs[i]?=some q→p.1=q.1∧Rel N w ι p.2 q.2)→Am z sz k ps=some l→(k+ps.length)*sz≤zs.size →
  ∃a n,Instr.fill (fun i=>some (i*sz,sz)) zs qs=some a∧a.toList=zs.toList.take (k*sz)++n++zs.toList.drop ((k+ps.length)*sz)∧n.length=ps.length*sz∧l.length=ps.length∧(∀e∈l,e.length=sz)∧(∀y∈n,y.oneCell'=true) ∧
   (∀(j:Nat) (e:List AV),l[j]?=some e→∀(i:Nat) (x:AV),e[i]?=some x→∃v,n[j*sz+i]?=some v∧Rel N w bG x v)
 | [],[],k,zs,l,_,_,h,_=>by
  injection h with h;subst h
  exact⟨zs,[],rfl,by simp,by simp,rfl,fun e he=>(by cases he),fun y g=>(by cases g),fun j e he=>by simp at he⟩
 | [],_::_,_,_,_,r,_,_,_=>by simp at r
 | _::_,[],_,_,_,r,_,_,_=>by simp at r
 | (i,v)::ps,(j,x)::qs,k,zs,l,r,J,h,K=>by
  obtain⟨H,I⟩:=J 0 (i,v) (j,x) rfl rfl;simp only[]at H I;subst H;simp only[Am]at h;cases t:kj v with
  | none=>rw[t]at h;cases h
  | some nv =>
   cases f:Am z sz (k+1) ps with
   | none=>rw[t,f]at h;cases h
   | some l' =>
    rw[t,f]at h;simp only[]at h;split at h
    ·rename_i b;obtain⟨rfl,O,P⟩:=b;injection h with h;subst h
     have A:=z8 t I;have B:=A.len;simp only[Dj]at B;simp only[la]at K r;have s:(i+1+ps.length)*sz≤zs.size:=by rw[show i+1+ps.length=i+(ps.length+1) by omega];exact K
     have X:(i+1)*sz=i*sz+sz:=by rw[aix,alY]
     have Y:(i+1)*sz≤zs.size:=aal (Qf _ (by omega)) s;have F:(zs.toList.take (i*sz)++x.cells.toList++zs.toList.drop (i*sz+x.cells.toList.length)).toArray.size=zs.size:=by
      rw[am3,nV _ _ _ (by simp;omega),Dj]
     obtain⟨a,n,Q,R,S,T,U,V,W⟩:=KX (zs:=(zs.toList.take (i*sz)++x.cells.toList++zs.toList.drop (i*sz+x.cells.toList.length)).toArray) (ps:=ps) (qs:=qs) (k:=i+1) (by omega)
      (fun k p q C D=>J (k+1) p q (by simpa using C) (by simpa using D)) f (by rw[F];exact s)
     refine⟨a,x.cells.toList++n,?_,?_,?_,by simp[T],?_,?_,?_⟩
     ·unfold Instr.fill;simp only[];rw[kb (by simp;omega),Qs zs x.cells (i*sz) (by omega)];exact Q
     ·rw[R];have Z:x.cells.toList.length=sz:=by simp;omega
      have t1:(zs.toList.take (i*sz)).length=i*sz:=by rw[IN,Dj];omega
      have L:((zs.toList.take (i*sz)++x.cells.toList++zs.toList.drop (i*sz+x.cells.toList.length)).toArray.toList).take ((i+1)*sz)=zs.toList.take (i*sz)++x.cells.toList:=by
       rw[amC (by rw[mm];omega)];rw[IT (by rw[mm];omega)]
      have M:((zs.toList.take (i*sz)++x.cells.toList++zs.toList.drop (i*sz+x.cells.toList.length)).toArray.toList).drop ((i+1+ps.length)*sz)=zs.toList.drop ((i+(ps.length+1))*sz):=by
       have hm:(i+1+ps.length)*sz=(i+1)*sz+ps.length*sz:=by rw[aix]
       rw[List.drop_append,ll (by rw[mm];omega),Dy,al0,mm,t1,Z];congr 1;rw[show i+(ps.length+1)=i+1+ps.length by omega];omega
      rw[L,M];simp
     ·rw[mm,S,la,aix,alY,Dj];omega
     ·intro e he;rcases qk.1 he with rfl|he
      ·rw[afl];exact O
      ·exact U e he
     ·intro y g;rcases ls.1 g with g|g
      ·exact A.one y g
      ·exact V y g
     ·intro j e he m c u;cases j with
      | zero =>
       simp at he;subst he;have o:=(A.OI P bG).rS z;have d:m<x.cells.toList.length:=by have:=(io.1 u).1;rw[o.len]at this;exact this
       refine⟨x.cells.toList[m],?_,o.rel m c _ u (iN d)⟩;rw[Nat.zero_mul,DO,Dz d,iN d]
      | succ j =>
       simp at he;obtain⟨v',G,E⟩:=W j e he m c u;refine⟨v',?_,E⟩;rw[AT (by rw[aix,alY,Dj];omega),Dj,aix,alY];rw[show j*sz+sz+m - x.cells.size=j*sz+m by omega];exact G
    ·cases h
def o9(P:Program)(s:AS)(T:TypeId)(a:Nat)(parts:List (Nat×Operand)):Option AV :=
 match gk P T,lH s parts with
 | some (e,sz+1),some ps=>match Am (s.u.contains ahR) (sz+1) 0 ps with
  | some l=>if ps.length=a∧0<a∧a*(sz+1)≤16777216∧(ft P e).isSome=true then some (.sl l) else none
  | none=>none
 | _,_=>none
theorem ahm{k:Cx}{s:AS}{a:Act}{w:World}{ι:Env}(c:aX k s a w ι){T:TypeId}{f:Nat}{parts:Array (Nat×Operand)}{v:AV}(h:o9 k.P s T f parts.toList=some v):
  ∃x w',(Instr.buildSlice T f (parts.map fun (i,x)=>(i,a.eval x))).run k.P w=.ok x w'∧aX k s a w' ι∧Rel (NN k.M ι) w' ι v x:=by
 unfold o9 at h;split at h
 ·rename_i e sz ps d C;split at h
  ·rename_i l L;split at h
   ·rename_i m;obtain⟨c1,F,S,D⟩:=m;injection h with h;subst h
    obtain⟨O,Q⟩:=Ck c C;unfold gk at d;split at d
    ·rename_i t M;cases g:k.P.info? t with
     | none=>simp[cB,g]at d
     | some q =>
      simp only[cB,g,MO,sj,wl]at d;obtain⟨rfl,n⟩:=d;unfold ft at D;cases p:q.zero with
      | none=>simp[g,p]at D
      | some z =>
       have B:(parts.map fun (y:Nat×Operand)=>(y.1,a.eval y.2)).toList=parts.toList.map fun y=>(y.1,a.eval y.2):=alG;obtain⟨r,R,u,G,U,H,I,J,K⟩:=KX (zs:=(Array.range (f*q.size)).map (z.cells[· % z.cells.size]!)) O Q L (by simp[c1,n]);rw[←B]at u;have N:r.toList=R:=by
        rw[G,c1];simp[n]
       have j:q.size=sz+1:=n;rw[←j]at u;have E:0<f*q.size:=Nat.mul_pos F (by omega);have o:=run_buildSlice (P:=k.P) w T t f (parts.map fun (y:Nat×Operand)=>(y.1,a.eval y.2)) r q z M g p (by rw[j];omega) (by omega) u;refine⟨_,_,o,?_,?_⟩
       ·exact c.world (c.hs.fresh _) rfl (by simp) (fun b _ A=>A) (fun b A _=>u5 _ _ _ A) (fun _ _ h=>h)
       ·have:=Ny (T:=t) c.hs I J K;rw[H,c1,← N]at this;simpa using this
    ·cases d
   ·cases h
  grind
 grind
theorem tx{P:Program}{N:Nat→Prop}{w:World}{ι:Env}{cs:List AV}{vs:eb}(e:Cells N w ι cs vs){T:TypeId}{off:Nat}{v:AV}(h:iP P T (cs.drop off)=some v):
  ∃x,(part T vs.toArray off).run P w=.ok x w∧Rel N w ι v x:=by
 unfold iP at h;cases f:P.underlying T with
 | none=>simp[pC,f]at h
 | some d =>
  cases m:d.isRow with
  | true =>
   simp only[pC,f,MO,m]at h;cases j:cB P T with
   | none=>simp[j]at h
   | some n =>
    simp only[j]at h;split at h
    ·rename_i q;injection h with h;subst h
     have a:(isAgg T).run P w=.ok true w:=by
      unfold isAgg;rw[th,n5 f w];cases d<;>simp_all[TypeDesc.isRow]
     cases k:P.info? T with
     | none=>simp[cB,k]at j
     | some s =>
      have r:s.size=n:=by simpa[cB,k]using j
      refine⟨.agg ((vs.drop off).take n).toArray,?_,.agg _ _ _ (by simp[e.len]) (fun y c=>e.one y (v9 (oR c))) (fun i x y g c=>?_)⟩
      ·simp[part,a,sizeOf,typeInfo,k,r,List.extract_eq_take_drop]
      ·rw[yk]at g c;split at g
       ·rename_i b;rw[kc b]at c;rw[acN]at g c;exact e.rel _ x y g c
       ·cases g
    ·cases h
  | false =>
   simp only[pC,f,MO,m]at h;have p:cs[off]?=some v:=by simpa[ane]using h
   have b:off<vs.length:=by rw[←e.len];grind
   have o:=iN (l:=vs) b;have a:(isAgg T).run P w=.ok false w:=by
    unfold isAgg;rw[th,n5 f w];cases d<;>simp_all
   refine⟨vs[off],?_,e.rel off v _ p o⟩;simp[part,a,o]
def zq(c:TypeId→AV→AV→Option Bool)(P:Program)(xs d:List AV):List Field→Option Bool
 | []=>some true
 | f::e=>if f.name ≠ "_" then
   match iP P f.type (xs.drop f.offset),iP P f.type (d.drop f.offset) with
   | some a,some b=>match c f.type a b,zq c P xs d e with
    | some r,some q=>some (r&&q)
    | _,_=>none
   | _,_=>none
  else zq c P xs d e
def zV(c:AV→AV→Option Bool)(P:Program)(e:TypeId)(sz:Nat)(xs d:List AV):Nat→Nat→Option Bool
 | _,0=>some true
 | i,k+1 =>
  match iP P e (xs.drop (i*sz)),iP P e (d.drop (i*sz)) with
  | some a,some b=>match c a b,zV c P e sz xs d (i+1) k with
   | some r,some q=>some (r&&q)
   | _,_=>none
  | _,_=>none
def j6(P:Program):Nat→TypeId→AV→AV→Option Bool
 | 0,_,_,_=>none
 | d+1,T,u,v=>match P.underlying T,u,v with
  | some .bool,.bool a,.bool b=>some (a == b)
  | some (.int _),.int k a,.int g b=>if k=g then some (a == b) else none
  | some .string,.str a,.str b=>some (a.toList == b.toList)
  | some (.struct f),.agg xs,.agg c=>if P.stoodInHeld T=true then none else zq (j6 P d) P xs c f.toList
  | some (.array n e),.agg xs,.agg c=>match cB P e with
   | some sz=>zV (j6 P d e) P e sz xs c 0 n
   | none=>none
  | _,_,_=>none
theorem J3{P:Program}{N:Nat→Prop}{w:World}{ι:Env}{d:Nat}(j:∀T u v r x y,j6 P d T u v=some r→Rel N w ι u x→Rel N w ι v y→(Op.equalIn d T x y).run P w=.ok r w)
  {xs m:List AV} {as k:eb} (e:Cells N w ι xs as) (g:Cells N w ι m k):∀(c:List Field) (r:Bool),zq (j6 P d) P xs m c=some r→(Op.eqFields d as.toArray k.toArray c).run P w=.ok r w
 | [],r,h=>by injection h with h;subst h;simp[Op.eqFields]
 | f::c,r,h=>by
  unfold zq at h;unfold Op.eqFields;split at h
  ·rename_i i;rw[kc i];split at h
   ·rename_i a b A B;split at h
    ·rename_i l q C D;injection h with h;subst h
     obtain⟨x,n,o⟩:=tx e A;obtain⟨y,p,s⟩:=tx g B;have t:=j f.type a b l x y C o s;have z:=J3 j e g c q D;simp only[th,n,u4,p,t,Sem.run_ite,RX,z];cases l<;>simp
    ·cases h
   grind
  ·rename_i i;rw[kb i];exact J3 j e g c r h
theorem WC{P:Program}{N:Nat→Prop}{w:World}{ι:Env}{d:Nat}{e:TypeId}{sz:Nat}(l:∀u v r x y,j6 P d e u v=some r→Rel N w ι u x→Rel N w ι v y→(Op.equalIn d e x y).run P w=.ok r w)
  {xs n:List AV} {as c:eb} (f:Cells N w ι xs as) (g:Cells N w ι n c):∀(k i:Nat) (r:Bool),zV (j6 P d e) P e sz xs n i k=some r →
  (forIn (List.range' i k) ((none,()):Option Bool×Unit) (fun (j:Nat) (_:Option Bool×Unit)=>(do
    let a ← part e as.toArray (j*sz)
    let b ← part e c.toArray (j*sz)
    let q ← Op.equalIn d e a b
    if (!q)=true then pure (ForInStep.done (some false,())) else pure (ForInStep.yield (none,())):Sem (ForInStep (Option Bool×Unit)))):Sem (Option Bool×Unit)).run P w=.ok (if r=true then none else some false,()) w
 | 0,i,r,h=>by injection h with h;subst h;simp
 | k+1,i,r,h=>by
  unfold zV at h;split at h
  ·rename_i a b B C;split at h
   ·rename_i m q D E;injection h with h;subst h
    obtain⟨x,o,p⟩:=tx f B;obtain⟨y,s,t⟩:=tx g C;have z:=l a b m x y D p t;have A:=WC l f g k (i+1) q E;rw[List.range'_succ,List.forIn_cons];simp only[th,o,u4,s,z,Sem.run_ite,RX];cases m
    ·simp
    ·simp only[Do,il,ol,u4,ama];exact A
   grind
  grind
theorem aa7{P}{N}{w}{ι}{d}{t e}{n sz}(k:P.underlying t=some (.array n e))(o:cB P e=some sz)
  (l:∀u v r x y,j6 P d e u v=some r→Rel N w ι u x→Rel N w ι v y→(Op.equalIn d e x y).run P w=.ok r w) {xs b} {as a} (c:Cells N w ι xs as) (f:Cells N w ι b a) {r} (h:zV (j6 P d e) P e sz xs b 0 n=some r) :
  (Op.equalIn (d+1) t (.agg as.toArray) (.agg a.toArray)).run P w=.ok r w:=by
 have j:(sizeOf e).run P w=.ok sz w:=by
  cases g:P.info? e with
  | none=>grind[cB]
  | some m =>
   have : m.size=sz:=by grind[cB]
   simp[sizeOf,typeInfo,g,this]
 simp only[Op.equalIn,th,n5 k,u4,j];rw[Std.Legacy.Range.forIn_eq_forIn_range'];have i:=WC l c f n 0 r h;simp only[Std.Legacy.Range.size,alH,agh,Nat.div_one];rw[i];cases r<;>simp
theorem Gz{P:Program}{N:Nat→Prop}{w:World}{ι:Env}:∀(d:Nat) (T:TypeId) (u v:AV) (r:Bool) (x y:Value),j6 P d T u v=some r→Rel N w ι u x→Rel N w ι v y→(Op.equalIn d T x y).run P w=.ok r w
 | 0,_,_,_,_,_,_,h,_,_=>by cases h
 | d+1,T,u,v,r,x,y,h,g,i=>by
  unfold j6 at h;split at h
  ·rename_i a;injection h with h;subst h;cases g;cases i;exact am5 w d T _ _ a
  ·rename_i a;split at h
   ·rename_i q;subst q;injection h with h;subst h;cases g;cases i;exact run_equalIn_int w d T _ _ _ _ a
   ·cases h
  ·rename_i a;injection h with h;subst h;cases g;cases i;exact run_equalIn_string w d T _ _ a
  ·rename_i m xs z a;split at h
   ·cases h
   ·rename_i s;cases g with
    | agg _ _ as k j l =>
     cases i with
     | agg _ _ p c b f =>
      have o:P.fieldsOf T=m:=by unfold Program.fieldsOf;rw[a]
      rw[run_equalIn_struct w d T _ _ (by rw[o];exact a) (by simpa using s),o];exact J3 (fun T u v r x y=>Gz d T u v r x y) ⟨k,j,l⟩ ⟨c,b,f⟩ m.toList r h
  ·rename_i n e xs z a;split at h
   ·rename_i sz t;cases g with
    | agg _ _ as k j l =>
     cases i with
     | agg _ _ p c b f =>
      exact aa7 a t (fun u v r x y=>Gz d e u v r x y) ⟨k,j,l⟩ ⟨c,b,f⟩ h
   grind
  grind
def Q6:AV→Bool
 | .ptr _ _|.eptr _ _ _ _|.cptr _|.adr _ _|.pp _ _ _=>true
 | _=>false
def kO(s:AS)(n:Nat):Option Operand→Option Operand→Option eg
 | none,none=>some (0,n)
 | some lo,none=>match s.ev lo with|some (.int _ a)=>some (a,n)|_=>none
 | none,some c=>match s.ev c with|some (.int _ b)=>some (0,b)|_=>none
 | some lo,some c=>match s.ev lo,s.ev c with|some (.int _ a),some (.int _ b)=>some (a,b)|_,_=>none
def jT(s:AS)(x:AV)(lo c:Option Operand):Option AV :=
 match x with
 | .sl l=>match kO s l.length lo c with
  | some (a,b)=>if 0≤a∧a≤b∧b≤l.length then some (.sl ((l.take b.toNat).drop a.toNat)) else none
  | none=>none
 | .ref id=>match look id s.r with
  | some ar=>(match kO s ar.l.length lo c with
   | some (a,b)=>if 0≤a∧a≤b∧b≤ar.l.length then some (.sref id ar.sz a.toNat (b.toNat-a.toNat)) else none
   | none=>none)
  | none=>none
 | .str b=>match kO s b.size lo c with
  | some (i,j)=>if 0≤i∧i≤j∧j≤b.size then some (.str (b.extract i.toNat j.toNat)) else none
  | none=>none
 | _=>none
def O8(P:Program)(T:TypeId)(x:AV)(j:Int):Option AV :=
 match P.underlying T,x with
 | some (.array n e),.agg cs=>match cB P e with
  | some k=>if 0≤j∧j<n then iP P e (cs.drop (j.toNat*k)) else none
  | none=>none
 | some .string,.str s=>if 0≤j then (match s[j.toNat]? with|some b=>some (.int .u8 b.toNat)|none=>none) else none
 | _,_=>none
def Sm(P:Program)(T:TypeId)(f:Nat):AV→Option AV
 | .agg cs=>match P.underlying T with
  | some (.struct a)=>match a[f]? with|some g=>iP P g.type (cs.drop g.offset)|none=>none
  | _=>none
 | _=>none
def CC:List (List AV)→Option b7
 | []=>some []
 | [.int .i32 n]::r=>match CC r with|some l=>some (n::l)|none=>none
 | _::_=>none
theorem MI:∀{l} {ns},CC l=some ns→l=ns.map fun n=>[.int .i32 n]
 | [],ns,h=>by injection h with h;grind
 | e::r,ns,h=>by
  unfold CC at h;split at h
  ·grind
  ·rename_i n d q;injection q with b c;subst b;subst c
   split at h
   ·rename_i l a;injection h with h;subst h;rw[rv,← MI a]
   grind
  grind
def Nh(P:Program)(S D:TypeId):AV→Option AV
 | .int _ n=>match P.underlying S,P.underlying D with|some (.int _),some (.int k)=>some (.int k (k.wrap n))|some (.int _),some .string=>some (.str (Utf8.encode n))|_,_=>none
 | .sl l=>match P.underlying S,P.underlying D with
  | some (.slice e),some .string=>match P.underlying e,CC l with
   | some (.int .i32),some ns=>some (.str (runesBytes ns))
   | _,_=>none
  | _,_=>none
 | _=>none
def LI:Option TypeDesc→Bool
 | some (.slice _)=>true
 | _=>false
def tL(a b:ByteArray):Bool:=decide (a.size+b.size≤9223372036854775807)
def JT(P:Program)(op:BinOp)(T:TypeId)(u v:AV):Option AV :=
 match op with
 | .add=>match u,v with
  | .str a,.str b=>if tL a b=true then some (.str (a++b)) else none
  | _,_=>none
 | .eql|.neq=>match u,v with
  | .agg _,.agg _=>if P.eqGuardType P.depth T=true then none else (match j6 P 10000 T u v with|some r=>some (.bool (match op with|.neq=>!r|_=>r))|none=>none)
  | .bool a,.bool b=>match P.underlying T with|some .bool=>some (.bool (match op with|.neq=>!(a == b)|_=>(a == b)))|_=>none
  | .nils,.nils=>if LI (P.underlying T)=true then some (.bool (match op with|.neq=>false|_=>true)) else none
  | _,_=>none
 | _=>none
def Lj(s:AS)(g:FuncId):List Operand→List Operand→Option AV
 | [x],[]=>match s.ev x with|some (.adr b off)=>some (.vv (.func (.func g) #[.pointer (some ⟨b,off,none⟩)] #[]))|_=>none
 | _,_=>none
def kD(P:Program)(s:AS)(o:Oper):Option AV :=
 match o.op with
 | .makeFunc (.func g) b cs=>Lj s g b.toList cs.toList
 | .nilCheck x=>match s.ev x with|some v=>if Q6 v=true then some v else none|none=>none
 | .field T x f=>match s.ev x with|some p=>Sm P T f p|none=>none
 | .index T x i=>match s.ev x,s.ev i with|some p,some (.int _ j)=>O8 P T p j|_,_=>none
 | .convert S D x=>match s.ev x with|some p=>Nh P S D p|none=>none
 | .binOp op T x y _=>match s.ev x,s.ev y with|some u,some v=>JT P op T u v|_,_=>none
 | .slice T x lo a none=>match s.ev x with
  | some p=>match P.underlying T with
   | some (.slice e)=>(match p,cB P e with|.sl l,some sz=>if l.all (fun e=>e.length == sz)=true then jT s p lo a else none|.ref id,some sz=>(match look id s.r with|some ar=>if ar.sz=sz then jT s p lo a else none|none=>none)|_,_=>none)
   | some .string=>(match p with|.str _=>jT s p lo a|_=>none)
   | _=>none
  | none=>none
 | _=>none
theorem l6{c}{s}{a}{w}{ι}(b:aX c s a w ι){x}{k}{n}(h:s.ev x=some (.int k n)):a.eval x=.int k n:=by
 have:=b.ev h;cases d:a.eval x<;>rw[d]at this<;>cases this;rfl
theorem K3{m:Cx}{s:AS}{a:Act}{w:World}{ι:Env}(g:aX m s a w ι){n c:Nat}{b:Bool}{lo e:Option Operand}{i j:Int}(h:kO s n lo e=some (i,j))(l:0≤i)(p:i≤j)(r:j≤n)(t:n≤c):
  (Instr.sliceBounds b n c (lo.map a.eval) (e.map a.eval) none).run m.P w=.ok (i.toNat,j.toNat,c) w:=by
 have sb:∀{x:Operand} {k:IntKind} {z:Int} {y:Nat} {f:BoundsCode},s.ev x=some (.int k z)→0≤z→z≤(y:Int)→(Instr.sliceBound (a.eval x) y f).run m.P w=.ok z.toNat w:=fun d l p=>by
  rw[l6 g d];simp[Instr.sliceBound,asIntOf,l,p]
 unfold kO at h;unfold Instr.sliceBounds;cases lo with
 | none =>
  cases e with
  | none =>
   simp only[sj,wl]at h;obtain⟨rfl,rfl⟩:=h;simp
  | some e =>
   simp only[]at h;split at h
   ·rename_i k z d;simp only[sj,wl]at h;obtain⟨rfl,rfl⟩:=h;simp[sb d (by omega) (by omega:z≤(c:Int))]
   ·cases h
 | some lo =>
  cases e with
  | none =>
   simp only[]at h;split at h
   ·rename_i k z d;simp only[sj,wl]at h;obtain⟨rfl,rfl⟩:=h;simp[sb d l (by omega:z≤(n:Int))]
   ·cases h
  | some e =>
   simp only[]at h;split at h
   ·rename_i k z u q d o;simp only[sj,wl]at h;obtain⟨rfl,rfl⟩:=h;simp[sb o (by omega) (by omega:q≤(c:Int)),sb d l (by omega:z≤((q.toNat:Nat):Int))]
   grind
theorem af3{N:Nat→Prop}{w:World}{ι:Env}{l:List (List AV)}{b o c sz:Nat}{a:Nat→Nat→Value}(s:∀e∈l,e.length=sz)(m:b<w.heap.size)(k:¬ N b)(h:∀j i,(a j i).oneCell'=true)
  (t:∀(j:Nat) (e:List AV),l[j]?=some e→∀(i:Nat) (x:AV),e[i]?=some x→w.cell? ⟨b,o+j*sz+i,none⟩=some (a j i)) (y:∀(j:Nat) (e:List AV),l[j]?=some e→∀(i:Nat) (x:AV),e[i]?=some x→Rel N w bG x (a j i))
  {p q:Nat} (n:p≤q) (v:q≤l.length) (f:l.length≤c):Rel N w ι (.sl ((l.take q).drop p)) (.slice (some ⟨b,o+p*sz,none⟩) (q-p) (c-p)):=by
 have u:∀j,((l.take q).drop p)[j]?=if p+j<q then l[p+j]? else none:=fun j=>by
  rw[acN,yk]
 have d:((l.take q).drop p).length=q-p:=by grind
 rw[←d];refine .sl ι _ b _ _ sz (fun j i=>a (p+j) i) (fun e g=>s e (by grind)) m k (fun j i=>h _ _) (fun j e g i x r=>?_) (fun j e g i x r=>?_) (by omega)
 ·grind
 grind
theorem Rr{P}{w}{T e}(a:P.underlying T=some (.slice e)) d:(Op.equalIn (d+1) T (.slice none 0 0) (.slice none 0 0)).run P w=.ok true w:=by
 unfold Op.equalIn;rw[th,n5 a w];rfl
theorem Zc{P}{w}{T e}(a:P.underlying T=some (.slice e)):(binOp .eql T (.slice none 0 0) (.slice none 0 0)).run P w=.ok (.bool true) w:=by
 have e:binOp .eql T (.slice none 0 0) (.slice none 0 0)=(do pure (.bool (← Op.equalIn 10000 T (.slice none 0 0) (.slice none 0 0)))):=rfl;rw[e,th,Rr a 9999];rfl
theorem aep{P}{w}{T e}(a:P.underlying T=some (.slice e)):(binOp .neq T (.slice none 0 0) (.slice none 0 0)).run P w=.ok (.bool false) w:=by
 have e:binOp .neq T (.slice none 0 0) (.slice none 0 0)=(do pure (.bool (!(← Op.equalIn 10000 T (.slice none 0 0) (.slice none 0 0))))):=rfl;rw[e,th,Rr a 9999];rfl
theorem Nd{G:Cx}{s:AS}{a:Act}{w:World}{ι:Env}(d:aX G s a w ι){o:Oper}{v:AV}(h:kD G.P s o=some v):∃x,(execOp a.eval o).run G.P w=.ok (.value x) w∧Rel (NN G.M ι) w ι v x:=by
 unfold kD at h;unfold execOp;cases I:o.op with
 | nilCheck x =>
  simp only[I]at h⊢;split at h
  ·rename_i u K;split at h
   ·rename_i P;injection h with h;subst h
    have t:=d.ev K;generalize hy:a.eval x=y at t;refine⟨y,?_,t⟩;cases t<;>first|(simp[Q6]at P;done)|simp[hy]
   ·cases h
  ·cases h
 | field T x f =>
  simp only[I]at h⊢;split at h
  ·rename_i p P;unfold Sm at h;split at h
   ·rename_i cs;split at h
    ·rename_i fs K;split at h
     ·rename_i g hg;have t:=d.ev P;generalize a.eval x=X at t⊢;cases t with
      | agg _ _ vs hl Q t =>
       obtain⟨y,W,Y⟩:=tx ⟨hl,Q,t⟩ h;exact⟨y,by simp[Instr.field,n5 K,hg,asAgg,W],Y⟩
     ·cases h
    ·cases h
   ·cases h
  ·cases h
 | index T x i =>
  simp only[I]at h⊢;split at h
  ·rename_i p k j P hj;have Z:=l6 d hj;unfold O8 at h;split at h
   ·rename_i n e cs K;split at h
    ·rename_i sz hz;split at h
     ·rename_i V;have t:=d.ev P;generalize a.eval x=X at t⊢;obtain⟨vs,rfl,y,W,Y⟩:∃vs:eb,X=.agg vs.toArray∧∃y,(part e vs.toArray (j.toNat*sz)).run G.P w=.ok y w∧Rel (NN G.M ι) w ι v y:=by
       cases t with
       | agg _ _ vs hl Q t=>exact⟨vs,rfl,tx ⟨hl,Q,t⟩ h⟩
      have J:(sizeOf e).run G.P w=.ok sz w:=by
       cases L:G.P.info? e with
       | none=>simp[cB,L]at hz
       | some it =>
        have : it.size=sz:=by simpa[cB, L]using hz
        simp[sizeOf,typeInfo,L,this]
      exact⟨y,by simp[Instr.index,Z,asIntOf,n5 K,V,J,W],Y⟩
     ·cases h
    ·cases h
   ·rename_i b K;split at h
    ·rename_i h0;split at h
     ·rename_i y hy;injection h with h;subst h
      have t:=d.ev P;cases E:a.eval x<;>rw[E]at t<;>cases t;exact⟨_,by simp[Instr.index,Z,asIntOf,n5 K,h0,hy],.int _ _ _⟩
     ·cases h
    ·cases h
   ·cases h
  ·cases h
 | convert S D x =>
  simp only[I]at h⊢;split at h
  ·rename_i p P;unfold Nh at h;split at h
   ·rename_i k n;split at h
    ·rename_i k1 k2 hS hD;injection h with h;subst h
     rw[l6 d P];exact⟨_,by simp[convert,n5 hS,n5 hD,Conv.intToInt],.int _ _ _⟩
    ·rename_i hS hD;injection h with h;subst h
     rw[l6 d P];exact⟨_,by simp[convert,n5 hS,n5 hD,Conv.intToString],.str _ _⟩
    ·cases h
   ·rename_i l;split at h
    ·rename_i e hS hD;split at h
     ·rename_i ns hE o0;injection h with h;subst h
      have hl:=MI o0;have t:=d.ev P;generalize a.eval x=X at t⊢;have R:l.length=ns.length:=by rw[hl,nw]
      cases t with
      | sl0 _ A c =>
       have:ns=[]:=nx (by simpa using R.symm);subst this;cases A with
       | none=>exact⟨_,by simp only[th,run_convert_runes_nil w S D e 0 c hS hE hD,u4,RX];rfl,.str _ _⟩
       | some a0=>exact⟨_,by simp only[th,run_convert_runes w S D e a0 0 c [] (jf _) hS hE hD (fun j hj=>by simp at hj),u4,RX];rfl,.str _ _⟩
      | sl _ _ b o c sz d0 hz V hn Q E t O =>
       refine⟨.string (runesBytes ns),?_,.str _ _⟩;have b0:∀j,j<ns.length→w.cell? ((⟨b,o,none⟩:Addr).add j)=some (.int .i32 (ns.getD j 0)):=fun j hj=>by
        have Z:j<l.length:=by omega
        have M:sz=1:=by
         have:=hz l[j] (n3 Z);simp[hl]at this;omega
        have he:l[j]?=some [.int .i32 ns[j]]:=by rw[hl];simp[hj]
        have q:=E j _ he 0 _ rfl;have q2:=t j _ he 0 _ rfl;rw[M]at q;have e3:d0 j 0=.int .i32 ns[j]:=by
         generalize d0 j 0=z at q2;cases q2;rfl
        rw[e3]at q;have:(⟨b,o,none⟩:Addr).add j=⟨b,o+j*1+0,none⟩:=by simp[ajg]
        rw[this,q];simp[List.getD,hj]
       have:=run_convert_runes w S D e ⟨b,o,none⟩ l.length c ns (by omega) hS hE hD b0;rw[R,alP]at this;rw[R];simp only[th,this,u4,RX]
     ·cases h
    ·cases h
   ·cases h
  ·cases h
 | binOp op T x y Ty =>
  simp only[I]at h⊢;split at h
  ·rename_i u v' K hv;have t:=d.ev K;have C:=d.ev hv;unfold JT at h;have agg:∀{cs ds:List AV} {r:Bool},u=.agg cs→v'=.agg ds→G.P.eqGuardType G.P.depth T=false→j6 G.P 10000 T u v'=some r→(∃as bs,a.eval x=.agg as∧a.eval y=.agg bs∧(Op.equalIn 10000 T (.agg as) (.agg bs)).run G.P w=.ok r w∧(eqGuard op T x y (.agg as) (.agg bs)).run G.P w=.ok () w):=by
    intro cs ds r W Y hg hq;subst W;subst Y;have i0:=Gz 10000 T _ _ _ _ _ hq t C;cases E:a.eval x<;>rw[E]at t<;>cases t;cases B:a.eval y<;>rw[B]at C<;>cases C;rw[E,B]at i0;exact⟨_,_,rfl,rfl,i0,run_eqGuard_agg w op T x y _ _ hg⟩
   split at h
   ·split at h
    ·split at h
     ·rename_i J;injection h with h;subst h
      cases E:a.eval x<;>rw[E]at t<;>cases t;cases B:a.eval y<;>rw[B]at C<;>cases C;exact⟨_,by simp[eqGuard,binOp,run_string_add_sum w _ _ (jt J)],.str _ _⟩
     ·cases h
    ·cases h
   ·split at h
    ·split at h
     ·cases h
     ·rename_i hg;split at h
      ·rename_i r hq;injection h with h;subst h
       obtain⟨as,bs,W,Y,e3,e4⟩:=agg rfl rfl (by simpa using hg) hq;exact⟨.bool r,by simp only[th,W,Y,e4,u4,run_eql_struct,e3,RX],.bool _ _⟩
      ·cases h
    ·split at h
     ·rename_i N;injection h with h;subst h
      cases E:a.eval x<;>rw[E]at t<;>cases t;cases B:a.eval y<;>rw[B]at C<;>cases C;exact⟨_,by simp[eqGuard,binOp,Op.equal,Op.maxDepth,am5 w 9999 T _ _ N],.bool _ _⟩
     ·cases h
    ·split at h
     ·rename_i J;injection h with h;subst h
      cases E:a.eval x<;>rw[E]at t<;>cases t;cases B:a.eval y<;>rw[B]at C<;>cases C;unfold LI at J;split at J
      ·rename_i e N;exact⟨_,by simp only[th,Zc N];simp[eqGuard],.bool _ _⟩
      ·cases J
     ·cases h
    ·cases h
   ·split at h
    ·split at h
     ·cases h
     ·rename_i hg;split at h
      ·rename_i r hq;injection h with h;subst h
       obtain⟨as,bs,W,Y,e3,e4⟩:=agg rfl rfl (by simpa using hg) hq;exact⟨.bool (!r),by simp only[th,W,Y,e4,u4,run_neq_struct,e3,RX],.bool _ _⟩
      ·cases h
    ·split at h
     ·rename_i N;injection h with h;subst h
      cases E:a.eval x<;>rw[E]at t<;>cases t;cases B:a.eval y<;>rw[B]at C<;>cases C;exact⟨_,by simp[eqGuard,binOp,Op.equal,Op.maxDepth,am5 w 9999 T _ _ N],.bool _ _⟩
     ·cases h
    ·split at h
     ·rename_i J;injection h with h;subst h
      cases E:a.eval x<;>rw[E]at t<;>cases t;cases B:a.eval y<;>rw[B]at C<;>cases C;unfold LI at J;split at J
      ·rename_i e N;exact⟨_,by simp only[th,aep N];simp[eqGuard],.bool _ _⟩
      ·cases J
     ·cases h
    ·cases h
   ·cases h
  ·cases h
 | slice T x lo L mx =>
  cases mx with
  | some m=>simp[I]at h
  | none =>
   simp only[I]at h⊢;split at h
   ·rename_i p P;have t:=d.ev P;split at h
    ·rename_i e K;split at h
     ·rename_i l sz M;split at h
      case isFalse=>cases h
      rename_i f0;unfold jT at h;simp only[]at h;split at h
      ·rename_i i j V;split at h
       ·rename_i F;obtain⟨c0,c1,c2⟩:=F;injection h with h;subst h
        have J:(sizeOf e).run G.P w=.ok sz w:=by
         cases L:G.P.info? e with
         | none=>simp[cB,L]at M
         | some it =>
          have : it.size=sz:=by simpa[cB, L]using M
          simp[sizeOf,typeInfo,L,this]
        have H:∀c,l.length≤c→(Instr.sliceBounds true l.length c (lo.map a.eval) (L.map a.eval) none).run G.P w=.ok (i.toNat,j.toNat,c) w:=fun c E=>K3 d V c0 c1 c2 E;generalize a.eval x=X at t⊢;cases t with
        | sl0 _ A c =>
         have:=H c (by simp);simp only[u3]at this c2;refine⟨.slice (if c=i.toNat then A else A.map (·.add (i.toNat*sz))) (j.toNat-i.toNat) (c-i.toNat),by simp[Instr.sliceAt,n5 K,Instr.slice,this,J],?_⟩;have e0:j.toNat-i.toNat=0:=by omega
         rw[e0];simpa using Rel.sl0 _ _ _
        | sl _ _ b o c r0 d0 hz k0 hn Q E t O =>
         have:=H c O;refine⟨.slice (if c=i.toNat then some ⟨b,o,none⟩ else (some ⟨b,o,none⟩:Option Addr).map (·.add (i.toNat*sz))) (j.toNat-i.toNat) (c-i.toNat),by simp[Instr.sliceAt,n5 K,Instr.slice,this,J],?_⟩;by_cases h0:i.toNat=j.toNat
         ·have e0:j.toNat-i.toNat=0:=by omega
          rw[e0,show(l.take j.toNat).drop i.toNat=[] from ll (by rw[IN];omega)];exact .sl0 _ _ _
         ·rw[kb (by omega)];have U:r0=sz:=by
           have w0:0<l.length:=by omega
           have h4:=hz l[0] (n3 _);have h5:=ne.1 f0 l[0] (n3 _);simp only[alJ]at h5;omega
          ·subst U;have:=af3 (ι:=ι) hz k0 hn Q E t (p:=i.toNat) (q:=j.toNat) (by omega) (by omega) O;simpa[ajg]using this
       ·cases h
      ·cases h
     ·rename_i id sz M;split at h
      case h_2=>cases h
      rename_i ar g0;split at h
      case isFalse=>cases h
      rename_i U;unfold jT at h;simp only[g0]at h;split at h
      case h_2=>cases h
      rename_i i j V;split at h
      case isFalse=>cases h
      rename_i F;obtain⟨c0,c1,c2⟩:=F;injection h with h;subst h
      subst U;have J:(sizeOf e).run G.P w=.ok ar.sz w:=by
       cases L:G.P.info? e with
       | none=>simp[cB,L]at M
       | some it =>
        have : it.size=ar.sz:=by simpa[cB, L]using M
        simp[sizeOf,typeInfo,L,this]
      have H:∀c,ar.l.length≤c→(Instr.sliceBounds true ar.l.length c (lo.map a.eval) (L.map a.eval) none).run G.P w=.ok (i.toNat,j.toNat,c) w:=fun c E=>K3 d V c0 c1 c2 E;generalize a.eval x=X at t⊢;cases t with
      | ref _ _ A n c hι =>
       obtain⟨v,xs,Q,h2,h3,h4,h5⟩:=d.hs.arrs id ar g0 (by rw[hι];rfl);rw[hι]at Q;injection Q with Q;subst Q
       obtain⟨hv,h0⟩|⟨g',s0,t0,hv,v0,hg,m0,O,p0,q0⟩:=h2.2
       ·injection hv with hA hn B
        subst hA;subst hn;subst B;have:=H 0 (by omega);rw[h0]at this;have ei:i.toNat=0:=by omega
        have ej:j.toNat=0:=by omega
        refine⟨.slice (if 0=i.toNat then none else (none:Option Addr).map (·.add (i.toNat*ar.sz))) (j.toNat-i.toNat) (0-i.toNat),by simp[Instr.sliceAt,n5 K,Instr.slice,this,J],?_⟩;exact .sref _ _ _ _ _ _ _ _ _ _ hι (.inl (by omega))
       ·injection hv with hA hn B
        subst hA;subst hn;subst B;have:=H c m0;refine⟨.slice (if c=i.toNat then some ⟨g',0,none⟩ else (some ⟨g',0,none⟩:Option Addr).map (·.add (i.toNat*ar.sz))) (j.toNat-i.toNat) (c-i.toNat),by simp[Instr.sliceAt,n5 K,Instr.slice,this,J],?_⟩;by_cases h0:i.toNat=j.toNat
        ·exact .sref _ _ _ _ _ _ _ _ _ _ hι (.inl (by omega))
        ·rw[kb (by omega)];refine .sref _ _ _ _ _ _ _ _ _ _ hι (.inr ⟨g',rfl,?_,by omega,by omega⟩);simp[ajg]
     ·cases h
    ·rename_i K;split at h
     ·rename_i b;unfold jT at h;simp only[]at h;split at h
      ·rename_i i j V;split at h
       ·rename_i F;obtain⟨c0,c1,c2⟩:=F;injection h with h;subst h
        have H:(Instr.sliceBounds false b.size b.size (lo.map a.eval) (L.map a.eval) none).run G.P w=.ok (i.toNat,j.toNat,b.size) w:=K3 d V c0 c1 c2 (jf _);generalize a.eval x=X at t⊢;cases t with
        | str _ _=>exact⟨.string (b.extract i.toNat j.toNat),by simp[Instr.sliceAt,n5 K,Instr.slice,H],.str _ _⟩
       ·cases h
      ·cases h
     ·cases h
    ·cases h
   ·cases h
 | makeFunc fn bs cs =>
  cases fn with
  | func g =>
   simp only[I]at h⊢;unfold Lj at h;split at h
   case h_2=>cases h
   rename_i x H l0;have V:bs = #[x]:=by rw[←ain (xs:=bs),H]
   have E:cs = #[]:=by rw[←ain (xs:=cs),l0]
   subst V;subst E;split at h
   ·rename_i b off hx;injection h with h;subst h
    have t:=d.ev hx;generalize hX:a.eval x=X at t;cases t with
    | adr _ _ _ =>
     refine⟨_,?_,.vv _ _ rfl⟩;simp only[Instr.makeFunc,th,RX,u4,amO];simp[hX]
   ·cases h
  | _=>simp[I]at h
 | _=>grind
mutual
def AV.cT(id:Nat):AV→AV
 | .ref i=>if i=id then .any else .ref i
 | .eptr i sz j off=>if i=id then .any else .eptr i sz j off
 | .sref i sz off m=>if i=id then .any else .sref i sz off m
 | .ptr i off=>if i=id then .any else .ptr i off
 | .pp i g off=>if i=id then .any else .pp i g off
 | .sit i g s p=>if i=id then .any else .sit i g s p
 | .adr g off=>.adr g off
 | .agg cs=>.agg (kt id cs)
 | .tup cs=>.tup (kt id cs)
 | .int k n=>.int k n
 | .bool b=>.bool b
 | .str s=>.str s
 | .nils=>.nils
 | .sl l=>.sl l
 | .nilm=>.nilm
 | .mref _ _=>.any
 | .omp m=>.omp m
 | .osl e sz l=>.osl e sz l
 | .vv x=>.vv x
 | .lk i x=>if i=id then .any else .lk i x
 | .fn f c=>.fn f c
 | .fno f c=>.fno f (kt id c)
 | .nilf=>.nilf
 | .nilp=>.nilp
 | .cptr cs=>.cptr cs
 | .any=>.any
def kt(id:Nat):List AV→List AV
 | []=>[]
 | c::r=>c.cT id::kt id r
end
theorem lC{id}:∀{l} {i:Nat} {x},(kt id l)[i]?=some x→∃y,l[i]?=some y∧x=y.cT id
 | [],i,x,h=>by grind[kt]
 | c::r,0,x,h=>by grind[kt]
 | c::r,i+1,x,h=>by simp[kt]at h;obtain⟨y,a,b⟩:=lC h;grind
theorem mi{id}:∀l,(kt id l).length=l.length
 | []=>rfl
 | c::r=>by simp[kt,mi r]
theorem Rel.cT{N:Nat→Prop}{w:World}{ι:Env}{v:AV}{x:Value}(h:Rel N w ι v x){id:Nat}{ι':Env}(p:∀i,i≠id→ι' i=ι i):Rel N w ι' (v.cT id) x:=by
 induction h with
 | int ι k n=>simp only[AV.cT];exact .int _ _ _
 | bool ι b=>simp only[AV.cT];exact .bool _ _
 | str ι s=>simp only[AV.cT];exact .str _ _
 | nils ι=>simp only[AV.cT];exact .nils _
 | nilm ι=>simp only[AV.cT];exact .nilm _
 | mref ι i q r v h Q=>simp only[AV.cT];exact .any _ _ rfl
 | sl0 ι A c=>simp only[AV.cT];exact .sl0 _ _ _
 | sl ι l b o c sz t O z E d F e C u=>simp only[AV.cT];exact .sl _ l b o c sz t O z E d F e C
 | fn ι f aV I D e u=>simp only[AV.cT];exact .fn _ f aV I D e
 | fno ι f aV I D e u =>
  simp only[AV.cT];exact .fno _ _ _ I (by rw[mi];exact D) (fun i x v H G=>by
   obtain⟨y,M,rfl⟩:=lC H;exact u i y v M G p)
 | nilf ι=>simp only[AV.cT];exact .nilf _
 | nilp ι=>simp only[AV.cT];exact .nilp _
 | any ι x h=>simp only[AV.cT];exact .any _ _ h
 | ptr ι i off g h =>
  simp only[AV.cT];split
  ·exact .any _ _ rfl
  ·rename_i a;exact .ptr _ _ _ _ ((p i a).trans h)
 | eptr ι i sz j off g n c h =>
  simp only[AV.cT];split
  ·exact .any _ _ rfl
  ·rename_i a;exact .eptr _ _ _ _ _ _ n c ((p i a).trans h)
 | sref ι i sz off m n c J A B h K =>
  simp only[AV.cT];split
  ·exact .any _ _ rfl
  ·rename_i a;exact .sref _ _ _ _ _ n c J A B ((p i a).trans h) K
 | adr ι g off=>simp only[AV.cT];exact .adr _ _ _
 | vv ι x h=>simp only[AV.cT];exact .vv _ _ h
 | lk ι i v x h d =>
  simp only[AV.cT];split
  ·exact .any _ _ d
  ·rename_i a;exact .lk _ _ _ _ ((p i a).trans h) d
 | pp ι i g off h =>
  simp only[AV.cT];split
  ·exact .any _ _ rfl
  ·rename_i a;exact .pp _ _ _ _ ((p i a).trans h)
 | sit ι i g s P h L E z =>
  simp only[AV.cT];split
  ·exact .any _ _ rfl
  ·rename_i a;exact .sit _ _ _ _ _ ((p i a).trans h) L E z
 | cptr ι cs b o t z E d F e u=>simp only[AV.cT];exact .cptr _ cs b o t z E d F e
 | ref ι i A n c h =>
  simp only[AV.cT];split
  ·exact .any _ _ rfl
  ·rename_i a;exact .ref _ _ _ _ _ ((p i a).trans h)
 | agg ι cs vs D d e u =>
  exact .agg _ _ vs (by grind[mi]) d (fun i x v H G=>by
   grind[lC])
 | tup ι cs vs D e u =>
  exact .tup _ _ vs (by grind[mi]) (fun i x v H G=>by
   grind[lC])
def dC(id:Nat):List (Nat×AV)→List (Nat×AV)
 | []=>[]
 | (k,v)::r=>(k,v.cT id)::dC id r
def fc(id:Nat):List (Nat×List AV)→List (Nat×List AV)
 | []=>[]
 | (k,v)::r=>(k,kt id v)::fc id r
theorem oQ{id}:∀{l} {k} {v},look k (dC id l)=some v→∃u,look k l=some u∧v=u.cT id
 | [],k,v,h=>by cases h
 | (j,x)::r,k,v,h=>by
  simp only[dC,look]at h⊢;split at h
  ·grind
  ·rename_i e;rw[kb e];exact oQ h
theorem jv{id}:∀{l} {k} {v},look k (fc id l)=some v→∃u,look k l=some u∧v=kt id u
 | [],k,v,h=>by cases h
 | (j,x)::r,k,v,h=>by
  simp only[fc,look]at h⊢;split at h
  ·grind
  ·rename_i e;rw[kb e];exact jv h
def rep(ι:Env)(id:Nat)(v:Value):Env:=fun i=>if i=id then some v else ι i
theorem mc ι id v:rep ι id v id=some v:=by simp[rep]
theorem u0 ι{id i} v(h:i≠id):rep ι id v i=ι i:=by grind[rep]
theorem acM{P:Program}(w:World)(base:Nat)(t ty e:TypeId)(i:TypeInfo)(z:Value)(size bytes:Nat)(I:P.underlying t=some (.slice e))(G:P.info? e=some i)(Q:i.zero=some z)
  (r:i.size=size) (C:i.bytes=bytes) (R:z.cells.size=size) (N:0<size)
  (v:Value) (n:Nat) (xs:eb) (b:w.ownsRow base e size v n xs)
  (a:Addr) (m c:Nat) (news:eb) (E:news.length=m*size) (f:∀j u,news[j]?=some u→w.cell? (a.add j)=some u) (S:∀u∈news,u.oneCell'=true)
  (B:n+m≤maxLen) (d:(n+m)*bytes≤140737488355328) (y:base≤w.heap.size) :
  ∃v' w',(Builtin.append_ #[t,t] ty #[v,.slice (some a) m c]).run P w=.ok v' w'∧w'.ownsRow base e size v' (n+m) (xs++news)∧w.grownBy w' v.ownBlock ∧
   (bw (some v')=bw (some v)∨bw (some v')=some w.heap.size)∧(∀A k c,v'=.slice A k c→k=n+m)∧∃A k c,v'=.slice A k c:=by
 have M:=b;obtain⟨v',w',l,o,W,L⟩:=run_append_own (P:=P) w base t ty e i z size bytes I G Q r C R N v n xs b a m c news E f S B d y;have h:(∀A k c,v'=.slice A k c→k=n+m)∧∃A k c,v'=.slice A k c:=by
  obtain⟨F,Z⟩|⟨g,s,x,F,_⟩:=o.2
  ·exact⟨fun A k c e=>by rw[F]at e;injection e with _ e _;omega,_,_,_,F⟩
  ·exact⟨fun A k c e=>by rw[F]at e;injection e with _ e _;exact e.symm,_,_,_,F⟩
 refine⟨v',w',l,o,W,?_,h.1,h.2⟩;subst r;subst C;have H:n+m≤9223372036854775807:=by simp only[maxLen]at B;omega
 obtain⟨rfl,rfl⟩|⟨g,s,x,rfl,U,K,Y,V,J,O⟩:=b.2
 ·have hx:xs=[]:=nx (by simpa using b.1);by_cases X:m=0
  ·have:=L.2 ⟨rfl,X⟩;left;rw[this]
  ·have p:=run_append_nil (P:=P) w t ty e i z I G Q a m c news E f (by omega) (by omega) (by have T:=d;simp only[DO]at T;omega);rw[p]at l;injection l with l _
   right;rw[←l];rfl
 ·by_cases q:n+m≤s
  ·have D:n*i.size+news.length≤x.size:=by rw[E,J,← aix];exact Qf _ q
   have p:=run_append_room (P:=P) w t ty e i I G g n s x K a m c news E f S q D;rw[p]at l;injection l with l _
   left;rw[←l];rfl
  ·have holds:∀j u,xs[j]?=some u→w.cell? ((⟨g,0,none⟩:Addr).add j)=some u:=b.cells (g:=g) rfl;have p:=run_append_grow (P:=P) w t ty e i z I G Q ⟨g,0,none⟩ n s xs b.1 holds a m c news E f (by omega) (by omega) (growslice_fits (by omega) d);rw[p]at l;injection l with l _
   right;rw[←l];rfl
theorem alv{P:Program}(w:World)(t ty e:TypeId)(i:TypeInfo)(j:P.underlying t=some (.slice e))(h:P.info? e=some i)(base size:Nat)(v:Value)(n:Nat)(xs:eb)(d:w.ownsRow base e size v n xs)(A:Option Addr)(c:Nat):
  (Builtin.append_ #[t,t] ty #[v,.slice A 0 c]).run P w=.ok v w:=by
 have f:∀a:Addr,(loadCells a 0).run P w=.ok #[] w:=fun a=>by simp[loadCells,loadCellsFrom]
 obtain⟨rfl,rfl⟩|⟨g,l,m,rfl,o,r,b,p,q,k⟩:=d.2
 ·cases A with
  | none=>simp[Builtin.append_,n5 j,sizeOf,typeInfo,h,Builtin.lenOf,Builtin.firstCells]
  | some a=>simp[Builtin.append_,n5 j,sizeOf,typeInfo,h,Builtin.lenOf,Builtin.firstCells,f]
 ·cases A with
  | none=>simp[Builtin.append_,n5 j,sizeOf,typeInfo,h,Builtin.lenOf,Builtin.firstCells,b,storeCells]
  | some a=>simp[Builtin.append_,n5 j,sizeOf,typeInfo,h,Builtin.lenOf,Builtin.firstCells,f,b,storeCells]
def je(P:Program)(T:TypeId):Option (TypeId×Nat×Nat) :=
 match P.underlying T with
 | some (.slice e)=>match P.info? e with
  | some i=>match i.zero with
   | some z=>if z.cells.size=i.size∧0<i.size then some (e,i.size,i.bytes) else none
   | none=>none
  | none=>none
 | _=>none
def oE(s:AS)(sz:Nat):AV→Option (List (List AV))
 | .nils=>some []
 | .sl l=>if l.all (fun e=>e.length == sz)=true then some l else none
 | .ref id=>match look id s.r with|some a=>if a.sz=sz∧id<TG then some a.l else none|none=>none
 | _=>none
def zy(P:Program)(s:AS)(d:Nat)(T:TypeId)(v x:AV):Option AS :=
 match je P T with
 | some (e,sz,bytes)=>match oE s sz x with
  | some new=>match v with
   | .nils=>if has s.u d=true∨¬ (new.length≤maxLen∧new.length*bytes≤140737488355328) then none else some { t:=bm d (.ref d) (dC d s.t),o:=fc d s.o,r:=bm d ⟨e,sz,new⟩ s.r,u:=d::s.u }
   | .ref id=>match look id s.r with
    | some a=>if s.u.contains (dk id)=false∧a.e=e∧a.sz=sz∧a.l.length+new.length≤maxLen∧(a.l.length+new.length)*bytes≤140737488355328 then
      some { t:=bm d (.ref id) (dC id s.t),o:=fc id s.o,r:=bm id { a with l:=a.l++new } s.r,u:=s.u } else none
    | none=>none
   | _=>none
  | none=>none
 | none=>none
theorem Sl{L:Cx}{s:AS}{a:Act}{w:World}{ι:Env}(I:aX L s a w ι){sz:Nat}{x:AV}{X:Value}{new:List (List AV)}(h:oE s sz x=some new)(K:Rel (NN L.M ι) w ι x X):
  ∃A c,X=.slice A new.length c∧(∀e∈new,e.length=sz)∧(new=[]∨∃(ad:Addr) (vs:eb),A=some ad∧vs.length=new.length*sz∧(∀(j:Nat) (u:Value),vs[j]?=some u→w.cell? (ad.add j)=some u)∧(∀u∈vs,u.oneCell'=true) ∧
   ∀(j:Nat) (e:List AV),new[j]?=some e→∀(i:Nat) (c:AV),e[i]?=some c→∃y,vs[j*sz+i]?=some y∧Rel (NN L.M ι) w bG c y):=by
 unfold oE at h;split at h
 ·injection h with h;subst h
  cases K;exact⟨_,_,rfl,fun e f=>(by cases f),.inl rfl⟩
 ·rename_i l;split at h
  ·rename_i G;injection h with h;subst h
   have hz:∀e∈l,e.length=sz:=fun e f=>by
    have:=ne.1 G e f;simpa using this
   cases K with
   | sl0 _ A c=>exact⟨A,c,rfl,hz,.inl rfl⟩
   | sl _ _ b o c d q B hb M C R W _ =>
    refine⟨_,c,rfl,hz,?_⟩;by_cases hl:l=[]
    ·exact .inl hl
    ·right;have J:d=sz:=by
      obtain⟨e,f⟩:=amd l hl;rw[←B e f,hz e f]
     subst J;have r:∀k,((List.range (l.length*d)).map fun k=>q (k / d) (k % d))[k]?=if k<l.length*d then some (q (k / d) (k % d)) else none:=fun k=>by
      by_cases E:k<l.length*d<;>simp[E]
     have p:∀k,k<l.length*d→0<d∧k / d<l.length∧k % d<d∧k / d*d+k % d=k:=fun k E=>by
      have m : 0<d:=by
       rcases Nat.eq_zero_or_pos d with h|h;· rw[h]at E;omega
       ·exact h
      refine⟨m,(Nat.div_lt_iff_lt_mul m).2 E,Nat.mod_lt _ m,?_⟩;rw[amn];exact Nat.div_add_mod k d
     refine⟨⟨b,o,none⟩,_,rfl,(by simp:((List.range (l.length*d)).map fun k=>q (k / d) (k % d)).length=l.length*d),fun j u D=>?_,fun u hu=>?_,fun j e f i c hi=>?_⟩
     ·rw[r]at D;split at D
      ·rename_i E;injection D with D;subst D
       obtain⟨N,t,F,O⟩:=p j E;have f:=iN t;have T:=B _ (n3 t);have:=R _ _ f (j % d) _ (iN (by rw[T];exact F));rw[ajg];rw[amo,O]at this;exact this
      ·cases D
     ·obtain⟨k,_,rfl⟩:=Dk.1 hu;exact C _ _
     ·have U:j<l.length:=(io.1 f).1;have H:i<d:=by have:=(io.1 hi).1;rwa[B e (lp f)]at this
      have V:j*d+i<l.length*d:=by
       have:(j+1)*d≤l.length*d:=Qf _ U;rw[aix,alY]at this;omega
      refine⟨q j i,?_,W j e f i c hi⟩;rw[r,kc V];have e1:(j*d+i) / d=j:=by rw[Nat.add_comm,Nat.add_mul_div_right _ _ (by omega),ana H,DO]
      have e2:(j*d+i) % d=i:=by rw[Nat.add_comm,Nat.add_mul_mod_self_right,amD H]
      rw[e1,e2]
  ·cases h
 ·rename_i id;split at h
  ·rename_i ar Q;split at h
   ·rename_i z;obtain⟨z,e0⟩:=z;injection h with h;subst h
    cases K with
    | ref _ _ A n c hι =>
     obtain⟨v,xs,C,t,F,O,P⟩:=I.hs.arrs id ar Q (by rw[hι];rfl);have h5:∀(j:Nat) (e:List AV),ar.l[j]?=some e→∀(i:Nat) (c:AV),e[i]?=some c→∃x,xs[j*ar.sz+i]?=some x∧Rel (NN L.M ι) w bG c x:=fun j e f i c R=>by
      obtain⟨x,K,W⟩:=P j e f i c R;exact⟨x,K,W.flat (by omega)⟩
     rw[hι]at C;injection C with C;subst C
     rw[z]at F h5 t;obtain⟨hv,N⟩|⟨g',b0,c0,hv,hb,hg,d0,a0,Y,Z⟩:=t.2
     ·injection hv with hA M S
      refine⟨A,c,?_,F,.inl (nx N)⟩;rw[M,N]
     ·injection hv with hA M S
      subst hA;subst M;refine⟨_,c,rfl,F,.inr ⟨⟨g',0,none⟩,xs,rfl,t.1,t.cells (g:=g') (by rfl),O,h5⟩⟩
   ·cases h
  grind
 grind
theorem jd.grown{b}{v w w'}{c}(h:jd b v w)(a:w.grownBy w' c)(g:b.w.heap.size≤w.heap.size)(f:∀k,c=some k→b.O k):jd b v w' :=
 h.trans ⟨a.os,a.tape,a.output,a.size,fun k j i=>a.block k (by omega) (fun e=>(by rcases f k e.symm with d|d;omega;grind))⟩
theorem HS.app{M:Nat→Prop}{w0:aC}{w w':World}{ι:Env}{s:AS}(h:HS M w0 w ι s){id:Nat}{ar:bW}{v v':Value}{xs news:eb}{new:List (List AV)}
  (e0:w0.pv id=none) (l0:look id s.r=some ar) (E:ι id=some v) (n:w.ownsRow 0 ar.e ar.sz v ar.l.length xs) (b0:∀e∈ar.l,e.length=ar.sz) (X:∀x∈xs,x.oneCell'=true)
  (a0:∀(j:Nat) (e:List AV),ar.l[j]?=some e→∀(i:Nat) (c:AV),e[i]?=some c→∃x,xs[j*ar.sz+i]?=some x∧gK (NN M ι) w (TG≤id) (ι (nm id (j*ar.sz+i))) c x)
  (G:w.ownsRow 0 ar.e ar.sz v ar.l.length xs→w'.ownsRow 0 ar.e ar.sz v' (ar.l.length+new.length) (xs++news)) (J:w.grownBy w' v.ownBlock) (p:bw (some v')=bw (some v)∨bw (some v')=some w.heap.size)
  (m0:∃A k c,v'=.slice A k c) (f0:∀e∈new,e.length=ar.sz) (c0:∀x∈news,x.oneCell'=true)
  (d0:∀(j:Nat) (e:List AV),new[j]?=some e→∀(i:Nat) (c:AV),e[i]?=some c→∃x,news[j*ar.sz+i]?=some x∧Rel (NN M ι) w bG c x) (V:∀g,bw (some v')=some g→w0.O g∧g<w'.heap.size) :
  HS M w0 w' (rep ι id v') { t:=dC id s.t,o:=fc id s.o,r:=bm id { ar with l:=ar.l++new } s.r,u:=s.u } ∧
   (∀b,b<w.heap.size→NN M (rep ι id v') b→NN M ι b)∧(∀b,b<w.heap.size→¬ NN M ι b→w'.heap[b]?=w.heap[b]?):=by
 have Q:=G n;have I:v.ownBlock=bw (some v):=by
  rcases n.2 with⟨rfl,_⟩|⟨g,i0,k0,rfl,_⟩<;>rfl
 have R:∀b,b<w.heap.size→¬ NN M ι b→w'.heap[b]?=w.heap[b]?:=fun b D O=>J.block b D (fun e=>O (.inr ⟨id,by rw[E,← I];exact e.symm⟩));have O:∀b,b<w.heap.size→NN M (rep ι id v') b→NN M ι b:=fun b D H=>by
  rcases H with H|⟨i,H⟩
  ·exact .inl H
  ·by_cases e:i=id
   ·subst e;rw[mc]at H;rcases p with p|p
    ·exact .inr ⟨i,by rw[E,← p];exact H⟩
    ·rw[p]at H;injection H with H;omega
   ·rw[u0 _ _ e]at H;exact .inr ⟨i,H⟩
 have d:∀i,i≠id→rep ι id v' i=ι i:=fun i z=>u0 _ _ z;have Z:∀r,v ≠ .map r:=fun r e=>by subst e;rcases n.2 with⟨G,_⟩|⟨_,_,_,G,_⟩<;>cases G
 have ho:∀k r,ι k=some (.map r)→rep ι id v' k=some (.map r):=fun k r B=>by
  rw[d];exact B;intro e;subst e;rw[E]at B;injection B with B;exact Z _ B
 have W:∀k r,ι k=some (.map (some r))→w'.heap[r]?=w.heap[r]?:=fun k r B=>J.block r (h.kq B) (fun e=>h.ot B E Z (by rw[←I];exact e.symm));refine⟨⟨?_,h.old,fun i y hy=>?_,fun i g q=>?_,fun i N g f m=>?_,fun i cs z=>?_,fun i a z=>?_,fun i cs z K=>?_,fun i a z K=>?_,fun i y K=>(by
  have e:i≠id:=fun e=>by subst e;rw[e0]at K;cases K
  exact⟨(d i e).trans (h.pin i y K).1,(h.pin i y K).2⟩)⟩,O,R⟩
 ·refine h.below.grown J h.below.size (fun k B=>?_);have:=h.own id k (by rw[E,← I];exact B);exact this.1
 ·by_cases e:i=id
  ·subst e;exact h.use i _ E
  ·rw[d i e]at hy;exact h.use i y hy
 ·by_cases e:i=id
  ·subst e;rw[mc]at q;exact V g q
  ·rw[d i e]at q;exact⟨(h.own i g q).1,by have:=(h.own i g q).2;have:=J.size;omega⟩
 ·by_cases e:i=id
  ·by_cases L:N=id
   ·omega
   ·subst e;rw[mc]at f;rw[d N L]at m;rcases p with p|p
    ·exact h.inj i N g (by rw[E,← p];exact f) m
    ·rw[p]at f;injection f with f;have:=(h.own N g m).2;omega
  ·by_cases L:N=id
   ·subst L;rw[mc]at m;rw[d i e]at f;rcases p with p|p
    ·exact h.inj i N g f (by rw[E,← p];exact m)
    ·rw[p]at m;injection m with m;have:=(h.own i g f).2;omega
   ·rw[d i e]at f;rw[d N L]at m;exact h.inj i N g f m
 ·obtain⟨u,h1,_⟩:=jv z;exact h.ko i u h1
 ·simp only[cr]at z;by_cases e:i=id
  ·subst e;exact h.use i _ E
  ·rw[kb e]at z;exact h.kr i a z
 ·obtain⟨u,h1,rfl⟩:=jv z;have e:i≠id:=by
   rintro rfl
   obtain⟨g,T,vs,F,_,_⟩:=h.objs i u h1 (by rw[E];rcases n.2 with⟨G,_⟩|⟨_,_,_,G,_⟩<;>rw[G]<;>rfl);rw[E]at F;injection F with F;subst F
   rcases n.2 with⟨G,_⟩|⟨_,_,_,G,_⟩<;>cases G
  rw[d i e]at K;obtain⟨g,T,vs,F,S,U⟩:=h.objs i u h1 K;have P:some g≠v.ownBlock:=by
   rw[I];intro L;exact e (h.inj i id g (by rw[F];rfl) (by rw[E];exact L.symm))
  refine⟨g,T,vs,(d i e).trans F,(J.block g (h.own i g (by rw[F];rfl)).2 P).trans S,by rw[mi];exact U.len,U.one,fun j x v C G=>?_⟩;obtain⟨y,hy,rfl⟩:=lC C;exact((U.rel j y v hy G).cT d).mono J.size (fun b D p=>O b D p) R (fun _ _ h=>h)
 ·simp only[cr]at z;by_cases e:i=id
  ·subst e;rw[kc rfl]at z;injection z with z;subst z
   refine⟨v',xs++news,mc _ _ _,by simpa using Q,fun e he=>?_,fun x C=>?_,fun j e he k c B=>?_⟩
   ·rcases ls.1 he with he|he
    ·exact b0 e he
    ·exact f0 e he
   ·rcases ls.1 C with C|C
    ·exact X x C
    ·exact c0 x C
   ·simp only[]at he⊢;have g0:xs.length=ar.l.length*ar.sz:=n.1;by_cases hj:j<ar.l.length
    ·rw[Dz hj]at he;obtain⟨x,C,Y⟩:=a0 j e he k c B;have D:=(io.1 C).1;exact⟨x,by rw[Dz D];exact C,Y.mono J.size O R (ho _) (W _) (fun h=>h)⟩
    ·rw[AT (by omega)]at he;obtain⟨x,C,Y⟩:=d0 _ e he k c B;refine⟨x,?_,.inl (Y.mono J.size O R (fun _ _ h=>h))⟩;have hm:ar.l.length*ar.sz≤j*ar.sz:=Qf _ (by omega);rw[AT (by omega),g0];have S:j*ar.sz+k-ar.l.length*ar.sz=(j-ar.l.length)*ar.sz+k:=by rw[Nat.sub_mul];omega
     rw[S];exact C
  ·rw[kb e]at z;rw[d i e]at K;obtain⟨v1,h0,F,S,U,e4,e5⟩:=h.arrs i a z K;refine⟨v1,h0,(d i e).trans F,f8 S (fun g q=>?_),U,e4,fun j el hj k c B=>?_⟩
   ·have P:some g≠v.ownBlock:=by
     rw[I];intro L;exact e (h.inj i id g (by rw[F];exact q) (by rw[E];exact L.symm))
    exact J.block g (h.own i g (by rw[F];exact q)).2 P
   ·obtain⟨x,C,Y⟩:=e5 j el hj k c B;exact⟨x,C,Y.mono J.size O R (ho _) (W _) (fun h=>h)⟩
theorem Ft{α} k(v u:α):∀l,bm k v (bm k u l)=bm k v l
 | []=>by simp[bm]
 | (j,x)::r=>by
  by_cases h:k=j
  ·grind[bm]
  ·simp[bm,h,Ft k v u r]
theorem HS.nil{M:Nat→Prop}{H:aC}{w:World}{ι:Env}{s:AS}(h:HS M H w ι s){d:Nat}(E:has s.u d=false)(e:TypeId)(sz:Nat):
  HS M H w (ext ι d (.slice none 0 0)) { s with r:=bm d ⟨e,sz,[]⟩ s.r,u:=d::s.u }∧(∀b,NN M (ext ι d (.slice none 0 0)) b→NN M ι b):=by
 have B:=h.free E;have v:∀b,NN M (ext ι d (.slice none 0 0)) b→NN M ι b:=fun b l=>by
  rcases gx l with l|l
  ·exact l
  ·cases l
 have n:∀i g,bw (ext ι d (.slice none 0 0) i)=some g→bw (ι i)=some g:=fun i g o=>by
  by_cases e:i=d
  ·subst e;rw[cN]at o;cases o
  ·rwa[bT _ _ e]at o
 refine⟨⟨h.below,h.old,fun i y F=>?_,fun i g o=>h.own i g (n i g o),fun i G g o A=>h.inj i G g (n i g o) (n G g A),fun i cs f=>eh (h.ko i cs f),fun i a f=>?_,fun i cs f m=>?_,fun i a f m=>?_,fun i y m=>⟨fp B _ i y (h.pin i y m).1,qj (h.pin i y m).2⟩⟩,v⟩
 ·by_cases e:i=d
  ·subst e;exact ju _ _
  ·rw[bT _ _ e]at F;exact eh (h.use i y F)
 ·simp only[cr]at f;by_cases e:i=d
  ·subst e;exact ju _ _
  ·rw[kb e]at f;exact eh (h.kr i a f)
 ·have e:i≠d:=by rintro rfl;have:=h.ko i cs f;rw[E]at this;cases this
  rw[bT _ _ e]at m;obtain⟨g,T,vs,p,q,t⟩:=h.objs i cs f m;exact⟨g,T,vs,(bT _ _ e).trans p,q,t.mono (jf _) (fun b _ l=>v b l) (fun _ _ _=>rfl) (fp B _)⟩
 ·simp only[cr]at f;by_cases e:i=d
  ·subst e;rw[kc rfl]at f;injection f with f;subst f
   exact⟨.slice none 0 0,[],cN _ _ _,World.ownsRow_nil _ _ _ _,fun e z=>(by cases z),fun x C=>(by cases C),fun j e z=>by simp at z⟩
  ·rw[kb e]at f;rw[bT _ _ e]at m;obtain⟨Q,D,p,q,t,I,J⟩:=h.arrs i a f m;refine⟨Q,D,(bT _ _ e).trans p,q,t,I,fun j K N k c O=>?_⟩;obtain⟨x,C,P⟩:=J j K N k c O;exact⟨x,C,P.mono (jf _) (fun b _ l=>v b l) (fun _ _ _=>rfl) (fun r L=>fp B _ _ _ L) (fun _ _=>rfl) (fun h=>h)⟩
theorem ajp{m:Cx}{s s':AS}{a:Act}{w:World}{ι:Env}(q:aX m s a w ι){d:Nat}(hd:d<m.n){T ty:TypeId}{v x:AV}{V X:Value}(h:zy m.P s d T v x=some s')(S:Rel (NN m.M ι) w ι v V)(hx:Rel (NN m.M ι) w ι x X):
  ∃y w' ι',(Builtin.append_ #[T,T] ty #[V,X]).run m.P w=.ok y w'∧aX m s' (a.put (some d) y) w' ι'∧(∀i,i≠d→ι i=none→ι' i=none):=by
 unfold zy at h;split at h
 case h_2=>cases h
 rename_i e sz bytes f;unfold je at f;split at f
 case h_2=>cases f
 rename_i R hu;split at f
 case h_2=>cases f
 rename_i L p0;split at f
 case h_2=>cases f
 rename_i z hz;split at f
 case isFalse=>cases f
 rename_i m0;injection f with f
 injection f with W f
 injection f with n s0
 subst W;subst n;subst s0;split at h
 case h_2=>cases h
 rename_i new i0;obtain⟨A,c,rfl,y0,Z⟩:=Sl q i0 hx
 -- the general step,for a slice that has a name
 have key:∀{C:AS} {D:Env} {id:Nat} {ar:bW},aX m C a w D→m.w0.pv id=none→look id C.r=some ar→D id=some V→ar.e=R→ar.sz=L.size→ar.l.length+new.length≤maxLen→(ar.l.length+new.length)*L.bytes≤140737488355328 →
   (∀{y:AV} {Y:Value},y.di []=true→Rel (NN m.M ι) w ι y Y→Rel (NN m.M D) w D y Y)→(∀b,NN m.M D b→NN m.M ι b) →
   ∃y w' ι',(Builtin.append_ #[T,T] ty #[V,.slice A new.length c]).run m.P w=.ok y w'∧aX m { t:=bm d (.ref id) (dC id C.t),o:=fc id C.o,r:=bm id { ar with l:=ar.l++new } C.r,u:=C.u } (a.put (some d) y) w' ι'∧(∀i,D i=none→ι' i=none):=by
  intro C D id ar n k0 H E r0 has h0 t0 _ G;obtain⟨v1,xs,h1,h2,h3,h4,h5⟩:=n.hs.arrs id ar H (by rw[E];rfl);rw[E]at h1;injection h1 with h1;subst h1
  have F:∀(v':Value) (i:Nat),D i=none→rep D id v' i=none:=fun v' i J=>by
   rw[u0];exact J
   rintro rfl;rw[E]at J;cases J
  have d0:∀{v':Value} {w':World},(HS m.M m.w0 w' (rep D id v') { t:=dC id C.t,o:=fc id C.o,r:=bm id { ar with l:=ar.l++new } C.r,u:=C.u }∧(∀b,b<w.heap.size→NN m.M (rep D id v') b→NN m.M D b)∧(∀b,b<w.heap.size→¬ NN m.M D b→w'.heap[b]?=w.heap[b]?))→w.heap.size≤w'.heap.size→(∃A k c,v'=.slice A k c) →
    aX m { t:=bm d (.ref id) (dC id C.t),o:=fc id C.o,r:=bm id { ar with l:=ar.l++new } C.r,u:=C.u } (a.put (some d) v') w' (rep D id v'):=by
   intro v' w' ⟨g1,g2,g3⟩ o0 ⟨A',k',c',O⟩;have M:aX m { t:=dC id C.t,o:=fc id C.o,r:=bm id { ar with l:=ar.l++new } C.r,u:=C.u } a w' (rep D id v'):=by
    refine⟨g1,n.dfr,n.n,fun k y hk=>?_⟩;obtain⟨u,A0,rfl⟩:=oQ hk;obtain⟨Y,hY,hr⟩:=n.tmp k u A0;exact⟨Y,hY,(hr.cT (fun i J=>u0 _ _ J)).mono o0 g2 g3 (fun _ _ h=>h)⟩
   subst O;exact M.put (d:=some d) (fun k hk=>by injection hk with hk;subst hk;exact hd) (.ref _ _ _ _ _ (mc _ _ _))
  subst r0;rcases Z with K|⟨ad,vs,hA,T0,S0,q0,a1⟩
  ·subst K;have p:=alv (P:=m.P) w T ty ar.e L hu p0 0 ar.sz V ar.l.length xs h2 A c;refine⟨V,w,rep D id V,by simpa using p,d0 ?_ (jf _) ?_,F _⟩
   ·refine n.hs.app (news:=[]) k0 H E h2 h3 h4 h5 (fun h=>by simpa using h) ⟨rfl,rfl,rfl,jf _,fun _ _ _=>rfl⟩ (.inl rfl) ?_ (fun e W=>by cases W) (fun x hx=>by cases hx) (fun j e W=>by simp at W) (fun g N=>n.hs.own id g (by rw[E];exact N));rcases h2.2 with⟨S,_⟩|⟨g,a0,b0,S,_⟩<;>exact⟨_,_,_,S⟩
   ·rcases h2.2 with⟨S,_⟩|⟨g,a0,b0,S,_⟩<;>exact⟨_,_,_,S⟩
  ·subst hA;obtain⟨v',w',p,l0,g0,U,hk,O⟩:=acM (P:=m.P) w 0 T ty ar.e L z ar.sz L.bytes hu p0 hz has.symm rfl (by rw[has];exact m0.1) (by rw[has];exact m0.2) V ar.l.length xs h2 ad new.length c vs (by rw[has];exact T0) S0 q0 h0 t0 (tl _);refine⟨v',w',rep D id v',p,d0 ?_ g0.size O,F _⟩;refine n.hs.app k0 H E h2 h3 h4 h5 (fun _=>l0) g0 U O (by rw[has];exact y0) q0 (fun j e W i c J=>?_) (fun g N=>?_)
   ·rw[has];obtain⟨y,hy,hr⟩:=a1 j e W i c J;exact⟨y,hy,hr.mono (jf _) (fun b _ M=>G b M) (fun _ _ _=>rfl) (fun _ _ h=>h)⟩
   ·obtain⟨Q,_⟩|⟨g2,a0,b0,Q,b1,w0,_⟩:=l0.2
    ·rw[Q]at N;cases N
    ·rw[Q]at N;injection N with N;simp only[]at N;subst N
     refine⟨?_,(ob.1 w0).1⟩;rw[Q]at U;rcases U with e|e
     ·exact(n.hs.own id g2 (by rw[E,← e];rfl)).1
     ·have R:some g2=some w.heap.size:=e;injection R with R;subst R
      exact .inl n.hs.below.size
 split at h
 ·split at h
  ·cases h
  ·rename_i B;injection h with h;subst h
   have e0:has s.u d=false:=by
    cases v0:has s.u d
    ·rfl
    ·exact absurd (.inl v0) B
   have f0:new.length≤maxLen∧new.length*L.bytes≤140737488355328:=by
    by_cases h':new.length≤maxLen∧new.length*L.bytes≤140737488355328
    ·exact h'
    ·exact absurd (.inr h') B
   cases S;obtain⟨K,G⟩:=q.hs.nil e0 R L.size;have hn:=q.hs.free e0;have n:aX m { s with r:=bm d ⟨R,L.size,[]⟩ s.r,u:=d::s.u } a w (ext ι d (.slice none 0 0)) :=
    q.world K rfl (jf _) (fun b _ M=>G b M) (fun _ _ _=>rfl) (fp hn _)
   obtain⟨y,w',ι',p,I,F⟩:=key (id:=d) (ar:=⟨R,L.size,[]⟩) n (by cases hp:m.w0.pv d with|none=>rfl|some y=>have:=(q.hs.pin d y hp).1;rw[hn]at this;cases this) (by simp[cr]) (cN _ _ _) rfl rfl (by simpa using f0.1) (by simpa using f0.2)
    (fun hp hr=>(hr.pure hp _).mono (jf _) (fun b _ M=>G b M) (fun _ _ _=>rfl) (fun _ _ h=>h)) G
   refine⟨y,w',ι',p,?_,fun i J x0=>F i ((bT _ _ J).trans x0)⟩;simpa[Ft]using I
 ·split at h
  ·rename_i id _ ar H;split at h
   ·rename_i B;injection h with h;subst h
    obtain⟨c0,c1,c2,c3,c4⟩:=B;cases S with
    | ref _ _ A' n' c' hι =>
     obtain⟨y,w',ι',p,I,F⟩:=key q (by cases hp:m.w0.pv id with|none=>rfl|some y=>have:=(q.hs.pin id y hp).2;rw[c0]at this;cases this) H hι c1 c2 c3 c4 (fun hp hr=>hr) (fun b M=>M);exact⟨y,w',ι',p,I,fun i _ J=>F i J⟩
   ·cases h
  ·cases h
 ·cases h
theorem PV:Array.range 0 = #[]:=rfl
def fG(n:Int)(bytes:Nat):Bool:=decide (0≤n)&&(decide (n≤9223372036854775807)&&decide (n.toNat*bytes≤140737488355328))
theorem R1{P:Program}(w:World)(t e:TypeId)(i:TypeInfo)(z:Value)(f:P.underlying t=some (.slice e))(c:P.info? e=some i)(m:i.zero=some z)
  (kl n:IntKind) (l:Int) (g:0≤l) (j:l≤9223372036854775807) (b:l.toNat*i.bytes≤140737488355328) (d:0<i.size) :
  (Instr.makeSlice t (.int kl l) (.int n l)).run P w=.ok (.slice (some ⟨w.heap.size,0,none⟩) l.toNat l.toNat) (w.alloc (.cells ((Array.range (l.toNat*i.size)).map (z.cells[· % z.cells.size]!)) e)):=by
 have r:IntKind.i64.wrap l=l:=by rw[amg];omega
 have o:¬ l<0:=by omega
 have p:¬ (281474976710656<(i.bytes:Int)*l):=by
  have:(i.bytes:Int)*l=((l.toNat*i.bytes:Nat):Int):=by
   rw[Int.natCast_mul,Int.toNat_of_nonneg g,anB]
  omega
 have q:¬ (140737488355328<l.toNat*i.bytes):=by omega
 by_cases k:l.toNat*i.size=0
 ·have a:l.toNat=0:=by
   rcases Nat.mul_eq_zero.1 k with h|h
   ·exact h
   ·omega
  simp[Instr.makeSlice,n5 f,asInt,asIntOf,typeInfo,c,sizeOf,r,o,p,q,newRow,askRoom,roomBytes,a,PV]
 ·simp[Instr.makeSlice,n5 f,asInt,asIntOf,typeInfo,c,sizeOf,zeroValue,m,newRow]
  grind
theorem RI{P:Program}{N:Nat→Prop}(w:World){T e:TypeId}{sz bytes:Nat}{m:Int}{zc:List AV}(d:je P T=some (e,sz,bytes))(R:ft P e=some zc)(D:fG m bytes=true)(kd kd':IntKind):
  ∃vs:eb,(Instr.makeSlice T (.int kd m) (.int kd' m)).run P w=.ok (.slice (some ⟨w.heap.size,0,none⟩) m.toNat m.toNat) (w.alloc (.cells vs.toArray e))∧m.toNat≤maxLen∧vs.length=m.toNat*sz∧(∀c∈List.replicate m.toNat (zc.map ji),c.length=sz)∧(∀v∈vs,v.oneCell'=true) ∧
   ∀(j:Nat) (c:List AV),(List.replicate m.toNat (zc.map ji))[j]?=some c→∀(i:Nat) (x:AV),c[i]?=some x→∃v,vs[j*sz+i]?=some v∧Rel N w bG x v:=by
 simp only[fG,h8,qv]at D;obtain⟨H,I,J⟩:=D;unfold je at d;split at d
 case h_2=>cases d
 rename_i K B;split at d
 case h_2=>cases d
 rename_i b r;split at d
 case h_2=>cases d
 rename_i z s;split at d
 case isFalse=>cases d
 rename_i g;injection d with d;injection d with L d;injection d with M O
 subst L;subst M;subst O;have C:mQ z.cells.toList=some zc:=by simpa[ft,r,s]using R
 have a:=(mE N w bG C);have A:=a.pz;have p:=R1 w T K b z B r s kd kd' m H I J g.2;have f:zc.length=b.size:=by rw[a.len,← g.1];simp
 have h:∀q,q<m.toNat*b.size→((Array.range (m.toNat*b.size)).map (z.cells[· % z.cells.size]!)).toList[q]?=z.cells.toList[q % b.size]?:=fun q k=>by
  have F:q % b.size<z.cells.size:=by rw[g.1];exact Nat.mod_lt _ g.2
  simp[k,g.1];rw[getElem!_pos z.cells (q % b.size) F,iO F]
 refine⟨((Array.range (m.toNat*b.size)).map (z.cells[· % z.cells.size]!)).toList,by rw[ain];exact p,by unfold maxLen;omega,by simp,fun c Q=>?_,fun v t=>?_,fun j c n i x G=>?_⟩
 ·rw[(List.mem_replicate.1 Q).2,nw,f]
 ·obtain⟨q,k⟩:=amc t;have y:q<m.toNat*b.size:=by have:=(io.1 k).1;simpa using this
  rw[h q y]at k;exact a.one v (lp k)
 ·rw[al4]at n;split at n
  ·rename_i u;injection n with n;subst n
   have E:i<b.size:=by have:=(io.1 G).1;rw[nw,f]at this;exact this
   have k:j*b.size+i<m.toNat*b.size:=by
    have:(j+1)*b.size≤m.toNat*b.size:=Qf _ u;rw[aix,alY]at this;omega
   have o:(j*b.size+i) % b.size=i:=by rw[amn,Nat.mul_add_mod,amD E]
   rw[h _ k,o];have t:=iN (l:=z.cells.toList) (i:=i) (by rw[←a.len,f];exact E);exact⟨_,t,A.rel i x _ G t⟩
  ·cases n
def sr(P:Program)(s:AS)(T:TypeId)(x y:Operand):Option AV :=
 match s.ev x,s.ev y,je P T with
 | some (.int _ m),some (.int _ a),some (e,_,bytes)=>match ft P e with
  | some zc=>if m=a∧fG m bytes=true then some (.sl (List.replicate m.toNat (zc.map ji))) else none
  | none=>none
 | _,_,_=>none
theorem X2{c:Cx}{s:AS}{a:Act}{w:World}{ι:Env}(g:aX c s a w ι){T:TypeId}{x y:Operand}{v:AV}(h:sr c.P s T x y=some v):
  ∃X w',(Instr.makeSlice T (a.eval x) (a.eval y)).run c.P w=.ok X w'∧aX c s a w' ι∧Rel (NN c.M ι) w' ι v X:=by
 unfold sr at h;split at h
 case h_2=>cases h
 rename_i kd m kd' r e sz bytes k l j;split at h
 case h_2=>cases h
 rename_i zc n;split at h
 case isFalse=>cases h
 rename_i i;obtain⟨rfl,d⟩:=i;injection h with h;subst h
 obtain⟨vs,f,t,u,o,p,q⟩:=RI (P:=c.P) (N:=NN c.M ι) w j n d kd kd';refine⟨_,_,by rw[l6 g k,l6 g l];exact f,?_,?_⟩
 ·exact g.world (g.hs.fresh _) rfl (by simp) (fun b _ d=>d) (fun b d _=>u5 _ _ _ d) (fun _ _ h=>h)
 ·have:=Ny (T:=e) g.hs o p q;simpa using this
theorem HS.VC{M:Nat→Prop}{w0:aC}{w:World}{ι:Env}{s:AS}(h:HS M w0 w ι s){id g n c:Nat}{ar:bW}{l':List (List AV)}{xs':eb}{m:Array Value}{T:TypeId}
  (V:look id s.r=some ar) (t:ι id=some (.slice (some ⟨g,0,none⟩) n c)) (hg:w.heap[g]?=some (.cells m T (0,0))) (P:l'.length=ar.l.length) (hz:∀e∈l',e.length=ar.sz) (N:xs'.length=ar.l.length*ar.sz) (E:∀x∈xs',x.oneCell'=true)
  (hc:∀(j:Nat) (e:List AV),l'[j]?=some e→∀(i:Nat) (c:AV),e[i]?=some c→∃x,xs'[j*ar.sz+i]?=some x∧gK (NN M ι) w (TG≤id) (ι (nm id (j*ar.sz+i))) c x) :
  HS M w0 (w.setRow g (xs'++m.toList.drop xs'.length).toArray) ι ({ s with r:=bm id { ar with l:=l' } s.r }):=by
 obtain⟨v,xs,O,e2,e3,e4,e5⟩:=h.arrs id ar V (by rw[t];rfl);rw[t]at O;injection O with O;subst O
 have q:bw (ι id)=some g:=by rw[t];rfl
 obtain⟨hv,_⟩|⟨D,f0,e0,hv,p,d,J,H,o,a0⟩:=e2.2
 ·cases hv
 injection hv with G hn W
 injection G with G;injection G with G;subst G;subst W
 rw[hg]at d;injection d with d;injection d with q1 q2 q3;subst q1;subst q2
 have z:ar.l.length*ar.sz≤c*ar.sz:=Qf _ J;generalize hC:(xs'++m.toList.drop xs'.length).toArray=C;have Q:∀b,b<w.heap.size→¬ NN M ι b→(w.setRow g C).heap[b]?=w.heap[b]?:=fun b _ p=>eK (fun e=>p (.inr ⟨id,by rw[e];exact q⟩));obtain⟨L,g0⟩:=h.own id g q;refine⟨?_,h.old,h.use,fun i k I=>?_,h.inj,h.ko,fun i a f=>?_,fun i cs f hp=>?_,fun i a f hp=>?_,h.pin⟩
 ·exact h.below.trans ⟨rfl,rfl,rfl,by simp,fun k I hG=>eK (fun e=>by subst e;rcases L with L|L;exact Nat.lt_irrefl _ (u7 I L);exact hG L)⟩
 ·have:=h.own i k I;simp;exact this
 ·simp only[cr]at f;by_cases B:i=id
  ·subst B;exact h.use i _ t
  ·rw[kb B]at f;exact h.kr i a f
 ·obtain⟨D,T',c0,E,u,y⟩:=h.objs i cs f hp;have Z:D≠g:=fun R=>by
   have:=h.inj i id g (by rw[E,R];rfl) q;subst this;rw[E]at t;cases t
  exact⟨D,T',c0,E,(eK Z).trans u,y.mono (by simp) (fun b _ p=>p) Q (fun _ _ h=>h)⟩
 ·simp only[cr]at f;by_cases B:i=id
  ·subst B;rw[kc rfl]at f;injection f with f;subst f
   have K:xs'.length≤m.toList.length:=by rw[N,Dj,o];exact z
   refine⟨_,xs',t,⟨by simpa[P]using N,.inr ⟨g,c,C,by simp[hn,P],p,anE w g m _ _ _ hg,by simpa[P]using J,H,?_,?_⟩⟩,hz,E,fun j e X k c' I=>?_⟩
   ·rw[←hC];simp only[am3,mm,agk];rw[←Nat.add_sub_assoc K,Nat.add_sub_cancel_left,Dj];exact o
   ·rw[←hC];simp only[P,← N];rw[List.take_left'];rfl
   ·obtain⟨x,b0,hr⟩:=hc j e X k c' I;exact⟨x,b0,hr.mono (by simp) (fun b _ p=>p) Q (fun _ h=>h) (fun r A=>eK (fun e=>h.ot A t (fun _ e=>by cases e) (by rw[e];rfl))) (fun h=>h)⟩
  ·rw[kb B]at f;obtain⟨v',d0,F,u,y,S,U⟩:=h.arrs i a f hp;refine⟨v',d0,F,f8 u (fun D d=>eK ?_),y,S,fun j el X k c Y=>?_⟩
   ·intro R;subst R;exact B (h.inj i id D (by rw[F];exact d) q)
   ·obtain⟨x,N,hr⟩:=U j el X k c Y;exact⟨x,N,hr.mono (by simp) (fun b _ p=>p) Q (fun _ h=>h) (fun r A=>eK (fun e=>h.ot A t (fun _ e=>by cases e) (by rw[e];rfl))) (fun h=>h)⟩
def l9{α:Type}(L:List α)(off m:Nat)(S:List α)(a b:Nat):List α:=List.take off L++(List.take (min b m) (List.drop a S)++List.drop (off+min b m) L)
def PY(off m n a b c:Nat):Bool:=decide (off+m≤n)&&decide (a+b≤c)
theorem aeV{α:Type}(L:List α) off m S a b(c:off+m≤L.length)(d:a+b≤S.length):(l9 L off m S a b).length=L.length:=by
 grind[l9]
theorem alq{α:Type}(L:List α)(off m:Nat)(S:List α)(a b:Nat)(e:off+m≤L.length)(f:a+b≤S.length)(j:Nat):(l9 L off m S a b)[j]?=if j<off then L[j]? else if j<off+min b m then S[a+(j-off)]? else L[j]?:=by
 have c:(List.take off L).length=off:=by grind
 have d:(List.take (min b m) (List.drop a S)).length=min b m:=by grind
 grind[l9]
section
variable{d:Cx}{s:AS}
def oT(s:AS):AV→Option (Nat×TypeId×List (List AV)×Option ek)
 | .ref id=>match look id s.r with|some ⟨et,sz,l⟩=>(match Nat.beq sz 1&&Nat.ble (id+1) TG with|true=>some (id,et,l,none)|false=>none)|none=>none
 | .sref id sz off m=>match look id s.r with|some ⟨et,a,l⟩=>(match (Nat.beq sz 1&&Nat.beq a 1)&&Nat.ble (id+1) TG with|true=>some (id,et,l,some (off,m))|false=>none)|none=>none
 | _=>none
def rT(s:AS):AV→Option (List (List AV)×Option ek)
 | .sl l=>some (l,none)
 | v=>(oT s v).map fun x=>(x.2.2.1,x.2.2.2)
def fH(o:Option ek)(n:Nat):Nat×Nat:=match o with|some q=>q|none=>(0,n)
theorem Nr{a:Act}{w:World}{ι:Env}(Q:aX d s a w ι){u:AV}{X:Value}(H:Rel (NN d.M ι) w ι u X){id:Nat}{et:TypeId}{l:List (List AV)}{I:Option ek}(h:oT s u=some (id,et,l,I)){off m:Nat}(q:fH I l.length=(off,m)):
  id<TG∧look id s.r=some ⟨et,1,l⟩∧∃B k,X=.slice B m k∧((m=0∧(B=none→k=0∨True))∨∃g n c,ι id=some (.slice (some ⟨g,0,none⟩) n c)∧B=some ⟨g,off,none⟩)∧(B=none∨∃a,B=some a):=by
 have x:∀B:Option Addr,B=none∨∃a,B=some a:=fun B=>by cases B with|none=>exact .inl rfl|some a=>exact .inr ⟨a,rfl⟩
 unfold oT at h;split at h
 ·split at h
  case h_2=>cases h
  rename_i r sz l' p;split at h
  case h_2=>cases h
  rename_i b;rw[h8]at b;have f:=iF b.2;have b:=mo b.1;simp only[sj,wl]at h;obtain⟨rfl,rfl,rfl,rfl⟩:=h;subst b;simp only[fH,wl]at q;obtain⟨rfl,rfl⟩:=q;refine⟨f,p,?_⟩;cases H with
  | ref _ _ A n c j =>
   obtain⟨v,xs,o,K,S,T,U⟩:=Q.hs.arrs _ _ p (by rw[j];rfl);rw[j]at o;injection o with o;subst o
   obtain⟨E,i⟩|⟨L,J,F,E,V,O,P,G,C,D⟩:=K.2
   ·injection E with t z e
    subst t;subst z;subst e;exact⟨none,0,by simp only[]at i⊢;rw[i],.inl ⟨i,fun _=>.inl rfl⟩,x _⟩
   ·injection E with t z e
    subst t;subst z;subst e;exact⟨_,c,rfl,.inr ⟨L,_,c,j,rfl⟩,x _⟩
 ·split at h
  case h_2=>cases h
  rename_i r R l' p;split at h
  case h_2=>cases h
  rename_i b;rw[h8,h8]at b;have f:=iF b.2;have M:=mo b.1.1;have N:=mo b.1.2;simp only[sj,wl]at h;obtain⟨rfl,rfl,rfl,rfl⟩:=h;subst M;subst N;simp only[fH,wl]at q;obtain⟨rfl,rfl⟩:=q;refine⟨f,p,?_⟩;cases H with
  | sref _ _ _ _ _ n c k A B j y =>
   refine⟨B,k,rfl,?_,x _⟩;rcases y with i|⟨g,rfl,rfl,_⟩
   ·exact .inl ⟨i,fun _=>.inr trivial⟩
   ·exact .inr ⟨g,n,c,j,by simp⟩
 grind
theorem aa3{a:Act}{w:World}{ι:Env}(M:aX d s a w ι){u:AV}{X:Value}(o:Rel (NN d.M ι) w ι u X){l:List (List AV)}{Q:Option ek}(h:rT s u=some (l,Q)){off m:Nat}(L:fH Q l.length=(off,m))(P:∀e∈l,e.length=1)(V:off+m≤l.length):
  ∃A t,X=.slice A m t∧∀k,k≤m→k=0∨∃(p:Addr) (vs:eb),A=some p∧vs.length=k∧(∀(j:Nat) (u:Value),vs[j]?=some u→w.cell? (p.add j)=some u)∧(∀x∈vs,x.oneCell'=true)∧∀(j:Nat),j<k→∀(e:List AV),l[off+j]?=some e→∀(i:Nat) (c:AV),e[i]?=some c→∃y,vs[j*1+i]?=some y∧Rel (NN d.M ι) w bG c y:=by
 have R:∀{id:Nat} {et:TypeId},oT s u=some (id,et,l,Q)→∃A t,X=.slice A m t∧∀k,k≤m→k=0∨∃(p:Addr) (vs:eb),A=some p∧vs.length=k∧(∀(j:Nat) (u:Value),vs[j]?=some u→w.cell? (p.add j)=some u)∧(∀x∈vs,x.oneCell'=true)∧∀(j:Nat),j<k→∀(e:List AV),l[off+j]?=some e→∀(i:Nat) (c:AV),e[i]?=some c→∃y,vs[j*1+i]?=some y∧Rel (NN d.M ι) w bG c y:=fun {id et} z=>by
  obtain⟨a0,hl,B,t,rfl,hB,_⟩:=Nr M o z L;refine⟨B,t,rfl,fun k J=>?_⟩;obtain⟨U,_⟩|⟨g,n,c,W,rfl⟩:=hB
  ·exact .inl (by omega)
  ·right;obtain⟨v,xs,E,S,e3,Y,G⟩:=M.hs.arrs _ _ hl (by rw[W];rfl);have T:∀(j:Nat) (e:List AV),l[j]?=some e→∀(i:Nat) (c:AV),e[i]?=some c→∃x,xs[j*1+i]?=some x∧Rel (NN d.M ι) w bG c x:=fun j e f i c H=>by
    obtain⟨x,D,o⟩:=G j e f i c H;exact⟨x,D,o.flat (by omega)⟩
   rw[W]at E;injection E with E;subst E
   have r:=S.cells (g:=g) rfl;have N:=S.1;simp only[ans]at N T;refine⟨⟨g,off,none⟩,(xs.drop off).take k,rfl,by rw[IN,agk];omega,fun j y b=>?_,fun x D=>Y x (v9 (oR D)),fun j b e f i c C=>?_⟩
   ·rw[yk]at b;split at b
    ·rw[acN]at b;have:=r _ _ b;rw[ajg]at this⊢;rw[DO]at this;exact this
    ·cases b
   ·have I:i=0:=by
     have F:=(io.1 C).1;rw[P e (lp f)]at F;omega
    obtain⟨y,O,o⟩:=T _ e f i c C;refine⟨y,?_,o⟩;rw[yk,kc (by omega),acN,ans,← amo];exact O
 unfold rT at h;split at h
 ·rename_i l';simp only[sj,wl]at h;obtain⟨rfl,rfl⟩:=h;simp only[fH,wl]at L;obtain⟨rfl,rfl⟩:=L;have K:oE s 1 (.sl l')=some l':=by
   have ha:l'.all (fun e=>e.length == 1)=true:=ne.2 fun e f=>by simp[P e f]
   simp only[oE,ha,w3]
  obtain⟨A,c,rfl,_,H⟩:=Sl M K o;refine⟨A,c,rfl,fun k J=>?_⟩;by_cases U:k=0
  ·exact .inl U
  rcases H with rfl|⟨p,vs,rfl,F,Z,h4,h5⟩
  ·simp at J;exact .inl J
  ·refine .inr ⟨p,vs.take k,rfl,by rw[IN];omega,fun j y b=>?_,fun x D=>h4 x (oR D),fun j b e f i c C=>?_⟩
   ·rw[yk]at b;split at b
    ·exact Z j y b
    ·cases b
   ·have I:i=0:=by
     have F:=(io.1 C).1;rw[P e (lp f)]at F;omega
    rw[DO]at f;obtain⟨y,O,o⟩:=h5 j e f i c C;exact⟨y,by rw[yk,kc (by omega)];exact O,o⟩
 ·cases z:oT s u with
  | none=>rw[z]at h;cases h
  | some q =>
   obtain⟨id,et,l',b0⟩:=q;rw[z]at h;simp only[MO,sj,wl]at h;obtain⟨rfl,rfl⟩:=h;exact R z
def sH(P:Program)(s:AS)(T:TypeId)(u v:AV):Option (AS×AV) :=
 match gk P T,oT s u,rT s v with
 | some (et,sz),some (id,d,l,b),some (a,c) =>
  if sz=1∧et=d∧(∀e∈l,e.length=1)∧(∀e∈a,e.length=1)∧PY (fH b l.length).1 (fH b l.length).2 l.length (fH c a.length).1 (fH c a.length).2 a.length=true then
   some ({ s with r:=bm id ⟨et,1,l9 l (fH b l.length).1 (fH b l.length).2 a (fH c a.length).1 (fH c a.length).2⟩ s.r },.int .i64 (min (fH c a.length).2 (fH b l.length).2:Nat)) else none
 | _,_,_=>none
theorem agW{a:Act}{w:World}{ι:Env}(f:aX d s a w ι){T T' ty:TypeId}{u v r:AV}{s':AS}(h:sH d.P s T u v=some (s',r)){X Y:Value}(o0:Rel (NN d.M ι) w ι u X)(p0:Rel (NN d.M ι) w ι v Y):
  ∃y w',(Builtin.copy_ #[T,T'] ty #[X,Y]).run d.P w=.ok y w'∧aX d s' a w' ι∧Rel (NN d.M ι) w' ι r y:=by
 unfold sH at h;split at h
 case h_2=>cases h
 rename_i et sz id a1 l od Z os J hu hv;split at h
 case isFalse=>cases h
 rename_i M;obtain⟨c1,c2,hz,V,hc⟩:=M;subst c1;subst c2;injection h with h;injection h with W e2;subst W;subst e2
 generalize e0:(fH od l.length).1=off at *;generalize w0:(fH od l.length).2=m at *;generalize O:(fH os Z.length).1=o at *;generalize d0:(fH os Z.length).2=D at *;have ho:fH od l.length=(off,m):=by rw[←e0,← w0]
 have x0:fH os Z.length=(o,D):=by rw[←O,← d0]
 simp only[PY,h8,qv]at hc;obtain⟨a0,L⟩:=hc;obtain⟨f1,F,B,c',rfl,hB,b1⟩:=Nr (off:=off) (m:=m) f o0 hu ho;obtain⟨A,c2,rfl,s0⟩:=aa3 (off:=o) (m:=D) f p0 hv x0 V L;unfold gk at J;split at J
 case h_2=>cases J
 rename_i e' C;cases p:d.P.info? e' with
 | none=>simp[cB,p]at J
 | some ie =>
  simp only[cB,p,MO,sj,wl]at J;obtain⟨rfl,f0⟩:=J;have q:Nat.min D m=min D m:=rfl;by_cases K:min D m=0
  ·-- nothing is copied
   have hL:l9 l off m Z o D=l:=by unfold l9;rw[K];simp
   have t:(Builtin.copy_ #[T,T'] ty #[.slice B m c',.slice A D c2]).run d.P w=.ok (goInt 0) w:=by
    have l0:∀a:Addr,(loadCells a 0).run d.P w=.ok #[] w:=fun a=>by simp[loadCells,loadCellsFrom]
    cases A with
    | none=>cases B with
     | none=>simp[Builtin.copy_,n5 C,Builtin.lenOf,Builtin.firstCells,sizeOf,typeInfo,p,q,K]
     | some b=>simp[Builtin.copy_,n5 C,Builtin.lenOf,Builtin.firstCells,sizeOf,typeInfo,p,q,K,storeCells]
    | some a=>cases B with
     | none=>simp[Builtin.copy_,n5 C,Builtin.lenOf,Builtin.firstCells,sizeOf,typeInfo,p,q,K,l0]
     | some b=>simp[Builtin.copy_,n5 C,Builtin.lenOf,Builtin.firstCells,sizeOf,typeInfo,p,q,K,l0,storeCells]
   rw[hL,K];have Q:aX d { s with r:=bm id ⟨e',1,l⟩ s.r } a w ι:=by
    refine⟨⟨f.hs.below,f.hs.old,f.hs.use,f.hs.own,f.hs.inj,f.hs.ko,fun j ar k=>?_,f.hs.objs,fun j ar k hp=>?_,f.hs.pin⟩,f.dfr,f.n,f.tmp⟩
    ·simp only[cr]at k;split at k
     ·rename_i e;subst e;exact f.hs.kr j _ F
     ·exact f.hs.kr j ar k
    ·simp only[cr]at k;split at k
     ·rename_i e;subst e;injection k with k;subst k;exact f.hs.arrs j _ F hp
     ·exact f.hs.arrs j ar k hp
   exact⟨_,w,t,Q,.int _ _ _⟩
  ·rcases s0 (min D m) (Nat.min_le_left _ _)with m0|⟨ad,vs,rfl,i0,y0,g0,A0⟩
   ·exact absurd m0 K
   obtain⟨d1,_⟩|⟨g,n,c,hι,rfl⟩:=hB
   ·omega
   obtain⟨v1,xs,W,e2,e3,e4,e5⟩:=f.hs.arrs _ _ F (by rw[hι];rfl);rw[hι]at W;injection W with W;subst W
   obtain⟨S,_⟩|⟨g',T0,i,S,hb,b0,v0,S0,R,z⟩:=e2.2
   ·cases S
   injection S with hA hn r0
   injection hA with hA;injection hA with hA;subst hA;subst r0
   have k0:=e2.1;simp only[ans]at k0 R z v0 hn e5;have H:off+vs.length≤i.size:=by omega
   have t:=run_copy_row (P:=d.P) w T T' ty e' g off m c' ad D c2 i e' vs C (by rw[p];simp[f0]) b0 i0 y0 H g0;have U:(xs.take off++vs++xs.drop (off+vs.length)).length=l.length:=by rw[nV _ _ _ (by omega)];exact k0
   have hC:i.toList.take off++vs++i.toList.drop (off+vs.length)=(xs.take off++vs++xs.drop (off+vs.length))++i.toList.drop (xs.take off++vs++xs.drop (off+vs.length)).length:=by
    apply al1;intro j;have J:∀j,xs[j]?=if j<l.length then i.toList[j]? else none:=fun j=>by rw[←z,yk]
    rw[kJ _ _ _ (by rw[Dj];exact H),U];by_cases k:j<l.length
    ·rw[Dz (by omega),kJ _ _ _ (by omega),J j,kc k]
    ·rw[AT (by omega),U,acN,kb (by omega),kb (by omega)];congr 1;omega
   have I:=f.hs.VC (l':=l9 l off m Z o D) (xs':=xs.take off++vs++xs.drop (off+vs.length)) F hι b0 (by rw[aeV _ _ _ _ _ _ a0 L]) (fun e he=>by
     unfold l9 at he;rcases ls.1 he with he|he
     ·exact hz e (oR he)
     ·rcases ls.1 he with he|he
      ·exact V e (v9 (oR he))
      ·exact hz e (v9 he)) (by simpa using U) (fun x G=>by
     rcases ls.1 G with G|G
     ·rcases ls.1 G with G|G
      ·exact e4 x (oR G)
      ·exact g0 x G
     ·exact e4 x (v9 G)) (fun j e he i' c0 E=>by
     rw[alq _ _ _ _ _ _ a0 L]at he;simp only[ans];have N:e.length=1→i'=0:=fun hm=>by
      have h2:=(io.1 E).1;omega
     split at he
     ·rename_i k;have:=N (hz e (lp he));subst this;rw[kJ _ _ _ (by omega),alS,kc k];have:=e5 j e he 0 c0 E;simpa using this
     ·rename_i k;split at he
      ·rename_i t0;have:=N (V e (lp he));subst this;rw[kJ _ _ _ (by omega),alS,kb k,kc (by omega)];obtain⟨y,hy,hr⟩:=A0 (j-off) (by omega) e (by simpa using he) 0 c0 E;exact⟨y,by simpa using hy,.inl hr⟩
      ·rename_i t0;have:=N (hz e (lp he));subst this;rw[kJ _ _ _ (by omega),alS,kb k,kb (by omega)];have:=e5 j e he 0 c0 E;simpa using this)
   rw[←hC]at I;have q0:bw (ι id)=some g:=by rw[hι];rfl
   have Q:aX d { s with r:=bm id ⟨e',1,l9 l off m Z o D⟩ s.r } a (w.setRow g (i.toList.take off++vs++i.toList.drop (off+vs.length)).toArray) ι :=
    f.world I rfl (by simp) (fun b _ hb=>hb) (fun b _ hb=>eK (fun e=>hb (.inr ⟨id,by rw[e];exact q0⟩))) (fun _ _ h=>h)
   refine⟨_,_,t,Q,?_⟩;rw[i0];exact .int _ _ _
end
def cH(n:Nat):Option Tmp→Bool
 | none=>true
 | some k=>decide (k<n)
theorem gj{n}{d}(h:cH n d=true):∀k,d=some k→k<n:=fun k a=>by grind[cH]
def qF(s:AS)(d:Nat)(cs:List AV):Option AS:=if (has s.u d||Nat.ble 450000 d)=true then none else some { t:=bm d (.ptr d 0) s.t,o:=bm d cs s.o,r:=s.r,u:=d::s.u }
theorem My{e:Cx}{s s':AS}{a:Act}{w:World}{ι:Env}(c:aX e s a w ι){d:Nat}(x:d<e.n){cs:List AV}(h:qF s d cs=some s'){vs:eb}(p:Cells (NN e.M ι) w ι cs vs)(T:TypeId):
  ∃ι',aX e s' (a.put (some d) (.pointer (some ⟨w.heap.size,0,none⟩))) (w.alloc (.cells vs.toArray T)) ι'∧(∀i,i≠d→ι i=none→ι' i=none):=by
 unfold qF at h;split at h
 ·cases h
 ·rename_i v;injection h with h;subst h
  have l:=Bool.or_eq_false_iff.1 (Bool.eq_false_iff.2 v:(has s.u d||Nat.ble 450000 d)=false);have g:has s.u d=false:=l.1;have t:=c.hs.alloc (d:=d) g (T:=T) (fun h=>by have:=alM h;grind) p;have r:=c.hs.free g;have n:aX e { s with o:=bm d cs s.o,u:=d::s.u } a (w.alloc (.cells vs.toArray T)) (ext ι d (.pointer (some ⟨w.heap.size,0,none⟩))):=by
   refine c.world t rfl (by simp) (fun b m f=>?_) (fun b m _=>u5 _ _ _ m) (fp r _);rcases gx f with f|f
   ·grind
   ·injection f with f;grind
  exact⟨_,n.put (d:=some d) (fun k y=>by grind) (.ptr _ _ _ _ (cN _ _ _)),fun i q j=>(bT _ _ q).trans j⟩
def vE(P:Program)(s:AS)(T:TypeId)(v:AV):Option AV :=
 match gk P T with
 | some _=>match v with
  | .nils=>some (.int .i64 0)
  | .sl l=>some (.int .i64 l.length)
  | .ref id=>match look id s.r with|some a=>some (.int .i64 a.l.length)|none=>none
  | .sref _ _ _ m=>some (.int .i64 m)
  | _=>none
 | none=>match mK P T with
  | some (n,_)=>some (.int .i64 n)
  | none=>if Nk P T=true then (match v with|.str b=>some (.int .i64 b.size)|_=>none) else none
theorem adw{j:Cx}{s:AS}{a:Act}{w:World}{ι:Env}(q:aX j s a w ι){T:TypeId}{v r:AV}(h:vE j.P s T v=some r){x:Value}(t:Rel (NN j.M ι) w ι v x)(ty:TypeId):
  ∃y,(Builtin.len_ #[T] ty #[x]).run j.P w=.ok y w∧Rel (NN j.M ι) w ι r y:=by
 unfold vE at h;split at h
 ·rename_i e i;unfold gk at i;split at i
  ·rename_i K f;split at h
   ·injection h with h;subst h
    cases t;exact⟨_,by simp[Builtin.len_,n5 f,goInt],.int _ _ _⟩
   ·rename_i l;injection h with h;subst h
    cases t with
    | sl0 A c=>exact⟨_,by simp[Builtin.len_,n5 f,goInt],.int _ _ _⟩
    | sl _ _ b o c sz I D R p m S V _=>exact⟨_,by simp[Builtin.len_,n5 f,goInt],.int _ _ _⟩
   ·rename_i id;split at h
    ·rename_i ar u;injection h with h;subst h
     cases t with
     | ref _ _ A n c E =>
      obtain⟨v,xs,m,H,N,O,P⟩:=q.hs.arrs id ar u (by rw[E];rfl);rw[E]at m;injection m with m;subst m
      have p:n=ar.l.length:=by
       obtain⟨C,M⟩|⟨L,F,G,C,_⟩:=H.2
       ·injection C with _ p _;omega
       ·injection C
      subst p;exact⟨_,by simp[Builtin.len_,n5 f,goInt],.int _ _ _⟩
    ·cases h
   ·injection h with h;subst h
    cases t with
    | sref _ _ _ _ _ n c J A B E Q=>exact⟨_,by simp[Builtin.len_,n5 f,goInt],.int _ _ _⟩
   ·cases h
  ·cases i
 ·split at h
  ·rename_i n k d;injection h with h;subst h
   unfold mK at d;split at d
   ·rename_i W e f;cases D:cB j.P e with
    | none=>rw[D]at d;cases d
    | some z =>
     rw[D]at d;injection d with d;injection d with p U;subst p
     exact⟨_,by simp[Builtin.len_,n5 f,goInt],.int _ _ _⟩
   ·cases d
  ·split at h
   ·rename_i g;split at h
    ·injection h with h;subst h
     cases t;unfold Nk at g;split at g
     ·rename_i f;exact⟨_,by simp[Builtin.len_,n5 f,goInt],.int _ _ _⟩
     ·cases g
    ·cases h
   grind
def Fu:List AV→Option AV
 | [.int k x,.int a y]=>if k=a then some (.int k (max x y)) else none
 | _=>none
def JK:List AV→Option AV
 | [.int k x,.int a y]=>if k=a then some (.int k (min x y)) else none
 | _=>none
def dr(s:AS):List Operand→Option (List AV)
 | []=>some []
 | x::r=>match s.ev x,dr s r with|some v,some l=>some (v::l)|_,_=>none
def m5(P:Program)(s:AS)(b:Builtin)(xs:List Operand)(a:List TypeId):Option AV :=
 match b with
 | .len=>match xs,a with
  | [x],[T]=>match s.ev x with|some v=>vE P s T v|none=>none
  | _,_=>none
 | .max=>match dr s xs with|some l=>Fu l|none=>none
 | .min=>match dr s xs with|some l=>JK l|none=>none
 | _=>none
theorem lq{f:Cx}{s:AS}{a:Act}{w:World}{ι:Env}(h:aX f s a w ι):∀{xs:List Operand} {l:List AV},dr s xs=some l→l.length=xs.length ∧
  ∀(i:Nat) (v:AV) (y:Value),l[i]?=some v→(xs.map a.eval)[i]?=some y→Rel (NN f.M ι) w ι v y
 | [],l,e=>by injection e with e;subst e;exact⟨rfl,fun i p q c _=>by simp at c⟩
 | x::r,l,e=>by
  unfold dr at e;cases b:s.ev x with
  | none=>rw[b]at e;cases e
  | some v =>
   cases d:dr s r with
   | none=>rw[b,d]at e;cases e
   | some l' =>
    rw[b,d]at e;injection e with e;subst e
    obtain⟨j,m⟩:=lq h d;refine⟨by simp[j],fun k p q c g=>?_⟩;cases k with
    | zero=>simp at c g;subst c;subst g;exact h.ev b
    | succ k=>grind
theorem ajV{u:Cx}{s:AS}{a:Act}{w:World}{ι:Env}(e:aX u s a w ι){b:Builtin}{c:Array Operand}{z:Array TypeId}{r:AV}(h:m5 u.P s b c.toList z.toList=some r)(ty:TypeId)(j:Array Bool):
  ∃y,(builtin b z ty j (c.map a.eval)).run u.P w=.ok (.value y) w∧Rel (NN u.M ι) w ι r y:=by
 have t:∀{f:List AV→Option AV} {mx:Int→Int→Int},(f=Fu∧mx=max∨f=JK∧mx=min)→∀{l:List AV},dr s c.toList=some l→f l=some r→∃k x y,c.map a.eval = #[.int k x,.int k y]∧r=.int k (mx x y):=by
  intro f mx J l n d;obtain⟨I,A⟩:=lq e n;have F:∃k x y,l=[.int k x,.int k y]∧r=.int k (mx x y):=by
   obtain⟨rfl,rfl⟩|⟨rfl,rfl⟩:=J
   ·unfold Fu at d;split at d
    ·split at d
     ·rename_i k x L y D;subst D;injection d with d;exact⟨_,_,_,rfl,d.symm⟩
     ·cases d
    ·cases d
   ·unfold JK at d;split at d
    ·split at d
     ·rename_i k x L y D;subst D;injection d with d;exact⟨_,_,_,rfl,d.symm⟩
     ·cases d
    ·cases d
  obtain⟨k,x,y,rfl,E⟩:=F;refine⟨k,x,y,?_,E⟩;apply alQ.1;rw[alG]
  match i:c.toList,I with
  | [p,q],_ =>
   rw[i]at A;have G:=A 0 _ (a.eval p) rfl rfl;have H:=A 1 _ (a.eval q) rfl rfl;simp only[rv,zt];cases g:a.eval p<;>rw[g]at G<;>cases G;cases B:a.eval q<;>rw[B]at H<;>cases H;rfl
 unfold m5 at h;split at h
 ·split at h
  ·rename_i x T i C;have o:c = #[x]:=alQ.1 (by simpa using i);have m:z = #[T]:=alQ.1 (by simpa using C);subst o;subst m;split at h
   ·rename_i v K;obtain⟨y,g,B⟩:=adw e h (e.ev K) ty;exact⟨y,by simp[builtin,g],B⟩
   ·cases h
  ·cases h
 ·split at h
  ·rename_i l n;obtain⟨k,x,y,g,rfl⟩:=t (.inl ⟨rfl,rfl⟩) n h;refine⟨.int k (max x y),?_,.int _ _ _⟩;rw[g];have:(if y>x then y else x)=max x y:=by omega
   simp[builtin,Builtin.max_,Builtin.max2,this]
  ·cases h
 ·split at h
  ·rename_i l n;obtain⟨k,x,y,g,rfl⟩:=t (.inr ⟨rfl,rfl⟩) n h;refine⟨.int k (min x y),?_,.int _ _ _⟩;rw[g];have:(if y<x then y else x)=min x y:=by omega
   simp[builtin,Builtin.min_,Builtin.min2,this]
  ·cases h
 grind
def Q8(i:Nat):AV→Option AV
 | .tup vs=>vs[i]?
 | _=>none
def nB(P:Program)(s:AS)(T:TypeId)(p:AV):Option AV:=match s.mem p with|some cs=>iP P T cs|none=>none
def Ug(P:Program)(T:TypeId)(f:Nat)(p:AV):Option AV:=match IH P T f with|some k=>zR k p|none=>none
def qL(P:Program)(s:AS)(T:TypeId)(x:AV):AV→Option AV
 | .int _ i=>sX P s T x i
 | _=>none
def bZ(P:Program)(n:Nat)(s:AS)(o:Oper):Option AS :=
 if cH n o.dst=true then
  match o.op with
  | .move x|.assign x=>match s.ev x with|some v=>some (s.put o.dst v)|none=>none
  | .pick c x y=>match s.ev c with
   | some (.bool b)=>match NB b (s.ev x) (s.ev y) with|some v=>some (s.put o.dst v)|none=>none
   | _=>none
  | .alloc T=>match o.dst,ft P T with|some d,some cs=>qF s d cs|_,_=>none
  | .box _ x=>match o.dst,s.ev x with
   | some d,some v=>match kj v with|some cs=>qF s d cs|none=>none
   | _,_=>none
  | .load T x=>match s.ev x with
   | some p=>match nB P s T p with|some v=>some (s.put o.dst v)|none=>none
   | none=>none
  | .store T x y=>match o.dst,s.ev x,s.ev y with|none,some p,some v=>rD P s T p v|_,_,_=>none
  | .fieldAddr T x f=>match s.ev x with
   | some p=>match Ug P T f p with|some v=>some (s.put o.dst v)|none=>none
   | none=>none
  | .indexAddr T x i=>match s.ev x,s.ev i with
   | some p,some j=>match qL P s T p j with|some v=>some (s.put o.dst v)|none=>none
   | _,_=>none
  | .build T parts=>match rV P s T parts.toList with|some v=>some (s.put o.dst v)|none=>none
  | .buildSlice T a parts=>match o9 P s T a parts.toList with|some v=>some (s.put o.dst v)|none=>none
  | .makeSlice T x y=>match sr P s T x y with|some v=>some (s.put o.dst v)|none=>none
  | .extract x i=>match s.ev x with
   | some p=>match Q8 i p with|some v=>some (s.put o.dst v)|none=>none
   | none=>none
  | .binOp op _ x y _=>match s.ev x,s.ev y with
   | some u,some v=>match vk op u v with
    | some r=>some (s.put o.dst r)
    | none=>match kD P s o with|some r=>some (s.put o.dst r)|none=>none
   | _,_=>none
  | .unOp op _ x=>match s.ev x with
   | some u=>match II op u with|some r=>some (s.put o.dst r)|none=>none
   | none=>none
  | .call c=>match c.callee with
   | .builtin .append=>match c.args.toList,c.argTypes.toList,o.dst with
    | [x,y],[T,T'],some d=>if T=T' then match s.ev x,s.ev y with
     | some v,some u=>zy P s d T v u
     | _,_=>none else none
    | _,_,_=>none
   | .builtin .copy=>match c.args.toList,c.argTypes.toList with
    | [x,y],[T,_]=>match s.ev x,s.ev y with
     | some u,some v=>match sH P s T u v with
      | some q=>some (q.1.put o.dst q.2)
      | none=>none
     | _,_=>none
    | _,_=>none
   | .builtin b=>match m5 P s b c.args.toList c.argTypes.toList with|some r=>some (s.put o.dst r)|none=>none
   | _=>none
  | _=>match kD P s o with|some r=>some (s.put o.dst r)|none=>none
 else none
theorem N4{E:Cx}{s s':AS}{a:Act}{w:World}{ι:Env}(g:aX E s a w ι){o:Oper}(h:bZ E.P E.n s o=some s'):Good E ι s' a o ((execOp a.eval o).run E.P w):=by
 unfold bZ at h;split at h
 case isFalse=>cases h
 rename_i Y;have X:=gj Y;have A:∀{v:AV} {x:Value} {w':World} {r:Result Next},r=.ok (.value x) w'→aX E s a w' ι→Rel (NN E.M ι) w' ι v x→Good E ι (s.put o.dst v) a o r:=fun D N m=>⟨ι,fun _ _ h=>h,.inl ⟨_,_,D,N.put X m⟩⟩;unfold execOp;cases n:o.op with
 | move x =>
  simp only[n]at h⊢;split at h
  ·rename_i v m;injection h with h;subst h;exact A rfl g (g.ev m)
  ·cases h
 | assign x =>
  simp only[n]at h⊢;split at h
  ·rename_i v m;injection h with h;subst h;exact A rfl g (g.ev m)
  ·cases h
 | pick c x y =>
  simp only[n]at h⊢;split at h
  ·rename_i b M;split at h
   ·rename_i v m;injection h with h;subst h
    have V:=g.ev M;cases W:a.eval c<;>rw[W]at V<;>cases V;have key:Rel (NN E.M ι) w ι v (if b=true then a.eval x else a.eval y):=by
     unfold NB at m;split at m
     ·rename_i p q H hq;injection m with m;subst m
      have U:=g.ev H;have h2:=g.ev hq;cases b
      ·simpa using h2
      ·simpa using U
     ·cases b
      ·simp only[il,ol]at m⊢;exact g.ev m
      ·simp only[w3]at m⊢;exact g.ev m
    refine A (x:=if b=true then a.eval x else a.eval y) ?_ g key;simp[asBool]
   ·cases h
  ·cases h
 | alloc T =>
  simp only[n]at h⊢;split at h
  ·rename_i d cs B hz;unfold ft at hz;cases K:E.P.info? T with
   | none=>simp[K]at hz
   | some it =>
    cases S:it.zero with
    | none=>simp[K,S]at hz
    | some zv =>
     simp only[K,h7,S]at hz;obtain⟨ι',U,G⟩:=My g (X d B) h (mE (NN E.M ι) w ι hz) T;refine⟨ι',fun i Z=>G i (fun e=>Z (by rw[e,B])),.inl ⟨.pointer (some ⟨w.heap.size,0,none⟩),w.alloc (.cells zv.cells T),?_,?_⟩⟩
     ·simp[Instr.alloc,zeroValue,typeInfo,K,S,newVar,newRow]
     ·rw[B];simpa using U
  ·cases h
 | box T x =>
  simp only[n]at h⊢;split at h
  ·rename_i d v B m;split at h
   ·rename_i cs e0;obtain⟨ι',U,G⟩:=My g (X d B) h (z8 e0 (g.ev m)) T;refine⟨ι',fun i Z=>G i (fun e=>Z (by rw[e,B])),.inl ⟨.pointer (some ⟨w.heap.size,0,none⟩),w.alloc (.cells (a.eval x).cells T),?_,?_⟩⟩
    ·simp[Instr.box,newVar,newRow]
    ·rw[B];simpa using U
   ·cases h
  ·cases h
 | load T x =>
  simp only[n]at h⊢;split at h
  ·rename_i p H;split at h
   ·rename_i v m;injection h with h;subst h
    unfold nB at m;split at m
    ·rename_i cs hm;obtain⟨b,o',vl,hx,J⟩:=Ox g (g.ev H) hm;obtain⟨x,l,D⟩:=N6 m J;refine A ?_ g D;rw[hx];simp[l]
    ·cases m
   ·cases h
  ·cases h
 | store T x y =>
  simp only[n]at h⊢;split at h
  ·rename_i p v B H m;obtain⟨w',l,N⟩:=aba g h (g.ev H) (g.ev m);refine⟨ι,fun _ _ h=>h,.inr ⟨w',by simp[l],?_⟩⟩;rw[B];exact N
  ·cases h
 | fieldAddr T x f =>
  simp only[n]at h⊢;split at h
  ·rename_i p H;split at h
   ·rename_i v m;injection h with h;subst h
    unfold Ug at m;split at m
    ·rename_i k hk;obtain⟨z,l,D⟩:=XE hk m (g.ev H);exact A (by simp[l]) g D
    ·cases m
   ·cases h
  ·cases h
 | indexAddr T x y =>
  simp only[n]at h⊢;split at h
  ·rename_i p j H hj;split at h
   ·rename_i v m;injection h with h;subst h
    unfold qL at m;split at m
    ·rename_i k i;have a0:=g.ev hj;cases W:a.eval y<;>rw[W]at a0<;>cases a0;obtain⟨z,l,D⟩:=agp g (k:=k) m (g.ev H);exact A (by simp[l]) g D
    ·cases m
   ·cases h
  ·cases h
 | build T parts =>
  simp only[n]at h⊢;split at h
  ·rename_i v m;injection h with h;subst h
   obtain⟨x,l,D⟩:=acq g m;exact A (by simp only[th,l];rfl) g D
  ·cases h
 | buildSlice T f0 parts =>
  simp only[n]at h⊢;split at h
  ·rename_i v m;injection h with h;subst h
   obtain⟨x,w',l,N,D⟩:=ahm g m;exact A (by simp only[th,l];rfl) N D
  ·cases h
 | makeSlice T x y =>
  simp only[n]at h⊢;split at h
  ·rename_i v m;injection h with h;subst h
   obtain⟨x,w',l,N,D⟩:=X2 g m;exact A (by simp only[th,l];rfl) N D
  ·cases h
 | extract x i =>
  simp only[n]at h⊢;split at h
  ·rename_i p H;split at h
   ·rename_i v m;injection h with h;subst h
    unfold Q8 at m;split at m
    ·rename_i vs;have c0:=g.ev H;cases W:a.eval x<;>rw[W]at c0<;>cases c0;rename_i ws hl D;have b0:i<ws.length:=by rw[←hl];exact(io.1 m).1
     refine A (x:=ws[i]) ?_ g (D i v _ m (iN b0));simp[Instr.extract,iN b0]
    ·cases m
   ·cases h
  ·cases h
 | binOp op T x y Ty =>
  simp only[n]at h⊢;split at h
  ·rename_i u v Q m;split at h
   ·rename_i r D;injection h with h;subst h
    obtain⟨z,l,t⟩:=ah0 D (g.ev Q) (g.ev m) T x y;refine A ?_ g t;simp only[th]at l⊢;rw[l];rfl
   ·split at h
    ·rename_i r D;injection h with h;subst h
     obtain⟨z,l,t⟩:=Nd g D;unfold execOp at l;simp only[n]at l;exact A l g t
    ·cases h
  ·cases h
 | unOp op T x =>
  simp only[n]at h⊢;split at h
  ·rename_i u Q;split at h
   ·rename_i r D;injection h with h;subst h
    obtain⟨z,l,t⟩:=WR (P:=E.P) D (g.ev Q);exact A (by simp[l]) g t
   ·cases h
  ·cases h
 | call c =>
  simp only[n]at h⊢;split at h
  ·rename_i M;split at h
   ·rename_i x y T T' d R L B;split at h
    ·rename_i d0;subst d0;split at h
     ·rename_i v u m Q;have I:c.args = #[x,y]:=alQ.1 (by simpa using R);have F:c.argTypes = #[T,T]:=alQ.1 (by simpa using L);obtain⟨z,w',ι',l,O,G⟩:=ajp (ty:=o.type) g (X d B) h (g.ev m) (g.ev Q);refine⟨ι',fun i Z=>G i (fun e=>Z (by rw[e,B])),.inl ⟨z,w',?_,by rw[B];exact O⟩⟩;simp only[th,resolve,M,RX,u4,invoke,builtin,I,F,anb,rv,zt,l]
     ·cases h
    ·cases h
   ·cases h
  ·rename_i M;split at h
   ·rename_i x y T T' R L;split at h
    ·rename_i u v Q m;split at h
     ·rename_i q hq;injection h with h;subst h
      have I:c.args = #[x,y]:=alQ.1 (by simpa using R);have F:c.argTypes = #[T,T']:=alQ.1 (by simpa using L);obtain⟨z,w',l,O,t⟩:=agW (T':=T') (ty:=o.type) g (s':=q.1) (r:=q.2) hq (g.ev Q) (g.ev m);refine⟨ι,fun _ _ h=>h,.inl ⟨z,w',?_,O.put X t⟩⟩;simp only[th,resolve,M,RX,u4,invoke,builtin,I,F,anb,rv,zt,l]
     ·cases h
    ·cases h
   ·cases h
  ·rename_i b _ _ M;split at h
   ·rename_i r D;injection h with h;subst h
    simp only[th,resolve,M,RX,u4,invoke];generalize (Array.map _ c.args:Array Bool)=C;obtain⟨y,l,t⟩:=ajV g D o.type C;exact A l g t
   ·cases h
  ·cases h
 | _ =>
  simp only[n]at h⊢;split at h
  ·rename_i r D;injection h with h;subst h
   obtain⟨z,l,t⟩:=Nd g D;unfold execOp at l;simp only[n]at l;exact A l g t
  ·cases h
inductive aq where
 | c (c:Code)
 | b (id:Nat)
 | l (back:Act→World→Prop)
def Kw(P:Program)(Q:Exit→Act→World→Prop):List aq→Exit→Act→World→Prop
 | []=>Q
 | .c c::a=>Exit.then (c.wp P (Kw P Q a)) (Kw P Q a)
 | .b id::a=>Exit.inBlock id (Kw P Q a)
 | .l b::a=>Exit.then b (Kw P Q a)
def VE(b:Cx)(Q:Exit→Act→World→Prop)(c:List aq)(e:Exit)(s:AS):Prop:=∀a w ι,aX b s a w ι→Kw b.P Q c e a w
def OT(c:Cx)(Q:Exit→Act→World→Prop)(d:List aq)(b:Array Oper)(l:List Oper)(s:AS):Prop:=∀a w ι,aX c s a w ι→wpList c.P b (Kw c.P Q d) l a w
section
variable{f:Cx}{Q:Exit→Act→World→Prop}{n:List aq}{s:AS}
theorem ZS(h:VE f Q n .normal s):VE f Q (.c .skip::n) .normal s:=fun a w ι b=>wp_skip (h a w ι b)
theorem aeS{x y}(h:VE f Q (.c x :: .c y::n) .normal s):VE f Q (.c (.seq x y)::n) .normal s:=fun a w ι b=>wp_seq (h a w ι b)
theorem ajF{id}{c}(h:VE f Q (.c c :: .b id::n) .normal s):VE f Q (.c (.block id c)::n) .normal s:=fun a w ι b=>wp_block (h a w ι b)
theorem YK{id}(h:VE f Q n .normal s):VE f Q (.b id::n) .normal s:=fun a w ι b=>h a w ι b
theorem Xh{id}(h:VE f Q n (.exit id) s):VE f Q (.c (.exit id)::n) .normal s:=fun a w ι b=>wp_exit (h a w ι b)
theorem acJ(h:VE f Q n .ret s):VE f Q (.c .ret::n) .normal s:=fun a w ι b=>wp_ret (h a w ι b)
theorem aiE{id}{b}(h:VE f Q n (.exit id) s):VE f Q (.l b::n) (.exit id) s:=fun a w ι c=>h a w ι c
theorem akp{id}(h:VE f Q n .normal s):VE f Q (.b id::n) (.exit id) s:=fun a w ι b=>by
 show Exit.inBlock id _ _ _ _;simp only[Exit.inBlock];exact h a w ι b
theorem YJ{id b}(c:¬ id=b)(h:VE f Q n (.exit id) s):VE f Q (.b b::n) (.exit id) s:=fun a w ι d=>by
 show Exit.inBlock b _ _ _ _;simp only[Exit.inBlock,kb c];exact h a w ι d
theorem acv{b}(h:VE f Q n .ret s):VE f Q (.l b::n) .ret s:=fun a w ι c=>h a w ι c
theorem alB{id}(h:VE f Q n .ret s):VE f Q (.b id::n) .ret s:=fun a w ι b=>h a w ι b
theorem MQ{c}{x y}{b}(i:s.ev c=some (.bool b))(k:b=true→VE f Q (.c x::n) .normal s)(j:b=false→VE f Q (.c y::n) .normal s):VE f Q (.c (.cond c x y)::n) .normal s:=fun a w ι e=>by
 have h:=e.ev i;have d:a.eval c=.bool b:=by cases g:a.eval c<;>rw[g]at h<;>cases h;rfl
 cases b
 ·exact wp_cond d (j rfl a w ι e)
 ·exact wp_cond d (k rfl a w ι e)
theorem af7{c}{x y}(a:s.ev c=some (.bool true))(b:VE f Q (.c x::n) .normal s):VE f Q (.c (.cond c x y)::n) .normal s :=by grind[MQ]
theorem ahs{c}{x y}(a:s.ev c=some (.bool false))(b:VE f Q (.c y::n) .normal s):VE f Q (.c (.cond c x y)::n) .normal s :=by grind[MQ]
theorem QD{id}{ops}(h:OT f Q n ops ops.toList s):VE f Q (.c (.region id ops false)::n) .normal s:=fun a w ι b=>wp_region_list (h a w ι b)
theorem SI{b}(h:VE f Q n .normal s):OT f Q n b [] s:=fun a w ι c=>h a w ι c
theorem I3{d}{o}{r}{s'}(i:o.guard=none)(h:bZ f.P f.n s o=some s')(k:OT f Q n d r s'):OT f Q n d (o::r) s:=fun a w ι j=>by
 refine abL i fun K g=>?_;unfold Oper.wp;obtain⟨ι',_,b⟩:=N4 j h;obtain⟨x,w',e,c⟩|⟨w',e,c⟩:=b
 ·rw[e];exact g _ _ (k _ _ _ c)
 ·rw[e];exact g _ _ (k _ _ _ c)
theorem aks{c:Array Oper}{o i}{r}{j d:Nat}{b}(m:o.guard=some (j,b))(p:c[j]?=some i)(l:i.dst=some d)(t:look d s.t=some (.bool b))(k:OT f Q n c ({ o with guard:=none }::r) s):OT f Q n c (o::r) s:=fun a w ι h=>by
 have e:=k a w ι h;obtain⟨x,v,q⟩:=h.tmp d _ t;cases q;have u:Region.wanted o (yielded c a.tmps)=true:=by simp[Region.wanted,m,yielded,p,l,v]
 have g:Region.wanted { o with guard:=none } (yielded c a.tmps)=true:=by rfl
 unfold wpList at e⊢;rw[kc g]at e;rw[kc u];exact e
def DS(u:d7)(l:List (Nat×AV)):List (Nat×AV)→Prop
 | []=>True
 | (k,v)::r=>look k l=some v∧v.di u=true∧DS u l r
def D7(u:d7)(l:List (Nat×List AV)):List (Nat×List AV)→Prop
 | []=>True
 | (k,v)::r=>look k l=some v∧ep u v=true∧u.contains k=true∧D7 u l r
def Eo(u:d7)(l:List (Nat×bW)):List (Nat×bW)→Prop
 | []=>True
 | (k,v)::r=>look k l=some v∧u.contains k=true∧Eo u l r
def Sub(s' s:AS):Prop:=DS s'.u s.t s'.t∧D7 s'.u s.o s'.o∧Eo s'.u s.r s'.r∧∀id,s.u.contains (dk id)=true→s'.u.contains (dk id)=true∧s'.u.contains id=true
theorem U0{u}{l}:∀{m},DS u l m→∀k v,look k m=some v→look k l=some v∧v.di u=true
 | [],_,k,v,a=>by cases a
 | (j,x)::r,h,k,v,a=>by
  simp only[look]at a;split at a
  ·rename_i e;subst e;injection a with a;subst a;exact⟨h.1,h.2.1⟩
  ·exact U0 h.2.2 k v a
theorem LM{u}{l}:∀{m},D7 u l m→∀k v,look k m=some v→look k l=some v∧ep u v=true∧u.contains k=true
 | [],_,k,v,a=>by cases a
 | (j,x)::r,h,k,v,a=>by
  simp only[look]at a;split at a
  ·rename_i e;subst e;injection a with a;subst a;exact⟨h.1,h.2.1,h.2.2.1⟩
  ·exact LM h.2.2.2 k v a
theorem HU{u}{l}:∀{m},Eo u l m→∀k v,look k m=some v→look k l=some v∧u.contains k=true
 | [],_,k,v,a=>by cases a
 | (j,x)::r,h,k,v,a=>by
  simp only[look]at a;split at a
  ·rename_i e;subst e;injection a with a;subst a;exact⟨h.1,h.2.1⟩
  ·exact HU h.2.2 k v a
def js(ι:Env)(u:d7):Env:=fun i=>if has u i=true then ι i else none
theorem pX{ι}{u}{i}(h:has u i=true):js ι u i=ι i:=by grind[js]
theorem akm{ι}{u}{i}{y}(h:js ι u i=some y):ι i=some y∧has u i=true:=by
 grind[js]
theorem De{ι}{u}{i g}(h:bw (js ι u i)=some g):bw (ι i)=some g:=by
 unfold js at h;split at h
 ·grind
 ·cases h
theorem Rel.js{N N'}{w}{ι}{v}{x}(h:Rel N w ι v x){u}(e:v.di u=true)(c:∀b,N' b→N b):Rel N' w (js ι u) v x :=
 (h.env (ι':=Proofs.YtocgkfoifehcbaaGreat.js ι u) (fun id a=>pX (fD a)) e).mono (by omega) (fun b _ d=>c b d) (fun _ _ _=>rfl) (fun _ _ h=>h)
theorem J9{M}{ι}{u}:∀b,NN M (js ι u) b→NN M ι b:=fun b a=>by
 rcases a with a|⟨id,a⟩
 ·exact .inl a
 ·exact .inr ⟨id,De a⟩
theorem HS.sub{M:Nat→Prop}{A:aC}{w:World}{ι:Env}{s s':AS}(h:HS M A w ι s)(m:Sub s' s):HS M A w (js ι s'.u) s':=by
 refine⟨h.below,h.old,fun i y K=>(akm K).2,fun i g u=>h.own i g (De u),fun i L g u z=>h.inj i L g (De u) (De z),fun i cs l=>fD (LM m.2.1 i cs l).2.2,fun i a l=>fD (HU m.2.2.1 i a l).2,fun i cs l f=>?_,fun i ar l f=>?_,fun i y f=>⟨(pX (fD (m.2.2.2 i (h.pin i y f).2).2)).trans (h.pin i y f).1,(m.2.2.2 i (h.pin i y f).2).1⟩⟩
 ·obtain⟨t,E,d⟩:=LM m.2.1 i cs l;have d:=fD d;rw[pX d]at f;obtain⟨g,T,vs,p,q,n⟩:=h.objs i cs t f;exact⟨g,T,vs,(pX d).trans p,q,n.len,n.one,fun j x v o J=>(n.rel j x v o J).js (l5 E j x o) J9⟩
 ·obtain⟨t,d⟩:=HU m.2.2.1 i ar l;have d:=fD d;rw[pX d]at f;obtain⟨v,xs,p,q,n,B,C⟩:=h.arrs i ar t f;refine⟨v,xs,(pX d).trans p,q,n,B,fun j e G k c H=>?_⟩;obtain⟨x,o,I⟩:=C j e G k c H;exact⟨x,o,I.mono (by omega) (fun b _ F=>J9 b F) (fun _ _ _=>rfl) (fun r D=>(pX (P3 _ _ _)).trans D) (fun _ _=>rfl) (fun h=>h)⟩
theorem aX.sub{s'}{a}{w}{ι}(h:aX f s a w ι)(b:Sub s' s):aX f s' a w (js ι s'.u) :=
 ⟨h.hs.sub b,h.dfr,h.n,fun k v e=>by
  obtain⟨c,d⟩:=U0 b.1 k v e;obtain⟨x,i,g⟩:=h.tmp k v c;exact⟨x,i,g.js d J9⟩⟩
theorem Nw{e} s'(c:Sub s' s)(h:VE f Q n e s'):VE f Q n e s:=fun a w ι b=>h a w _ (b.sub c)
end
def t7(N:Nat→Prop)(w:World)(a:List AV)(xs:Array Value):Prop:=a.length=xs.size∧∀(i:Nat) v y,a[i]?=some v→xs[i]?=some y→Rel N w bG v y
def ba(P:Program)(f:FuncId)(a:List AV)(Q:AV→AS→Prop):Prop :=
 ∀M w xs,(∀b,M b→b<w.heap.size)→t7 M w a xs →
  Calls P f xs w fun e w'=>∃x v s ι,e=.returned x∧Q v s∧HS M (nn w) w' ι s∧Rel (NN M ι) w' ι v x
theorem ba.mono{P}{f}{a}{Q b}(h:ba P f a Q)(k:∀v s,Q v s→b v s):ba P f a b:=fun M w xs i j =>
 (h M w xs i j).mono fun _ _ ⟨x,v,s,ι,c,d,e,g⟩=>⟨x,v,s,ι,c,k _ _ d,e,g⟩
def idxs(k:Nat):List AV→List (Nat×AV)
 | []=>[]
 | v::r=>(k,v)::idxs (k+1) r
theorem pc:∀l k i,look i (idxs k l)=if k≤i then l[i-k]? else none
 | [],k,i=>by simp[idxs,look]
 | v::r,k,i=>by
  simp only[idxs,look,pc r (k+1) i]
  grind
def bR(M:Nat→Prop)(w:aC)(Q:AV→AS→Prop)(e:Ending)(w':World):Prop:=∃x v s ι,e=.returned x∧Q v s∧HS M w w' ι s∧Rel (NN M ι) w' ι v x
theorem ag7{P:Program}{f:FuncId}{o:Func}{c:Code}{d:List AV}{Q:AV→AS→Prop}(u:P.funcs[f]?=some o)(j:o.body=some c)(n:Nat)(C:o.ntmps=n)(B:d.length≤n)
  (h:∀M s,VE ⟨P,n,M,s⟩ (bodyPost P o (bR M s Q)) [.c c] .normal ⟨idxs 0 d,[],[],[]⟩):ba P f d Q:=by
 intro M w xs t r;refine amP u j ?_;refine anF (h M (nn w) { tmps:=xs++Array.replicate (o.ntmps-xs.size) undef,defers:=[] } w bG ?_) (fun e a w' x=>?_)
 ·refine⟨⟨⟨rfl,rfl,rfl,jf _,fun _ _ _=>rfl⟩,fun b j=>⟨t b j,fun h=>h⟩,fun i y A=>(by cases A),fun i g p=>(by cases p),fun i D g p=>(by cases p),fun i cs l=>(by cases l),fun i a l=>(by cases l),fun i cs l=>(by cases l),fun i a l=>(by cases l),fun i v z=>(by cases z)⟩,rfl,?_,fun k v q=>?_⟩
  ·have:=r.1;simp;omega
  ·rw[pc,kc (tl _),alH]at q;have m:k<xs.size:=by rw[←r.1];exact(io.1 q).1
   refine⟨xs[k],?_,(r.2 k v _ q (iO m)).mono (jf _) (fun b _ j=>?_) (fun _ _ _=>rfl) (fun _ _ h=>h)⟩
   ·simp only[];rw[By m,iO m]
   ·rcases j with j|⟨id,j⟩
    ·exact j
    ·cases j
 ·cases e<;>exact x
def gP(P:Program)(s:AS):List ResultVar→Option (List AV)
 | []=>some []
 | .tmp t::r=>match look t s.t,gP P s r with|some v,some l=>some (v::l)|_,_=>none
 | .cell t T::r=>match look t s.t with
  | some p=>match nB P s T p,gP P s r with|some v,some l=>some (v::l)|_,_=>none
  | none=>none
def qV:List AV→AV
 | [v]=>v
 | l=>.tup l
def xb(tmps:Array Value):ResultVar→Sem Value
 | .tmp t=>pure (tmps.getD t undef)
 | .cell a t=>do loadVar t (← asAddr (tmps.getD a undef))
theorem B3{f:Cx}{s:AS}{a:Act}{w:World}{ι:Env}(c:aX f s a w ι):∀{rs:List ResultVar} {l:List AV},gP f.P s rs=some l →
  ∃vs:eb,(rs.mapM (xb a.tmps)).run f.P w=.ok vs w∧l.length=vs.length∧∀(i:Nat) (v:AV) (y:Value),l[i]?=some v→vs[i]?=some y→Rel (NN f.M ι) w ι v y
 | [],l,h=>by injection h with h;subst h;exact⟨[],by simp,rfl,fun i v y e _=>by simp at e⟩
 | .tmp t::r,l,h=>by
  unfold gP at h;cases g:look t s.t with
  | none=>rw[g]at h;cases h
  | some v =>
   cases j:gP f.P s r with
   | none=>rw[g,j]at h;cases h
   | some l' =>
    rw[g,j]at h;injection h with h;subst h
    obtain⟨vs,o,q,u⟩:=B3 c j;obtain⟨x,C,A⟩:=c.tmp t v g;refine⟨x::vs,?_,by simp[q],fun i v' y e m=>?_⟩
    ·rw[List.mapM_cons];simp[xb,o,ti,C]
    ·cases i with
     | zero=>simp at e m;subst e;subst m;exact A
     | succ i=>exact u i v' y (by simpa using e) (by simpa using m)
 | .cell t T::r,l,h=>by
  unfold gP at h;cases g:look t s.t with
  | none=>rw[g]at h;cases h
  | some p =>
   simp only[g]at h;cases k:nB f.P s T p with
   | none=>rw[k]at h;cases h
   | some v =>
    cases j:gP f.P s r with
    | none=>rw[k,j]at h;cases h
    | some l' =>
     rw[k,j]at h;injection h with h;subst h
     obtain⟨vs,o,q,u⟩:=B3 c j;obtain⟨x,C,A⟩:=c.tmp t p g;unfold nB at k;split at k
     ·rename_i cs F;obtain⟨b,G,H,D,d⟩:=Ox c A F;obtain⟨z,n,B⟩:=N6 k d;refine⟨z::vs,?_,by simp[q],fun i v' y e m=>?_⟩
      ·rw[List.mapM_cons];have E:(loadVar T ⟨b,G,none⟩).run f.P w=.ok z w:=by simpa[Instr.loadAt,Instr.sureAddr]using n
       simp[xb,o,ti,C,D,asAddr,E]
      ·cases i with
       | zero=>simp at e m;subst e;subst m;exact B
       | succ i=>exact u i v' y (by simpa using e) (by simpa using m)
     ·cases k
def agN:eb→Value
 | [v]=>v
 | l=>.tuple l.toArray
theorem adH a tmps:results a tmps=(do let vs ← a.results.mapM (xb tmps);pure (if h:vs.size=1 then vs[0] else .tuple vs)):=by
 rfl
theorem OB{P}{w}{a}{tmps}{vs}(h:(a.results.toList.mapM (xb tmps)).run P w=.ok vs w):
  (results a tmps).run P w=.ok (agN vs) w:=by
 rw[adH,Array.mapM_eq_mapM_toList];simp only[th,Sem.run_map,h];congr 1
 match vs with
 | []=>rfl
 | [v]=>rfl
 | v::u::r=>rfl
theorem qg{d}{g}{s}{Q}{l}{rs}(f:g.results=rs)(h:gP d.P s rs.toList=some l)(k:Q (qV l) s):VE d (bodyPost d.P g (bR d.M d.w0 Q)) [] .ret s:=fun a w ι b=>by
 obtain⟨vs,j,e,c⟩:=B3 b h;refine⟨b.dfr,_,OB (by rw[f];exact j),_,qV l,s,ι,rfl,k,b.hs,?_⟩
 match l,vs,e,c with
 | [],[],_,c=>exact .tup _ _ _ rfl (fun i x v m _=>by grind)
 | [v],[y],_,c=>exact c 0 v y rfl rfl
 | v::u::r,y::z::q,e,c=>exact .tup _ _ _ e c
def cG (P:Program) (f:FuncId):Bool:=match P.funcs[f]? with | some a=>!(a.name == "runtime.NumGoroutine") && !a.body.isNone | none=>false
theorem FQ{P}{w}{f}(h:cG P f=true) xs:(callFunc f xs).run P w=.ok (.enter f xs) w:=by
 unfold cG at h;cases a:P.funcs[f]? with
 | none=>grind
 | some b =>
  simp only[a]at h;unfold callFunc;simp only[th,run_program,u4,a];rw[kb (by grind),kb (by grind)];rfl
def gH:AV→AV
 | .agg cs=>.agg (cs.map ji)
 | v=>ji v
theorem y9{N}{w}{ι}{v}{x}(h:Rel N w ι v x):Rel N w ι (gH v) x:=by
 cases h with
 | agg _ cs vs b a d =>
  have c:=(Cells.mk b a d).pz;exact .agg _ _ _ c.len c.one c.rel
 | nils _=>exact .sl0 _ _ _
 | _=>simp only[gH];constructor<;>assumption
theorem ajL{f:Cx}{s:AS}{a:Act}{w:World}{ι:Env}(h:aX f s a w ι){xs:Array Operand}{l:List AV}(k:dr s xs.toList=some l)(m:ep [] l=true):t7 (NN f.M ι) w (l.map gH) (xs.map a.eval):=by
 obtain⟨g,j⟩:=lq h k;refine⟨by simp at g;simp[g],fun i v y b n=>?_⟩;rw[An]at b;cases e:l[i]? with
 | none=>rw[e]at b;cases b
 | some c =>
  rw[e]at b;injection b with b;subst b
  have d:(xs.toList.map a.eval)[i]?=some y:=by rw[←alG];simpa using n
  exact y9 ((j i c y e d).pure (l5 m i c e) bG)
theorem HS.nF{M:Nat→Prop}{t:aC}{w w':World}{ι:Env}{s:AS}(h:HS M t w ι s)(a:Below w.heap.size w w'):HS M t w' ι s:=by
 have q:∀b,b<w.heap.size→¬ NN M ι b→w'.heap[b]?=w.heap[b]?:=fun b n _=>a.block b n;refine⟨h.below.trans (.of a h.below.size),h.old,h.use,fun i g c=>⟨(h.own i g c).1,by have:=(h.own i g c).2;have:=a.size;omega⟩,h.inj,h.ko,h.kr,fun i cs l o=>?_,fun i ar l o=>?_,h.pin⟩
 ·obtain⟨g,T,vs,d,f,k⟩:=h.objs i cs l o;exact⟨g,T,vs,d,(a.block g (h.own i g (by rw[d];rfl)).2).trans f,k.mono a.size (fun b _ a=>a) q (fun _ _ h=>h)⟩
 ·obtain⟨v',xs,d,f,k,v,x⟩:=h.arrs i ar l o;refine⟨v',xs,d,f8 f (fun g c=>a.block g (h.own i g (by grind)).2),k,v,fun j e A C u m=>?_⟩;obtain⟨y,B,p⟩:=x j e A C u m;exact⟨y,B,p.mono a.size (fun b _ a=>a) q (fun _ h=>h) (fun r z=>a.block r (h.kq z)) (fun h=>h)⟩
theorem aX.nF{e}{s}{a}{w w'}{ι}(h:aX e s a w ι)(c:Below w.heap.size w w'):aX e s a w' ι :=
 h.world (h.hs.nF c) rfl c.size (fun b _ c=>c) (fun b d _=>c.block b d) (fun _ _ h=>h)
theorem ln{e:Cx}{s:AS}{a:Act}{w:World}{ι:Env}(p:aX e s a w ι){o:Oper}{c:Call}{h:Operand}{f:FuncId}{aV:List AV}(n:o.op=.call c)(b:c.callee=.value h)(l:s.ev h=some (.fn f aV))(k:cG e.P f=true):
  ∃d:eb,(execOp a.eval o).run e.P w=.ok (.enter f (c.args.map a.eval++d.toArray)) w∧aV.length=d.length∧∀(i:Nat) (c:AV) (y:Value),aV[i]?=some c→d[i]?=some y→Rel (NN e.M ι) w bG c y:=by
 have g:=p.ev l;generalize j:a.eval h=X at g;cases g with
 | fn _ _ _ d m g =>
  refine⟨d,?_,m,g⟩;unfold execOp;simp only[n,resolve,b,j,Deferred.ofValue,RX,u4,invoke]
  grind[FQ]
theorem zU{b:Cx}{s:AS}{a:Act}{w:World}{ι:Env}(h:aX b s a w ι){xs:Array Operand}{l:List AV}(m:dr s xs.toList=some l)(n:ep [] l=true){aV:List AV}{e:eb}(o:aV.length=e.length)
  (p:∀(i:Nat) (c:AV) (y:Value),aV[i]?=some c→e[i]?=some y→Rel (NN b.M ι) w bG c y):t7 (NN b.M ι) w (l.map gH++aV) (xs.map a.eval++e.toArray):=by
 have f:=ajL h m n;have d:=f.1;refine⟨by simp at d⊢;omega,fun i v y g j=>?_⟩;by_cases k:i<(l.map gH).length
 ·rw[Dz k]at g;rw[By (by grind)]at j;exact f.2 i v y g j
 grind
theorem aay{d}{Q}{C}{s}{i}{o}{r}{c}{B}{f}{aV l}{A}
  (F:ba d.P f (l.map gH++aV) A)
  (I:o.guard=none) (M:o.op=.call c) (j:c.callee=.value B) (H:s.ev B=some (.fn f aV)) (t:cG d.P f=true) (G:cH d.n o.dst=true) (L:dr s c.args.toList=some l) (N:ep [] l=true)
  (k:∀v z,A v z→v.di []=true∧OT d Q C i r (s.put o.dst v)):OT d Q C i (o::r) s:=fun a w ι m=>by
 refine abL I fun K E=>?_;unfold Oper.wp;obtain⟨R,y,p,q⟩:=ln m M j H t;rw[y,af6];refine (F (NN d.M ι) w _ (fun b n=>lN m.hs n) (zU m L N p q)).mono ?_
 rintro e w' ⟨x,v,z,S,rfl,O,u,P⟩
 obtain⟨g,J⟩:=k v z O;have D:Rel (NN d.M ι) w' ι v x:=(P.pure g ι).mono (by omega) (fun b _ n=>.inl n) (fun _ _ _=>rfl) (fun _ _ h=>h);exact E _ _ (J _ _ _ ((m.nF u.below.plain).put (gj G) D))
theorem aiI{d}{Q}{h}{s}{b}{o}{r}{c}{e}{f}{aV l a}{V}
  (m:ba d.P f a (fun v _=>v=V))
  (q:o.guard=none) (u:o.op=.call c) (g:c.callee=.value e) (p:s.ev e=some (.fn f aV)) (i:cG d.P f=true) (n:cH d.n o.dst=true) (t:dr s c.args.toList=some l) (j:l.map gH++aV=a) (w:ep [] l=true)
  (x:V.di []=true) (k:OT d Q h b r (s.put o.dst V)):OT d Q h b (o::r) s :=by grind[aay]
theorem RP{P:Program}{o:Oper}{a:Act}{w:World}{K d:Act→World→Prop}{Q f:Exit→Act→World→Prop}(h:∀a w,K a w→d a w)(j:∀e a w,e ≠ .normal→Q e a w→f e a w)
  (b:o.wp P a w K Q):o.wp P a w d f:=by
 unfold Oper.wp at *;generalize (execOp a.eval o).run P w=r at *;cases r with
 | ok n w' =>
  cases n<;>simp only[Oper.upon]at b⊢ <;>
   first
    | grind
    | exact Calls.mono b (fun e k c=>by cases e<;>first|grind|grind|(obtain⟨g,l,i⟩:=c;exact⟨g,l,j _ _ _ (by simp) i⟩))
    | exact Rows.mono b (fun _ _ c=>h _ _ c)
 | halt x w'=>cases x<;>simp only[Oper.upon]at b⊢<;>first|grind|grind
section
variable{a:Cx}{Q:Exit→Act→World→Prop}{c:List aq}{s:AS}
theorem uV{e:Array Oper}{o f}{r}{j d:Nat}{b}(h:o.guard=some (j,b))(i:e.toList[j]?=some f)(g:f.dst=some d)(l:look d s.t=some (.bool b))(k:OT a Q c e ({ o with guard:=none }::r) s):OT a Q c e (o::r) s :=by grind[aks]
end
mutual
def AV.cE(id:Nat)(l:List (List AV)):AV→AV
 | .ref i=>if i=id then .sl l else .ref i
 | .eptr i sz j off=>if i=id then .any else .eptr i sz j off
 | .sref i sz off m=>if i=id then .any else .sref i sz off m
 | .ptr i off=>if i=id then .any else .ptr i off
 | .pp i g off=>if i=id then .any else .pp i g off
 | .sit i g s p=>if i=id then .any else .sit i g s p
 | .adr g off=>.adr g off
 | .agg cs=>.agg (jD id l cs)
 | .tup cs=>.tup (jD id l cs)
 | .int k n=>.int k n
 | .bool b=>.bool b
 | .str s=>.str s
 | .nils=>.nils
 | .sl m=>.sl m
 | .nilm=>.nilm
 | .mref _ _=>.any
 | .omp m=>.omp m
 | .osl e sz l=>.osl e sz l
 | .vv x=>.vv x
 | .lk i x=>if i=id then .any else .lk i x
 | .fn f c=>.fn f c
 | .fno f c=>.fno f (jD id l c)
 | .nilf=>.nilf
 | .nilp=>.nilp
 | .cptr cs=>.cptr cs
 | .any=>.any
def jD(id:Nat)(l:List (List AV)):List AV→List AV
 | []=>[]
 | c::r=>c.cE id l::jD id l r
end
theorem xC{id}{m}:∀{l} {i:Nat} {x},(jD id m l)[i]?=some x→∃y,l[i]?=some y∧x=y.cE id m
 | [],i,x,h=>by grind[jD]
 | c::r,0,x,h=>by grind[jD]
 | c::r,i+1,x,h=>by simp[jD]at h;obtain⟨y,a,b⟩:=xC h;grind
theorem zW{id}{m}:∀l,(jD id m l).length=l.length
 | []=>rfl
 | c::r=>by simp[jD,zW r]
theorem Rel.cE{N N':Nat→Prop}{w:World}{ι:Env}{v:AV}{x:Value}(h:Rel N w ι v x){id:Nat}{m:List (List AV)}{ι':Env}(J:∀b,N' b→N b):
  (∀i,i≠id→ι' i=ι i)→(∀A n c,ι id=some (.slice A n c)→Rel N' w ι' (.sl m) (.slice A n c))→Rel N' w ι' (v.cE id m) x:=by
 have M:∀{u:AV} {y:Value},Rel N w bG u y→Rel N' w bG u y:=fun V=>V.mono (jf _) (fun b _ C=>J b C) (fun _ _ _=>rfl) (fun _ _ h=>h)
 induction h with
 | int ι k n=>intro _ _;simp only[AV.cE];exact .int _ _ _
 | bool ι b=>intro _ _;simp only[AV.cE];exact .bool _ _
 | str ι s=>intro _ _;simp only[AV.cE];exact .str _ _
 | nils ι=>intro _ _;simp only[AV.cE];exact .nils _
 | nilm ι=>intro _ _;simp only[AV.cE];exact .nilm _
 | mref ι i q r v h Q=>intro _ _;simp only[AV.cE];exact .any _ _ rfl
 | sl0 ι A c=>intro _ _;simp only[AV.cE];exact .sl0 _ _ _
 | sl ι l b o c sz E W C I p L t H D=>intro _ _;simp only[AV.cE];exact .sl _ l b o c sz E W C (fun h=>I (J b h)) p L (fun j e T i x z=>M (t j e T i x z)) H
 | fn ι f aV P F t D=>intro _ _;simp only[AV.cE];exact .fn _ f aV P F (fun i c y p Q=>M (t i c y p Q))
 | fno ι f aV P F t D =>
  intro d G;simp only[AV.cE];exact .fno _ _ _ P (by rw[zW];exact F) (fun i x v z K=>by
   obtain⟨y,O,rfl⟩:=xC z;exact D i y v O K d G)
 | nilf ι=>intro _ _;simp only[AV.cE];exact .nilf _
 | nilp ι=>intro _ _;simp only[AV.cE];exact .nilp _
 | any ι x h=>intro _ _;simp only[AV.cE];exact .any _ _ h
 | ptr ι i off g h =>
  intro d _;simp only[AV.cE];split
  ·exact .any _ _ rfl
  ·rename_i a;exact .ptr _ _ _ _ ((d i a).trans h)
 | eptr ι i sz j off g n c h =>
  intro d _;simp only[AV.cE];split
  ·exact .any _ _ rfl
  ·rename_i a;exact .eptr _ _ _ _ _ _ n c ((d i a).trans h)
 | sref ι i sz off m n c R A B h S =>
  intro d _;simp only[AV.cE];split
  ·exact .any _ _ rfl
  ·rename_i a;exact .sref _ _ _ _ _ n c R A B ((d i a).trans h) S
 | adr ι g off=>intro _ _;simp only[AV.cE];exact .adr _ _ _
 | vv ι x h=>intro _ _;simp only[AV.cE];exact .vv _ _ h
 | lk ι i v x h p =>
  intro d _;simp only[AV.cE];split
  ·exact .any _ _ p
  ·rename_i a;exact .lk _ _ _ _ ((d i a).trans h) p
 | pp ι i g off h =>
  intro d _;simp only[AV.cE];split
  ·exact .any _ _ rfl
  ·rename_i a;exact .pp _ _ _ _ ((d i a).trans h)
 | sit ι i g s X h U I C =>
  intro d _;simp only[AV.cE];split
  ·exact .any _ _ rfl
  ·rename_i a;exact .sit _ _ _ _ _ ((d i a).trans h) U (fun h=>I (J g h)) C
 | cptr ι cs b o E C I p L t D=>intro _ _;simp only[AV.cE];exact .cptr _ cs b o E C (fun h=>I (J b h)) p L (fun i x z=>M (t i x z))
 | ref ι i A n c h =>
  intro d G;simp only[AV.cE];split
  ·rename_i e;subst e;exact G _ _ _ h
  ·rename_i a;exact .ref _ _ _ _ _ ((d i a).trans h)
 | agg ι cs vs F p t D =>
  intro d G;simp only[AV.cE];exact .agg _ _ vs (by rw[zW];exact F) p (fun i x v z K=>by
   obtain⟨y,O,rfl⟩:=xC z;exact D i y v O K d G)
 | tup ι cs vs F t D =>
  intro d G;exact .tup _ _ vs (by grind[zW]) (fun i x v z K=>by
   grind[xC])
theorem Cells.cE{N N'}{w}{ι ι'}{cs}{vs}(h:Cells N w ι cs vs){id}{m}(a:∀b,N' b→N b)
  (j:∀i,i≠id→ι' i=ι i) (d:∀A n c,ι id=some (.slice A n c)→Rel N' w ι' (.sl m) (.slice A n c)):Cells N' w ι' (jD id m cs) vs :=
 ⟨by rw[zW];exact h.len,h.one,fun i x v f e=>by
  obtain⟨y,g,rfl⟩:=xC f;exact(h.rel i y v g e).cE a j d⟩
def CB(id:Nat)(m:List (List AV)):List (Nat×AV)→List (Nat×AV)
 | []=>[]
 | (k,v)::r=>(k,v.cE id m)::CB id m r
def Es(id:Nat)(m:List (List AV)):List (Nat×List AV)→List (Nat×List AV)
 | []=>[]
 | (k,v)::r=>(k,jD id m v)::Es id m r
theorem Wz{id}{m}:∀{l} {k} {v},look k (CB id m l)=some v→∃u,look k l=some u∧v=u.cE id m
 | [],k,v,h=>by cases h
 | (j,x)::r,k,v,h=>by
  simp only[CB,look]at h⊢;split at h
  ·grind
  ·rename_i e;rw[kb e];exact Wz h
theorem Ku{id}{m}:∀{l} {k} {v},look k (Es id m l)=some v→∃u,look k l=some u∧v=jD id m u
 | [],k,v,h=>by cases h
 | (j,x)::r,k,v,h=>by
  simp only[Es,look]at h⊢;split at h
  ·grind
  ·rename_i e;rw[kb e];exact Ku h
def AS.cE(s:AS)(id:Nat)(l:List (List AV)):AS:=⟨CB id l s.t,Es id l s.o,s.r,s.u⟩
def fR(ι:Env)(id:Nat):Env:=fun i=>if i=id then none else ι i
theorem fJ ι{id i}(h:i≠id):fR ι id i=ι i:=by grind[fR]
theorem nA{ι}{id i}{y}(h:fR ι id i=some y):i≠id∧ι i=some y:=by
 grind[fR]
theorem ke{ι}{id i g}(h:bw (fR ι id i)=some g):i≠id∧bw (ι i)=some g:=by
 unfold fR at h;split at h
 ·cases h
 grind
theorem kL{M}{ι}{id}:∀b,NN M (fR ι id) b→NN M ι b:=fun b a=>by
 rcases a with a|⟨i,a⟩
 ·exact .inl a
 ·exact .inr ⟨i,(ke a).2⟩
theorem HS.Au{M}{g}{w}{ι}{s}(h:HS M g w ι s){k id}{r}{ar}(d:look id s.r=some ar)(f:ι k=some (.map r)):k≠id:=fun e=>by
 subst e;obtain⟨v,xs,a,c,_⟩:=h.arrs k ar d (by grind);rw[f]at a;injection a with a;subst a
 rcases c.2 with⟨b,_⟩|⟨_,_,_,b,_⟩<;>cases b
theorem HS.rk{M:Nat→Prop}{P:aC}{w:World}{ι:Env}{s:AS}(h:HS M P w ι s){id:Nat}(O:id<TG){ar:bW}(I:look id s.r=some ar)(A:Option Addr)(n c:Nat)(d:ι id=some (.slice A n c))(ι':Env):
  Rel (NN M (fR ι id)) w ι' (.sl ar.l) (.slice A n c):=by
 obtain⟨v,xs,f,F,G,H,y⟩:=h.arrs id ar I (by rw[d];rfl);rw[d]at f;injection f with f;subst f
 obtain⟨Q,u|⟨g,E,k,J,C,o,K,D,N,r⟩⟩:=F
 ·obtain⟨u,p⟩:=u;injection u with z l B;subst l
  have:ar.l=[]:=nx p;rw[this];exact .sl0 _ _ _
 ·injection J with z l B;subst z l B
  refine .sl _ ar.l g 0 _ ar.sz (fun j i=>(xs[j*ar.sz+i]?).getD (.bool true)) G ?_ (fun a=>?_) (fun j i=>?_) (fun j e m i x t=>?_) (fun j e m i x t=>?_) K
  ·exact(h.own id g (by rw[d];rfl)).2
  ·rcases a with a|⟨i,a⟩
   ·exact h.sep a (by rw[d];rfl)
   ·obtain⟨q,a⟩:=ke a;exact q (h.inj i id g a (by rw[d];rfl))
  ·cases e:xs[j*ar.sz+i]? with
   | none=>rfl
   | some v=>exact H v (lp e)
  ·obtain⟨v,d,_⟩:=y j e m i x t;rw[ami _ _ _ _ ar.e (0,0) o];have:k.toList[j*ar.sz+i]?=some v:=by
    rw[←r]at d;rw[yk]at d;split at d
    ·exact d
    ·cases d
   simp only[d,IF];rw[←afK,DO];exact this
  ·obtain⟨v,d,L⟩:=y j e m i x t;simp only[d,IF];exact(L.flat (by omega)).mono (jf _) (fun b _ C=>kL b C) (fun _ _ _=>rfl) (fun _ _ h=>h)
theorem HS.cE{M:Nat→Prop}{E:aC}{w:World}{ι:Env}{s:AS}(h:HS M E w ι s){id:Nat}(C:id<TG){ar:bW}(G:look id s.r=some ar)(B:E.pv id=none):HS M E w (fR ι id) (s.cE id ar.l):=by
 refine⟨h.below,h.old,fun i y l=>h.use i y (nA l).2,fun i g t=>h.own i g (ke t).2,fun i Q g t z=>h.inj i Q g (ke t).2 (ke z).2,fun i cs m=>?_,h.kr,fun i cs m d=>?_,fun i a m d=>?_,fun i y d=>(by
  have e:i≠id:=fun e=>by subst e;rw[B]at d;cases d
  exact⟨(fJ ι e).trans (h.pin i y d).1,(h.pin i y d).2⟩)⟩
 ·obtain⟨u,D,_⟩:=Ku m;exact h.ko i u D
 ·obtain⟨u,D,rfl⟩:=Ku m;obtain⟨y,l⟩:=EZ d;obtain⟨f,l⟩:=nA l;obtain⟨g,T,vs,o,p,q⟩:=h.objs i u D (by rw[fJ ι f]at d;exact d);exact⟨g,T,vs,(fJ ι f).trans o,p,q.cE kL (fun _ h=>fJ ι h) (fun A n c O=>h.rk C G A n c O _)⟩
 ·obtain⟨y,l⟩:=Db.mp d;obtain⟨f,l⟩:=nA l;obtain⟨v,xs,o,p,q,H,I⟩:=h.arrs i a m (by rw[l];rfl);refine⟨v,xs,(fJ ι f).trans o,p,q,H,fun j e L k c K=>?_⟩;obtain⟨x,P,N⟩:=I j e L k c K;exact⟨x,P,N.mono (jf _) (fun b _ J=>kL b J) (fun _ _ _=>rfl) (fun r F=>(fJ ι (h.Au G F)).trans F) (fun _ _=>rfl) (fun h=>h)⟩
section
variable{f:Cx}{Q:Exit→Act→World→Prop}{o:List aq}{s:AS}
theorem aX.cE{a}{w}{ι}(h:aX f s a w ι){id}(b:id<TG){ar}(e:look id s.r=some ar)(d:f.w0.pv id=none):aX f (s.cE id ar.l) a w (fR ι id) :=
 ⟨h.hs.cE b e d,h.dfr,h.n,fun k v g=>by
  obtain⟨u,j,rfl⟩:=Wz g;obtain⟨x,m,i⟩:=h.tmp k u j;exact⟨x,m,i.cE kL (fun _ h=>fJ ι h) (fun A n c l=>h.hs.rk b e A n c l _)⟩⟩
theorem ahB{e} id{ar}(c:id<TG)(g:look id s.r=some ar)(b:s.u.contains (dk id)=false)(h:VE f Q o e (s.cE id ar.l)):VE f Q o e s:=fun a w ι d=>h a w _ (d.cE c g (d.hs.np b))
theorem ajj{b}{l} id{ar}(d:id<TG)(g:look id s.r=some ar)(c:s.u.contains (dk id)=false)(h:OT f Q o b l (s.cE id ar.l)):OT f Q o b l s:=fun a w ι e=>h a w _ (e.cE d g (e.hs.np c))
theorem aX.own{a:Act}{w:World}{ι}(h:aX f s a w ι){d k} e sz(m:has s.u d=false)(p:look k s.t=some .nils):
  aX f ⟨bm k (.ref d) s.t,s.o,bm d ⟨e,sz,[]⟩ s.r,d::s.u⟩ a w (ext ι d (.slice none 0 0)):=by
 obtain⟨c,n⟩:=h.hs.nil m e sz;have q:=h.hs.free m;refine⟨⟨c.below,c.old,c.use,c.own,c.inj,c.ko,c.kr,c.objs,c.arrs,c.pin⟩,h.dfr,h.n,fun j v g=>?_⟩;simp only[cr]at g;split at g
 ·rename_i e;subst e;injection g with g;subst g
  obtain⟨x,l,i⟩:=h.tmp j _ p;cases i;exact⟨_,l,.ref _ _ _ _ _ (cN _ _ _)⟩
 ·obtain⟨x,l,i⟩:=h.tmp j v g;exact⟨x,l,i.mono (by omega) (fun b _ o=>n b o) (fun _ _ _=>rfl) (fp q _)⟩
theorem Zq{e} d k et sz(b:has s.u d=false)(c:look k s.t=some .nils)(h:VE f Q o e ⟨bm k (.ref d) s.t,s.o,bm d ⟨et,sz,[]⟩ s.r,d::s.u⟩):VE f Q o e s:=fun a w ι g=>h a w _ (g.own et sz b c)
theorem aX.M5{a:Act}{w:World}{ι:Env}(h:aX f s a w ι){d i n:Nat}{cs:List AV}(e:TypeId)(sz:Nat)(r:has s.u d=false)(t:look i s.o=some cs)(D:cs[n]?=some .nils):
  aX f ⟨s.t,bm i (cs.set n (.ref d)) s.o,bm d ⟨e,sz,[]⟩ s.r,d::s.u⟩ a w (ext ι d (.slice none 0 0)):=by
 obtain⟨k,B⟩:=h.hs.nil r e sz;have E:=h.hs.free r;refine⟨⟨k.below,k.old,k.use,k.own,k.inj,fun j c l=>?_,k.kr,fun j c l u=>?_,k.arrs,k.pin⟩,h.dfr,h.n,fun j v l=>?_⟩
 ·simp only[cr]at l;split at l
  ·rename_i e;subst e;exact k.ko j cs t
  ·exact k.ko j c l
 ·simp only[cr]at l;split at l
  ·rename_i e;subst e;injection l with l;subst l
   obtain⟨g,T,vs,z,A,p⟩:=k.objs j cs t u;refine⟨g,T,vs,z,A,⟨by rw[alU];exact p.len,p.one,fun m x v o y=>?_⟩⟩;rw[al9]at o;split at o
   ·rename_i e;subst e;split at o
    ·injection o with o;subst o
     have q:=p.rel n .nils v D y;cases q;exact .ref _ _ _ _ _ (cN _ _ _)
    ·cases o
   ·exact p.rel m x v o y
  ·exact k.objs j c l u
 ·obtain⟨x,o,q⟩:=h.tmp j v l;exact⟨x,o,q.mono (by omega) (fun b _ C=>B b C) (fun _ _ _=>rfl) (fp E _)⟩
theorem aig{e} d i n et sz{cs}(b:has s.u d=false)(c:look i s.o=some cs)(g:cs[n]?=some .nils)(h:VE f Q o e ⟨s.t,bm i (cs.set n (.ref d)) s.o,bm d ⟨et,sz,[]⟩ s.r,d::s.u⟩):VE f Q o e s:=fun a w ι j=>h a w _ (j.M5 et sz b c g)
theorem Zy{b}{l} d i n et sz{cs}(c:has s.u d=false)(e:look i s.o=some cs)(g:cs[n]?=some .nils)(h:OT f Q o b l ⟨s.t,bm i (cs.set n (.ref d)) s.o,bm d ⟨et,sz,[]⟩ s.r,d::s.u⟩):OT f Q o b l s:=fun a w ι j=>h a w _ (j.M5 et sz c e g)
end
def AS.tt(s:AS)(t:List (Nat×AV)):AS:={ s with t:=t }
theorem Zn(s:AS) t p:(s.tt t).mem p=s.mem p:=by rfl
theorem ZU P s t T p:nB P (s.tt t) T p=nB P s T p:=by grind[nB,Zn]
theorem aec P s t T x j:qL P (s.tt t) T x j=qL P s T x j:=rfl
theorem ah5 s t sz x:oE (s.tt t) sz x=oE s sz x:=rfl
theorem pK{s}{t}:∀{xs},(∀x∈xs,(s.tt t).ev x=s.ev x)→dr (s.tt t) xs=dr s xs
 | [],_=>rfl
 | x::r,h=>by
  unfold dr;rw[h x u6,pK (fun y a=>h y (by grind))]
theorem KU{s}{t}:∀{ps},(∀p∈ps,(s.tt t).ev p.2=s.ev p.2)→lH (s.tt t) ps=lH s ps
 | [],_=>rfl
 | (i,x)::r,h=>by
  unfold lH;have a:(s.tt t).ev x=s.ev x:=h (i,x) u6;rw[a,KU (fun y b=>h y (by grind))]
theorem ajI{P:Program}{s s':AS}{t:List (Nat×AV)}{T:TypeId}{p v:AV}(h:rD P s T p v=some s'):s'.t=s.t∧rD P (s.tt t) T p v=some (s'.tt t):=by
 unfold rD at h⊢;split at h
 ·rename_i id off;split at h
  ·rename_i cs g b c;split at h
   ·rename_i d;injection h with h;subst h
    refine⟨rfl,?_⟩;have a:look id (s.tt t).o=some cs:=b;simp only[a,c];rw[kc d];rfl
   ·cases h
  ·cases h
 ·rename_i id sz j off;split at h
  ·rename_i ar g b c;split at h
   ·rename_i e f;split at h
    ·rename_i d;injection h with h;subst h
     refine⟨rfl,?_⟩;have a:look id (s.tt t).r=some ar:=b;simp only[a,c,f];rw[kc d];rfl
    ·cases h
   ·cases h
  ·cases h
 grind
theorem Tm{s s':AS}{t:List (Nat×AV)}{d:Nat}{cs:List AV}(h:qF s d cs=some s'):s'.t=bm d (.ptr d 0) s.t∧qF (s.tt t) d cs=some (s'.tt (bm d (.ptr d 0) t)):=by
 unfold qF at h⊢;split at h
 ·cases h
 ·rename_i b;injection h with h;subst h
  have a:¬ (has (s.tt t).u d||Nat.ble 450000 d)=true:=b;rw[kb a];exact⟨rfl,rfl⟩
theorem akz{s}{t}{n}{lo a}(b:∀x,lo=some x→(s.tt t).ev x=s.ev x)(c:∀x,a=some x→(s.tt t).ev x=s.ev x):kO (s.tt t) n lo a=kO s n lo a:=by
 unfold kO
 grind
theorem PL(s:AS) t:(s.tt t).r=s.r:=rfl
theorem ajn{s:AS}{t:List (Nat×AV)}{v:AV}{lo a:Option Operand}(b:∀x,lo=some x→(s.tt t).ev x=s.ev x)(c:∀x,a=some x→(s.tt t).ev x=s.ev x):jT (s.tt t) v lo a=jT s v lo a:=by
 unfold jT;split<;>simp[akz b c,PL]
theorem Qw{P:Program}{s:AS}{t:List (Nat×AV)}{o:Oper}(b:∀x∈o.op.operands.toList,(s.tt t).ev x=s.ev x):kD P (s.tt t) o=kD P s o:=by
 unfold kD;cases a:o.op with
 | nilCheck x=>simp only[b x (by simp[a,Op.operands])]
 | field T x f=>simp only[b x (by simp[a,Op.operands])]
 | index T x i=>simp only[b x (by simp[a,Op.operands]),b i (by simp[a,Op.operands])]
 | convert S D x=>simp only[b x (by simp[a,Op.operands])]
 | makeFunc c n cs =>
  cases c with
  | func g =>
   simp only[];unfold Lj;split
   ·rename_i x j p;simp only[b x (by simp[a,Op.operands,← Array.mem_toList_iff,j])]
   ·rfl
  | _=>rfl
 | binOp op T x y l=>simp only[b x (by simp[a,Op.operands]),b y (by simp[a,Op.operands])]
 | slice T x lo k mx =>
  cases mx with
  | some m=>rfl
  | none =>
   have d:∀y,lo=some y→(s.tt t).ev y=s.ev y:=fun y e=>b y (by subst e;simp[a,Op.operands]);have h:∀y,k=some y→(s.tt t).ev y=s.ev y:=fun y e=>b y (by subst e;simp[a,Op.operands]);simp only[b x (by simp[a,Op.operands]),ajn d h,PL]
 | _=>rfl
theorem Rh s t v:oT (s.tt t) v=oT s v:=by rfl
theorem akE s t v:rT (s.tt t) v=rT s v:=by
 simp_all[rT,Rh]
theorem acE{P:Program}{s s':AS}{t:List (Nat×AV)}{T:TypeId}{u v r:AV}(h:sH P s T u v=some (s',r)):s'.t=s.t∧sH P (s.tt t) T u v=some (s'.tt t,r):=by
 unfold sH at h⊢;rw[Rh,akE];split at h
 ·rename_i c d e;split at h
  ·rename_i f;injection h with h;injection h with a b;subst a;subst b
   refine⟨rfl,?_⟩
   (try simp only[c,d,e])
   rw[kc f];rfl
  ·cases h
 ·cases h
theorem ah9{P:Program}{n:Nat}{s s':AS}{o:Oper}(t:List (Nat×AV))(h:bZ P n s o=some s')(J:∀c,o.op=.call c→c.callee ≠ .builtin .append)(l:∀x∈o.op.operands.toList,(s.tt t).ev x=s.ev x):
  ∃v,s'.t=(s.put o.dst v).t∧bZ P n (s.tt t) o=some (s'.tt ((s.tt t).put o.dst v).t):=by
 unfold bZ at h⊢;split at h
 case isFalse=>cases h
 rename_i O;rw[kc O];have N:∀v,s.put o.dst v=(s.put o.dst v).tt (s.put o.dst v).t:=fun v=>rfl;have F:∀{q:AS} {v},q.t=s.t→(q.tt t).put o.dst v=(q.put o.dst v).tt ((s.tt t).put o.dst v).t:=fun {q v} M=>by cases h:o.dst<;>rfl
 have g:∀v,(s.tt t).put o.dst v=(s.put o.dst v).tt ((s.tt t).put o.dst v).t:=fun v=>by cases h:o.dst<;>rfl
 cases a:o.op with
 | move x =>
  simp only[a]at h⊢;rw[l x (by simp[a,Op.operands])];split at h
  ·rename_i v k;injection h with h;subst h;exact⟨v,rfl,by (try simp only[k]);rw[←g]⟩
  ·cases h
 | assign x =>
  simp only[a]at h⊢;rw[l x (by simp[a,Op.operands])];split at h
  ·rename_i v k;injection h with h;subst h;exact⟨v,rfl,by (try simp only[k]);rw[←g]⟩
  ·cases h
 | pick c x y =>
  simp only[a]at h⊢;rw[l c (by simp[a,Op.operands]),l x (by simp[a,Op.operands]),l y (by simp[a,Op.operands])];split at h
  ·rename_i b B;split at h
   ·rename_i v k;injection h with h;subst h;exact⟨v,rfl,by (try simp only[B,k]);rw[←g]⟩
   ·cases h
  ·cases h
 | alloc T =>
  simp only[a]at h⊢;split at h
  ·rename_i d cs m U;obtain⟨D,E⟩:=Tm (t:=t) h;refine⟨.ptr d 0,by rw[m];exact D,?_⟩;simp only[m,U];rw[E];rfl
  ·cases h
 | box T x =>
  simp only[a]at h⊢;rw[l x (by simp[a,Op.operands])];split at h
  ·rename_i d v m k;split at h
   ·rename_i cs K;obtain⟨D,E⟩:=Tm (t:=t) h;refine⟨.ptr d 0,by rw[m];exact D,?_⟩;simp only[m,k,K];rw[E];rfl
   ·cases h
  ·cases h
 | load T x =>
  simp only[a]at h⊢;rw[l x (by simp[a,Op.operands])];split at h
  ·rename_i p w;split at h
   ·rename_i v k;injection h with h;subst h;exact⟨v,rfl,by (try simp only[w,ZU,k]);rw[←g]⟩
   ·cases h
  ·cases h
 | store T x y =>
  simp only[a]at h⊢;rw[l x (by simp[a,Op.operands]),l y (by simp[a,Op.operands])];split at h
  ·rename_i p v m w k;obtain⟨D,E⟩:=ajI (t:=t) h;refine⟨.nilp,by rw[m];exact D,?_⟩;simp only[m,w,k];rw[E];rfl
  ·cases h
 | fieldAddr T x f =>
  simp only[a]at h⊢;rw[l x (by simp[a,Op.operands])];split at h
  ·rename_i p w;split at h
   ·rename_i v k;injection h with h;subst h;exact⟨v,rfl,by (try simp only[w,k]);rw[←g]⟩
   ·cases h
  ·cases h
 | indexAddr T x y =>
  simp only[a]at h⊢;rw[l x (by simp[a,Op.operands]),l y (by simp[a,Op.operands])];split at h
  ·rename_i p j w Q;split at h
   ·rename_i v k;injection h with h;subst h;exact⟨v,rfl,by (try simp only[w,Q,aec,k]);rw[←g]⟩
   ·cases h
  ·cases h
 | build T parts =>
  simp only[a]at h⊢;have e:rV P (s.tt t) T parts.toList=rV P s T parts.toList:=by
   unfold rV;rw[KU (fun p w=>l p.2 (by simp[a,Op.operands];exact⟨p.1,z3.1 w⟩))]
  rw[e];split at h
  ·rename_i v k;injection h with h;subst h;exact⟨v,rfl,by (try simp only[k]);rw[←g]⟩
  ·cases h
 | buildSlice T H parts =>
  simp only[a]at h⊢;have e:o9 P (s.tt t) T H parts.toList=o9 P s T H parts.toList:=by
   unfold o9;rw[KU (fun p w=>l p.2 (by simp[a,Op.operands];exact⟨p.1,z3.1 w⟩))];rfl
  rw[e];split at h
  ·rename_i v k;injection h with h;subst h;exact⟨v,rfl,by (try simp only[k]);rw[←g]⟩
  ·cases h
 | makeSlice T x y =>
  simp only[a]at h⊢;have e:sr P (s.tt t) T x y=sr P s T x y:=by
   unfold sr;rw[l x (by simp[a,Op.operands]),l y (by simp[a,Op.operands])]
  rw[e];split at h
  ·rename_i v k;injection h with h;subst h;exact⟨v,rfl,by (try simp only[k]);rw[←g]⟩
  ·cases h
 | extract x i =>
  simp only[a]at h⊢;rw[l x (by simp[a,Op.operands])];split at h
  ·rename_i p w;split at h
   ·rename_i v k;injection h with h;subst h;exact⟨v,rfl,by (try simp only[w,k]);rw[←g]⟩
   ·cases h
  ·cases h
 | binOp op T x y X =>
  simp only[a]at h⊢;rw[l x (by simp[a,Op.operands]),l y (by simp[a,Op.operands])];have z:=Qw (P:=P) (t:=t) l;split at h
  ·rename_i u v G k;split at h
   ·rename_i r C;injection h with h;subst h;exact⟨r,rfl,by (try simp only[G,k,C]);rw[←g]⟩
   ·rename_i C;split at h
    ·rename_i r L;injection h with h;subst h;exact⟨r,rfl,by (try simp only[G,k,C,z,L]);rw[←g]⟩
    ·cases h
  ·cases h
 | unOp op T x =>
  simp only[a]at h⊢;rw[l x (by simp[a,Op.operands])];split at h
  ·rename_i u G;split at h
   ·rename_i r C;injection h with h;subst h;exact⟨r,rfl,by (try simp only[G,C]);rw[←g]⟩
   ·cases h
  ·cases h
 | call c =>
  simp only[a]at h⊢;split at h
  ·rename_i B;exact(J c a B).elim
  ·rename_i B;split at h
   ·rename_i x y T T' A I;split at h
    ·rename_i u v G k;split at h
     ·rename_i q M;injection h with h;subst h
      have z:=l x (by simp[a,Op.operands,Call.operands,B];exact z3.1 (by rw[A];simp));have S:=l y (by simp[a,Op.operands,Call.operands,B];exact z3.1 (by rw[A];simp));obtain⟨V,W⟩:=q;obtain⟨D,E⟩:=acE (t:=t) M;refine⟨W,?_,?_⟩
      ·have:V.t=s.t:=D;cases o.dst<;>simp[AS.put,this]
      ·(try simp only[z,S,G,k,E]);rw[←F D]
     ·cases h
    ·cases h
   ·cases h
  ·rename_i b R _ B;split at h
   ·rename_i r C;injection h with h;subst h
    have e:m5 P (s.tt t) b c.args.toList c.argTypes.toList=m5 P s b c.args.toList c.argTypes.toList:=by
     have z:dr (s.tt t) c.args.toList=dr s c.args.toList:=pK (fun x z=>l x (by simp[a,Op.operands,Call.operands,B];exact z3.1 z));unfold m5;split
     ·split
      ·rename_i x T A I;rw[A]at z;have:=l x (by simp[a,Op.operands,Call.operands,B];exact z3.1 (by rw[A];simp));rw[this];split<;>rfl
      ·rfl
     ·rw[z]
     ·rw[z]
     ·rfl
    refine⟨r,rfl,?_⟩;rw[e]
    (try simp only[C]);rw[←g]
   ·cases h
  ·cases h
 | _ =>
  have z:=Qw (P:=P) (t:=t) l;simp only[a]at h⊢;split at h
  ·rename_i r C;injection h with h;subst h;exact⟨r,rfl,by simp only[z,C];rw[←g]⟩
  ·cases h
def cy(ok:Nat→Bool):List (Nat×AV)→List (Nat×AV)
 | []=>[]
 | (k,v)::r=>if ok k=true then (k,v)::cy ok r else cy ok r
theorem fe{ok}:∀l k,look k (cy ok l)=if ok k=true then look k l else none
 | [],k=>by simp[cy,look]
 | (j,x)::r,k=>by
  unfold cy;by_cases a:ok j=true
  ·rw[kc a];simp only[look,fe r k]
   grind
  ·rw[kb a,fe r k];grind[look]
theorem sk{ok}{id}:∀l,dC id (cy ok l)=cy ok (dC id l)
 | []=>rfl
 | (j,x)::r=>by
  have b:cy ok ((j,x)::r)=if ok j=true then (j,x)::cy ok r else cy ok r:=rfl;have c:dC id ((j,x)::r)=(j,x.cT id)::dC id r:=rfl;have d:cy ok ((j,x.cT id)::dC id r)=if ok j=true then (j,x.cT id)::cy ok (dC id r) else cy ok (dC id r):=rfl;rw[b,c,d];by_cases a:ok j=true
  ·rw[kc a,kc a,← sk r];rfl
  ·rw[kb a,kb a,sk r]
theorem aee{P:Program}{n:Nat}{s s':AS}{o:Oper}{ok:Nat→Bool}(h:bZ P n s o=some s')(O:∀x t,x∈o.op.operands.toList→x=.tmp t→ok t=true):
  ∃F,bZ P n (s.tt (cy ok s.t)) o=some F∧F.o=s'.o∧F.r=s'.r∧F.u=s'.u∧∀k v,ok k=true∨some k=o.dst→look k s'.t=some v→look k F.t=some v:=by
 have z:∀x∈o.op.operands.toList,(s.tt (cy ok s.t)).ev x=s.ev x:=fun x L=>by
  cases x with
  | tmp t=>show look t (cy ok s.t)=look t s.t;rw[fe,kc (O _ t L rfl)]
  | const v=>rfl
  | func f=>rfl
  | global g=>rfl
 by_cases B:∀c,o.op=.call c→c.callee ≠ .builtin .append
 ·obtain⟨v,M,N⟩:=ah9 (cy ok s.t) h B z;refine⟨_,N,rfl,rfl,rfl,fun k u a j=>?_⟩;show look k ((s.tt (cy ok s.t)).put o.dst v).t=some u;rw[M]at j;cases G:o.dst with
  | none =>
   rw[G]at j a;rcases a with a|a
   ·show look k (cy ok s.t)=some u;rw[fe,kc a];exact j
   ·cases a
  | some d =>
   rw[G]at j a;simp only[AS.put,cr]at j⊢;by_cases e:k=d
   ·rw[kc e]at j⊢;exact j
   ·rw[kb e]at j⊢;rcases a with a|a
    ·show look k (cy ok s.t)=some u;rw[fe,kc a];exact j
    ·injection a with a;exact(e a).elim
 ·have C:∃c,o.op=.call c∧c.callee=.builtin .append:=by
   refine aa2 fun Q=>B fun c E i=>Q ⟨c,E,i⟩
  obtain⟨c,E,i⟩:=C;unfold bZ at h⊢;split at h
  case isFalse=>cases h
  rename_i G;rw[kc G];simp only[E,i]at h⊢;split at h
  ·rename_i x y T T' d A I K;split at h
   ·rename_i H;have L:=z x (by simp[E,Op.operands,Call.operands,i];exact z3.1 (by rw[A];simp));have U:=z y (by simp[E,Op.operands,Call.operands,i];exact z3.1 (by rw[A];simp));split at h
    ·rename_i v u S j;simp only[A,I,K,kc H,L,U,S,j];unfold zy at h⊢;split at h
     ·rename_i e sz bytes R;simp only[ah5]at h⊢;split at h
      ·rename_i new q;split at h
       ·split at h
        ·cases h
        ·rename_i b;injection h with h;subst h
         have p:¬ (has (s.tt (cy ok s.t)).u d=true∨¬ (new.length≤maxLen∧new.length*bytes≤140737488355328)):=b;refine⟨{ t:=bm d (.ref d) (dC d (cy ok s.t)),o:=fc d s.o,r:=bm d ⟨e,sz,new⟩ s.r,u:=d::s.u },by (try simp only[q]);rw[kb p];rfl,rfl,rfl,rfl,fun k w a m=>?_⟩;simp only[cr]at m⊢;by_cases e:k=d
         ·rw[kc e]at m⊢;exact m
         ·rw[kb e]at m⊢;rcases a with a|a
          ·show look k (dC d (cy ok s.t))=some w;rw[sk,fe,kc a];exact m
          ·injection a with a;exact(e a).elim
       ·rename_i id;split at h
        ·rename_i ar J;split at h
         ·rename_i b;injection h with h;subst h
          have D:look id (s.tt (cy ok s.t)).r=some ar:=J;refine⟨{ t:=bm d (.ref id) (dC id (cy ok s.t)),o:=fc id s.o,r:=bm id { ar with l:=ar.l++new } s.r,u:=s.u },by (try simp only[q]);simp only[D];rw[kc (show(s.tt (cy ok s.t)).u.contains (dk id)=false∧ar.e=e∧ar.sz=sz∧ar.l.length+new.length≤maxLen∧(ar.l.length+new.length)*bytes≤140737488355328 from b)];rfl,rfl,rfl,rfl,fun k w a m=>?_⟩;simp only[cr]at m⊢;by_cases e:k=d
          ·rw[kc e]at m⊢;exact m
          ·rw[kb e]at m⊢;rcases a with a|a
           ·show look k (dC id (cy ok s.t))=some w;rw[sk,fe,kc a];exact m
           ·injection a with a;exact(e a).elim
         ·cases h
        ·cases h
       ·cases h
      ·cases h
     ·cases h
    ·cases h
   ·cases h
  ·cases h
mutual
def AV.gl(id a:Nat):AV→AV
 | .ref i=>if i=id then .ref a else .any
 | .ptr _ _=>.any
 | .pp _ _ _=>.any
 | .sit _ _ _ _=>.any
 | .adr g off=>.adr g off
 | .eptr _ _ _ _=>.any
 | .sref _ _ _ _=>.any
 | .agg cs=>.agg (n8 id a cs)
 | .tup cs=>.tup (n8 id a cs)
 | .int k n=>.int k n
 | .bool b=>.bool b
 | .str s=>.str s
 | .nils=>.nils
 | .sl l=>.sl l
 | .nilm=>.nilm
 | .mref _ _=>.any
 | .omp m=>.omp m
 | .osl e sz l=>.osl e sz l
 | .vv x=>.vv x
 | .lk _ _=>.any
 | .fn f c=>.fn f c
 | .fno _ _=>.any
 | .nilf=>.nilf
 | .nilp=>.nilp
 | .cptr cs=>.cptr cs
 | .any=>.any
def n8(id a:Nat):List AV→List AV
 | []=>[]
 | c::r=>c.gl id a::n8 id a r
end
theorem GL{id a}:∀{l} {i:Nat} {x},(n8 id a l)[i]?=some x→∃y,l[i]?=some y∧x=y.gl id a
 | [],i,x,h=>by grind[n8]
 | c::r,0,x,h=>by grind[n8]
 | c::r,i+1,x,h=>by simp only[amp]at h⊢;exact GL h
theorem E1{id a}:∀l,(n8 id a l).length=l.length
 | []=>rfl
 | c::r=>by simp[n8,E1 r]
theorem Rel.gl{N N':Nat→Prop}{w:World}{ι:Env}{v:AV}{x:Value}(h:Rel N w ι v x){id E:Nat}{ι':Env}(G:∀b,N' b→N b)(Q:∀y,ι id=some y→ι' E=some y):Rel N' w ι' (v.gl id E) x:=by
 have I:∀{e:Env} {v:AV} {x:Value},Rel N w e v x→Rel N' w e v x:=fun h=>h.mono (jf _) (fun b _ u=>G b u) (fun _ _ _=>rfl) (fun _ _ h=>h)
 induction h with
 | int ι k n=>exact .int _ _ _
 | bool ι b=>exact .bool _ _
 | str ι s=>exact .str _ _
 | nils ι=>exact .nils _
 | nilm ι=>simp only[AV.gl];exact .nilm _
 | mref ι i q r v h K=>simp only[AV.gl];exact .any _ _ rfl
 | sl0 ι A c=>exact .sl0 _ _ _
 | sl ι l b o c sz t P u J a H p z D=>simp only[AV.gl];exact .sl _ l b o c sz t P u (fun h=>J (G b h)) a H (fun j e M i x C=>I (p j e M i x C)) z
 | fn ι f aV L F p D=>exact .fn _ f aV L F (fun i c y a K=>I (p i c y a K))
 | fno ι f aV L F p D=>exact .any _ _ rfl
 | nilf ι=>exact .nilf _
 | nilp ι=>exact .nilp _
 | any ι x h=>exact .any _ _ h
 | ptr ι d off g h=>exact .any _ _ rfl
 | pp ι d g off h=>exact .any _ _ rfl
 | sit _ _ _ _ _ _ _ _ _=>exact .any _ _ rfl
 | adr ι g off=>exact .adr _ _ _
 | vv ι x h=>exact .vv _ _ h
 | lk ι i v x h a=>exact .any _ _ a
 | eptr ι d sz j off g n c h=>exact .any _ _ rfl
 | sref ι d sz off m n c R A B h S=>exact .any _ _ rfl
 | cptr ι cs b o t u J a H p D=>simp only[AV.gl];exact .cptr _ cs b o t u (fun h=>J (G b h)) a H (fun i x C=>I (p i x C))
 | ref ι d A n c h =>
  simp only[AV.gl];split
  ·rename_i e;subst e;exact .ref _ _ _ _ _ (Q _ h)
  ·exact .any _ _ rfl
 | agg ι cs vs F a p D =>
  refine .agg _ _ _ (by grind[E1]) a (fun i x v C O=>?_)
  grind[GL]
 | tup ι cs vs F p D =>
  refine .tup _ _ _ (by grind[E1]) (fun i x v C O=>?_)
  grind[GL]
theorem HS.import{M:Nat→Prop}{w0:aC}{w w':World}{ι I:Env}{s s1:AS}(h:HS M w0 w ι s)(p:HS (NN M ι) (nn w) w' I s1){id d:Nat}{ar:bW}{v:Value}(a0:id<TG)(F:I id=some v)(ha:look id s1.r=some ar)(Y:has s.u d=false):
  HS M w0 w' (ext ι d v) { s with r:=bm d ar s.r,u:=d::s.u }∧(∀b,NN M (ext ι d v) b→NN (NN M ι) I b):=by
 have hl:=h.nF p.below.plain;have S:=h.free Y;have f:∀g,bw (some v)=some g→w.heap.size≤g∧g<w'.heap.size:=fun g m=>⟨((p.own id g (by rw[F];exact m)).1).elim (fun h=>h) (fun h=>h.elim),(p.own id g (by rw[F];exact m)).2⟩;have D:∀b,NN M (ext ι d v) b→NN (NN M ι) I b:=fun b o=>by
  rcases gx o with o|o
  ·exact .inl o
  ·exact .inr ⟨id,by rw[F];exact o⟩
 have t:∀b,b<w.heap.size→NN M (ext ι d v) b→NN M ι b:=fun b E o=>by
  rcases gx o with o|o
  ·exact o
  ·have:=(f b o).1;omega
 have X:∀b,b<w.heap.size→¬ NN M ι b→w'.heap[b]?=w.heap[b]?:=fun b E _=>p.below.plain.block b E;have R:=fp S v;refine⟨⟨hl.below,h.old,fun i y Z=>?_,fun i g m=>?_,fun i H g m l=>?_,fun i cs n=>eh (h.ko i cs n),fun i a n=>?_,fun i cs n z=>?_,fun i a n z=>?_,fun i y z=>⟨R i y (h.pin i y z).1,qj (h.pin i y z).2⟩⟩,D⟩
 ·by_cases e:i=d
  ·subst e;exact ju _ _
  ·rw[bT _ _ e]at Z;exact eh (h.use i y Z)
 ·by_cases e:i=d
  ·subst e;rw[cN]at m;exact⟨.inl (aal h.below.size (f g m).1),(f g m).2⟩
  ·rw[bT _ _ e]at m;exact⟨(h.own i g m).1,by have:=(h.own i g m).2;have:=p.below.plain.size;omega⟩
 ·by_cases e:i=d
  ·by_cases G:H=d
   ·omega
   ·subst e;rw[cN]at m;rw[bT _ _ G]at l;have:=(f g m).1;have:=(h.own H g l).2;omega
  ·by_cases G:H=d
   ·subst G;rw[cN]at l;rw[bT _ _ e]at m;have:=(f g l).1;have:=(h.own i g m).2;omega
   ·rw[bT _ _ e]at m;rw[bT _ _ G]at l;exact h.inj i H g m l
 ·simp only[cr]at n;by_cases e:i=d
  ·subst e;exact ju _ _
  ·rw[kb e]at n;exact eh (h.kr i a n)
 ·have e:i≠d:=by rintro rfl;have:=h.ko i cs n;rw[Y]at this;cases this
  rw[bT _ _ e]at z;obtain⟨g,T,vs,q,B,C⟩:=h.objs i cs n z;exact⟨g,T,vs,(bT _ _ e).trans q,(p.below.plain.block g (h.own i g (by rw[q];rfl)).2).trans B,C.mono p.below.plain.size t X R⟩
 ·simp only[cr]at n;by_cases e:i=d
  ·subst e;rw[kc rfl]at n;injection n with n;subst n
   obtain⟨v',xs,q,B,C,L,N⟩:=p.arrs id ar ha (by rw[F];rfl);rw[F]at q;injection q with q;subst q
   refine⟨v,xs,cN _ _ _,⟨B.1,?_⟩,C,L,fun j O Q k c A=>?_⟩
   ·rcases B.2 with hz|⟨g,J,K,r1,r2,r⟩
    ·exact .inl hz
    ·exact .inr ⟨g,J,K,r1,tl _,r⟩
   ·obtain⟨x,V,U⟩:=N j O Q k c A;exact⟨x,V,.inl ((U.flat (by omega)).mono (jf _) (fun b _ o=>D b o) (fun _ _ _=>rfl) (fun _ _ h=>h))⟩
  ·rw[kb e]at n;rw[bT _ _ e]at z;obtain⟨v1,W,q,B,C,L,N⟩:=h.arrs i a n z;refine⟨v1,W,(bT _ _ e).trans q,f8 B (fun g l=>p.below.plain.block g (h.own i g (by rw[q];exact l)).2),C,L,fun j O Q k c A=>?_⟩;obtain⟨x,V,U⟩:=N j O Q k c A;exact⟨x,V,U.mono p.below.plain.size t X (fun r P=>R _ _ P) (fun r P=>p.below.plain.block r (h.kq P)) (fun h=>h)⟩
theorem HS.ajR{M:Nat→Prop}{w0:aC}{w w':World}{ι H:Env}{s s1:AS}(h:HS M w0 w ι s)(o:HS (NN M ι) (nn w) w' H s1){id d:Nat}{ar:bW}{v:Value}(a0:id<TG)(E:H id=some v)(ha:look id s1.r=some ar)(R:ι d=none)(hu:has s.u d=true)(U:look d s.o=none)(V:look d s.r=some ar):
  HS M w0 w' (ext ι d v) s∧(∀b,NN M (ext ι d v) b→NN (NN M ι) H b):=by
 have hl:=h.nF o.below.plain;have f:∀g,bw (some v)=some g→w.heap.size≤g∧g<w'.heap.size:=fun g m=>⟨((o.own id g (by rw[E];exact m)).1).elim (fun h=>h) (fun h=>h.elim),(o.own id g (by rw[E];exact m)).2⟩;have C:∀b,NN M (ext ι d v) b→NN (NN M ι) H b:=fun b n=>by
  rcases gx n with n|n
  ·exact .inl n
  ·exact .inr ⟨id,by rw[E];exact n⟩
 have t:∀b,b<w.heap.size→NN M (ext ι d v) b→NN M ι b:=fun b D n=>by
  rcases gx n with n|n
  ·exact n
  ·have:=(f b n).1;omega
 have Y:∀b,b<w.heap.size→¬ NN M ι b→w'.heap[b]?=w.heap[b]?:=fun b D _=>o.below.plain.block b D;have Q:=fp R v;refine⟨⟨hl.below,h.old,fun i y Z=>?_,fun i g m=>?_,fun i G g m l=>?_,h.ko,h.kr,fun i cs q u=>?_,fun i a q u=>?_,fun i y u=>⟨Q i y (h.pin i y u).1,(h.pin i y u).2⟩⟩,C⟩
 ·by_cases e:i=d
  ·subst e;exact hu
  ·rw[bT _ _ e]at Z;exact h.use i y Z
 ·by_cases e:i=d
  ·subst e;rw[cN]at m;exact⟨.inl (aal h.below.size (f g m).1),(f g m).2⟩
  ·rw[bT _ _ e]at m;exact⟨(h.own i g m).1,by have:=(h.own i g m).2;have:=o.below.plain.size;omega⟩
 ·by_cases e:i=d
  ·by_cases F:G=d
   ·omega
   ·subst e;rw[cN]at m;rw[bT _ _ F]at l;have:=(f g m).1;have:=(h.own G g l).2;omega
  ·by_cases F:G=d
   ·subst F;rw[cN]at l;rw[bT _ _ e]at m;have:=(f g l).1;have:=(h.own i g m).2;omega
   ·rw[bT _ _ e]at m;rw[bT _ _ F]at l;exact h.inj i G g m l
 ·have e:i≠d:=by rintro rfl;rw[U]at q;cases q
  rw[bT _ _ e]at u;obtain⟨g,T,vs,p,A,B⟩:=h.objs i cs q u;exact⟨g,T,vs,(bT _ _ e).trans p,(o.below.plain.block g (h.own i g (by rw[p];rfl)).2).trans A,B.mono o.below.plain.size t Y Q⟩
 ·by_cases e:i=d
  ·subst e;rw[V]at q;injection q with q;subst q
   obtain⟨v',xs,p,A,B,K,L⟩:=o.arrs id ar ha (by rw[E];rfl);rw[E]at p;injection p with p;subst p
   refine⟨v,xs,cN _ _ _,⟨A.1,?_⟩,B,K,fun j N P k c z=>?_⟩
   ·rcases A.2 with hz|⟨g,I,J,r1,r2,r⟩
    ·exact .inl hz
    ·exact .inr ⟨g,I,J,r1,tl _,r⟩
   ·obtain⟨x,W,S⟩:=L j N P k c z;exact⟨x,W,.inl ((S.flat (by omega)).mono (jf _) (fun b _ n=>C b n) (fun _ _ _=>rfl) (fun _ _ h=>h))⟩
  ·rw[bT _ _ e]at u;obtain⟨v1,X,p,A,B,K,L⟩:=h.arrs i a q u;refine⟨v1,X,(bT _ _ e).trans p,f8 A (fun g l=>o.below.plain.block g (h.own i g (by rw[p];exact l)).2),B,K,fun j N P k c z=>?_⟩;obtain⟨x,W,S⟩:=L j N P k c z;exact⟨x,W,S.mono o.below.plain.size t Y (fun r O=>Q _ _ O) (fun r O=>o.below.plain.block r (h.kq O)) (fun h=>h)⟩
end Go.Proofs.YtocgkfoifehcbaaGreat
