/- Abstract values and abstract memory: what a run holds, said without addresses. A value, its reading in a world, what keeps a reading. No program in sight. -/
import Derived.WalkKit
import Derived.ProofKit
import Derived.OpenShut
import Derived.WalkLawsBesides
import Derived.Deep.MidRow
import Derived.Laws.CopyRow
import Derived.Deep.AppendLies
import Derived.Deep.LoopGhost
import Derived.Lib.Hide
namespace Go.Proofs.YtocgkfoifehcbaaGreat
set_option linter.all false
open Go.RowKit
abbrev ed:=List Nat
abbrev eg:=List Value
def iO:=@Bool.and_eq_true
def kc:=@if_neg
def lp:=@if_pos
def ol:=@List.mem_cons
def wl:=@Nat.lt_of_lt_of_le
def RX:=@Nat.le_trans
def als:=@Nat.mul_comm
inductive AV where
 | int (k:IntKind) (n:Int)
 | bool (b:Bool)
 | str (s:ByteArray)
 | nils
 | sl (l:List (List AV))
 | fn (f:FuncId) (aR:List AV)
 | fno (f:FuncId) (aR:List AV)
 | nilf
 | nilp
 | ptr (id off:Nat)
 | eptr (id sz j off:Nat)
 | sref (id sz off m:Nat)
 | cptr (cs:List AV)
 | adr (g off:Nat)
 | pp (id g off:Nat)
 | sit (id g:Nat) (s:ByteArray) (pos:Nat)
 | ref (id:Nat)
 | nilm
 | mref (id q:Nat)
 | omp (m:Option (List (Int×Bool)))
 | osl (e:TypeId) (sz:Nat) (l:List (List AV))
 | vv (x:Value)
 | lk (id:Nat) (x:Value)
 | agg (cs:List AV)
 | tup (vs:List AV)
 | any
instance:Inhabited AV:=⟨.nilp⟩
abbrev Env:=Nat→Option Value
def bH:Env:=fun _=>none
def dX:Nat:=1000000000
def has(u:ed)(d:Nat):Bool:=u.contains d||Nat.ble dX d
theorem ft{u}{d}(h:u.contains d=true):has u d=true:=by grind[has]
theorem acz{u}{d}(h:has u d=true):u.contains d=true∨dX≤d:=by
 simp_all[has]
def nm(id q:Nat):Nat:=dX+2 ^ id*(2*q+1)
theorem Q4:∀{a b j k},2 ^ a*(2*j+1)=2 ^ b*(2*k+1)→a=b∧j=k
 | 0,0,j,k,h=>by omega
 | 0,b+1,j,k,h=>by
  grind
 | a+1,0,j,k,h=>by
  grind
 | a+1,b+1,j,k,h=>by
  rw[Nat.pow_succ,als (2 ^ a) 2,Nat.mul_assoc,Nat.pow_succ,als (2 ^ b) 2,Nat.mul_assoc]at h;have:=Q4 (Nat.eq_of_mul_eq_mul_left (by omega) h);omega
theorem Vv{a b j k}(h:nm a j=nm b k):a=b∧j=k:=Q4 (by grind[nm])
theorem Pb u id q:has u (nm id q)=true:=by
 simp_all[has,nm]
def TG:Nat:=500000
def bu:Option Value→Option Nat
 | some (.pointer (some a))=>some a.block
 | some (.slice (some a) _ _)=>some a.block
 | some (.map (some r))=>some r
 | _=>none
inductive Rel (N:Nat→Prop) (w:World):Env→AV→Value→Prop
 | int (ι:Env) (k:IntKind) (n:Int):Rel N w ι (.int k n) (.int k n)
 | bool (ι b):Rel N w ι (.bool b) (.bool b)
 | str (ι s):Rel N w ι (.str s) (.string s)
 | nils (ι):Rel N w ι .nils (.slice none 0 0)
 | sl0 (ι A c):Rel N w ι (.sl []) (.slice A 0 c)
 | sl (ι:Env) (l:List (List AV)) (b o c sz:Nat) (val:Nat→Nat→Value) (hz:∀e∈l,e.length=sz) (hb:b<w.heap.size) (hN:¬ N b)
   (h1:∀j i,(val j i).oneCell'=true)
   (hc:∀(j:Nat) (e:List AV),l[j]?=some e→∀(i:Nat) (x:AV),e[i]?=some x→w.cell? ⟨b,o+j*sz+i,none⟩=some (val j i))
   (hr:∀(j:Nat) (e:List AV),l[j]?=some e→∀(i:Nat) (x:AV),e[i]?=some x→Rel N w bH x (val j i)) (hcap:l.length≤c):Rel N w ι (.sl l) (.slice (some ⟨b,o,none⟩) l.length c)
 | fn (ι:Env) (f:FuncId) (aR:List AV) (ys:eg) (hl:aR.length=ys.length) (hr:∀(i:Nat) (c:AV) (y:Value),aR[i]?=some c→ys[i]?=some y→Rel N w bH c y):Rel N w ι (.fn f aR) (.func (.func f) #[] ys.toArray)
 | fno (ι:Env) (f:FuncId) (aR:List AV) (ys:eg) (hl:aR.length=ys.length) (hr:∀(i:Nat) (c:AV) (y:Value),aR[i]?=some c→ys[i]?=some y→Rel N w ι c y):Rel N w ι (.fno f aR) (.func (.func f) #[] ys.toArray)
 | nilf (ι):Rel N w ι .nilf .nilFunc
 | nilp (ι):Rel N w ι .nilp (.pointer none)
 | any (ι:Env) (x:Value) (h:x.oneCell'=true):Rel N w ι .any x
 | ptr (ι:Env) (id off g:Nat) (h:ι id=some (.pointer (some ⟨g,0,none⟩))):Rel N w ι (.ptr id off) (.pointer (some ⟨g,off,none⟩))
 | eptr (ι:Env) (id sz j off g n c:Nat) (h:ι id=some (.slice (some ⟨g,0,none⟩) n c)):Rel N w ι (.eptr id sz j off) (.pointer (some ⟨g,j*sz+off,none⟩))
 | sref (ι:Env) (id sz off m n c c':Nat) (A B:Option Addr) (h:ι id=some (.slice A n c)) (hB:m=0∨∃g,A=some ⟨g,0,none⟩∧B=some ⟨g,off*sz,none⟩∧m≤c'∧c'+off=c):Rel N w ι (.sref id sz off m) (.slice B m c')
 | cptr (ι:Env) (cs:List AV) (b o:Nat) (val:Nat→Value) (hb:b<w.heap.size) (hN:¬ N b) (h1:∀i,(val i).oneCell'=true)
   (hc:∀(i:Nat) (x:AV),cs[i]?=some x→w.cell? ⟨b,o+i,none⟩=some (val i))
   (hr:∀(i:Nat) (x:AV),cs[i]?=some x→Rel N w bH x (val i)):Rel N w ι (.cptr cs) (.pointer (some ⟨b,o,none⟩))
 | adr (ι:Env) (g off:Nat):Rel N w ι (.adr g off) (.pointer (some ⟨g,off,none⟩))
 | pp (ι:Env) (id g off:Nat) (h:ι id=some (.pointer (some ⟨g,0,none⟩))):Rel N w ι (.pp id g off) (.pointer (some ⟨g,off,none⟩))
 | sit (ι:Env) (id g:Nat) (s:ByteArray) (pos:Nat) (h:ι id=some (.int .u64 (g:Nat))) (hg:g<w.heap.size) (hn:¬ N g) (hb:w.heap[g]?=some (.stringIter s pos)):Rel N w ι (.sit id g s pos) (.pointer (some ⟨g,0,none⟩))
 | ref (ι:Env) (id:Nat) A n c (h:ι id=some (.slice A n c)):Rel N w ι (.ref id) (.slice A n c)
 | nilm (ι):Rel N w ι .nilm (.map none)
 | vv ι x (h:x.oneCell'=true):Rel N w ι (.vv x) x
 | lk ι id v x (h:ι id=some v) (h1:x.oneCell'=true):Rel N w ι (.lk id v) x
 | mref ι id q r v (h:ι (nm id q)=some (.map r)) (h2:ι id=some v):Rel N w ι (.mref id q) (.map r)
 | agg ι cs (vs:eg) (hl:cs.length=vs.length) (h1:∀v∈vs,v.oneCell'=true)
   (hr:∀(i:Nat) (x:AV) (v:Value),cs[i]?=some x→vs[i]?=some v→Rel N w ι x v):Rel N w ι (.agg cs) (.agg vs.toArray)
 | tup ι cs (vs:eg) (hl:cs.length=vs.length)
   (hr:∀(i:Nat) (x:AV) (v:Value),cs[i]?=some x→vs[i]?=some v→Rel N w ι x v):Rel N w ι (.tup cs) (.tuple vs.toArray)
structure Cells N w ι(cs:List AV)(vs:eg):Prop where
 len:cs.length=vs.length
 one:∀v∈vs,v.oneCell'=true
 rel:∀(i:Nat) x v,cs[i]?=some x→vs[i]?=some v→Rel N w ι x v
theorem FL{w w':World}{b o}(h:w'.heap[b]?=w.heap[b]?):w'.cell? ⟨b,o,none⟩=w.cell? ⟨b,o,none⟩:=World.cell?_of_block (w:=w) (a:=⟨b,o,none⟩) h
theorem Rel.mono{N N':Nat→Prop}{w w':World}{ι:Env}{v:AV}{x:Value}(h:Rel N w ι v x)(R:w.heap.size≤w'.heap.size)
  (H:∀b,b<w.heap.size→N' b→N b) (M:∀b,b<w.heap.size→¬ N b→w'.heap[b]?=w.heap[b]?) :
  ∀{ι':Env},(∀id y,ι id=some y→ι' id=some y)→Rel N' w' ι' v x:=by
 induction h with
 | int ι k n=>intro ι' _;exact .int _ _ _
 | bool ι b=>intro ι' _;exact .bool _ _
 | str ι s=>intro ι' _;exact .str _ _
 | nils ι=>intro ι' _;exact .nils _
 | sl0 ι A c=>intro ι' _;exact .sl0 _ _ _
 | sl ι l b o c sz D S z u d I G F t =>
  intro ι' _;exact .sl ι' l b o c sz D S (by omega) (fun h=>u (H b z h)) d (fun j e J i x p=>(FL (M b z u)).trans (I j e J i x p)) (fun j e J i x p=>t j e J i x p (fun _ _ h=>h)) F
 | fn ι f aR O C G t=>intro ι' _;exact .fn _ f aR O C (fun i c y d E=>t i c y d E (fun _ _ h=>h))
 | fno ι f aR O C G t=>intro ι' a;exact .fno ι' f aR O C (fun i c y d E=>t i c y d E a)
 | nilf ι=>intro ι' _;exact .nilf _
 | nilp ι=>intro ι' _;exact .nilp _
 | any ι x h=>intro ι' _;exact .any _ _ h
 | ptr ι id off g h=>intro ι' a;exact .ptr _ _ _ _ (a _ _ h)
 | eptr ι id sz j off g n c h=>intro ι' a;exact .eptr _ _ _ _ _ _ n c (a _ _ h)
 | sref ι id sz off m n c P A B h Q=>intro ι' a;exact .sref _ _ _ _ _ n c P A B (a _ _ h) Q
 | cptr ι cs b o D z u d I G t =>
  intro ι' _;exact .cptr ι' cs b o D (by omega) (fun h=>u (H b z h)) d (fun i x p=>(FL (M b z u)).trans (I i x p)) (fun i x p=>t i x p (fun _ _ h=>h))
 | adr ι g off=>intro ι' _;exact .adr _ _ _
 | pp ι id g off h=>intro ι' a;exact .pp _ _ _ _ (a _ _ h)
 | sit ι id g s T h K u z=>intro ι' a;exact .sit _ _ _ _ _ (a _ _ h) (wl K R) (fun h=>u (H g K h)) ((M g K u).trans z)
 | ref ι id A n c h=>intro ι' a;exact .ref _ _ _ _ _ (a _ _ h)
 | nilm ι=>intro ι' _;exact .nilm _
 | vv ι x h=>intro ι' _;exact .vv _ _ h
 | lk ι id v x h d=>intro ι' a;exact .lk _ _ _ _ (a _ _ h) d
 | mref ι id q r v h E=>intro ι' a;exact .mref _ _ _ _ v (a _ _ h) (a _ _ E)
 | agg ι cs vs C d G t=>intro ι' a;exact .agg ι' cs vs C d (fun i x v p L=>t i x v p L a)
 | tup ι cs vs C G t=>intro ι' a;exact .tup ι' cs vs C (fun i x v p L=>t i x v p L a)
theorem Cells.mono{N N'}{w w'}{ι ι'}{cs}{vs}(h:Cells N w ι cs vs)(c:w.heap.size≤w'.heap.size)
  (a:∀b,b<w.heap.size→N' b→N b) (e:∀b,b<w.heap.size→¬ N b→w'.heap[b]?=w.heap[b]?) (g:∀id y,ι id=some y→ι' id=some y):Cells N' w' ι' cs vs :=
 ⟨h.len,h.one,fun i x v f d=>(h.rel i x v f d).mono c a e g⟩
mutual
def AV.de(u:ed):AV→Bool
 | .ptr id _=>u.contains id
 | .eptr id _ _ _=>u.contains id
 | .sref id _ _ _=>u.contains id
 | .ref id=>u.contains id
 | .lk id _=>u.contains id
 | .mref id q=>u.contains (nm id q)&&u.contains id
 | .pp id _ _=>u.contains id
 | .sit id _ _ _=>u.contains id
 | .agg cs=>dV u cs
 | .tup cs=>dV u cs
 | .fno _ cs=>dV u cs
 | _=>true
def dV(u:ed):List AV→Bool
 | []=>true
 | c::r=>c.de u&&dV u r
end
theorem lY{u}:∀{l},dV u l=true→∀(i:Nat) x,l[i]?=some x→x.de u=true
 | [],_,i,x,a=>by grind
 | c::r,h,0,x,a=>by grind[dV]
 | c::r,h,i+1,x,a=>by simp only[dV,iO]at h;exact lY h.2 i x a
theorem Rel.env{N:Nat→Prop}{w:World}{ι:Env}{v:AV}{x:Value}(h:Rel N w ι v x){u:ed}{ι':Env}(d:∀id,u.contains id=true→ι' id=ι id):v.de u=true→Rel N w ι' v x:=by
 induction h with
 | int ι k n=>intro _;exact .int _ _ _
 | bool ι b=>intro _;exact .bool _ _
 | str ι s=>intro _;exact .str _ _
 | nils ι=>intro _;exact .nils _
 | sl0 ι A c=>intro _;exact .sl0 _ _ _
 | sl ι l b o c sz C R E G t D e F p=>intro _;exact .sl _ l b o c sz C R E G t D e F
 | fn ι f aR K z e p=>intro _;exact .fn _ f aR K z e
 | fno ι f aR K z e p=>intro a;exact .fno _ f aR K z (fun i c y D Q=>p i c y D Q d (lY (by simpa[AV.de]using a) i c D))
 | nilf ι=>intro _;exact .nilf _
 | nilp ι=>intro _;exact .nilp _
 | any ι x h=>intro _;exact .any _ _ h
 | ptr ι id off g h=>intro a;exact .ptr _ _ _ _ ((d id (by simpa[AV.de]using a)).trans h)
 | eptr ι id sz j off g n c h=>intro a;exact .eptr _ _ _ _ _ _ n c ((d id (by simpa[AV.de]using a)).trans h)
 | sref ι id sz off m n c L A B h O=>intro a;exact .sref _ _ _ _ _ n c L A B ((d id (by simpa[AV.de]using a)).trans h) O
 | cptr ι cs b o C E G t D e p=>intro _;exact .cptr _ cs b o C E G t D e
 | adr ι g off=>intro _;exact .adr _ _ _
 | pp ι id g off h=>intro a;exact .pp _ _ _ _ ((d id (by simpa[AV.de]using a)).trans h)
 | sit ι id g s S h P G E=>intro a;exact .sit _ _ _ _ _ ((d id (by simpa[AV.de]using a)).trans h) P G E
 | ref ι id A n c h=>intro a;exact .ref _ _ _ _ _ ((d id (by simpa[AV.de]using a)).trans h)
 | nilm ι=>intro _;exact .nilm _
 | vv ι x h=>intro _;exact .vv _ _ h
 | lk ι id v x h t=>intro a;exact .lk _ _ _ _ ((d id (by simpa[AV.de]using a)).trans h) t
 | mref ι id q r v h M=>intro a;have H:=Bool.and_eq_true_iff.1 a;exact .mref _ _ _ _ v ((d _ H.1).trans h) ((d _ H.2).trans M)
 | agg ι cs vs z t e p=>intro a;exact .agg _ cs vs z t (fun i x v I J=>p i x v I J d (lY (by simpa[AV.de]using a) i x I))
 | tup ι cs vs z e p=>intro a;exact .tup _ cs vs z (fun i x v I J=>p i x v I J d (lY (by simpa[AV.de]using a) i x I))
theorem Rel.pure{N}{w}{ι}{v}{x}(h:Rel N w ι v x)(b:v.de []=true) ι':Rel N w ι' v x :=
 h.env (u:=[]) (fun id a=>by grind) b
def AV.DC:AV→Bool
 | .agg _|.tup _=>false
 | _=>true
theorem Rel.one{N}{w}{ι}{v}{x}(h:Rel N w ι v x)(a:v.DC=true):x.oneCell'=true:=by
 cases h<;>first|rfl|assumption|grind
def look{α:Type}(k:Nat):List (Nat×α)→Option α
 | []=>none
 | (j,v)::r=>if k=j then some v else look k r
def bd{α:Type}(k:Nat)(v:α):List (Nat×α)→List (Nat×α)
 | []=>[(k,v)]
 | (j,x)::r=>if k=j then (k,v)::r else (j,x)::bd k v r
theorem cn{α} k(v:α):∀l i,look i (bd k v l)=if i=k then some v else look i l
 | [],i=>rfl
 | (j,x)::r,i=>by
  unfold bd;by_cases h:k=j
  ·grind[look]
  ·rw[kc h];simp only[look,cn k v r]
   grind
def Gx(w:World)(m:Option (List (Int×Bool)))(x:Value):Prop :=
 match m with
 | none=>x=.map none
 | some l=>∃r b a,x=.map (some r)∧w.heap[r]?=some (.map b a)∧b.toList.map (fun e=>(e.key,e.val))=l.map (fun p=>(Value.int .i64 p.1,Value.bool p.2))
theorem fK{w w':World}{B}{e}{sz}{v}{n}{xs}(h:w.ownsRow B e sz v n xs)(f:∀g,bu (some v)=some g→w'.heap[g]?=w.heap[g]?):w'.ownsRow B e sz v n xs:=by
 refine⟨h.1,?_⟩;rcases h.2 with i|⟨g,a,b,rfl,c,d,r⟩
 ·grind
 ·exact .inr ⟨g,a,b,rfl,c,(f g rfl).trans d,r⟩
def CF(N:Nat→Prop)(w:World)(e:TypeId)(sz:Nat)(l:List (List AV))(x:Value):Prop :=
 ∃xs,w.ownsRow 0 e sz x l.length xs∧(∀c∈l,c.length=sz)∧(∀y∈xs,y.oneCell'=true) ∧
  (∀j c,l[j]?=some c→∀i a,c[i]?=some a→∃y,xs[j*sz+i]?=some y∧Rel N w bH a y)
theorem CF.mono{N N'}{w w'}{e}{sz}{l}{x}(h:CF N w e sz l x)(s:w.heap.size≤w'.heap.size)
  (p:∀b,b<w.heap.size→N' b→N b) (t:∀b,b<w.heap.size→¬ N b→w'.heap[b]?=w.heap[b]?) (q:∀g,bu (some x)=some g→w'.heap[g]?=w.heap[g]?):CF N' w' e sz l x:=by
 obtain⟨xs,k,m,n,o⟩:=h;refine⟨xs,fK k q,m,n,fun j c r i a hi=>?_⟩;obtain⟨y,d,f⟩:=o j c r i a hi;exact⟨y,d,f.mono s p t (fun _ _ h=>h)⟩
def gv(N:Nat→Prop)(w:World)(t:Prop)(o:Option Value)(c:AV)(x:Value):Prop :=
 Rel N w bH c x∨(t∧∃m r,c=.omp m∧x=.map r∧o=some x∧Gx w m x)∨(t∧∃e sz l r,c=.osl e sz l∧o=some (.map r)∧bu (some x)=r∧CF N w e sz l x)
theorem gv.mono{N N':Nat→Prop}{w w':World}{t v:Prop}{o u:Option Value}{c:AV}{x:Value}(h:gv N w t o c x)(p:w.heap.size≤w'.heap.size)
  (k:∀b,b<w.heap.size→N' b→N b) (s:∀b,b<w.heap.size→¬ N b→w'.heap[b]?=w.heap[b]?) (n:∀r,o=some (.map r)→u=some (.map r)) (y:∀r,o=some (.map (some r))→w'.heap[r]?=w.heap[r]?) (q:t→v):gv N' w' v u c x:=by
 rcases h with h|⟨a,m,r,d,f,i,j⟩|⟨a,e,sz,l,r,d,f,i,j⟩
 ·exact .inl (h.mono p k s (fun _ _ h=>h))
 ·subst f;refine .inr (.inl ⟨q a,m,r,d,rfl,n r i,?_⟩);unfold Gx at j⊢
  grind
 ·exact .inr (.inr ⟨q a,e,sz,l,r,d,n r f,i,j.mono p k s (fun g z=>y g (by grind))⟩)
def AV.PH:AV→Bool
 | .omp _=>false
 | .osl _ _ _=>false
 | _=>true
def AV.wc:AV→AV
 | .omp _=>.any
 | .osl _ _ _=>.any
 | c=>c
theorem gv.wc{N}{w}{t}{o}{c}{x}(h:gv N w t o c x)(a:x.oneCell'=true):Rel N w bH c.wc x:=by
 rcases h with h|⟨_,_,_,e,_⟩|⟨_,_,_,_,_,e,_⟩
 ·have:c.wc=c:=by cases h<;>rfl
  grind
 ·subst e;exact .any _ _ a
 ·subst e;exact .any _ _ a
theorem gv.ahT{N}{w}{t}{o}{c}{x}(h:gv N w t o c x)(a:t→c.PH=true):Rel N w bH c x:=by
 rcases h with h|⟨h,_,_,e,_⟩|⟨h,_,_,_,_,e,_⟩
 ·grind
 ·have:=a h;rw[e]at this;cases this
 ·have:=a h;rw[e]at this;cases this
theorem gv.flat{N}{w}{t}{o}{c}{x}(h:gv N w t o c x)(a:¬ t):Rel N w bH c x:=by
 rcases h with h|⟨h,_⟩|⟨h,_⟩
 ·grind
 ·grind
 grind
structure cj where
 e:TypeId
 sz:Nat
 l:List (List AV)
structure AS where
 t:List (Nat×AV)
 o:List (Nat×List AV)
 r:List (Nat×cj)
 u:ed
def NN(M:Nat→Prop)(ι:Env):Nat→Prop:=fun b=>M b∨∃id,bu (ι id)=some b
structure aB where
 w:World
 G:Nat→Prop
 pv:Nat→Option Value
def aB.O(b:aB)(g:Nat):Prop:=b.w.heap.size≤g∨b.G g
structure je(b:aB)(w w':World):Prop where
 os:w'.os=w.os
 tape:w'.tape=w.tape
 output:w'.output=w.output
 size:w.heap.size≤w'.heap.size
 block:∀k,k<b.w.heap.size→¬ b.G k→w'.heap[k]?=w.heap[k]?
abbrev Li(b:aB)(w:World):Prop:=je b b.w w
theorem je.trans{b}{u v w}(h:je b u v)(k:je b v w):je b u w:=⟨k.os.trans h.os,k.tape.trans h.tape,k.output.trans h.output,RX h.size k.size,fun i hi a=>(k.block i hi a).trans (h.block i hi a)⟩
theorem je.of{b}{v w}(h:Below v.heap.size v w)(c:b.w.heap.size≤v.heap.size):je b v w:=⟨h.os,h.tape,h.output,h.size,fun k a _=>h.block k (wl a c)⟩
def nj(w:World):aB:=⟨w,fun _=>False,fun _=>none⟩
theorem je.plain{w w'}(h:Li (nj w) w'):Below w.heap.size w w':=⟨h.os,h.tape,h.output,h.size,fun k a=>h.block k a (fun h=>h)⟩
def da(id:Nat):Nat:=id+1000000
def tyName(id T:Nat):Prop:=450000≤id→id<500000→T=(id-450000) % 1000
abbrev QM id:={ T:TypeId // tyName id T }
structure HS(M:Nat→Prop)(w0:aB)(w:World)(ι:Env)(s:AS):Prop where
 below:Li w0 w
 old:∀b,M b→b<w0.w.heap.size∧¬ w0.G b
 use:∀id y,ι id=some y→has s.u id=true
 own:∀id g,bu (ι id)=some g→w0.O g∧g<w.heap.size
 inj:∀id id' g,bu (ι id)=some g→bu (ι id')=some g→id=id'
 ko:∀id cs,look id s.o=some cs→has s.u id=true
 kr:∀id a,look id s.r=some a→has s.u id=true
 objs:∀id cs,look id s.o=some cs→(ι id).isSome=true→∃(g:Nat) (T:QM id) (vs:Array Value),ι id=some (.pointer (some ⟨g,0,none⟩))∧w.heap[g]?=some (.cells vs T.1 (0,0))∧Cells (NN M ι) w ι cs vs.toList
 arrs:∀id a,look id s.r=some a→(ι id).isSome=true→∃v xs,ι id=some v∧w.ownsRow 0 a.e a.sz v a.l.length xs∧(∀e∈a.l,e.length=a.sz)∧(∀x∈xs,x.oneCell'=true) ∧
  (∀j e,a.l[j]?=some e→∀i c,e[i]?=some c→∃x,xs[j*a.sz+i]?=some x∧gv (NN M ι) w (TG≤id) (ι (nm id (j*a.sz+i))) c x)
 pin:∀id v,w0.pv id=some v→ι id=some v∧s.u.contains (da id)=true
theorem HS.sep{M}{e}{w}{ι}{s}(h:HS M e w ι s){id b}(c:M b)(d:bu (ι id)=some b):False:=by
 have f:=h.old b c;rcases (h.own id b d).1 with a|a
 ·omega
 grind
theorem HS.nP{M}{b}{w}{ι}{s}(h:HS M b w ι s){k id r}{v}(a:ι k=some (.map (some r)))(d:ι id=some v)(c:∀r,v ≠ .map r):bu (some v)≠some r:=fun e=>by
 have:=h.inj k id r (by rw[a];rfl) (by grind)
 grind
theorem HS.j6{M}{b}{w}{ι}{s}(h:HS M b w ι s){k r}(a:ι k=some (.map (some r))):r<w.heap.size:=(h.own k r (by rw[a];rfl)).2
theorem HS.np{M}{a}{w}{ι}{s}(h:HS M a w ι s){id}(c:s.u.contains (da id)=false):a.pv id=none:=by
 cases b:a.pv id with
 | none=>rfl
 | some y=>have:=(h.pin id y b).2;grind
structure Cx where
 P:Program
 n:Nat
 M:Nat→Prop
 w0:aB
structure aV(cx:Cx) s(a:Act) w ι:Prop where
 hs:HS cx.M cx.w0 w ι s
 dfr:a.defers=[]
 n:a.tmps.size=cx.n
 tmp:∀k v,look k s.t=some v→∃x,a.tmps[k]?=some x∧Rel (NN cx.M ι) w ι v x
def AS.put(s:AS)(d:Option Tmp)(v:AV):AS:=match d with|some k=>{ s with t:=bd k v s.t }|none=>s
theorem aV.put{c:Cx}{s:AS}{a:Act}{w:World}{ι:Env}(h:aV c s a w ι){d:Option Tmp}(f:∀k,d=some k→k<c.n){v:AV}{x:Value}(l:Rel (NN c.M ι) w ι v x):aV c (s.put d v) (a.put d x) w ι:=by
 cases d with
 | none=>exact h
 | some k =>
  have g:=f k rfl;refine⟨⟨h.hs.below,h.hs.old,h.hs.use,h.hs.own,h.hs.inj,h.hs.ko,h.hs.kr,h.hs.objs,h.hs.arrs,h.hs.pin⟩,h.dfr,by simp[Act.put,h.n],fun j y b=>?_⟩;simp only[AS.put,cn]at b;by_cases e:j=k
  ·subst e;rw[lp rfl]at b;injection b with b;subst b
   exact⟨x,by simp[Act.put,h.n,g],l⟩
  ·rw[kc e]at b;obtain⟨z,m,i⟩:=h.tmp j y b;exact⟨z,by simp only[Act.put];grind,i⟩
def era{α:Type}(k:Nat):List (Nat×α)→List (Nat×α)
 | []=>[]
 | (j,x)::r=>if k=j then era k r else (j,x)::era k r
theorem AM{α} k:∀(l:List (Nat×α)) i,look i (era k l)=if i=k then none else look i l
 | [],i=>by simp[era,look]
 | (j,x)::r,i=>by
  unfold era;by_cases h:k=j
  ·rw[lp h,AM k r i];grind[look]
  ·rw[kc h];simp only[look,AM k r]
   grind
def AS.drop(s:AS)(d:Option Tmp):AS:=match d with|some k=>{ s with t:=era k s.t }|none=>s
theorem aV.drop{c}{s}{a}{w}{ι}(h:aV c s a w ι) d x:aV c (s.drop d) (a.put d x) w ι:=by
 cases d with
 | none=>exact h
 | some k =>
  refine⟨⟨h.hs.below,h.hs.old,h.hs.use,h.hs.own,h.hs.inj,h.hs.ko,h.hs.kr,h.hs.objs,h.hs.arrs,h.hs.pin⟩,h.dfr,by simp[Act.put,h.n],fun j y b=>?_⟩;simp only[AS.drop,AM]at b;by_cases e:j=k
  ·grind
  ·rw[kc e]at b;obtain⟨z,g,f⟩:=h.tmp j y b;exact⟨z,by simp only[Act.put];grind,f⟩
def xi:Value→Option AV
 | .int k n=>some (.int k n)
 | .bool b=>some (.bool b)
 | .string s=>some (.str s)
 | .slice none 0 0=>some .nils
 | .nilFunc=>some .nilf
 | .pointer none=>some .nilp
 | .map none=>some .nilm
 | .nilIface=>some (.vv .nilIface)
 | _=>none
def lI:eg→Option (List AV)
 | []=>some []
 | v::r=>match xi v,lI r with|some x,some y=>some (x::y)|_,_=>none
def F8:Value→Option AV
 | .agg cs=>(lI cs.toList).map .agg
 | v=>xi v
theorem Tg N w ι{v}{x}(h:xi v=some x):Rel N w ι x v∧v.oneCell'=true:=by
 unfold xi at h;split at h<;>first|grind|(injection h with h;subst h;exact⟨by first|exact .vv _ _ rfl|constructor,rfl⟩)
theorem lj(N:Nat→Prop)(w:World)(ι:Env):∀{l:eg} {x:List AV},lI l=some x→Cells N w ι x l
 | [],x,h=>by injection h with h;subst h;exact⟨rfl,fun v k=>(by cases k),fun i x v m _=>by simp at m⟩
 | v::r,x,h=>by
  unfold lI at h;cases f:xi v with
  | none=>grind
  | some a =>
   cases g:lI r with
   | none=>grind
   | some b =>
    rw[f,g]at h;injection h with h;subst h
    obtain⟨n,o⟩:=Tg N w ι f;have e:=lj N w ι g;refine⟨by simp[e.len],fun y d=>?_,fun i c y j d=>?_⟩
    ·rcases ol.1 d with rfl|d
     ·grind
     ·exact e.one _ d
    ·cases i with
     | zero=>grind
     | succ i=>exact e.rel i c y j d
theorem ael N w ι{v}{x}(h:F8 v=some x):Rel N w ι x v:=by
 unfold F8 at h;split at h
 ·rename_i cs;cases b:lI cs.toList with
  | none=>grind
  | some a =>
   have c:=lj N w ι b;have:=Rel.agg (N:=N) (w:=w) ι a cs.toList c.len c.one c.rel
   simp_all
 ·exact(Tg N w ι h).1
def AS.ev(s:AS):Operand→Option AV
 | .tmp t=>look t s.t
 | .const v=>F8 v
 | .func f=>some (.fn f [])
 | .global _=>none
theorem aV.ev{d}{s}{a}{w}{ι}(h:aV d s a w ι){x}{v}(b:s.ev x=some v):Rel (NN d.M ι) w ι v (a.eval x):=by
 cases x with
 | tmp t =>
  obtain⟨y,j,e⟩:=h.tmp t v b;show Rel _ _ _ _ (a.tmps.getD t undef)
  simp_all
 | const c=>exact ael _ _ _ b
 | func f=>injection b with b;subst b;exact .fn _ _ [] [] rfl (fun i c y h _=>by grind)
 | global g=>cases b
end Go.Proofs.YtocgkfoifehcbaaGreat
