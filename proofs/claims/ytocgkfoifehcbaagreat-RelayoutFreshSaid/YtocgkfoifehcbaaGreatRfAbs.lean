/- Abstract values and abstract memory: what a run holds, said without addresses. A value, its reading in a world, what keeps a reading. No program in sight. -/
import Derived.WalkKit
import Derived.ProofKit
import Derived.OpenShut
import Derived.WalkLawsBesides
import Derived.Deep.MidRow
import Derived.Laws.CopyRow
import Derived.Deep.AppendLies
import Derived.Deep.LoopGhost
import Derived.Lib.Hide
namespace Go.Proofs.YtocgkfoifehcbaaGreat
set_option linter.all false
open Go.RowKit
inductive AV where
 | int (k:IntKind) (n:Int)
 | bool (b:Bool)
 | str (s:ByteArray)
 | nils
 | sl (l:List (List AV))
 | fn (f:FuncId) (aP:List AV)
 | fno (f:FuncId) (aP:List AV)
 | nilf
 | nilp
 | ptr (id off:Nat)
 | eptr (id sz j off:Nat)
 | sref (id sz off m:Nat)
 | cptr (cs:List AV)
 | adr (g off:Nat)
 | pp (id g off:Nat)
 | sit (id g:Nat) (s:ByteArray) (pos:Nat)
 | ref (id:Nat)
 | nilm
 | mref (id q:Nat)
 | omp (m:Option (List (Int×Bool)))
 | osl (e:TypeId) (sz:Nat) (l:List (List AV))
 | vv (x:Value)
 | lk (id:Nat) (x:Value)
 | agg (cs:List AV)
 | tup (vs:List AV)
 | any
instance:Inhabited AV:=⟨.nilp⟩
abbrev Env:=Nat→Option Value
def bn:Env:=fun _=>none
def rt:Nat:=1000000000
def has(u:List Nat)(d:Nat):Bool:=u.contains d||Nat.ble rt d
theorem eB{u:List Nat}{d:Nat}(h:u.contains d=true):has u d=true:=by unfold has;rw[h];rfl
theorem IP{u:List Nat}{d:Nat}(h:has u d=true):u.contains d=true∨rt≤d:=by
 unfold has at h;rcases Bool.or_eq_true_iff.1 h with h|h
 ·exact .inl h
 ·exact .inr (Nat.le_of_ble_eq_true h)
def nm(id q:Nat):Nat:=rt+2 ^ id*(2*q+1)
theorem Tg(u:List Nat)(id q:Nat):has u (nm id q)=true:=by
 unfold has;rw[Bool.or_eq_true_iff];exact .inr (Nat.ble_eq_true_of_le (by unfold nm;omega))
def TG:Nat:=500000
def bm:Option Value→Option Nat
 | some (.pointer (some a))=>some a.block
 | some (.slice (some a) _ _)=>some a.block
 | some (.map (some r))=>some r
 | _=>none
inductive Rel (N:Nat→Prop) (w:World):Env→AV→Value→Prop
 | int (ι:Env) (k:IntKind) (n:Int):Rel N w ι (.int k n) (.int k n)
 | bool (ι b):Rel N w ι (.bool b) (.bool b)
 | str (ι s):Rel N w ι (.str s) (.string s)
 | nils (ι):Rel N w ι .nils (.slice none 0 0)
 | sl0 (ι A c):Rel N w ι (.sl []) (.slice A 0 c)
 | sl (ι:Env) (l:List (List AV)) (b o c sz:Nat) (val:Nat→Nat→Value) (hz:∀e∈l,e.length=sz) (hb:b<w.heap.size) (hN:¬ N b)
   (h1:∀j i,(val j i).oneCell'=true)
   (hc:∀(j:Nat) (e:List AV),l[j]?=some e→∀(i:Nat) (x:AV),e[i]?=some x→w.cell? ⟨b,o+j*sz+i,none⟩=some (val j i))
   (hr:∀(j:Nat) (e:List AV),l[j]?=some e→∀(i:Nat) (x:AV),e[i]?=some x→Rel N w bn x (val j i)) (hcap:l.length≤c):Rel N w ι (.sl l) (.slice (some ⟨b,o,none⟩) l.length c)
 | fn (ι:Env) (f:FuncId) (aP:List AV) (ys:List Value) (hl:aP.length=ys.length) (hr:∀(i:Nat) (c:AV) (y:Value),aP[i]?=some c→ys[i]?=some y→Rel N w bn c y):Rel N w ι (.fn f aP) (.func (.func f) #[] ys.toArray)
 | fno (ι:Env) (f:FuncId) (aP:List AV) (ys:List Value) (hl:aP.length=ys.length) (hr:∀(i:Nat) (c:AV) (y:Value),aP[i]?=some c→ys[i]?=some y→Rel N w ι c y):Rel N w ι (.fno f aP) (.func (.func f) #[] ys.toArray)
 | nilf (ι):Rel N w ι .nilf .nilFunc
 | nilp (ι):Rel N w ι .nilp (.pointer none)
 | any (ι:Env) (x:Value) (h:x.oneCell'=true):Rel N w ι .any x
 | ptr (ι:Env) (id off g:Nat) (h:ι id=some (.pointer (some ⟨g,0,none⟩))):Rel N w ι (.ptr id off) (.pointer (some ⟨g,off,none⟩))
 | eptr (ι:Env) (id sz j off g n c:Nat) (h:ι id=some (.slice (some ⟨g,0,none⟩) n c)):Rel N w ι (.eptr id sz j off) (.pointer (some ⟨g,j*sz+off,none⟩))
 | sref (ι:Env) (id sz off m n c c':Nat) (A B:Option Addr) (h:ι id=some (.slice A n c)) (hB:m=0∨∃g,A=some ⟨g,0,none⟩∧B=some ⟨g,off*sz,none⟩∧m≤c'∧c'+off=c):Rel N w ι (.sref id sz off m) (.slice B m c')
 | cptr (ι:Env) (cs:List AV) (b o:Nat) (val:Nat→Value) (hb:b<w.heap.size) (hN:¬ N b) (h1:∀i,(val i).oneCell'=true)
   (hc:∀(i:Nat) (x:AV),cs[i]?=some x→w.cell? ⟨b,o+i,none⟩=some (val i))
   (hr:∀(i:Nat) (x:AV),cs[i]?=some x→Rel N w bn x (val i)):Rel N w ι (.cptr cs) (.pointer (some ⟨b,o,none⟩))
 | adr (ι:Env) (g off:Nat):Rel N w ι (.adr g off) (.pointer (some ⟨g,off,none⟩))
 | pp (ι:Env) (id g off:Nat) (h:ι id=some (.pointer (some ⟨g,0,none⟩))):Rel N w ι (.pp id g off) (.pointer (some ⟨g,off,none⟩))
 | sit (ι:Env) (id g:Nat) (s:ByteArray) (pos:Nat) (h:ι id=some (.int .u64 (g:Nat))) (hg:g<w.heap.size) (hn:¬ N g) (hb:w.heap[g]?=some (.stringIter s pos)):Rel N w ι (.sit id g s pos) (.pointer (some ⟨g,0,none⟩))
 | ref (ι:Env) (id:Nat) (A:Option Addr) (n c:Nat) (h:ι id=some (.slice A n c)):Rel N w ι (.ref id) (.slice A n c)
 | nilm (ι):Rel N w ι .nilm (.map none)
 | vv (ι:Env) (x:Value) (h:x.oneCell'=true):Rel N w ι (.vv x) x
 | lk (ι:Env) (id:Nat) (v x:Value) (h:ι id=some v) (h1:x.oneCell'=true):Rel N w ι (.lk id v) x
 | mref (ι:Env) (id q:Nat) (r:Option Nat) (v:Value) (h:ι (nm id q)=some (.map r)) (h2:ι id=some v):Rel N w ι (.mref id q) (.map r)
 | agg (ι:Env) (cs:List AV) (vs:List Value) (hl:cs.length=vs.length) (h1:∀v∈vs,v.oneCell'=true)
   (hr:∀(i:Nat) (x:AV) (v:Value),cs[i]?=some x→vs[i]?=some v→Rel N w ι x v):Rel N w ι (.agg cs) (.agg vs.toArray)
 | tup (ι:Env) (cs:List AV) (vs:List Value) (hl:cs.length=vs.length)
   (hr:∀(i:Nat) (x:AV) (v:Value),cs[i]?=some x→vs[i]?=some v→Rel N w ι x v):Rel N w ι (.tup cs) (.tuple vs.toArray)
structure Cells(N:Nat→Prop)(w:World)(ι:Env)(cs:List AV)(vs:List Value):Prop where
 len:cs.length=vs.length
 one:∀v∈vs,v.oneCell'=true
 rel:∀(i:Nat) (x:AV) (v:Value),cs[i]?=some x→vs[i]?=some v→Rel N w ι x v
theorem Am{w w':World}{b o:Nat}(h:w'.heap[b]?=w.heap[b]?):w'.cell? ⟨b,o,none⟩=w.cell? ⟨b,o,none⟩:=World.cell?_of_block (w:=w) (a:=⟨b,o,none⟩) h
theorem Rel.mono{N N':Nat→Prop}{w w':World}{ι:Env}{v:AV}{x:Value}(h:Rel N w ι v x)(hs:w.heap.size≤w'.heap.size)
  (hN:∀b,b<w.heap.size→N' b→N b) (hw:∀b,b<w.heap.size→¬ N b→w'.heap[b]?=w.heap[b]?) :
  ∀{ι':Env},(∀id y,ι id=some y→ι' id=some y)→Rel N' w' ι' v x:=by
 induction h with
 | int ι k n=>intro ι' _;exact .int _ _ _
 | bool ι b=>intro ι' _;exact .bool _ _
 | str ι s=>intro ι' _;exact .str _ _
 | nils ι=>intro ι' _;exact .nils _
 | sl0 ι A c=>intro ι' _;exact .sl0 _ _ _
 | sl ι l b o c sz val hz hb hn h1 hc hr hcap ih =>
  intro ι' _;exact .sl ι' l b o c sz val hz (by omega) (fun h=>hn (hN b hb h)) h1 (fun j e he i x hx=>(Am (hw b hb hn)).trans (hc j e he i x hx)) (fun j e he i x hx=>ih j e he i x hx (fun _ _ h=>h)) hcap
 | fn ι f aP ys hl hr ih=>intro ι' _;exact .fn _ f aP ys hl (fun i c y h1 h2=>ih i c y h1 h2 (fun _ _ h=>h))
 | fno ι f aP ys hl hr ih=>intro ι' hι;exact .fno ι' f aP ys hl (fun i c y h1 h2=>ih i c y h1 h2 hι)
 | nilf ι=>intro ι' _;exact .nilf _
 | nilp ι=>intro ι' _;exact .nilp _
 | any ι x h=>intro ι' _;exact .any _ _ h
 | ptr ι id off g h=>intro ι' hι;exact .ptr _ _ _ _ (hι _ _ h)
 | eptr ι id sz j off g n c h=>intro ι' hι;exact .eptr _ _ _ _ _ _ n c (hι _ _ h)
 | sref ι id sz off m n c c' A B h hB=>intro ι' hι;exact .sref _ _ _ _ _ n c c' A B (hι _ _ h) hB
 | cptr ι cs b o val hb hn h1 hc hr ih =>
  intro ι' _;exact .cptr ι' cs b o val (by omega) (fun h=>hn (hN b hb h)) h1 (fun i x hx=>(Am (hw b hb hn)).trans (hc i x hx)) (fun i x hx=>ih i x hx (fun _ _ h=>h))
 | adr ι g off=>intro ι' _;exact .adr _ _ _
 | pp ι id g off h=>intro ι' hι;exact .pp _ _ _ _ (hι _ _ h)
 | sit ι id g s pos h hg hn hb=>intro ι' hι;exact .sit _ _ _ _ _ (hι _ _ h) (Nat.lt_of_lt_of_le hg hs) (fun h=>hn (hN g hg h)) ((hw g hg hn).trans hb)
 | ref ι id A n c h=>intro ι' hι;exact .ref _ _ _ _ _ (hι _ _ h)
 | nilm ι=>intro ι' _;exact .nilm _
 | vv ι x h=>intro ι' _;exact .vv _ _ h
 | lk ι id v x h h1=>intro ι' hι;exact .lk _ _ _ _ (hι _ _ h) h1
 | mref ι id q r v h h2=>intro ι' hι;exact .mref _ _ _ _ v (hι _ _ h) (hι _ _ h2)
 | agg ι cs vs hl h1 hr ih=>intro ι' hι;exact .agg ι' cs vs hl h1 (fun i x v hx hv=>ih i x v hx hv hι)
 | tup ι cs vs hl hr ih=>intro ι' hι;exact .tup ι' cs vs hl (fun i x v hx hv=>ih i x v hx hv hι)
theorem Cells.mono{N N':Nat→Prop}{w w':World}{ι ι':Env}{cs:List AV}{vs:List Value}(h:Cells N w ι cs vs)(hs:w.heap.size≤w'.heap.size)
  (hN:∀b,b<w.heap.size→N' b→N b) (hw:∀b,b<w.heap.size→¬ N b→w'.heap[b]?=w.heap[b]?) (hι:∀id y,ι id=some y→ι' id=some y):Cells N' w' ι' cs vs :=
 ⟨h.len,h.one,fun i x v hx hv=>(h.rel i x v hx hv).mono hs hN hw hι⟩
mutual
def AV.cL(u:List Nat):AV→Bool
 | .ptr id _=>u.contains id
 | .eptr id _ _ _=>u.contains id
 | .sref id _ _ _=>u.contains id
 | .ref id=>u.contains id
 | .lk id _=>u.contains id
 | .mref id q=>u.contains (nm id q)&&u.contains id
 | .pp id _ _=>u.contains id
 | .sit id _ _ _=>u.contains id
 | .agg cs=>db u cs
 | .tup cs=>db u cs
 | .fno _ cs=>db u cs
 | _=>true
def db(u:List Nat):List AV→Bool
 | []=>true
 | c::r=>c.cL u&&db u r
end
theorem iE{u:List Nat}:∀{l:List AV},db u l=true→∀(i:Nat) (x:AV),l[i]?=some x→x.cL u=true
 | [],_,i,x,hx=>by simp at hx
 | c::r,h,0,x,hx=>by simp only[db,Bool.and_eq_true]at h;simp at hx;subst hx;exact h.1
 | c::r,h,i+1,x,hx=>by simp only[db,Bool.and_eq_true]at h;simp at hx;exact iE h.2 i x hx
theorem Rel.env{N:Nat→Prop}{w:World}{ι:Env}{v:AV}{x:Value}(h:Rel N w ι v x){u:List Nat}{ι':Env}(hι:∀id,u.contains id=true→ι' id=ι id):v.cL u=true→Rel N w ι' v x:=by
 induction h with
 | int ι k n=>intro _;exact .int _ _ _
 | bool ι b=>intro _;exact .bool _ _
 | str ι s=>intro _;exact .str _ _
 | nils ι=>intro _;exact .nils _
 | sl0 ι A c=>intro _;exact .sl0 _ _ _
 | sl ι l b o c sz val hz hb hn h1 hc hr hcap ih=>intro _;exact .sl _ l b o c sz val hz hb hn h1 hc hr hcap
 | fn ι f aP ys hl hr ih=>intro _;exact .fn _ f aP ys hl hr
 | fno ι f aP ys hl hr ih=>intro hu;exact .fno _ f aP ys hl (fun i c y hc hy=>ih i c y hc hy hι (iE (by simpa[AV.cL]using hu) i c hc))
 | nilf ι=>intro _;exact .nilf _
 | nilp ι=>intro _;exact .nilp _
 | any ι x h=>intro _;exact .any _ _ h
 | ptr ι id off g h=>intro hu;exact .ptr _ _ _ _ ((hι id (by simpa[AV.cL]using hu)).trans h)
 | eptr ι id sz j off g n c h=>intro hu;exact .eptr _ _ _ _ _ _ n c ((hι id (by simpa[AV.cL]using hu)).trans h)
 | sref ι id sz off m n c c' A B h hB=>intro hu;exact .sref _ _ _ _ _ n c c' A B ((hι id (by simpa[AV.cL]using hu)).trans h) hB
 | cptr ι cs b o val hb hn h1 hc hr ih=>intro _;exact .cptr _ cs b o val hb hn h1 hc hr
 | adr ι g off=>intro _;exact .adr _ _ _
 | pp ι id g off h=>intro hu;exact .pp _ _ _ _ ((hι id (by simpa[AV.cL]using hu)).trans h)
 | sit ι id g s pos h hg hn hb=>intro hu;exact .sit _ _ _ _ _ ((hι id (by simpa[AV.cL]using hu)).trans h) hg hn hb
 | ref ι id A n c h=>intro hu;exact .ref _ _ _ _ _ ((hι id (by simpa[AV.cL]using hu)).trans h)
 | nilm ι=>intro _;exact .nilm _
 | vv ι x h=>intro _;exact .vv _ _ h
 | lk ι id v x h h1=>intro hu;exact .lk _ _ _ _ ((hι id (by simpa[AV.cL]using hu)).trans h) h1
 | mref ι id q r v h h2=>intro hu;have hu':=Bool.and_eq_true_iff.1 hu;exact .mref _ _ _ _ v ((hι _ hu'.1).trans h) ((hι _ hu'.2).trans h2)
 | agg ι cs vs hl h1 hr ih=>intro hu;exact .agg _ cs vs hl h1 (fun i x v hx hv=>ih i x v hx hv hι (iE (by simpa[AV.cL]using hu) i x hx))
 | tup ι cs vs hl hr ih=>intro hu;exact .tup _ cs vs hl (fun i x v hx hv=>ih i x v hx hv hι (iE (by simpa[AV.cL]using hu) i x hx))
theorem Rel.pure{N:Nat→Prop}{w:World}{ι:Env}{v:AV}{x:Value}(h:Rel N w ι v x)(hp:v.cL []=true)(ι':Env):Rel N w ι' v x :=
 h.env (u:=[]) (fun id hid=>by simp at hid) hp
def AV.vo:AV→Bool
 | .agg _|.tup _=>false
 | _=>true
theorem Rel.one{N:Nat→Prop}{w:World}{ι:Env}{v:AV}{x:Value}(h:Rel N w ι v x)(hv:v.vo=true):x.oneCell'=true:=by
 cases h<;>first|rfl|assumption|simp[AV.vo]at hv
def look{α:Type}(k:Nat):List (Nat×α)→Option α
 | []=>none
 | (j,v)::r=>if k=j then some v else look k r
def aZ{α:Type}(k:Nat)(v:α):List (Nat×α)→List (Nat×α)
 | []=>[(k,v)]
 | (j,x)::r=>if k=j then (k,v)::r else (j,x)::aZ k v r
theorem ca{α:Type}(k:Nat)(v:α):∀(l:List (Nat×α)) (i:Nat),look i (aZ k v l)=if i=k then some v else look i l
 | [],i=>rfl
 | (j,x)::r,i=>by
  unfold aZ;by_cases h:k=j
  ·rw[if_pos h];subst h;simp only[look];by_cases hi:i=k<;>simp[hi]
  ·rw[if_neg h];simp only[look,ca k v r];by_cases hi:i=j
   ·have:¬ i=k:=by omega
    simp[hi];omega
   ·simp[hi]
def yj(w:World)(m:Option (List (Int×Bool)))(x:Value):Prop :=
 match m with
 | none=>x=.map none
 | some l=>∃r es clock,x=.map (some r)∧w.heap[r]?=some (.map es clock)∧es.toList.map (fun e=>(e.key,e.val))=l.map (fun p=>(Value.int .i64 p.1,Value.bool p.2))
theorem eo{w w':World}{B:Nat}{e:TypeId}{sz:Nat}{v:Value}{n:Nat}{xs:List Value}(h:w.ownsRow B e sz v n xs)(hk:∀g,bm (some v)=some g→w'.heap[g]?=w.heap[g]?):w'.ownsRow B e sz v n xs:=by
 refine⟨h.1,?_⟩;rcases h.2 with hn|⟨g,cap,cur,rfl,hb,hg,r⟩
 ·exact .inl hn
 ·exact .inr ⟨g,cap,cur,rfl,hb,(hk g rfl).trans hg,r⟩
def xe(N:Nat→Prop)(w:World)(e:TypeId)(sz:Nat)(l:List (List AV))(x:Value):Prop :=
 ∃xs,w.ownsRow 0 e sz x l.length xs∧(∀c∈l,c.length=sz)∧(∀y∈xs,y.oneCell'=true) ∧
  (∀(j:Nat) (c:List AV),l[j]?=some c→∀(i:Nat) (a:AV),c[i]?=some a→∃y,xs[j*sz+i]?=some y∧Rel N w bn a y)
theorem xe.mono{N N':Nat→Prop}{w w':World}{e:TypeId}{sz:Nat}{l:List (List AV)}{x:Value}(h:xe N w e sz l x)(hs:w.heap.size≤w'.heap.size)
  (hN:∀b,b<w.heap.size→N' b→N b) (hw:∀b,b<w.heap.size→¬ N b→w'.heap[b]?=w.heap[b]?) (hb:∀g,bm (some x)=some g→w'.heap[g]?=w.heap[g]?):xe N' w' e sz l x:=by
 obtain⟨xs,h1,h2,h3,h4⟩:=h;refine⟨xs,eo h1 hb,h2,h3,fun j c hj i a hi=>?_⟩;obtain⟨y,e1,e2⟩:=h4 j c hj i a hi;exact⟨y,e1,e2.mono hs hN hw (fun _ _ h=>h)⟩
def ft(N:Nat→Prop)(w:World)(t:Prop)(o:Option Value)(c:AV)(x:Value):Prop :=
 Rel N w bn c x∨(t∧∃m r,c=.omp m∧x=.map r∧o=some x∧yj w m x)∨(t∧∃e sz l r,c=.osl e sz l∧o=some (.map r)∧bm (some x)=r∧xe N w e sz l x)
theorem ft.mono{N N':Nat→Prop}{w w':World}{t t':Prop}{o o':Option Value}{c:AV}{x:Value}(h:ft N w t o c x)(hs:w.heap.size≤w'.heap.size)
  (hN:∀b,b<w.heap.size→N' b→N b) (hw:∀b,b<w.heap.size→¬ N b→w'.heap[b]?=w.heap[b]?) (ho:∀r,o=some (.map r)→o'=some (.map r)) (hb:∀r,o=some (.map (some r))→w'.heap[r]?=w.heap[r]?) (ht:t→t'):ft N' w' t' o' c x:=by
 rcases h with h|⟨h0,m,r,h1,h2,h3,h4⟩|⟨h0,e,sz,l,r,h1,h2,h3,h4⟩
 ·exact .inl (h.mono hs hN hw (fun _ _ h=>h))
 ·subst h2;refine .inr (.inl ⟨ht h0,m,r,h1,rfl,ho r h3,?_⟩);unfold yj at h4⊢;cases m with
  | none=>exact h4
  | some l =>
   obtain⟨r',es,ck,e1,e2,e3⟩:=h4;injection e1 with e1;subst e1
   exact⟨r',es,ck,rfl,(hb r' h3).trans e2,e3⟩
 ·exact .inr (.inr ⟨ht h0,e,sz,l,r,h1,ho r h2,h3,h4.mono hs hN hw (fun g hg=>hb g (by rw[h2,← h3,hg]))⟩)
def AV.Kh:AV→Bool
 | .omp _=>false
 | .osl _ _ _=>false
 | _=>true
def AV.nt:AV→AV
 | .omp _=>.any
 | .osl _ _ _=>.any
 | c=>c
theorem ft.nt{N:Nat→Prop}{w:World}{t:Prop}{o:Option Value}{c:AV}{x:Value}(h:ft N w t o c x)(hone:x.oneCell'=true):Rel N w bn c.nt x:=by
 rcases h with h|⟨_,_,_,e,_⟩|⟨_,_,_,_,_,e,_⟩
 ·have:c.nt=c:=by cases h<;>rfl
  rw[this];exact h
 ·subst e;exact .any _ _ hone
 ·subst e;exact .any _ _ hone
theorem ft.Pn{N:Nat→Prop}{w:World}{t:Prop}{o:Option Value}{c:AV}{x:Value}(h:ft N w t o c x)(hf:t→c.Kh=true):Rel N w bn c x:=by
 rcases h with h|⟨h,_,_,e,_⟩|⟨h,_,_,_,_,e,_⟩
 ·exact h
 ·have:=hf h;rw[e]at this;cases this
 ·have:=hf h;rw[e]at this;cases this
theorem ft.flat{N:Nat→Prop}{w:World}{t:Prop}{o:Option Value}{c:AV}{x:Value}(h:ft N w t o c x)(ht:¬ t):Rel N w bn c x:=by
 rcases h with h|⟨h,_⟩|⟨h,_⟩
 ·exact h
 ·exact absurd h ht
 ·exact absurd h ht
structure br where
 e:TypeId
 sz:Nat
 l:List (List AV)
structure AS where
 t:List (Nat×AV)
 o:List (Nat×List AV)
 r:List (Nat×br)
 u:List Nat
def NN(M:Nat→Prop)(ι:Env):Nat→Prop:=fun b=>M b∨∃id,bm (ι id)=some b
structure aE where
 w:World
 G:Nat→Prop
 pv:Nat→Option Value
def aE.O(b:aE)(g:Nat):Prop:=b.w.heap.size≤g∨b.G g
structure fM(b:aE)(w w':World):Prop where
 os:w'.os=w.os
 tape:w'.tape=w.tape
 output:w'.output=w.output
 size:w.heap.size≤w'.heap.size
 block:∀k,k<b.w.heap.size→¬ b.G k→w'.heap[k]?=w.heap[k]?
abbrev Hp(b:aE)(w:World):Prop:=fM b b.w w
theorem fM.trans{b:aE}{u v w:World}(h:fM b u v)(k:fM b v w):fM b u w:=⟨k.os.trans h.os,k.tape.trans h.tape,k.output.trans h.output,Nat.le_trans h.size k.size,fun i hi hg=>(k.block i hi hg).trans (h.block i hi hg)⟩
theorem fM.of{b:aE}{v w:World}(h:Below v.heap.size v w)(hs:b.w.heap.size≤v.heap.size):fM b v w:=⟨h.os,h.tape,h.output,h.size,fun k hk _=>h.block k (Nat.lt_of_lt_of_le hk hs)⟩
def jy(w:World):aE:=⟨w,fun _=>False,fun _=>none⟩
theorem fM.plain{w w':World}(h:Hp (jy w) w'):Below w.heap.size w w':=⟨h.os,h.tape,h.output,h.size,fun k hk=>h.block k hk (fun h=>h)⟩
def cK(id:Nat):Nat:=id+1000000
def tyName(id T:Nat):Prop:=450000≤id→id<500000→T=(id-450000) % 1000
abbrev JQ(id:Nat):={ T:TypeId // tyName id T }
structure HS(M:Nat→Prop)(w0:aE)(w:World)(ι:Env)(s:AS):Prop where
 below:Hp w0 w
 old:∀b,M b→b<w0.w.heap.size∧¬ w0.G b
 use:∀id y,ι id=some y→has s.u id=true
 own:∀id g,bm (ι id)=some g→w0.O g∧g<w.heap.size
 inj:∀id id' g,bm (ι id)=some g→bm (ι id')=some g→id=id'
 ko:∀id cs,look id s.o=some cs→has s.u id=true
 kr:∀id a,look id s.r=some a→has s.u id=true
 objs:∀id cs,look id s.o=some cs→(ι id).isSome=true→∃(g:Nat) (T:JQ id) (vs:Array Value),ι id=some (.pointer (some ⟨g,0,none⟩))∧w.heap[g]?=some (.cells vs T.1 (0,0))∧Cells (NN M ι) w ι cs vs.toList
 arrs:∀id a,look id s.r=some a→(ι id).isSome=true→∃v xs,ι id=some v∧w.ownsRow 0 a.e a.sz v a.l.length xs∧(∀e∈a.l,e.length=a.sz)∧(∀x∈xs,x.oneCell'=true) ∧
  (∀(j:Nat) (e:List AV),a.l[j]?=some e→∀(i:Nat) (c:AV),e[i]?=some c→∃x,xs[j*a.sz+i]?=some x∧ft (NN M ι) w (TG≤id) (ι (nm id (j*a.sz+i))) c x)
 pin:∀id v,w0.pv id=some v→ι id=some v∧s.u.contains (cK id)=true
theorem HS.sep{M:Nat→Prop}{w0:aE}{w:World}{ι:Env}{s:AS}(h:HS M w0 w ι s){id b:Nat}(hb:M b)(hg:bm (ι id)=some b):False:=by
 have h1:=h.old b hb;rcases (h.own id b hg).1 with h2|h2
 ·omega
 ·exact h1.2 h2
theorem HS.li{M:Nat→Prop}{w0:aE}{w:World}{ι:Env}{s:AS}(h:HS M w0 w ι s){k id r:Nat}{v:Value}(hk:ι k=some (.map (some r)))(hv:ι id=some v)(hm:∀r,v ≠ .map r):bm (some v)≠some r:=fun e=>by
 have:=h.inj k id r (by rw[hk];rfl) (by rw[hv];exact e);subst this;rw[hk]at hv;injection hv with hv
 exact hm _ hv.symm
theorem HS.iJ{M:Nat→Prop}{w0:aE}{w:World}{ι:Env}{s:AS}(h:HS M w0 w ι s){k r:Nat}(hk:ι k=some (.map (some r))):r<w.heap.size:=(h.own k r (by rw[hk];rfl)).2
theorem HS.np{M:Nat→Prop}{w0:aE}{w:World}{ι:Env}{s:AS}(h:HS M w0 w ι s){id:Nat}(hu:s.u.contains (cK id)=false):w0.pv id=none:=by
 cases hp:w0.pv id with
 | none=>rfl
 | some y=>have:=(h.pin id y hp).2;rw[hu]at this;cases this
structure Cx where
 P:Program
 n:Nat
 M:Nat→Prop
 w0:aE
structure aN(cx:Cx)(s:AS)(a:Act)(w:World)(ι:Env):Prop where
 hs:HS cx.M cx.w0 w ι s
 dfr:a.defers=[]
 n:a.tmps.size=cx.n
 tmp:∀k v,look k s.t=some v→∃x,a.tmps[k]?=some x∧Rel (NN cx.M ι) w ι v x
def AS.put(s:AS)(d:Option Tmp)(v:AV):AS:=match d with|some k=>{ s with t:=aZ k v s.t }|none=>s
theorem aN.put{cx:Cx}{s:AS}{a:Act}{w:World}{ι:Env}(h:aN cx s a w ι){d:Option Tmp}(hd:∀k,d=some k→k<cx.n){v:AV}{x:Value}(hv:Rel (NN cx.M ι) w ι v x):aN cx (s.put d v) (a.put d x) w ι:=by
 cases d with
 | none=>exact h
 | some k =>
  have hk:=hd k rfl;refine⟨⟨h.hs.below,h.hs.old,h.hs.use,h.hs.own,h.hs.inj,h.hs.ko,h.hs.kr,h.hs.objs,h.hs.arrs,h.hs.pin⟩,h.dfr,by simp[Act.put,h.n],fun j y hj=>?_⟩;simp only[AS.put,ca]at hj;by_cases e:j=k
  ·subst e;rw[if_pos rfl]at hj;injection hj with hj;subst hj
   exact⟨x,by simp[Act.put,h.n,hk],hv⟩
  ·rw[if_neg e]at hj;obtain⟨z,hz,hr⟩:=h.tmp j y hj;exact⟨z,by simp only[Act.put];rw[Array.getElem?_setIfInBounds_ne (fun e'=>e e'.symm)];exact hz,hr⟩
def era{α:Type}(k:Nat):List (Nat×α)→List (Nat×α)
 | []=>[]
 | (j,x)::r=>if k=j then era k r else (j,x)::era k r
theorem sx{α:Type}(k:Nat):∀(l:List (Nat×α)) (i:Nat),look i (era k l)=if i=k then none else look i l
 | [],i=>by simp[era,look]
 | (j,x)::r,i=>by
  unfold era;by_cases h:k=j
  ·rw[if_pos h,sx k r i];subst h;by_cases hi:i=k<;>simp[look,hi]
  ·rw[if_neg h];simp only[look,sx k r];by_cases hi:i=j
   ·have:¬ i=k:=by omega
    simp[hi];omega
   ·simp[hi]
def AS.drop(s:AS)(d:Option Tmp):AS:=match d with|some k=>{ s with t:=era k s.t }|none=>s
theorem aN.drop{cx:Cx}{s:AS}{a:Act}{w:World}{ι:Env}(h:aN cx s a w ι)(d:Option Tmp)(x:Value):aN cx (s.drop d) (a.put d x) w ι:=by
 cases d with
 | none=>exact h
 | some k =>
  refine⟨⟨h.hs.below,h.hs.old,h.hs.use,h.hs.own,h.hs.inj,h.hs.ko,h.hs.kr,h.hs.objs,h.hs.arrs,h.hs.pin⟩,h.dfr,by simp[Act.put,h.n],fun j y hj=>?_⟩;simp only[AS.drop,sx]at hj;by_cases e:j=k
  ·rw[if_pos e]at hj;cases hj
  ·rw[if_neg e]at hj;obtain⟨z,hz,hr⟩:=h.tmp j y hj;exact⟨z,by simp only[Act.put];rw[Array.getElem?_setIfInBounds_ne (fun e'=>e e'.symm)];exact hz,hr⟩
def qr:Value→Option AV
 | .int k n=>some (.int k n)
 | .bool b=>some (.bool b)
 | .string s=>some (.str s)
 | .slice none 0 0=>some .nils
 | .nilFunc=>some .nilf
 | .pointer none=>some .nilp
 | .map none=>some .nilm
 | .nilIface=>some (.vv .nilIface)
 | _=>none
def j4:List Value→Option (List AV)
 | []=>some []
 | v::r=>match qr v,j4 r with|some x,some y=>some (x::y)|_,_=>none
def yY:Value→Option AV
 | .agg cs=>(j4 cs.toList).map .agg
 | v=>qr v
theorem DM(N:Nat→Prop)(w:World)(ι:Env){v:Value}{x:AV}(h:qr v=some x):Rel N w ι x v∧v.oneCell'=true:=by
 unfold qr at h;split at h<;>first|(cases h;done)|(injection h with h;subst h;exact⟨by first|exact .vv _ _ rfl|constructor,rfl⟩)
theorem kI(N:Nat→Prop)(w:World)(ι:Env):∀{l:List Value} {x:List AV},j4 l=some x→Cells N w ι x l
 | [],x,h=>by injection h with h;subst h;exact⟨rfl,fun v hv=>(by cases hv),fun i x v hx _=>by simp at hx⟩
 | v::r,x,h=>by
  unfold j4 at h;cases h1:qr v with
  | none=>rw[h1]at h;cases h
  | some a =>
   cases h2:j4 r with
   | none=>rw[h1,h2]at h;cases h
   | some b =>
    rw[h1,h2]at h;injection h with h;subst h
    obtain⟨e1,e2⟩:=DM N w ι h1;have e3:=kI N w ι h2;refine⟨by simp[e3.len],fun y hy=>?_,fun i c y hc hy=>?_⟩
    ·rcases List.mem_cons.1 hy with rfl|hy
     ·exact e2
     ·exact e3.one _ hy
    ·cases i with
     | zero=>simp at hc hy;subst hc;subst hy;exact e1
     | succ i=>simp at hc hy;exact e3.rel i c y hc hy
theorem MV(N:Nat→Prop)(w:World)(ι:Env){v:Value}{x:AV}(h:yY v=some x):Rel N w ι x v:=by
 unfold yY at h;split at h
 ·rename_i cs;cases h1:j4 cs.toList with
  | none=>rw[h1]at h;cases h
  | some a =>
   rw[h1]at h;injection h with h;subst h
   have c:=kI N w ι h1;have:=Rel.agg (N:=N) (w:=w) ι a cs.toList c.len c.one c.rel;simpa using this
 ·exact(DM N w ι h).1
def AS.ev(s:AS):Operand→Option AV
 | .tmp t=>look t s.t
 | .const v=>yY v
 | .func f=>some (.fn f [])
 | .global _=>none
theorem aN.ev{cx:Cx}{s:AS}{a:Act}{w:World}{ι:Env}(h:aN cx s a w ι){x:Operand}{v:AV}(hv:s.ev x=some v):Rel (NN cx.M ι) w ι v (a.eval x):=by
 cases x with
 | tmp t =>
  obtain⟨y,hy,hr⟩:=h.tmp t v hv;show Rel _ _ _ _ (a.tmps.getD t undef);rw[Array.getD_eq_getD_getElem?,hy];exact hr
 | const c=>exact MV _ _ _ hv
 | func f=>injection hv with hv;subst hv;exact .fn _ _ [] [] rfl (fun i c y h _=>by simp at h)
 | global g=>cases hv
end Go.Proofs.YtocgkfoifehcbaaGreat
