/- Calls that look at own slices and at parts of them. No program in sight. -/
import Derived.Test.YtolhpahjgddjkaaGreatCwVp
namespace Go.Proofs.YtolhpahjgddjkaaGreat
set_option linter.all false
open Go.RowKit
section
variable{cx:Cx}{Q:Exit→Act→World→Prop}{ks:List ao}{s:AS}{all:Array Oper}{f:Func}{p:List Nat}{i:Nat}
theorem zX(nid:Nat){id:Nat}{g:FuncId}{args l:List AV}{ar:bD}(hc:aQ cx.P g args (fun v s1=>v=.ref id∧look id s1.r=some ar))(hsc:∀e∈ar.l,∀c∈e,kA c=true)(h1:je s (bC f p i)=some (g,args,l))(hsr:jz s l)
  (k:OT cx Q ks all (bk f p (i+1)) ((HA nid ar s).put (bC f p i).dst (.ref nid)))
  (hl:bk f p i=bC f p i::bk f p (i+1):=by kernel_rfl) (hg:cN all s (bC f p i)=true:=by kernel_rfl) (hcl:dD cx.P g=true:=by kernel_rfl) (hd:dq cx.n (bC f p i).dst=true:=by kernel_rfl)
  (hn:has s.u nid=false:=by kernel_rfl) (htg:Nat.ble (id+1) TG=true:=by kernel_rfl):OT cx Q ks all (bk f p i) s:=by
 rw[hl];refine iK _ hg fun a w ι hs=>?_;refine wpList_plain rfl fun K hK=>?_;refine Oa hc hcl h1 hsr hs fun x v s1 ι1 w' hv hhs hr=>hK _ _ ?_;obtain⟨rfl,hlook⟩:=hv;have htg:=Nat.le_of_ble_eq_true htg;cases hr with
 | ref _ _ A n c hy =>
  have h2:HS (NN cx.M ι) (nD w) w' (fun i=>if i=id then some (.slice A n c) else none) ⟨[],[],[(id,ar)],[id]⟩:=by
   have e1:∀i y,(if i=id then some (Value.slice A n c) else none)=some y→i=id∧y=.slice A n c:=fun i y h=>by
    split at h
    ·rename_i e;injection h with h;exact⟨e,h.symm⟩
    ·cases h
   refine⟨hhs.below,fun b hb=>⟨pu hs.hs hb,fun h=>h⟩,fun i y hi=>?_,fun i g hg=>?_,fun i i' g hg hg'=>?_,fun i cs hi=>(by cases hi),fun i a hi=>?_,fun i cs hi=>(by cases hi),fun i a hi hp=>?_,fun i v hv=>(by cases hv)⟩
   ·rw[(e1 i y hi).1];exact gi (by simp)
   ·have hg2:bV (if i=id then some (Value.slice A n c) else none)=some g:=hg;split at hg2
    ·rename_i e;subst e;exact hhs.own i g (by rw[hy];exact hg2)
    ·cases hg2
   ·have hg2:bV (if i=id then some (Value.slice A n c) else none)=some g:=hg;have hg3:bV (if i'=id then some (Value.slice A n c) else none)=some g:=hg';split at hg2
    ·rename_i e;split at hg3
     ·rename_i e';exact e.trans e'.symm
     ·cases hg3
    ·cases hg2
   ·simp only[look]at hi;split at hi
    ·rename_i e;subst e;exact gi (by simp)
    ·cases hi
   ·simp only[look]at hi;split at hi
    ·rename_i e;subst e;injection hi with hi;subst hi
     obtain⟨v,xs,k1,k2,k3,k4,k5⟩:=hhs.arrs i _ hlook (by rw[hy];rfl);rw[hy]at k1;injection k1 with k1;subst k1
     refine⟨_,xs,if_pos rfl,k2,k3,k4,fun j e hj k c' hk=>?_⟩;obtain⟨x,hx,hr'⟩:=k5 j e hj k c' hk;exact⟨x,hx,.inl (zA (hsc e (List.mem_of_getElem? hj) c' (List.mem_of_getElem? hk)) (hr'.flat (by omega)))⟩
    ·cases hi
  obtain⟨hs1,hNN⟩:=hs.hs.import h2 htg (if_pos rfl) (by simp[look]) hn (ar:=ar);have hno:=hs.hs.free hn;have hsim:aX cx { s with r:=bh nid ar s.r,u:=nid::s.u } a w' (ext ι nid (.slice A n c)) :=
   hs.world hs1 rfl hhs.below.plain.size (fun b hlt hb=>by
    rcases gj hb with hb|hb
    ·exact hb
    ·rcases (hhs.own id b (by rw[hy];exact hb)).1 with h9|h9;exact absurd hlt (Nat.not_lt.2 h9);exact h9.elim) (fun b hlt _=>hhs.below.plain.block b hlt) (fH hno _)
  exact k _ _ _ (hsim.put (iV hd) (.ref _ _ _ _ _ (cX _ _ _)))
theorem nk{α:Type}(enc:α→List AV)(L:List α)(h:∀a,∀c∈enc a,kA c=true):∀e∈L.map enc,∀c∈e,kA c=true:=fun e he=>by
 obtain⟨a,_,rfl⟩:=List.mem_map.1 he;exact h a
theorem l8(k:IntKind):∀a,∀c∈ab k a,kA c=true:=fun a c hc=>by
 simp[ab]at hc;subst hc;rfl
theorem aaT{α:Type}(enc:α→List AV)(L:List α)(off m:Nat):List.take m (List.drop off (L.map enc))=(List.take m (List.drop off L)).map enc:=by rw[List.map_take,List.map_drop]
theorem SP{α:Type}(enc:α→List AV){L:List α}{off m:Nat}(h:decide (off+m≤L.length)=true):off+m≤(L.map enc).length:=by rw[List.length_map];exact of_decide_eq_true h
theorem HS.QK{M:Nat→Prop}{w0:aJ}{w w':World}{ι ι1:Env}{s s1:AS}(h:HS M w0 w ι s){id id0:Nat}{ar ar':bD}{v0:Value}(htg:id0<TG)(ha:look id s.r=some ar)(hv:ι id=some v0)
  (h1:HS (fun _=>False) (ra w id0 v0) w' ι1 s1) (ha1:look id0 s1.r=some ar') (hsc:∀e∈ar'.l,∀c∈e,kA c=true):HS M w0 w' ι (cD id ar' s)∧(∀b,b<w.heap.size→¬ NN M ι b→w'.heap[b]?=w.heap[b]?)∧w.heap.size≤w'.heap.size:=by
 have hp1:ι1 id0=some v0:=(h1.pin id0 v0 (by simp[ra])).1;have hsz:w.heap.size≤w'.heap.size:=h1.below.size;have keep:∀b,b<w.heap.size→bV (some v0)≠some b→w'.heap[b]?=w.heap[b]?:=fun b hlt hb=>h1.below.block b hlt hb;have keep':∀b,b<w.heap.size→¬ NN M ι b→w'.heap[b]?=w.heap[b]?:=fun b hlt hb=>keep b hlt (fun e=>hb (.inr ⟨id,by rw[hv];exact e⟩));refine⟨⟨?_,h.old,h.use,fun i g hg=>⟨(h.own i g hg).1,Nat.lt_of_lt_of_le (h.own i g hg).2 hsz⟩,h.inj,h.ko,fun i a hi=>?_,fun i cs hi hp=>?_,fun i a hi hp=>?_,h.pin⟩,keep',hsz⟩
 ·refine h.below.trans ⟨h1.below.os,h1.below.tape,h1.below.output,hsz,fun k hk hG=>keep k (Nat.lt_of_lt_of_le hk h.below.size) (fun e=>?_)⟩;rcases (h.own id k (by rw[hv];exact e)).1 with h2|h2
  ·omega
  ·exact hG h2
 ·have hi':look i (bh id ar' s.r)=some a:=hi;rw[cu]at hi';split at hi'
  ·rename_i e;subst e;exact h.kr i ar ha
  ·exact h.kr i a hi'
 ·obtain⟨g,T,vs,e1,e2,e3⟩:=h.objs i cs hi hp;have hne:bV (some v0)≠some g:=fun e=>by
   have:=h.inj i id g (by rw[e1];rfl) (by rw[hv];exact e);subst this;rw[e1]at hv;injection hv with hv;subst hv
   obtain⟨v,xs,q1,q2,_⟩:=h.arrs i ar ha (by rw[e1];rfl);rw[e1]at q1;injection q1 with q1;subst q1
   rcases q2.2 with⟨q3,_⟩|⟨_,_,_,q3,_⟩<;>cases q3
  exact⟨g,T,vs,e1,(keep g (h.own i g (by rw[e1];rfl)).2 hne).trans e2,e3.mono hsz (fun b _ hb=>hb) keep' (fun _ _ h=>h)⟩
 ·have hi':look i (bh id ar' s.r)=some a:=hi;rw[cu]at hi';split at hi'
  ·rename_i e;subst e;injection hi' with hi';subst hi'
   obtain⟨v,xs,q1,q2,q3,q4,q5⟩:=h1.arrs id0 ar' ha1 (by rw[hp1];rfl);rw[hp1]at q1;injection q1 with q1;subst q1
   refine⟨v0,xs,hv,q2,q3,q4,fun j e hj k c hk=>?_⟩;obtain⟨x,hx,hr⟩:=q5 j e hj k c hk;exact⟨x,hx,.inl (zA (hsc e (List.mem_of_getElem? hj) c (List.mem_of_getElem? hk)) (hr.flat (by omega)))⟩
  ·rename_i e;obtain⟨v,xs,q1,q2,q3,q4,q5⟩:=h.arrs i a hi' hp;refine⟨v,xs,q1,gc q2 (fun g hg=>keep g (h.own i g (by rw[q1];exact hg)).2 (fun e'=>e (h.inj i id g (by rw[q1];exact hg) (by rw[hv];exact e')))),q3,q4,fun j el hj k c hk=>?_⟩;obtain⟨x,hx,hr⟩:=q5 j el hj k c hk;exact⟨x,hx,hr.mono hsz (fun b _ hb=>hb) keep' (fun _ h=>h) (fun r h'=>keep r (h.ig h') (fun e=>by
    have:=h.inj _ id r (by rw[h'];rfl) (by rw[hv];exact e);exact h.zH ha h' this)) (fun h=>h)⟩
def BZ(s:AS)(id id0:Nat):AV→Option AV
 | .ref i=>match Nat.beq i id with
  | true=>some (.ref id0)
  | false=>match look i s.r,Nat.ble (i+1) TG with|some ar,true=>some (.sl ar.l)|_,_=>none
 | v=>match v.dz [] with|true=>some (fD v)|false=>none
def qW(s:AS)(id id0:Nat):List AV→Option (List AV)
 | []=>some []
 | v::r=>match BZ s id id0 v,qW s id id0 r with|some x,some l=>some (x::l)|_,_=>none
theorem OW{s:AS}{id id0:Nat}:∀{l m:List AV},qW s id id0 l=some m→m.length=l.length
 | [],m,h=>by injection h with h;subst h;rfl
 | v::r,m,h=>by
  unfold qW at h;split at h
  ·rename_i x l' h1 h2;injection h with h;subst h;simp[OW h2]
  ·cases h
theorem KF{s:AS}{id id0:Nat}:∀{l m:List AV},qW s id id0 l=some m→∀(i:Nat) (a:AV),m[i]?=some a→∃b,l[i]?=some b∧BZ s id id0 b=some a
 | [],m,h,i,a,ha=>by injection h with h;subst h;simp at ha
 | v::r,m,h,i,a,ha=>by
  unfold qW at h;split at h
  ·rename_i x l' h1 h2;injection h with h;subst h
   cases i with
   | zero=>exact⟨v,rfl,by simpa using ha ▸ h1⟩
   | succ i=>simpa using KF h2 i a (by simpa using ha)
  ·cases h
def II(s:AS)(o:Oper)(id id0:Nat):Option (FuncId×List AV) :=
 match o.op with
 | .call c=>match c.callee with
  | .value fo=>match s.ev fo,dX s c.args.toList with
   | some (.fn f []),some l=>match qW s id id0 l with
    | some l'=>(match l.any (fun v=>match v with|.ref i=>Nat.beq i id|_=>false) with|true=>some (f,l')|false=>none)
    | none=>none
   | _,_=>none
  | _=>none
 | _=>none
theorem Hl(id id0:Nat){g:FuncId}{args:List AV}{V:AV}{ar ar':bD}(hc:jO cx.P g args id0 ar (fun v s1=>v=V∧look id0 s1.r=some ar'))(hsc:∀e∈ar.l,∀c∈e,kA c=true)(hsc':∀e∈ar'.l,∀c∈e,kA c=true)
  (k:OT cx Q ks all (bk f p (i+1)) ((cD id ar' s).put (bC f p i).dst V))
  (hl:bk f p i=bC f p i::bk f p (i+1):=by kernel_rfl) (hg:cN all s (bC f p i)=true:=by kernel_rfl) (hcl:dD cx.P g=true:=by kernel_rfl) (h1:II s (bC f p i) id id0=some (g,args):=by kernel_rfl)
  (ha:look id s.r=some ar:=by kernel_rfl) (hd:(dq cx.n (bC f p i).dst&&V.vt)=true:=by kernel_rfl) (htg:(Nat.ble (id+1) TG&&Nat.ble (id0+1) TG)=true:=by kernel_rfl):OT cx Q ks all (bk f p i) s:=by
 rw[hl];refine iK _ hg fun a w ι hs=>?_;refine wpList_plain rfl fun K hK=>?_;simp only[Bool.and_eq_true]at hd htg;have ht1:=Nat.le_of_ble_eq_true htg.1;have ht2:=Nat.le_of_ble_eq_true htg.2;unfold II at h1;split at h1
 case h_2=>cases h1
 rename_i c hop;split at h1
 case h_2=>cases h1
 rename_i fo hcal;split at h1
 case h_2=>cases h1
 rename_i f' l hf hl';split at h1
 case h_2=>cases h1
 rename_i l' hio;split at h1
 case h_2=>cases h1
 rename_i hany;injection h1 with h1;injection h1 with e1 e2;subst e1;subst e2
 obtain⟨q1,q2⟩:=nB hs hl';have getv:∀(i:Nat) (b:AV),l[i]?=some b→∃y,(c.args.map a.eval)[i]?=some y∧Rel (NN cx.M ι) w ι b y:=fun i b hb=>by
  have hlt:i<l.length:=(List.getElem?_eq_some_iff.1 hb).1;have hlt':i<(c.args.toList.map a.eval).length:=by have q1':=q1;simp only[List.length_map]at q1'⊢;omega
  have hy:=List.getElem?_eq_getElem hlt';exact⟨_,by rw[←Array.getElem?_toList,Array.toList_map];exact hy,q2 i b _ hb hy⟩
 obtain⟨v0,hv⟩:∃v0,ι id=some v0:=by
  obtain⟨b,hb,hbi⟩:=List.any_eq_true.1 hany;obtain⟨j,hj⟩:=List.getElem?_of_mem hb;obtain⟨y,_,hr⟩:=getv j b hj;cases b<;>simp only[]at hbi<;>first|(cases hbi;done)|skip
  have hbi:=Nat.eq_of_beq_eq_true hbi;subst hbi;cases hr with
  | ref _ _ A n c h=>exact⟨_,h⟩
 obtain⟨v1,xs,r1,r2,r3,r4,r5⟩:=hs.hs.arrs id ar ha (by rw[hv];rfl);rw[hv]at r1;injection r1 with r1;subst r1
 unfold Oper.wp;obtain⟨ys,hrc,hc1,_⟩:=nW (o:={ bC f p i with guard:=none }) hs hop hcal hf hcl;have hys:ys=[]:=List.eq_nil_of_length_eq_zero (by simpa using hc1.symm);subst hys;have hxs:c.args.map a.eval++([]:List Value).toArray=c.args.map a.eval:=by simp
 rw[hrc,Oper.upon_enter,hxs]
 -- what the callee may write: the slice's block alone
 have hNo:∀b,NN (fun _=>False) (ext bM id0 v0) b→bV (some v0)=some b:=fun b hb=>by
  rcases hb with hb|⟨i,hb⟩
  ·exact hb.elim
  ·by_cases e:i=id0
   ·subst e;rw[cX]at hb;exact hb
   ·rw[bU _ _ e]at hb;cases hb
 refine (hc (fun _=>False) w _ v0 xs (fun b hb=>hb.elim) r2 r3 r4 (fun j e he i c hc=>?_) ?_ (fun i a' x ha' hx=>?_)).mono ?_
 ·obtain⟨x,hx,hr⟩:=r5 j e he i c hc;exact⟨x,hx,zA (hsc e (List.mem_of_getElem? he) c (List.mem_of_getElem? hc)) (hr.flat (by omega))⟩
 ·rw[OW hio];simp at q1⊢;omega
 ·obtain⟨b,hb,hba⟩:=KF hio i _ ha';obtain⟨y,hy,hr⟩:=getv i b hb;rw[hx]at hy;injection hy with hy;subst hy
  unfold BZ at hba;split at hba
  ·rename_i j;split at hba
   ·rename_i hji;have hji:=Nat.eq_of_beq_eq_true hji;subst hji;injection hba with hba;subst hba
    cases hr with
    | ref _ _ A n c h =>
     rw[hv]at h;injection h with h;subst h
     exact .ref _ _ _ _ _ (cX _ _ _)
   ·rename_i hji;have hne:j≠id:=fun e=>by subst e;simp at hji
    split at hba
    ·rename_i ar2 har2 htg2;injection hba with hba;subst hba
     cases hr with
     | ref _ _ A n c h =>
      have hse:=(hs.hs.qQ (Nat.le_of_ble_eq_true htg2) har2 A n c h bM);generalize ar2.l=ll at hse⊢;cases hse with
      | sl0=>exact .sl0 _ _ _
      | sl _ _ b o c0 sz0 val hz hb' hn h1 hc' hr' hcap =>
       refine .sl _ _ b o _ sz0 val hz hb' (fun hh=>?_) h1 hc' (fun j' e' he' i' x' hx'=>?_) hcap
       ·have:=hs.hs.inj j id b (by rw[h];rfl) (by rw[hv];exact hNo b hh);exact hne this
       ·have h9:=hr' j' e' he' i' x' hx';refine h9.mono (Nat.le_refl _) (fun b2 _ hb2=>?_) (fun _ _ _=>rfl) (fun _ _ h=>h);exact .inr ⟨id,by rw[im _ (Ne.symm hne),hv];exact hNo b2 hb2⟩
    ·cases hba
  ·split at hba
   ·rename_i hp;injection hba with hba;subst hba
    exact zq ((hr.pure hp (ext bM id0 v0)).mono (Nat.le_refl _) (fun b _ hb=>.inr ⟨id,by rw[hv];exact hNo b hb⟩) (fun _ _ _=>rfl) (fun _ _ h=>h))
   ·cases hba
 ·rintro e w' ⟨x,v,s1,ι1,rfl,⟨rfl,hlook⟩,hhs,hr⟩
  obtain⟨g1,g3,g4⟩:=hs.hs.QK ht2 ha hv hhs hlook hsc';have hsim:aX cx (cD id ar' s) a w' ι:=hs.world g1 rfl g4 (fun b _ hb=>hb) g3 (fun _ _ h=>h);exact hK _ _ (k _ _ _ (hsim.put (iV hd.1) (E6 hd.2 hr)))
end
end Go.Proofs.YtolhpahjgddjkaaGreat
