/- Calls that turn a slice of the caller's. No program in sight. -/
import Derived.Test.YtolhpahjgddjkaaGreatCwVy
namespace Go.Proofs.YtolhpahjgddjkaaGreat
set_option linter.all false
open Go.RowKit
def ra(w:World)(id0:Nat)(v0:Value):aJ:=⟨w,fun g=>bV (some v0)=some g,fun i=>if i=id0 then some v0 else none⟩
def jO(P:Program)(f:FuncId)(args:List AV)(id0:Nat)(ar:bD)(Q:AV→AS→Prop):Prop :=
 ∀(M:Nat→Prop) (w:World) (xs:Array Value) (v0:Value) (ys:List Value),(∀b,M b→b<w.heap.size∧bV (some v0)≠some b)→w.ownsRow 0 ar.e ar.sz v0 ar.l.length ys→(∀e∈ar.l,e.length=ar.sz)→(∀x∈ys,x.oneCell'=true) →
  (∀(j:Nat) (e:List AV),ar.l[j]?=some e→∀(i:Nat) (c:AV),e[i]?=some c→∃x,ys[j*ar.sz+i]?=some x∧Rel (NN M (ext bM id0 v0)) w bM c x) →
  args.length=xs.size→(∀(i:Nat) (a:AV) (x:Value),args[i]?=some a→xs[i]?=some x→Rel (NN M (ext bM id0 v0)) w (ext bM id0 v0) a x)→Calls P f xs w (bX M (ra w id0 v0) Q)
theorem abK{w:World}{e:TypeId}{sz n:Nat}{v:Value}{ys:List Value}(h:w.ownsRow 0 e sz v n ys){g:Nat}(hg:bV (some v)=some g):g<w.heap.size:=by
 obtain⟨hv,_⟩|⟨g2,cap,cur,hv,_,hgg,_⟩:=h.2
 ·rw[hv]at hg;cases hg
 ·rw[hv]at hg;have hg':some g2=some g:=hg;injection hg' with hg';subst hg'
  exact(Array.getElem?_eq_some_iff.1 hgg).1
theorem pd{P:Program}{f:FuncId}{fn:Func}{c:Code}{args:List AV}{id0:Nat}{ar:bD}{Q:AV→AS→Prop}(hf:P.funcs[f]?=some fn)(hb:fn.body=some c)(n:Nat)(hn:fn.ntmps=n)(hl:args.length≤n)
  (h:∀M w0,VE ⟨P,n,M,w0⟩ (bodyPost P fn (bX M w0 Q)) [.c c] .normal ⟨idxs 0 args,[],[(id0,ar)],[id0,ey id0]⟩):jO P f args id0 ar Q:=by
 intro M w xs v0 ys hM hrow hlen hone hcl hlx hx;refine calls_of_wp hf hb ?_;have hι:∀i y,ext bM id0 v0 i=some y→i=id0∧y=v0:=fun i y hy=>by
  by_cases e:i=id0
  ·subst e;rw[cX]at hy;injection hy with hy;exact⟨rfl,hy.symm⟩
  ·rw[bU _ _ e]at hy;cases hy
 have hbk:∀i g,bV (ext bM id0 v0 i)=some g→i=id0∧bV (some v0)=some g:=fun i g hg=>by
  cases he:ext bM id0 v0 i with
  | none=>rw[he]at hg;cases hg
  | some y=>obtain⟨h1,h2⟩:=hι i y he;rw[he,h2]at hg;exact⟨h1,hg⟩
 refine wp_mono (h M (ra w id0 v0) { tmps:=xs++Array.replicate (fn.ntmps-xs.size) undef,defers:=[] } w (ext bM id0 v0) ?_) (fun e a w' hq=>?_)
 ·refine⟨⟨⟨rfl,rfl,rfl,Nat.le_refl _,fun _ _ _=>rfl⟩,fun b hb=>hM b hb,fun i y hy=>?_,fun i g hg=>⟨.inr (hbk i g hg).2,abK hrow (hbk i g hg).2⟩,fun i i' g hg hg'=>(hbk i g hg).1.trans (hbk i' g hg').1.symm,fun i cs hi=>(by cases hi),fun i a hi=>?_,fun i cs hi=>(by cases hi),fun i a hi hp=>?_,fun i v hv=>?_⟩,rfl,?_,fun k v hk=>?_⟩
  ·rw[(hι i y hy).1];exact gi (by simp)
  ·simp only[look]at hi;split at hi
   ·rename_i e;subst e;exact gi (by simp)
   ·cases hi
  ·simp only[look]at hi;split at hi
   ·rename_i e;subst e;injection hi with hi;subst hi
    exact⟨v0,ys,cX _ _ _,hrow,hlen,hone,fun j e he k c hc=>by obtain⟨x,hx,hr⟩:=hcl j e he k c hc;exact⟨x,hx,.inl hr⟩⟩
   ·cases hi
  ·have hv':(if i=id0 then some v0 else none)=some v:=hv;split at hv'
   ·rename_i e;subst e;injection hv' with hv';subst hv'
    exact⟨cX _ _ _,by simp⟩
   ·cases hv'
  ·simp;omega
  ·rw[Gm,if_pos (Nat.zero_le _),Nat.sub_zero]at hk;have hlt:k<xs.size:=by rw[←hlx];exact(List.getElem?_eq_some_iff.1 hk).1
   refine⟨xs[k],?_,hx k v _ hk (Array.getElem?_eq_getElem hlt)⟩;simp only[];rw[Array.getElem?_append_left hlt,Array.getElem?_eq_getElem hlt]
 ·cases e<;>exact hq
theorem HS.back{M:Nat→Prop}{w0:aJ}{w w':World}{ι ι1:Env}{s s1:AS}(h:HS M w0 w ι s){id id0:Nat}{ar ar':bD}{v0:Value}(htg:id0<TG)(ha:look id s.r=some ar)(hv:ι id=some v0)
  (h1:HS (fun b=>NN M ι b∧bV (some v0)≠some b) (ra w id0 v0) w' ι1 s1) (ha1:look id0 s1.r=some ar'):HS M w0 w' ι (cD id ar' s)∧(∀b,NN M ι b→NN (fun b=>NN M ι b∧bV (some v0)≠some b) ι1 b)∧(∀b,b<w.heap.size→¬ NN M ι b→w'.heap[b]?=w.heap[b]?)∧w.heap.size≤w'.heap.size:=by
 have hp1:ι1 id0=some v0:=(h1.pin id0 v0 (by simp[ra])).1;have hNN:∀b,NN M ι b→NN (fun b=>NN M ι b∧bV (some v0)≠some b) ι1 b:=fun b hb=>by
  by_cases e:bV (some v0)=some b
  ·exact .inr ⟨id0,by rw[hp1];exact e⟩
  ·exact .inl ⟨hb,e⟩
 have hsz:w.heap.size≤w'.heap.size:=h1.below.size;have keep:∀b,b<w.heap.size→bV (some v0)≠some b→w'.heap[b]?=w.heap[b]?:=fun b hlt hb=>h1.below.block b hlt hb;have keep':∀b,b<w.heap.size→¬ NN M ι b→w'.heap[b]?=w.heap[b]?:=fun b hlt hb=>keep b hlt (fun e=>hb (.inr ⟨id,by rw[hv];exact e⟩));refine⟨⟨?_,h.old,h.use,fun i g hg=>⟨(h.own i g hg).1,Nat.lt_of_lt_of_le (h.own i g hg).2 hsz⟩,h.inj,h.ko,fun i a hi=>?_,fun i cs hi hp=>?_,fun i a hi hp=>?_,h.pin⟩,hNN,keep',hsz⟩
 ·refine h.below.trans ⟨h1.below.os,h1.below.tape,h1.below.output,hsz,fun k hk hG=>keep k (Nat.lt_of_lt_of_le hk h.below.size) (fun e=>?_)⟩;rcases (h.own id k (by rw[hv];exact e)).1 with h9|h9
  ·exact absurd hk (Nat.not_lt.2 h9)
  ·exact hG h9
 ·have hi':look i (bh id ar' s.r)=some a:=hi;rw[cu]at hi';split at hi'
  ·rename_i e;subst e;exact h.kr i ar ha
  ·exact h.kr i a hi'
 ·obtain⟨g,T,vs,e1,e2,e3⟩:=h.objs i cs hi hp;have hne:bV (some v0)≠some g:=fun e=>by
   have:=h.inj i id g (by rw[e1];rfl) (by rw[hv];exact e);subst this;rw[e1]at hv;injection hv with hv;subst hv
   obtain⟨v,xs,q1,q2,_⟩:=h.arrs i ar ha (by rw[e1];rfl);rw[e1]at q1;injection q1 with q1;subst q1
   rcases q2.2 with⟨q3,_⟩|⟨_,_,_,q3,_⟩<;>cases q3
  exact⟨g,T,vs,e1,(keep g (h.own i g (by rw[e1];rfl)).2 hne).trans e2,e3.mono hsz (fun b _ hb=>hb) keep' (fun _ _ h=>h)⟩
 ·have hi':look i (bh id ar' s.r)=some a:=hi;rw[cu]at hi';split at hi'
  ·rename_i e;subst e;injection hi' with hi';subst hi'
   obtain⟨v,xs,q1,q2,q3,q4,q5⟩:=h1.arrs id0 ar' ha1 (by rw[hp1];rfl);rw[hp1]at q1;injection q1 with q1;subst q1
   refine⟨v0,xs,hv,q2,q3,q4,fun j e hj k c hk=>?_⟩;obtain⟨x,hx,hr⟩:=q5 j e hj k c hk;exact⟨x,hx,.inl ((hr.flat (by omega)).mono (Nat.le_refl _) (fun b _ hb=>hNN b hb) (fun _ _ _=>rfl) (fun _ _ h=>h))⟩
  ·rename_i e;obtain⟨v,xs,q1,q2,q3,q4,q5⟩:=h.arrs i a hi' hp;refine⟨v,xs,q1,gc q2 (fun g hg=>keep g (h.own i g (by rw[q1];exact hg)).2 (fun e'=>e (h.inj i id g (by rw[q1];exact hg) (by rw[hv];exact e')))),q3,q4,fun j el hj k c hk=>?_⟩;obtain⟨x,hx,hr⟩:=q5 j el hj k c hk;exact⟨x,hx,hr.mono hsz (fun b _ hb=>hb) keep' (fun _ h=>h) (fun r h'=>keep r (h.ig h') (fun e=>by
    have:=h.inj _ id r (by rw[h'];rfl) (by rw[hv];exact e);exact h.zH ha h' this)) (fun h=>h)⟩
def BC(id id0:Nat):AV→Option AV
 | .ref i=>match Nat.beq i id with|true=>some (.ref id0)|false=>none
 | v=>match v.dz [] with|true=>some (fD v)|false=>none
def ru(id id0:Nat):List AV→Option (List AV)
 | []=>some []
 | v::r=>match BC id id0 v,ru id id0 r with|some x,some l=>some (x::l)|_,_=>none
def L9(s:AS)(o:Oper)(id id0:Nat):Option (FuncId×List AV) :=
 match o.op with
 | .call c=>match c.callee with
  | .value fo=>match s.ev fo,dX s c.args.toList with
   | some (.fn f []),some l=>match ru id id0 l with
    | some l'=>some (f,l')
    | none=>none
   | _,_=>none
  | _=>none
 | _=>none
theorem IL{id id0:Nat}:∀{l l':List AV},ru id id0 l=some l'→l'.length=l.length
 | [],_,h=>by injection h with h;subst h;rfl
 | v::r,l',h=>by
  unfold ru at h;split at h
  ·rename_i h1 h2;injection h with h;subst h;simp[IL h2]
  ·cases h
theorem CT{id id0:Nat}:∀{l l':List AV},ru id id0 l=some l'→∀(i:Nat) (a:AV),l'[i]?=some a→∃b,l[i]?=some b∧BC id id0 b=some a
 | [],_,h,i,a,ha=>by injection h with h;subst h;simp at ha
 | v::r,l',h,i,a,ha=>by
  unfold ru at h;split at h
  ·rename_i h1 h2;injection h with h;subst h
   cases i with
   | zero=>simp at ha;subst ha;exact⟨v,rfl,h1⟩
   | succ i=>simp only[List.getElem?_cons_succ]at ha⊢;exact CT h2 i a ha
  ·cases h
theorem nZ{cx:Cx}{s:AS}{fn:Func}{R:Ending→World→Prop}(h:VE cx (bodyPost cx.P fn R) [] .ret s):VE cx (bodyPost cx.P fn R) [] .normal s:=fun a w ι hs=>h a w ι hs
def w7(id0:Nat):List AV→Bool
 | []=>false
 | .ref i::r=>Nat.beq i id0||w7 id0 r
 | _::r=>w7 id0 r
theorem De{id0:Nat}:∀{l:List AV},w7 id0 l=true→∃i:Nat,l[i]?=some (.ref id0)
 | [],h=>by cases h
 | v::r,h=>by
  unfold w7 at h;split at h
  ·cases h
  ·rename_i i r' heq;injection heq with h1 h2;subst h1;subst h2
   simp only[Bool.or_eq_true]at h;rcases h with h|h
   ·have:=Nat.eq_of_beq_eq_true h;subst this;exact⟨0,rfl⟩
   ·obtain⟨j,hj⟩:=De h;exact⟨j+1,hj⟩
  ·rename_i heq;injection heq with h1 h2;subst h2
   obtain⟨j,hj⟩:=De h;exact⟨j+1,hj⟩
theorem Ib{id id0:Nat}{b a:AV}(h:BC id id0 b=some a):(b=.ref id∧a=.ref id0)∨(b.dz []=true∧a=fD b):=by
 unfold BC at h;split at h
 ·split at h
  ·rename_i hb;have:=Nat.eq_of_beq_eq_true hb;subst this;injection h with h;exact .inl ⟨rfl,h.symm⟩
  ·cases h
 ·split at h
  ·rename_i hp;injection h with h;exact .inr ⟨hp,h.symm⟩
  ·cases h
theorem Qw{b:AV}{id0:Nat}(h:fD b=.ref id0)(hb:b.dz []=true):False:=by
 cases b<;>first|(simp[fD]at h;done)|(simp[AV.dz]at hb;done)|(unfold fD at h;cases h)
theorem cf{α β:Type}{x:α}{f:α→Option β}{r:β}(h:(some x).bind f=some r):∃v,x=v∧f v=some r:=⟨x,rfl,h⟩
section
variable{cx:Cx}{Q:Exit→Act→World→Prop}{ks:List ao}{s:AS}{all:Array Oper}{f:Func}{p:List Nat}{i:Nat}
theorem iu(id id0:Nat){g:FuncId}{args:List AV}{V:AV}{ar ar':bD}(hc:jO cx.P g args id0 ar (fun v s1=>v=V∧look id0 s1.r=some ar'))(k:OT cx Q ks all (bk f p (i+1)) ((cD id ar' s).put (bC f p i).dst V))
  (hl:bk f p i=bC f p i::bk f p (i+1):=by kernel_rfl) (hg:cN all s (bC f p i)=true:=by kernel_rfl) (hcl:dD cx.P g=true:=by kernel_rfl) (h1:L9 s (bC f p i) id id0=some (g,args):=by kernel_rfl)
  (ha:look id s.r=some ar:=by kernel_rfl) (hd:(dq cx.n (bC f p i).dst&&V.dz [])=true:=by kernel_rfl) (href:w7 id0 args=true:=by kernel_rfl) (htg:(Nat.ble (id+1) TG&&Nat.ble (id0+1) TG)=true:=by kernel_rfl):OT cx Q ks all (bk f p i) s:=by
 rw[hl];refine iK _ hg fun a w ι hs=>?_;refine wpList_plain rfl fun K hK=>?_;simp only[Bool.and_eq_true]at hd;unfold L9 at h1;split at h1
 case h_2=>cases h1
 rename_i c hop;split at h1
 case h_2=>cases h1
 rename_i fo hcal;split at h1
 case h_2=>cases h1
 rename_i f' l hf hl';split at h1
 case h_2=>cases h1
 rename_i l' hio;injection h1 with h1;injection h1 with e1 e2;subst e1;subst e2
 obtain⟨q1,q2⟩:=nB hs hl';have getv:∀(i:Nat) (b:AV),l[i]?=some b→∃y,(c.args.map a.eval)[i]?=some y∧Rel (NN cx.M ι) w ι b y:=fun i b hb=>by
  have hlt:i<l.length:=(List.getElem?_eq_some_iff.1 hb).1;have hlt':i<(c.args.toList.map a.eval).length:=by have q1':=q1;simp only[List.length_map]at q1'⊢;omega
  have hy:=List.getElem?_eq_getElem hlt';exact⟨_,by rw[←Array.getElem?_toList,Array.toList_map];exact hy,q2 i b _ hb hy⟩
 obtain⟨j,hj⟩:=De href;obtain⟨b,hb,hba⟩:=CT hio j _ hj;obtain⟨v0,hv⟩:∃v0,ι id=some v0:=by
  obtain⟨rfl,_⟩|⟨hp,hz⟩:=Ib hba
  ·obtain⟨y,_,hr⟩:=getv j _ hb;cases hr with
   | ref _ _ A n c h=>exact⟨_,h⟩
  ·exact(Qw hz.symm hp).elim
 obtain⟨v1,xs,r1,r2,r3,r4,r5⟩:=hs.hs.arrs id ar ha (by rw[hv];rfl);rw[hv]at r1;injection r1 with r1;subst r1
 have hN:∀b,NN (fun b=>NN cx.M ι b∧bV (some v0)≠some b) (ext bM id0 v0) b→NN cx.M ι b:=fun b hb=>by
  rcases hb with hb|⟨i,hb⟩
  ·exact hb.1
  ·by_cases e:i=id0
   ·subst e;rw[cX]at hb;exact .inr ⟨id,by rw[hv];exact hb⟩
   ·rw[bU _ _ e]at hb;cases hb
 unfold Oper.wp;obtain⟨ys,hrc,hc1,_⟩:=nW (o:={ bC f p i with guard:=none }) hs hop hcal hf hcl;have hys:ys=[]:=List.eq_nil_of_length_eq_zero (by simpa using hc1.symm);subst hys;have hxs:c.args.map a.eval++([]:List Value).toArray=c.args.map a.eval:=by simp
 rw[hrc,Oper.upon_enter,hxs];refine (hc (fun b=>NN cx.M ι b∧bV (some v0)≠some b) w _ v0 xs (fun b hb=>⟨pu hs.hs hb.1,hb.2⟩) r2 r3 r4 (fun j e he i c hc=>?_) ?_ (fun i a' x ha' hx=>?_)).mono ?_
 ·obtain⟨x,hx,hr⟩:=r5 j e he i c hc;rw[Bool.and_eq_true]at htg;have:=Nat.le_of_ble_eq_true htg.1;exact⟨x,hx,(hr.flat (by omega)).mono (Nat.le_refl _) (fun b _ hb=>hN b hb) (fun _ _ _=>rfl) (fun _ _ h=>h)⟩
 ·rw[IL hio];simp at q1⊢;omega
 ·obtain⟨b,hb,hba⟩:=CT hio i _ ha';obtain⟨y,hy,hr⟩:=getv i b hb;rw[hx]at hy;injection hy with hy;subst hy
  obtain⟨rfl,rfl⟩|⟨hp,rfl⟩:=Ib hba
  ·cases hr with
   | ref _ _ A n c h =>
    rw[hv]at h;injection h with h;subst h
    exact .ref _ _ _ _ _ (cX _ _ _)
  ·exact zq ((hr.pure hp (ext bM id0 v0)).mono (Nat.le_refl _) (fun b _ hb=>hN b hb) (fun _ _ _=>rfl) (fun _ _ h=>h))
 ·rintro e w' ⟨x,v,s1,ι1,rfl,⟨rfl,hlook⟩,hhs,hr⟩
  rw[Bool.and_eq_true]at htg;obtain⟨g1,g2,g3,g4⟩:=hs.hs.back (Nat.le_of_ble_eq_true htg.2) ha hv hhs hlook;have h3:Rel (NN cx.M ι) w' ι v x:=(hr.pure hd.2 ι).mono (Nat.le_refl _) (fun b _ hb=>g2 b hb) (fun _ _ _=>rfl) (fun _ _ h=>h);have hsim:aX cx (cD id ar' s) a w' ι:=hs.world g1 rfl g4 (fun b _ hb=>hb) g3 (fun _ _ h=>h);exact hK _ _ (k _ _ _ (hsim.put (iV hd.1) h3))
end
def F6(k id:Nat)(cs:List AV)(s:AS):AS:={ t:=bh k (.cptr cs) (dR id s.t),o:=fy id s.o,r:=s.r,u:=s.u }
theorem HS.fo{M:Nat→Prop}{w0:aJ}{w:World}{ι:Env}{s:AS}(h:HS M w0 w ι s){k id:Nat}{cs:List AV}(hnp:w0.pv id=none)(ho:look id s.o=some cs):HS M w0 w (g9 ι id) (F6 k id cs s):=by
 refine⟨h.below,h.old,fun i y hy=>h.use i y (su hy).2,fun i g hg=>h.own i g (lP hg).2,fun i i' g hg hg'=>h.inj i i' g (lP hg).2 (lP hg').2,fun i cs hi=>?_,h.kr,fun i cs hi hp=>?_,fun i a hi hp=>?_,fun i y hp=>?_⟩
 ·obtain⟨u,hu,_⟩:=oC hi;exact h.ko i u hu
 ·obtain⟨u,hu,rfl⟩:=oC hi;obtain⟨y,hy⟩:=Option.isSome_iff_exists.mp hp;obtain⟨hne,hy⟩:=su hy;obtain⟨g,T,vs,e1,e2,e3⟩:=h.objs i u hu (by rw[hy];rfl);refine⟨g,T,vs,(im ι hne).trans e1,e2,by rw[rb];exact e3.len,e3.one,fun j x v hx hv=>?_⟩;obtain⟨y,hy,rfl⟩:=rY hx;exact((e3.rel j y v hy hv).cL (fun i hi=>im ι hi)).mono (Nat.le_refl _) (fun b _ hb=>lG b hb) (fun _ _ _=>rfl) (fun _ _ h=>h)
 ·obtain⟨y,hy⟩:=Option.isSome_iff_exists.mp hp;obtain⟨hne,hy⟩:=su hy;obtain⟨v,xs,e1,e2,e3,e4,e5⟩:=h.arrs i a hi (by rw[hy];rfl);refine⟨v,xs,(im ι hne).trans e1,e2,e3,e4,fun j e he k c hc=>?_⟩;obtain⟨x,hx,hr⟩:=e5 j e he k c hc;exact⟨x,hx,hr.mono (Nat.le_refl _) (fun b _ hb=>lG b hb) (fun _ _ _=>rfl) (fun r h'=>(im ι (fun e=>by
   rw[e]at h';obtain⟨g,T,vs,e1,_,_⟩:=h.objs id cs ho (by rw[h'];rfl);rw[e1]at h';cases h')).trans h') (fun _ _=>rfl) (fun h=>h)⟩
 ·have e:i≠id:=fun e=>by subst e;rw[hnp]at hp;cases hp
  exact⟨(im ι e).trans (h.pin i y hp).1,(h.pin i y hp).2⟩
section
variable{cx:Cx}{Q:Exit→Act→World→Prop}{ks:List ao}{s:AS}{all:Array Oper}{f:Func}{p:List Nat}{i:Nat}
theorem abV{a:Act}{w:World}{ι:Env}(hs:aX cx s a w ι){k id:Nat}{cs:List AV}(hk:look k s.t=some (.ptr id 0))(ho:look id s.o=some cs)(hp:dV [] cs=true)(hnp:s.u.contains (ey id)=false):aX cx (F6 k id cs s) a w (g9 ι id):=by
 obtain⟨x,hx,hr⟩:=hs.tmp k _ hk;cases hr with
 | ptr _ _ _ g hg =>
  obtain⟨g',T,vs,e1,e2,e3⟩:=hs.hs.objs id cs ho (by rw[hg];rfl);rw[hg]at e1;injection e1 with e1;injection e1 with e1;injection e1 with e1;injection e1 with e1;subst e1
  refine⟨hs.hs.fo (hs.hs.np hnp) ho,hs.dfr,hs.n,fun j v hj=>?_⟩;have hj':look j (bh k (.cptr cs) (dR id s.t))=some v:=hj;rw[cu]at hj';split at hj'
  ·rename_i e;subst e;injection hj' with hj';subst hj'
   refine⟨_,hx,.cptr _ cs g 0 (fun i=>(vs[i]?).getD (.bool true)) (hs.hs.own id g (by rw[hg];rfl)).2 (fun hb=>?_) (fun i=>?_) (fun i c hc=>?_) (fun i c hc=>?_)⟩
   ·rcases hb with hb|⟨i,hb⟩
    ·exact hs.hs.sep hb (by rw[hg];rfl)
    ·obtain⟨hne,hb⟩:=lP hb;exact hne (hs.hs.inj i id g hb (by rw[hg];rfl))
   ·cases e:vs[i]? with
    | none=>rfl
    | some v=>exact e3.one v (by rw[←Array.getElem?_toList]at e;exact List.mem_of_getElem? e)
   ·have hlt:i<vs.size:=by have:=(List.getElem?_eq_some_iff.1 hc).1;rw[e3.len]at this;simpa using this
    rw[cell_of_row w g _ vs T (0,0) e2,Nat.zero_add];simp[Array.getElem?_eq_getElem hlt]
   ·have hlt:i<vs.size:=by have:=(List.getElem?_eq_some_iff.1 hc).1;rw[e3.len]at this;simpa using this
    have hv':vs.toList[i]?=some vs[i]:=by simp
    have hr:=(e3.rel i c _ hc hv').pure (ls hp i c hc) bM;have h9:=hr.mono (N':=NN cx.M (g9 ι id)) (w':=w) (Nat.le_refl _) (fun b _ hb=>lG b hb) (fun _ _ _=>rfl) (fun _ _ h=>h);simpa[Array.getElem?_eq_getElem hlt]using h9
  ·obtain⟨u,hu,rfl⟩:=Bf hj';obtain⟨y,hy,hr⟩:=hs.tmp j u hu;exact⟨y,hy,(hr.cL (fun i hi=>im ι hi)).mono (Nat.le_refl _) (fun b _ hb=>lG b hb) (fun _ _ _=>rfl) (fun _ _ h=>h)⟩
theorem uX(k id:Nat)(cs:List AV){l:List Oper}(h:OT cx Q ks all l (F6 k id cs s))(hk:look k s.t=some (.ptr id 0):=by kernel_rfl)(ho:look id s.o=some cs:=by kernel_rfl)(hp:dV [] cs=true:=by kernel_rfl)(hnp:s.u.contains (ey id)=false:=by kernel_rfl):OT cx Q ks all l s:=fun a w ι hs=>h a w _ (abV hs hk ho hp hnp)
theorem Bn(g:FuncId)(captured:Array Operand)(l:List AV)(k:OT cx Q ks all (bk f p (i+1)) (s.put (bC f p i).dst (.fn g l)))(hl:bk f p i=bC f p i::bk f p (i+1):=by kernel_rfl)(hg:cN all s (bC f p i)=true:=by kernel_rfl)
  (hop:(bC f p i).op=.makeFunc (.func g) #[] captured:=by kernel_rfl) (he:dX s captured.toList=some l:=by kernel_rfl) (hd:(dq cx.n (bC f p i).dst&&dV [] l)=true:=by kernel_rfl):OT cx Q ks all (bk f p i) s:=by
 rw[hl];refine iK _ hg fun a w ι hs=>?_;refine wpList_plain rfl fun K hK=>?_;simp only[Bool.and_eq_true]at hd;obtain⟨q1,q2⟩:=nB hs he;have h3:Rel (NN cx.M ι) w ι (.fn g l) (.func (.func g) #[] (captured.map a.eval)):=by
  have h4:=Rel.fn (N:=NN cx.M ι) (w:=w) ι g l (captured.map a.eval).toList (by simp at q1⊢;omega) (fun i c y h1 h2=>(q2 i c y h1 (by simpa using h2)).pure (ls hd.2 i c h1) bM);rw[Array.toArray_toList]at h4;exact h4
 unfold Oper.wp execOp;simp only[hop,Instr.makeFunc,Sem.run_bind,Sem.run_pure,Result.andThen_ok,Array.map_empty];exact hK _ _ (k _ _ _ (hs.put (iV hd.1) h3))
end
section
variable{cx:Cx}{Q:Exit→Act→World→Prop}{ks:List ao}{s:AS}{all:Array Oper}{f:Func}{p:List Nat}{i:Nat}
theorem Rr(id nid:Nat){l:List Oper}(h:OT cx Q ks all l (AC id nid s))(ha:mV id s=true:=by kernel_rfl)(hn:has s.u nid=false:=by kernel_rfl):OT cx Q ks all l s:=fun a w ι hs=>by
 unfold mV at ha;unfold AC at h;split at ha
 ·rename_i ar har;rw[har]at h;exact h a w _ (hs.mv (mC ha).2 har hn (mC ha).1)
 ·cases ha
end
abbrev iI(x:Int):AV:=.int .i64 x
abbrev gD{α:Type}[Inhabited α](L:List α)(i:Int):α:=List.getD L i.toNat default
def xk(b:Nat→Bool):Nat→Nat→Bool
 | _,0=>true
 | lo,k+1=>b lo&&xk b (lo+1) k
theorem Ev{b:Nat→Bool}:∀{lo k:Nat},xk b lo k=true→ef lo k fun j=>b j=true
 | _,0,_=>trivial
 | lo,k+1,h=>by
  unfold xk at h;rw[Bool.and_eq_true]at h;exact⟨h.1,Ev h.2⟩
theorem ji{P:Program}{n:Nat}{s0:AS}{all:Array Oper}{K:Nat}{σs:List AS}{o:Oper}(lo k:Nat)(hg:o.guard.isSome=true:=by kernel_rfl)(h:xk (fun j=>Am all (nth σs j) o) lo k=true:=by kernel_rfl)
  (h2:xk (fun j=>(match o.dst with|some d=>(match look d (nth σs j).t with|none=>true|some (.tup [])=>Nat.ble (d+1) n|_=>false)|none=>true)) 0 (K+1)=true:=by kernel_rfl):ff P n s0 all K σs o (.off lo k):=Z4 hg (Ev h) (Ev h2)
def vz(n:Nat):List Tag:=List.replicate n (.v 0 1)
theorem Hk{P:Program}{n:Nat}{s0:AS}{all:Array Oper}{K:Nat}{σs:List AS}{o:Oper}(lo d:Nat){e b:Bool}(he:e=b)(hg:cN all (nth σs lo) o=true:=by kernel_rfl)(h:bG P n (nth σs lo) o=some ((nth σs lo).put (some d) (.bool e)):=by kernel_rfl)(hp:(nth σs lo).put (some d) (.bool b)=nth σs lo:=by kernel_rfl):
  ff P n s0 all K σs o (.v lo 1):=d4 (cy ⟨hg,ab6 d he h hp⟩ d8)
def nu:Nat→List AV→List (Nat×AV)
 | _,[]=>[]
 | k,x::l=>(k,x)::nu (k+1) l
abbrev lm{α β:Type}(f:α→β)(l:List α):List β:=List.map f l
theorem bF{P:Program}{f:FuncId}{fn:Func}{args:List AV}{Q:AV→AS→Prop}{n:Nat}(c:Code)(hf:P.funcs[f]?=some fn)(hn:fn.ntmps=n)(h:∀M w0,VE ⟨P,n,M,w0⟩ (bodyPost P fn (bX M w0 Q)) [.c c] .normal ⟨idxs 0 args,[],[],[]⟩)
  (hb:fn.body=some c:=by kernel_rfl) (hl:decide (args.length≤n)=true:=by kernel_rfl):aQ P f args Q:=ab5 hf hb n hn (of_decide_eq_true hl) h
theorem bx{cx:Cx}{Q:Exit→Act→World→Prop}{ks:List ao}{e:Exit}{s:AS}(s':AS)(h:VE cx Q ks e s')(hs:s=s':=by kernel_rfl):VE cx Q ks e s:=hs ▸ h
theorem bT{P:Program}{n:Nat}{s:AS}{o:Oper}{α:Type}[Inhabited α](id sz:Nat)(enc:α→List AV){L:List α}{i:Int}{m:Nat}(hb:aB i m=true)(hm:L.length=m:=by simp only[List.length_set])(h:vD P n s o=some (id,sz,i,L.map enc):=by kernel_rfl):bG P n s o=some (s.put o.dst (.eptr id sz i.toNat 0)):=bZ id sz enc (hm ▸ hb) h
theorem bt{P:Program}{n:Nat}{s0:AS}{all:Array Oper}{K:Nat}{σs:List AS}{f:Func}{p:List Nat}{i:Nat}{ts:List Tag}{s':AS}(h:bG P n (nth σs 0) (bC f p i)=some s')(h2:fx P n s0 all K σs (bk f p (i+1)) ts)(he:s'=nth σs 0:=by kernel_rfl)(hg:cN all (nth σs 0) (bC f p i)=true:=by kernel_rfl)
  (hl:bk f p i=bC f p i::bk f p (i+1):=by kernel_rfl):fx P n s0 all K σs (bk f p i) (.v 0 1::ts):=aC (nc h he hg) h2 hl
def P1:Nat→Nat→List Nat→List Nat
 | 0,_,l=>l
 | k+1,x,l=>match Nat.ble x 1 with
  | true=>l
  | false=>P1 k (x / 2) (x % 2::l)
def pn(x:Nat):List Nat:=P1 90 x []
def wq(n q:Nat):Nat:=n*2 ^ q.log2+(q-2 ^ q.log2)
section
variable{cx:Cx}{Q:Exit→Act→World→Prop}{ks:List ao}{s:AS}{f:Func}{n:Nat}
abbrev cP(f:Func)(n:Nat):ao:=.c (cat f (pn n))
theorem ax(a b k:Nat)(hk:VE cx Q (cP f (wq n a)::cP f (wq n b)::ks) .normal (fT cx.P cx.n k (cP f n::ks) .normal s))(h:fP cx.P cx.n k (cP f n::ks) .normal s=some (cP f (wq n a)::cP f (wq n b)::ks,.normal):=by kernel_rfl):VE cx Q (cP f n::ks) .normal s:=df k hk h
theorem ce(a k:Nat)(hk:VE cx Q (cP f (wq n a)::ks) .normal (fT cx.P cx.n k (cP f n::ks) .normal s))(h:fP cx.P cx.n k (cP f n::ks) .normal s=some (cP f (wq n a)::ks,.normal):=by kernel_rfl):VE cx Q (cP f n::ks) .normal s:=df k hk h
theorem dK(a b c d k:Nat)(hk:VE cx Q (cP f (wq n a)::cP f (wq n b) :: .b c::cP f (wq n d)::ks) .normal (fT cx.P cx.n k (cP f n::ks) .normal s))(h:fP cx.P cx.n k (cP f n::ks) .normal s=some (cP f (wq n a)::cP f (wq n b) :: .b c::cP f (wq n d)::ks,.normal):=by kernel_rfl):VE cx Q (cP f n::ks) .normal s:=df k hk h
theorem cm(a b c k:Nat)(hk:VE cx Q (cP f (wq n a)::cP f (wq n b)::cP f (wq n c)::ks) .normal (fT cx.P cx.n k (cP f n::ks) .normal s))(h:fP cx.P cx.n k (cP f n::ks) .normal s=some (cP f (wq n a)::cP f (wq n b)::cP f (wq n c)::ks,.normal):=by kernel_rfl):VE cx Q (cP f n::ks) .normal s:=df k hk h
theorem gx(a b c k:Nat)(hk:VE cx Q (cP f (wq n a) :: .b b::cP f (wq n c)::ks) .normal (fT cx.P cx.n k (cP f n::ks) .normal s))(h:fP cx.P cx.n k (cP f n::ks) .normal s=some (cP f (wq n a) :: .b b::cP f (wq n c)::ks,.normal):=by kernel_rfl):VE cx Q (cP f n::ks) .normal s:=df k hk h
theorem ip(a b k:Nat)(hk:VE cx Q (cP f (wq n a) :: .b b::ks) .normal (fT cx.P cx.n k (cP f n::ks) .normal s))(h:fP cx.P cx.n k (cP f n::ks) .normal s=some (cP f (wq n a) :: .b b::ks,.normal):=by kernel_rfl):VE cx Q (cP f n::ks) .normal s:=df k hk h
theorem YY{x0 x1 x2:ao}(a b k:Nat)(hk:VE cx Q (cP f (wq n a)::cP f (wq n b)::ks) .normal (fT cx.P cx.n k (x0::x1::x2::cP f n::ks) .normal s))(h:fP cx.P cx.n k (x0::x1::x2::cP f n::ks) .normal s=some (cP f (wq n a)::cP f (wq n b)::ks,.normal):=by kernel_rfl):VE cx Q (x0::x1::x2::cP f n::ks) .normal s:=df k hk h
theorem Js{x0 x1 x2:ao}(a b c k:Nat)(hk:VE cx Q (cP f (wq n a)::cP f (wq n b)::cP f (wq n c)::ks) .normal (fT cx.P cx.n k (x0::x1::x2::cP f n::ks) .normal s))(h:fP cx.P cx.n k (x0::x1::x2::cP f n::ks) .normal s=some (cP f (wq n a)::cP f (wq n b)::cP f (wq n c)::ks,.normal):=by kernel_rfl):VE cx Q (x0::x1::x2::cP f n::ks) .normal s:=df k hk h
theorem eG{x0 x1 x2 x3:ao}(a b k:Nat)(hk:VE cx Q (cP f (wq n a)::cP f (wq n b)::ks) .normal (fT cx.P cx.n k (x0::x1::x2::x3::cP f n::ks) .normal s))(h:fP cx.P cx.n k (x0::x1::x2::x3::cP f n::ks) .normal s=some (cP f (wq n a)::cP f (wq n b)::ks,.normal):=by kernel_rfl):VE cx Q (x0::x1::x2::x3::cP f n::ks) .normal s:=df k hk h
theorem cF{x0:ao}(a b c d k:Nat)(hk:VE cx Q (cP f (wq n a)::cP f (wq n b) :: .b c::cP f (wq n d)::ks) .normal (fT cx.P cx.n k (x0::cP f n::ks) .normal s))(h:fP cx.P cx.n k (x0::cP f n::ks) .normal s=some (cP f (wq n a)::cP f (wq n b) :: .b c::cP f (wq n d)::ks,.normal):=by kernel_rfl):VE cx Q (x0::cP f n::ks) .normal s:=df k hk h
theorem fu{x0:ao}(a b k:Nat)(hk:VE cx Q (cP f (wq n a)::cP f (wq n b)::ks) .normal (fT cx.P cx.n k (x0::cP f n::ks) .normal s))(h:fP cx.P cx.n k (x0::cP f n::ks) .normal s=some (cP f (wq n a)::cP f (wq n b)::ks,.normal):=by kernel_rfl):VE cx Q (x0::cP f n::ks) .normal s:=df k hk h
theorem iv{x0:ao}(a b c k:Nat)(hk:VE cx Q (cP f (wq n a) :: .b b::cP f (wq n c)::ks) .normal (fT cx.P cx.n k (x0::cP f n::ks) .normal s))(h:fP cx.P cx.n k (x0::cP f n::ks) .normal s=some (cP f (wq n a) :: .b b::cP f (wq n c)::ks,.normal):=by kernel_rfl):VE cx Q (x0::cP f n::ks) .normal s:=df k hk h
theorem py{x0:ao}(a b c k:Nat)(hk:VE cx Q (cP f (wq n a)::cP f (wq n b)::cP f (wq n c)::ks) .normal (fT cx.P cx.n k (x0::cP f n::ks) .normal s))(h:fP cx.P cx.n k (x0::cP f n::ks) .normal s=some (cP f (wq n a)::cP f (wq n b)::cP f (wq n c)::ks,.normal):=by kernel_rfl):VE cx Q (x0::cP f n::ks) .normal s:=df k hk h
theorem rX{x0 x1 x2 x3:ao}(a b c k:Nat)(hk:VE cx Q (cP f (wq n a)::cP f (wq n b)::cP f (wq n c)::ks) .normal (fT cx.P cx.n k (x0::x1::x2::x3::cP f n::ks) .normal s))(h:fP cx.P cx.n k (x0::x1::x2::x3::cP f n::ks) .normal s=some (cP f (wq n a)::cP f (wq n b)::cP f (wq n c)::ks,.normal):=by kernel_rfl):VE cx Q (x0::x1::x2::x3::cP f n::ks) .normal s:=df k hk h
theorem Iq{x0:ao}(a b c d e k:Nat)(hk:VE cx Q (cP f (wq n a)::cP f (wq n b)::cP f (wq n c) :: .b d::cP f (wq n e)::ks) .normal (fT cx.P cx.n k (x0::cP f n::ks) .normal s))(h:fP cx.P cx.n k (x0::cP f n::ks) .normal s=some (cP f (wq n a)::cP f (wq n b)::cP f (wq n c) :: .b d::cP f (wq n e)::ks,.normal):=by kernel_rfl):VE cx Q (x0::cP f n::ks) .normal s:=df k hk h
end
end Go.Proofs.YtolhpahjgddjkaaGreat
