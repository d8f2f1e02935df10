/- Calls that turn a slice of the caller's. No program in sight. -/
import Derived.Test.YtocgkfoifehcbaaGreatRcVy
namespace Go.Proofs.YtocgkfoifehcbaaGreat
set_option linter.all false
open Go.RowKit
def jn(w:World)(id0:Nat)(v0:Value):aB:=⟨w,fun g=>bo (some v0)=some g,fun i=>if i=id0 then some v0 else none⟩
def gW(P:Program)(f:FuncId)(args:List AV)(id0:Nat)(ar:bE)(Q:AV→AS→Prop):Prop :=
 ∀(M:Nat→Prop) (w:World) (xs:Array Value) (v0:Value) (ys:List Value),(∀b,M b→b<w.heap.size∧bo (some v0)≠some b)→w.ownsRow 0 ar.e ar.sz v0 ar.l.length ys→(∀e∈ar.l,e.length=ar.sz)→(∀x∈ys,x.oneCell'=true) →
  (∀(j:Nat) (e:List AV),ar.l[j]?=some e→∀(i:Nat) (c:AV),e[i]?=some c→∃x,ys[j*ar.sz+i]?=some x∧Rel (NN M (ext bD id0 v0)) w bD c x) →
  args.length=xs.size→(∀(i:Nat) (a:AV) (x:Value),args[i]?=some a→xs[i]?=some x→Rel (NN M (ext bD id0 v0)) w (ext bD id0 v0) a x)→Calls P f xs w (bC M (jn w id0 v0) Q)
theorem B5{w:World}{e:TypeId}{sz n:Nat}{v:Value}{ys:List Value}(h:w.ownsRow 0 e sz v n ys){g:Nat}(hg:bo (some v)=some g):g<w.heap.size:=by
 obtain⟨hv,_⟩|⟨g2,cap,cur,hv,_,hgg,_⟩:=h.2
 ·rw[hv]at hg;cases hg
 ·rw[hv]at hg;have hg':some g2=some g:=hg;injection hg' with hg';subst hg'
  exact(Array.getElem?_eq_some_iff.1 hgg).1
theorem kN{P:Program}{f:FuncId}{fn:Func}{c:Code}{args:List AV}{id0:Nat}{ar:bE}{Q:AV→AS→Prop}(hf:P.funcs[f]?=some fn)(hb:fn.body=some c)(n:Nat)(hn:fn.ntmps=n)(hl:args.length≤n)
  (h:∀M w0,VE ⟨P,n,M,w0⟩ (bodyPost P fn (bC M w0 Q)) [.c c] .normal ⟨idxs 0 args,[],[(id0,ar)],[id0,cL id0]⟩):gW P f args id0 ar Q:=by
 intro M w xs v0 ys hM hrow hlen hone hcl hlx hx;refine calls_of_wp hf hb ?_;have hι:∀i y,ext bD id0 v0 i=some y→i=id0∧y=v0:=fun i y hy=>by
  by_cases e:i=id0
  ·subst e;rw[cn]at hy;injection hy with hy;exact⟨rfl,hy.symm⟩
  ·rw[bJ _ _ e]at hy;cases hy
 have hbk:∀i g,bo (ext bD id0 v0 i)=some g→i=id0∧bo (some v0)=some g:=fun i g hg=>by
  cases he:ext bD id0 v0 i with
  | none=>rw[he]at hg;cases hg
  | some y=>obtain⟨h1,h2⟩:=hι i y he;rw[he,h2]at hg;exact⟨h1,hg⟩
 refine wp_mono (h M (jn w id0 v0) { tmps:=xs++Array.replicate (fn.ntmps-xs.size) undef,defers:=[] } w (ext bD id0 v0) ?_) (fun e a w' hq=>?_)
 ·refine⟨⟨⟨rfl,rfl,rfl,Nat.le_refl _,fun _ _ _=>rfl⟩,fun b hb=>hM b hb,fun i y hy=>?_,fun i g hg=>⟨.inr (hbk i g hg).2,B5 hrow (hbk i g hg).2⟩,fun i i' g hg hg'=>(hbk i g hg).1.trans (hbk i' g hg').1.symm,fun i cs hi=>(by cases hi),fun i a hi=>?_,fun i cs hi=>(by cases hi),fun i a hi hp=>?_,fun i v hv=>?_⟩,rfl,?_,fun k v hk=>?_⟩
  ·rw[(hι i y hy).1];exact dY (by simp)
  ·simp only[look]at hi;split at hi
   ·rename_i e;subst e;exact dY (by simp)
   ·cases hi
  ·simp only[look]at hi;split at hi
   ·rename_i e;subst e;injection hi with hi;subst hi
    exact⟨v0,ys,cn _ _ _,hrow,hlen,hone,fun j e he k c hc=>by obtain⟨x,hx,hr⟩:=hcl j e he k c hc;exact⟨x,hx,.inl hr⟩⟩
   ·cases hi
  ·have hv':(if i=id0 then some v0 else none)=some v:=hv;split at hv'
   ·rename_i e;subst e;injection hv' with hv';subst hv'
    exact⟨cn _ _ _,by simp⟩
   ·cases hv'
  ·simp;omega
  ·rw[lr,if_pos (Nat.zero_le _),Nat.sub_zero]at hk;have hlt:k<xs.size:=by rw[←hlx];exact(List.getElem?_eq_some_iff.1 hk).1
   refine⟨xs[k],?_,hx k v _ hk (Array.getElem?_eq_getElem hlt)⟩;simp only[];rw[Array.getElem?_append_left hlt,Array.getElem?_eq_getElem hlt]
 ·cases e<;>exact hq
theorem HS.back{M:Nat→Prop}{w0:aB}{w w':World}{ι ι1:Env}{s s1:AS}(h:HS M w0 w ι s){id id0:Nat}{ar ar':bE}{v0:Value}(htg:id0<TG)(ha:look id s.r=some ar)(hv:ι id=some v0)
  (h1:HS (fun b=>NN M ι b∧bo (some v0)≠some b) (jn w id0 v0) w' ι1 s1) (ha1:look id0 s1.r=some ar'):HS M w0 w' ι (cV id ar' s)∧(∀b,NN M ι b→NN (fun b=>NN M ι b∧bo (some v0)≠some b) ι1 b)∧(∀b,b<w.heap.size→¬ NN M ι b→w'.heap[b]?=w.heap[b]?)∧w.heap.size≤w'.heap.size:=by
 have hp1:ι1 id0=some v0:=(h1.pin id0 v0 (by simp[jn])).1;have hNN:∀b,NN M ι b→NN (fun b=>NN M ι b∧bo (some v0)≠some b) ι1 b:=fun b hb=>by
  by_cases e:bo (some v0)=some b
  ·exact .inr ⟨id0,by rw[hp1];exact e⟩
  ·exact .inl ⟨hb,e⟩
 have hsz:w.heap.size≤w'.heap.size:=h1.below.size;have bR:∀b,b<w.heap.size→bo (some v0)≠some b→w'.heap[b]?=w.heap[b]?:=fun b hlt hb=>h1.below.block b hlt hb;have keep':∀b,b<w.heap.size→¬ NN M ι b→w'.heap[b]?=w.heap[b]?:=fun b hlt hb=>bR b hlt (fun e=>hb (.inr ⟨id,by rw[hv];exact e⟩));refine⟨⟨?_,h.old,h.use,fun i g hg=>⟨(h.own i g hg).1,Nat.lt_of_lt_of_le (h.own i g hg).2 hsz⟩,h.inj,h.ko,fun i a hi=>?_,fun i cs hi hp=>?_,fun i a hi hp=>?_,h.pin⟩,hNN,keep',hsz⟩
 ·refine h.below.trans ⟨h1.below.os,h1.below.tape,h1.below.output,hsz,fun k hk hG=>bR k (Nat.lt_of_lt_of_le hk h.below.size) (fun e=>?_)⟩;rcases (h.own id k (by rw[hv];exact e)).1 with h9|h9
  ·exact absurd hk (Nat.not_lt.2 h9)
  ·exact hG h9
 ·have hi':look i (bg id ar' s.r)=some a:=hi;rw[ce]at hi';split at hi'
  ·rename_i e;subst e;exact h.kr i ar ha
  ·exact h.kr i a hi'
 ·obtain⟨g,T,vs,e1,e2,e3⟩:=h.objs i cs hi hp;have hne:bo (some v0)≠some g:=fun e=>by
   have:=h.inj i id g (by rw[e1];rfl) (by rw[hv];exact e);subst this;rw[e1]at hv;injection hv with hv;subst hv
   obtain⟨v,xs,q1,q2,_⟩:=h.arrs i ar ha (by rw[e1];rfl);rw[e1]at q1;injection q1 with q1;subst q1
   rcases q2.2 with⟨q3,_⟩|⟨_,_,_,q3,_⟩<;>cases q3
  exact⟨g,T,vs,e1,(bR g (h.own i g (by rw[e1];rfl)).2 hne).trans e2,e3.mono hsz (fun b _ hb=>hb) keep' (fun _ _ h=>h)⟩
 ·have hi':look i (bg id ar' s.r)=some a:=hi;rw[ce]at hi';split at hi'
  ·rename_i e;subst e;injection hi' with hi';subst hi'
   obtain⟨v,xs,q1,q2,q3,q4,q5⟩:=h1.arrs id0 ar' ha1 (by rw[hp1];rfl);rw[hp1]at q1;injection q1 with q1;subst q1
   refine⟨v0,xs,hv,q2,q3,q4,fun j e hj k c hk=>?_⟩;obtain⟨x,hx,hr⟩:=q5 j e hj k c hk;exact⟨x,hx,.inl ((hr.flat (by omega)).mono (Nat.le_refl _) (fun b _ hb=>hNN b hb) (fun _ _ _=>rfl) (fun _ _ h=>h))⟩
  ·rename_i e;obtain⟨v,xs,q1,q2,q3,q4,q5⟩:=h.arrs i a hi' hp;refine⟨v,xs,q1,d4 q2 (fun g hg=>bR g (h.own i g (by rw[q1];exact hg)).2 (fun e'=>e (h.inj i id g (by rw[q1];exact hg) (by rw[hv];exact e')))),q3,q4,fun j el hj k c hk=>?_⟩;obtain⟨x,hx,hr⟩:=q5 j el hj k c hk;exact⟨x,hx,hr.mono hsz (fun b _ hb=>hb) keep' (fun _ h=>h) (fun r h'=>bR r (h.fV h') (fun e=>by
    have:=h.inj _ id r (by rw[h'];rfl) (by rw[hv];exact e);exact h.pw ha h' this)) (fun h=>h)⟩
def xI(id id0:Nat):AV→Option AV
 | .ref i=>match Nat.beq i id with|true=>some (.ref id0)|false=>none
 | v=>match v.cK [] with|true=>some (eg v)|false=>none
def my(id id0:Nat):List AV→Option (List AV)
 | []=>some []
 | v::r=>match xI id id0 v,my id id0 r with|some x,some l=>some (x::l)|_,_=>none
def GI(s:AS)(o:Oper)(id id0:Nat):Option (FuncId×List AV) :=
 match o.op with
 | .call c=>match c.callee with
  | .value fo=>match s.ev fo,cN s c.args.toList with
   | some (.fn f []),some l=>match my id id0 l with
    | some l'=>some (f,l')
    | none=>none
   | _,_=>none
  | _=>none
 | _=>none
theorem FV{id id0:Nat}:∀{l l':List AV},my id id0 l=some l'→l'.length=l.length
 | [],_,h=>by injection h with h;subst h;rfl
 | v::r,l',h=>by
  unfold my at h;split at h
  ·rename_i h1 h2;injection h with h;subst h;simp[FV h2]
  ·cases h
theorem AO{id id0:Nat}:∀{l l':List AV},my id id0 l=some l'→∀(i:Nat) (a:AV),l'[i]?=some a→∃b,l[i]?=some b∧xI id id0 b=some a
 | [],_,h,i,a,ha=>by injection h with h;subst h;simp at ha
 | v::r,l',h,i,a,ha=>by
  unfold my at h;split at h
  ·rename_i h1 h2;injection h with h;subst h
   cases i with
   | zero=>simp at ha;subst ha;exact⟨v,rfl,h1⟩
   | succ i=>simp only[List.getElem?_cons_succ]at ha⊢;exact AO h2 i a ha
  ·cases h
theorem im{cx:Cx}{s:AS}{fn:Func}{R:Ending→World→Prop}(h:VE cx (bodyPost cx.P fn R) [] .ret s):VE cx (bodyPost cx.P fn R) [] .normal s:=fun a w ι hs=>h a w ι hs
def n7(id0:Nat):List AV→Bool
 | []=>false
 | .ref i::r=>Nat.beq i id0||n7 id0 r
 | _::r=>n7 id0 r
theorem B8{id0:Nat}:∀{l:List AV},n7 id0 l=true→∃i:Nat,l[i]?=some (.ref id0)
 | [],h=>by cases h
 | v::r,h=>by
  unfold n7 at h;split at h
  ·cases h
  ·rename_i i r' heq;injection heq with h1 h2;subst h1;subst h2
   simp only[Bool.or_eq_true]at h;rcases h with h|h
   ·have:=Nat.eq_of_beq_eq_true h;subst this;exact⟨0,rfl⟩
   ·obtain⟨j,hj⟩:=B8 h;exact⟨j+1,hj⟩
  ·rename_i heq;injection heq with h1 h2;subst h2
   obtain⟨j,hj⟩:=B8 h;exact⟨j+1,hj⟩
theorem HA{id id0:Nat}{b a:AV}(h:xI id id0 b=some a):(b=.ref id∧a=.ref id0)∨(b.cK []=true∧a=eg b):=by
 unfold xI at h;split at h
 ·split at h
  ·rename_i hb;have:=Nat.eq_of_beq_eq_true hb;subst this;injection h with h;exact .inl ⟨rfl,h.symm⟩
  ·cases h
 ·split at h
  ·rename_i hp;injection h with h;exact .inr ⟨hp,h.symm⟩
  ·cases h
theorem Tm{b:AV}{id0:Nat}(h:eg b=.ref id0)(hb:b.cK []=true):False:=by
 cases b<;>first|(simp[eg]at h;done)|(simp[AV.cK]at hb;done)|(unfold eg at h;cases h)
theorem bF{α β:Type}{x:α}{f:α→Option β}{r:β}(h:(some x).bind f=some r):∃v,x=v∧f v=some r:=⟨x,rfl,h⟩
section
variable{cx:Cx}{Q:Exit→Act→World→Prop}{ks:List ao}{s:AS}{all:Array Oper}{f:Func}{p:List Nat}{i:Nat}
theorem fD(id id0:Nat){g:FuncId}{args:List AV}{V:AV}{ar ar':bE}(hc:gW cx.P g args id0 ar (fun v s1=>v=V∧look id0 s1.r=some ar'))(k:OT cx Q ks all (aN f p (i+1)) ((cV id ar' s).put (aQ f p i).dst V))
  (hl:aN f p i=aQ f p i::aN f p (i+1):=by kernel_rfl) (hg:ci all s (aQ f p i)=true:=by kernel_rfl) (hcl:co cx.P g=true:=by kernel_rfl) (h1:GI s (aQ f p i) id id0=some (g,args):=by kernel_rfl)
  (ha:look id s.r=some ar:=by kernel_rfl) (hd:(cq cx.n (aQ f p i).dst&&V.cK [])=true:=by kernel_rfl) (href:n7 id0 args=true:=by kernel_rfl) (htg:(Nat.ble (id+1) TG&&Nat.ble (id0+1) TG)=true:=by kernel_rfl):OT cx Q ks all (aN f p i) s:=by
 rw[hl];refine dC _ hg fun a w ι hs=>?_;refine wpList_plain rfl fun K hK=>?_;simp only[Bool.and_eq_true]at hd;unfold GI at h1;split at h1
 case h_2=>cases h1
 rename_i c hop;split at h1
 case h_2=>cases h1
 rename_i fo hcal;split at h1
 case h_2=>cases h1
 rename_i f' l hf hl';split at h1
 case h_2=>cases h1
 rename_i l' hio;injection h1 with h1;injection h1 with e1 e2;subst e1;subst e2
 obtain⟨q1,q2⟩:=ij hs hl';have getv:∀(i:Nat) (b:AV),l[i]?=some b→∃y,(c.args.map a.eval)[i]?=some y∧Rel (NN cx.M ι) w ι b y:=fun i b hb=>by
  have hlt:i<l.length:=(List.getElem?_eq_some_iff.1 hb).1;have hlt':i<(c.args.toList.map a.eval).length:=by have q1':=q1;simp only[List.length_map]at q1'⊢;omega
  have hy:=List.getElem?_eq_getElem hlt';exact⟨_,by rw[←Array.getElem?_toList,Array.toList_map];exact hy,q2 i b _ hb hy⟩
 obtain⟨j,hj⟩:=B8 href;obtain⟨b,hb,hba⟩:=AO hio j _ hj;obtain⟨v0,hv⟩:∃v0,ι id=some v0:=by
  obtain⟨rfl,_⟩|⟨hp,hz⟩:=HA hba
  ·obtain⟨y,_,hr⟩:=getv j _ hb;cases hr with
   | ref _ _ A n c h=>exact⟨_,h⟩
  ·exact(Tm hz.symm hp).elim
 obtain⟨v1,xs,r1,r2,r3,r4,r5⟩:=hs.hs.arrs id ar ha (by rw[hv];rfl);rw[hv]at r1;injection r1 with r1;subst r1
 have hN:∀b,NN (fun b=>NN cx.M ι b∧bo (some v0)≠some b) (ext bD id0 v0) b→NN cx.M ι b:=fun b hb=>by
  rcases hb with hb|⟨i,hb⟩
  ·exact hb.1
  ·by_cases e:i=id0
   ·subst e;rw[cn]at hb;exact .inr ⟨id,by rw[hv];exact hb⟩
   ·rw[bJ _ _ e]at hb;cases hb
 unfold Oper.wp;obtain⟨ys,hrc,hc1,_⟩:=gE (o:={ aQ f p i with guard:=none }) hs hop hcal hf hcl;have hys:ys=[]:=List.eq_nil_of_length_eq_zero (by simpa using hc1.symm);subst hys;have hxs:c.args.map a.eval++([]:List Value).toArray=c.args.map a.eval:=by simp
 rw[hrc,Oper.upon_enter,hxs];refine (hc (fun b=>NN cx.M ι b∧bo (some v0)≠some b) w _ v0 xs (fun b hb=>⟨iB hs.hs hb.1,hb.2⟩) r2 r3 r4 (fun j e he i c hc=>?_) ?_ (fun i a' x ha' hx=>?_)).mono ?_
 ·obtain⟨x,hx,hr⟩:=r5 j e he i c hc;rw[Bool.and_eq_true]at htg;have:=Nat.le_of_ble_eq_true htg.1;exact⟨x,hx,(hr.flat (by omega)).mono (Nat.le_refl _) (fun b _ hb=>hN b hb) (fun _ _ _=>rfl) (fun _ _ h=>h)⟩
 ·rw[FV hio];simp at q1⊢;omega
 ·obtain⟨b,hb,hba⟩:=AO hio i _ ha';obtain⟨y,hy,hr⟩:=getv i b hb;rw[hx]at hy;injection hy with hy;subst hy
  obtain⟨rfl,rfl⟩|⟨hp,rfl⟩:=HA hba
  ·cases hr with
   | ref _ _ A n c h =>
    rw[hv]at h;injection h with h;subst h
    exact .ref _ _ _ _ _ (cn _ _ _)
  ·exact qb ((hr.pure hp (ext bD id0 v0)).mono (Nat.le_refl _) (fun b _ hb=>hN b hb) (fun _ _ _=>rfl) (fun _ _ h=>h))
 ·rintro e w' ⟨x,v,s1,ι1,rfl,⟨rfl,hlook⟩,hhs,hr⟩
  rw[Bool.and_eq_true]at htg;obtain⟨g1,g2,g3,g4⟩:=hs.hs.back (Nat.le_of_ble_eq_true htg.2) ha hv hhs hlook;have h3:Rel (NN cx.M ι) w' ι v x:=(hr.pure hd.2 ι).mono (Nat.le_refl _) (fun b _ hb=>g2 b hb) (fun _ _ _=>rfl) (fun _ _ h=>h);have hsim:aU cx (cV id ar' s) a w' ι:=hs.world g1 rfl g4 (fun b _ hb=>hb) g3 (fun _ _ h=>h);exact hK _ _ (k _ _ _ (hsim.put (ep hd.1) h3))
end
def CX(k id:Nat)(cs:List AV)(s:AS):AS:={ t:=bg k (.cptr cs) (cS id s.t),o:=dG id s.o,r:=s.r,u:=s.u }
theorem HS.fo{M:Nat→Prop}{w0:aB}{w:World}{ι:Env}{s:AS}(h:HS M w0 w ι s){k id:Nat}{cs:List AV}(hnp:w0.pv id=none)(ho:look id s.o=some cs):HS M w0 w (ec ι id) (CX k id cs s):=by
 refine⟨h.below,h.old,fun i y hy=>h.use i y (iU hy).2,fun i g hg=>h.own i g (f8 hg).2,fun i i' g hg hg'=>h.inj i i' g (f8 hg).2 (f8 hg').2,fun i cs hi=>?_,h.kr,fun i cs hi hp=>?_,fun i a hi hp=>?_,fun i y hp=>?_⟩
 ·obtain⟨u,hu,_⟩:=fM hi;exact h.ko i u hu
 ·obtain⟨u,hu,rfl⟩:=fM hi;obtain⟨y,hy⟩:=Option.isSome_iff_exists.mp hp;obtain⟨hne,hy⟩:=iU hy;obtain⟨g,T,vs,e1,e2,e3⟩:=h.objs i u hu (by rw[hy];rfl);refine⟨g,T,vs,(ey ι hne).trans e1,e2,by rw[ip];exact e3.len,e3.one,fun j x v hx hv=>?_⟩;obtain⟨y,hy,rfl⟩:=iw hx;exact((e3.rel j y v hy hv).ct (fun i hi=>ey ι hi)).mono (Nat.le_refl _) (fun b _ hb=>gO b hb) (fun _ _ _=>rfl) (fun _ _ h=>h)
 ·obtain⟨y,hy⟩:=Option.isSome_iff_exists.mp hp;obtain⟨hne,hy⟩:=iU hy;obtain⟨v,xs,e1,e2,e3,e4,e5⟩:=h.arrs i a hi (by rw[hy];rfl);refine⟨v,xs,(ey ι hne).trans e1,e2,e3,e4,fun j e he k c hc=>?_⟩;obtain⟨x,hx,hr⟩:=e5 j e he k c hc;exact⟨x,hx,hr.mono (Nat.le_refl _) (fun b _ hb=>gO b hb) (fun _ _ _=>rfl) (fun r h'=>(ey ι (fun e=>by
   rw[e]at h';obtain⟨g,T,vs,e1,_,_⟩:=h.objs id cs ho (by rw[h'];rfl);rw[e1]at h';cases h')).trans h') (fun _ _=>rfl) (fun h=>h)⟩
 ·have e:i≠id:=fun e=>by subst e;rw[hnp]at hp;cases hp
  exact⟨(ey ι e).trans (h.pin i y hp).1,(h.pin i y hp).2⟩
section
variable{cx:Cx}{Q:Exit→Act→World→Prop}{ks:List ao}{s:AS}{all:Array Oper}{f:Func}{p:List Nat}{i:Nat}
theorem WP{a:Act}{w:World}{ι:Env}(hs:aU cx s a w ι){k id:Nat}{cs:List AV}(hk:look k s.t=some (.ptr id 0))(ho:look id s.o=some cs)(hp:dc [] cs=true)(hnp:s.u.contains (cL id)=false):aU cx (CX k id cs s) a w (ec ι id):=by
 obtain⟨x,hx,hr⟩:=hs.tmp k _ hk;cases hr with
 | ptr _ _ _ g hg =>
  obtain⟨g',T,vs,e1,e2,e3⟩:=hs.hs.objs id cs ho (by rw[hg];rfl);rw[hg]at e1;injection e1 with e1;injection e1 with e1;injection e1 with e1;injection e1 with e1;subst e1
  refine⟨hs.hs.fo (hs.hs.np hnp) ho,hs.dfr,hs.n,fun j v hj=>?_⟩;have hj':look j (bg k (.cptr cs) (cS id s.t))=some v:=hj;rw[ce]at hj';split at hj'
  ·rename_i e;subst e;injection hj' with hj';subst hj'
   refine⟨_,hx,.cptr _ cs g 0 (fun i=>(vs[i]?).getD (.bool true)) (hs.hs.own id g (by rw[hg];rfl)).2 (fun hb=>?_) (fun i=>?_) (fun i c hc=>?_) (fun i c hc=>?_)⟩
   ·rcases hb with hb|⟨i,hb⟩
    ·exact hs.hs.sep hb (by rw[hg];rfl)
    ·obtain⟨hne,hb⟩:=f8 hb;exact hne (hs.hs.inj i id g hb (by rw[hg];rfl))
   ·cases e:vs[i]? with
    | none=>rfl
    | some v=>exact e3.one v (by rw[←Array.getElem?_toList]at e;exact List.mem_of_getElem? e)
   ·have hlt:i<vs.size:=by have:=(List.getElem?_eq_some_iff.1 hc).1;rw[e3.len]at this;simpa using this
    rw[cell_of_row w g _ vs T (0,0) e2,Nat.zero_add];simp[Array.getElem?_eq_getElem hlt]
   ·have hlt:i<vs.size:=by have:=(List.getElem?_eq_some_iff.1 hc).1;rw[e3.len]at this;simpa using this
    have hv':vs.toList[i]?=some vs[i]:=by simp
    have hr:=(e3.rel i c _ hc hv').pure (iz hp i c hc) bD;have h9:=hr.mono (N':=NN cx.M (ec ι id)) (w':=w) (Nat.le_refl _) (fun b _ hb=>gO b hb) (fun _ _ _=>rfl) (fun _ _ h=>h);simpa[Array.getElem?_eq_getElem hlt]using h9
  ·obtain⟨u,hu,rfl⟩:=jV hj';obtain⟨y,hy,hr⟩:=hs.tmp j u hu;exact⟨y,hy,(hr.ct (fun i hi=>ey ι hi)).mono (Nat.le_refl _) (fun b _ hb=>gO b hb) (fun _ _ _=>rfl) (fun _ _ h=>h)⟩
theorem jU(k id:Nat)(cs:List AV){l:List Oper}(h:OT cx Q ks all l (CX k id cs s))(hk:look k s.t=some (.ptr id 0):=by kernel_rfl)(ho:look id s.o=some cs:=by kernel_rfl)(hp:dc [] cs=true:=by kernel_rfl)(hnp:s.u.contains (cL id)=false:=by kernel_rfl):OT cx Q ks all l s:=fun a w ι hs=>h a w _ (WP hs hk ho hp hnp)
theorem mS(g:FuncId)(captured:Array Operand)(l:List AV)(k:OT cx Q ks all (aN f p (i+1)) (s.put (aQ f p i).dst (.fn g l)))(hl:aN f p i=aQ f p i::aN f p (i+1):=by kernel_rfl)(hg:ci all s (aQ f p i)=true:=by kernel_rfl)
  (hop:(aQ f p i).op=.makeFunc (.func g) #[] captured:=by kernel_rfl) (he:cN s captured.toList=some l:=by kernel_rfl) (hd:(cq cx.n (aQ f p i).dst&&dc [] l)=true:=by kernel_rfl):OT cx Q ks all (aN f p i) s:=by
 rw[hl];refine dC _ hg fun a w ι hs=>?_;refine wpList_plain rfl fun K hK=>?_;simp only[Bool.and_eq_true]at hd;obtain⟨q1,q2⟩:=ij hs he;have h3:Rel (NN cx.M ι) w ι (.fn g l) (.func (.func g) #[] (captured.map a.eval)):=by
  have h4:=Rel.fn (N:=NN cx.M ι) (w:=w) ι g l (captured.map a.eval).toList (by simp at q1⊢;omega) (fun i c y h1 h2=>(q2 i c y h1 (by simpa using h2)).pure (iz hd.2 i c h1) bD);rw[Array.toArray_toList]at h4;exact h4
 unfold Oper.wp execOp;simp only[hop,Instr.makeFunc,Sem.run_bind,Sem.run_pure,Result.andThen_ok,Array.map_empty];exact hK _ _ (k _ _ _ (hs.put (ep hd.1) h3))
end
def AN(s:AS):AV→Option AV
 | .ref i=>match look i s.r,Nat.ble (i+1) TG with|some ar,true=>some (.sl ar.l)|_,_=>none
 | v=>match v.cK [] with|true=>some (eg v)|false=>none
def m6(s:AS):List AV→Option (List AV)
 | []=>some []
 | v::r=>match AN s v,m6 s r with|some x,some l=>some (x::l)|_,_=>none
theorem Ir{s:AS}:∀{l m:List AV},m6 s l=some m→m.length=l.length
 | [],m,h=>by injection h with h;subst h;rfl
 | v::r,m,h=>by
  unfold m6 at h;split at h
  ·rename_i x l' h1 h2;injection h with h;subst h;simp[Ir h2]
  ·cases h
theorem Jq{s:AS}:∀{l m:List AV},m6 s l=some m→∀(i:Nat) (a:AV),m[i]?=some a→∃b,l[i]?=some b∧AN s b=some a
 | [],m,h,i,a,ha=>by injection h with h;subst h;simp at ha
 | v::r,m,h,i,a,ha=>by
  unfold m6 at h;split at h
  ·rename_i x l' h1 h2;injection h with h;subst h
   cases i with
   | zero=>exact⟨v,rfl,by simpa using ha ▸ h1⟩
   | succ i=>simpa using Jq h2 i a (by simpa using ha)
  ·cases h
def Kp(s:AS)(o:Oper):Option (FuncId×List AV) :=
 match o.op with
 | .call c=>match c.callee with
  | .value fo=>match s.ev fo,cN s c.args.toList with
   | some (.fn f aK),some l=>match m6 s l with
    | some l'=>some (f,l'++aK)
    | none=>none
   | _,_=>none
  | _=>none
 | _=>none
section
variable{cx:Cx}{Q:Exit→Act→World→Prop}{ks:List ao}{s:AS}{all:Array Oper}{f:Func}{p:List Nat}{i:Nat}
theorem Ig{g:FuncId}{args:List AV}{V:AV}(hc:aW cx.P g args (fun v _=>v=V))(k:OT cx Q ks all (aN f p (i+1)) (s.put (aQ f p i).dst V))
  (hl:aN f p i=aQ f p i::aN f p (i+1):=by kernel_rfl) (hg:ci all s (aQ f p i)=true:=by kernel_rfl) (hcl:co cx.P g=true:=by kernel_rfl) (h1:Kp s (aQ f p i)=some (g,args):=by kernel_rfl)
  (hd:(cq cx.n (aQ f p i).dst&&V.Fu)=true:=by kernel_rfl):OT cx Q ks all (aN f p i) s:=by
 rw[hl];refine dC _ hg fun a w ι hs=>?_;refine wpList_plain rfl fun K hK=>?_;simp only[Bool.and_eq_true]at hd;unfold Kp at h1;split at h1
 case h_2=>cases h1
 rename_i c hop;split at h1
 case h_2=>cases h1
 rename_i fo hcal;split at h1
 case h_2=>cases h1
 rename_i f' aK l hf hl';split at h1
 case h_2=>cases h1
 rename_i l' hio;injection h1 with h1;injection h1 with e1 e2;subst e1;subst e2
 obtain⟨q1,q2⟩:=ij hs hl';unfold Oper.wp;obtain⟨ys,hrc,hc1,hc2⟩:=gE (o:={ aQ f p i with guard:=none }) hs hop hcal hf hcl;rw[hrc,Oper.upon_enter];have hlen:=Ir hio;have hlc:l'.length=(c.args.map a.eval).size:=by rw[hlen,q1];simp
 refine (hc (fun _=>False) w _ (fun b hb=>hb.elim) ⟨by simp at hlc⊢;omega,fun i v y hv hy=>?_⟩).mono ?_
 ·by_cases hi:i<l'.length
  ·rw[List.getElem?_append_left hi]at hv;rw[Array.getElem?_append_left (by rw[←hlc];exact hi)]at hy;obtain⟨b,hb,hba⟩:=Jq hio i v hv;have hy':(c.args.toList.map a.eval)[i]?=some y:=by rw[←Array.getElem?_toList,Array.toList_map]at hy;exact hy
   have hr:=q2 i b y hb hy';unfold AN at hba;split at hba
   ·rename_i id;split at hba
    ·rename_i ar har htg;injection hba with hba;subst hba
     cases hr with
     | ref _ _ A n c h=>exact(hs.hs.mf (Nat.le_of_ble_eq_true htg) har A n c h bD).mono (Nat.le_refl _) (fun _ _ h=>h.elim) (fun _ _ _=>rfl) (fun _ _ h=>h)
    ·cases hba
   ·split at hba
    ·rename_i hp;injection hba with hba;subst hba
     exact qb ((hr.pure hp bD).mono (Nat.le_refl _) (fun _ _ h=>h.elim) (fun _ _ _=>rfl) (fun _ _ h=>h))
    ·cases hba
  ·rw[List.getElem?_append_right (by omega)]at hv;rw[Array.getElem?_append_right (by rw[←hlc];omega)]at hy;rw[hlc]at hv;exact(hc2 _ v y hv (by simpa using hy)).mono (Nat.le_refl _) (fun _ _ h=>h.elim) (fun _ _ _=>rfl) (fun _ _ h=>h)
 ·rintro e w' ⟨x,v,s1,ι1,rfl,rfl,hhs,hr⟩
  exact hK _ _ (k _ _ _ ((hs.iZ hhs.below.plain).put (ep hd.1) (FS hd.2 hr)))
end
abbrev iI(x:Int):AV:=.int .i64 x
abbrev gD{α:Type}[Inhabited α](L:List α)(i:Int):α:=List.getD L i.toNat default
def pO(b:Nat→Bool):Nat→Nat→Bool
 | _,0=>true
 | lo,k+1=>b lo&&pO b (lo+1) k
theorem Br{b:Nat→Bool}:∀{lo k:Nat},pO b lo k=true→de lo k fun j=>b j=true
 | _,0,_=>trivial
 | lo,k+1,h=>by
  unfold pO at h;rw[Bool.and_eq_true]at h;exact⟨h.1,Br h.2⟩
theorem ay{P:Program}{n:Nat}{s0:AS}{all:Array Oper}{K:Nat}{σs:List AS}{o:Oper}(lo k:Nat)(hg:o.guard.isSome=true:=by kernel_rfl)(h:pO (fun j=>xf all (nth σs j) o) lo k=true:=by kernel_rfl)
  (h2:pO (fun j=>(match o.dst with|some d=>(match look d (nth σs j).t with|none=>true|some (.tup [])=>Nat.ble (d+1) n|_=>false)|none=>true)) 0 (K+1)=true:=by kernel_rfl):dT P n s0 all K σs o (.off lo k):=TY hg (Br h) (Br h2)
def vz(n:Nat):List Tag:=List.replicate n (.v 0 1)
theorem cm{P:Program}{n:Nat}{s0:AS}{all:Array Oper}{K:Nat}{σs:List AS}{o:Oper}(lo d:Nat){e b:Bool}(he:e=b)(hg:ci all (nth σs lo) o=true:=by kernel_rfl)(h:bT P n (nth σs lo) o=some ((nth σs lo).put (some d) (.bool e)):=by kernel_rfl)(hp:(nth σs lo).put (some d) (.bool b)=nth σs lo:=by kernel_rfl):
  dT P n s0 all K σs o (.v lo 1):=dm (cu ⟨hg,VL d he h hp⟩ dp)
def nu:Nat→List AV→List (Nat×AV)
 | _,[]=>[]
 | k,x::l=>(k,x)::nu (k+1) l
abbrev lm{α β:Type}(f:α→β)(l:List α):List β:=List.map f l
theorem bB{P:Program}{f:FuncId}{fn:Func}{args:List AV}{Q:AV→AS→Prop}{n:Nat}(c:Code)(hf:P.funcs[f]?=some fn)(hn:fn.ntmps=n)(h:∀M w0,VE ⟨P,n,M,w0⟩ (bodyPost P fn (bC M w0 Q)) [.c c] .normal ⟨idxs 0 args,[],[],[]⟩)
  (hb:fn.body=some c:=by kernel_rfl) (hl:decide (args.length≤n)=true:=by kernel_rfl):aW P f args Q:=RN hf hb n hn (of_decide_eq_true hl) h
theorem ba{cx:Cx}{Q:Exit→Act→World→Prop}{ks:List ao}{e:Exit}{s:AS}(s':AS)(h:VE cx Q ks e s')(hs:s=s':=by kernel_rfl):VE cx Q ks e s:=hs ▸ h
theorem bO{P:Program}{n:Nat}{s:AS}{o:Oper}{α:Type}[Inhabited α](id sz:Nat)(enc:α→List AV){L:List α}{i:Int}{m:Nat}(hb:aG i m=true)(hm:L.length=m:=by simp only[List.length_set])(h:z7 P n s o=some (id,sz,i,L.map enc):=by kernel_rfl):bT P n s o=some (s.put o.dst (.eptr id sz i.toNat 0)):=ca id sz enc (hm ▸ hb) h
theorem aR{P:Program}{n:Nat}{s0:AS}{all:Array Oper}{K:Nat}{σs:List AS}{f:Func}{p:List Nat}{i:Nat}{ts:List Tag}{s':AS}(h:bT P n (nth σs 0) (aQ f p i)=some s')(h2:dz P n s0 all K σs (aN f p (i+1)) ts)(he:s'=nth σs 0:=by kernel_rfl)(hg:ci all (nth σs 0) (aQ f p i)=true:=by kernel_rfl)
  (hl:aN f p i=aQ f p i::aN f p (i+1):=by kernel_rfl):dz P n s0 all K σs (aN f p i) (.v 0 1::ts):=ag (lA h he hg) h2 hl
def N3:Nat→Nat→List Nat→List Nat
 | 0,_,l=>l
 | k+1,x,l=>match Nat.ble x 1 with
  | true=>l
  | false=>N3 k (x / 2) (x % 2::l)
def pn(x:Nat):List Nat:=N3 90 x []
def wq(n q:Nat):Nat:=n*2 ^ q.log2+(q-2 ^ q.log2)
section
variable{cx:Cx}{Q:Exit→Act→World→Prop}{ks:List ao}{s:AS}{f:Func}{n:Nat}
abbrev cP(f:Func)(n:Nat):ao:=.c (cat f (pn n))
theorem av(a b k:Nat)(hk:VE cx Q (cP f (wq n a)::cP f (wq n b)::ks) .normal (eF cx.P cx.n k (cP f n::ks) .normal s))(h:eH cx.P cx.n k (cP f n::ks) .normal s=some (cP f (wq n a)::cP f (wq n b)::ks,.normal):=by kernel_rfl):VE cx Q (cP f n::ks) .normal s:=bM k hk h
theorem bd(a k:Nat)(hk:VE cx Q (cP f (wq n a)::ks) .normal (eF cx.P cx.n k (cP f n::ks) .normal s))(h:eH cx.P cx.n k (cP f n::ks) .normal s=some (cP f (wq n a)::ks,.normal):=by kernel_rfl):VE cx Q (cP f n::ks) .normal s:=bM k hk h
theorem cU(a b c d k:Nat)(hk:VE cx Q (cP f (wq n a)::cP f (wq n b) :: .b c::cP f (wq n d)::ks) .normal (eF cx.P cx.n k (cP f n::ks) .normal s))(h:eH cx.P cx.n k (cP f n::ks) .normal s=some (cP f (wq n a)::cP f (wq n b) :: .b c::cP f (wq n d)::ks,.normal):=by kernel_rfl):VE cx Q (cP f n::ks) .normal s:=bM k hk h
theorem bN(a b c k:Nat)(hk:VE cx Q (cP f (wq n a)::cP f (wq n b)::cP f (wq n c)::ks) .normal (eF cx.P cx.n k (cP f n::ks) .normal s))(h:eH cx.P cx.n k (cP f n::ks) .normal s=some (cP f (wq n a)::cP f (wq n b)::cP f (wq n c)::ks,.normal):=by kernel_rfl):VE cx Q (cP f n::ks) .normal s:=bM k hk h
theorem eU(a b c k:Nat)(hk:VE cx Q (cP f (wq n a) :: .b b::cP f (wq n c)::ks) .normal (eF cx.P cx.n k (cP f n::ks) .normal s))(h:eH cx.P cx.n k (cP f n::ks) .normal s=some (cP f (wq n a) :: .b b::cP f (wq n c)::ks,.normal):=by kernel_rfl):VE cx Q (cP f n::ks) .normal s:=bM k hk h
theorem eW(a b k:Nat)(hk:VE cx Q (cP f (wq n a) :: .b b::ks) .normal (eF cx.P cx.n k (cP f n::ks) .normal s))(h:eH cx.P cx.n k (cP f n::ks) .normal s=some (cP f (wq n a) :: .b b::ks,.normal):=by kernel_rfl):VE cx Q (cP f n::ks) .normal s:=bM k hk h
theorem KL{x0 x1 x2:ao}(a b c k:Nat)(hk:VE cx Q (cP f (wq n a)::cP f (wq n b)::cP f (wq n c)::ks) .normal (eF cx.P cx.n k (x0::x1::x2::cP f n::ks) .normal s))(h:eH cx.P cx.n k (x0::x1::x2::cP f n::ks) .normal s=some (cP f (wq n a)::cP f (wq n b)::cP f (wq n c)::ks,.normal):=by kernel_rfl):VE cx Q (x0::x1::x2::cP f n::ks) .normal s:=bM k hk h
theorem eI{x0 x1 x2 x3:ao}(a b k:Nat)(hk:VE cx Q (cP f (wq n a)::cP f (wq n b)::ks) .normal (eF cx.P cx.n k (x0::x1::x2::x3::cP f n::ks) .normal s))(h:eH cx.P cx.n k (x0::x1::x2::x3::cP f n::ks) .normal s=some (cP f (wq n a)::cP f (wq n b)::ks,.normal):=by kernel_rfl):VE cx Q (x0::x1::x2::x3::cP f n::ks) .normal s:=bM k hk h
theorem cr{x0:ao}(a b c d k:Nat)(hk:VE cx Q (cP f (wq n a)::cP f (wq n b) :: .b c::cP f (wq n d)::ks) .normal (eF cx.P cx.n k (x0::cP f n::ks) .normal s))(h:eH cx.P cx.n k (x0::cP f n::ks) .normal s=some (cP f (wq n a)::cP f (wq n b) :: .b c::cP f (wq n d)::ks,.normal):=by kernel_rfl):VE cx Q (x0::cP f n::ks) .normal s:=bM k hk h
theorem dQ{x0:ao}(a b k:Nat)(hk:VE cx Q (cP f (wq n a)::cP f (wq n b)::ks) .normal (eF cx.P cx.n k (x0::cP f n::ks) .normal s))(h:eH cx.P cx.n k (x0::cP f n::ks) .normal s=some (cP f (wq n a)::cP f (wq n b)::ks,.normal):=by kernel_rfl):VE cx Q (x0::cP f n::ks) .normal s:=bM k hk h
theorem lg{x0:ao}(a b c k:Nat)(hk:VE cx Q (cP f (wq n a) :: .b b::cP f (wq n c)::ks) .normal (eF cx.P cx.n k (x0::cP f n::ks) .normal s))(h:eH cx.P cx.n k (x0::cP f n::ks) .normal s=some (cP f (wq n a) :: .b b::cP f (wq n c)::ks,.normal):=by kernel_rfl):VE cx Q (x0::cP f n::ks) .normal s:=bM k hk h
theorem ju{x0:ao}(a b c k:Nat)(hk:VE cx Q (cP f (wq n a)::cP f (wq n b)::cP f (wq n c)::ks) .normal (eF cx.P cx.n k (x0::cP f n::ks) .normal s))(h:eH cx.P cx.n k (x0::cP f n::ks) .normal s=some (cP f (wq n a)::cP f (wq n b)::cP f (wq n c)::ks,.normal):=by kernel_rfl):VE cx Q (x0::cP f n::ks) .normal s:=bM k hk h
theorem mj{x0 x1 x2 x3:ao}(a b c k:Nat)(hk:VE cx Q (cP f (wq n a)::cP f (wq n b)::cP f (wq n c)::ks) .normal (eF cx.P cx.n k (x0::x1::x2::x3::cP f n::ks) .normal s))(h:eH cx.P cx.n k (x0::x1::x2::x3::cP f n::ks) .normal s=some (cP f (wq n a)::cP f (wq n b)::cP f (wq n c)::ks,.normal):=by kernel_rfl):VE cx Q (x0::x1::x2::x3::cP f n::ks) .normal s:=bM k hk h
end
end Go.Proofs.YtocgkfoifehcbaaGreat
