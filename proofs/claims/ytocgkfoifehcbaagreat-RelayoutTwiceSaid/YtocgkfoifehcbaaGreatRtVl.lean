/- Calls that are lent variables of the caller's and one slice of its own, and that give them back. No program in sight. -/
import Derived.Test.YtocgkfoifehcbaaGreatRtVn
namespace Go.Proofs.YtocgkfoifehcbaaGreat
set_option linter.all false
open Go.RowKit
def ak1:=@List.mem_iff_getElem?
def Az(ρ:hZ):AV→Option AV
 | .ptr id o=>match look id ρ with|some j=>some (.ptr j o)|none=>none
 | .ref id=>match look id ρ with|some j=>some (.ref j)|none=>none
 | v=>match v.di [] with|true=>some (gw v)|false=>none
def tQ(ρ:hZ):c6→Option c6
 | []=>some []
 | v::r=>match Az ρ v,tQ ρ r with|some x,some l=>some (x::l)|_,_=>none
def eu(ρ:hZ):AV→Option AV
 | .fno f cs=>match tQ ρ cs with|some l=>some (.fno f l)|none=>none
 | v=>Az ρ v
def fY(ρ:hZ):c6→Option c6
 | []=>some []
 | v::r=>match eu ρ v,fY ρ r with|some x,some l=>some (x::l)|_,_=>none
theorem M0{N N':Nat→Prop}{w:World}{ι a:Env}{ρ:hZ}{v v':AV}{x:Value}(h:Rel N w ι v x)(f:∀b,N' b→N b)(m:∀id j,look id ρ=some j→a j=ι id)(e:Az ρ v=some v'):Rel N' w a v' x:=by
 have k:∀{e:Env} {v:AV} {x:Value},Rel N w e v x→Rel N' w e v x:=fun h=>h.mono (lc _) (fun b _ i=>f b i) (fun _ _ _=>rfl) (fun _ _ h=>h);unfold Az at e;split at e
 ·rename_i id o;split at e
  ·rename_i j d;injection e with e;subst e
   cases h with
   | ptr _ _ _ g h=>exact .ptr _ _ _ g ((m _ _ d).trans h)
  ·cases e
 ·rename_i id;split at e
  ·rename_i j d;injection e with e;subst e
   cases h with
   | ref _ _ A n c h=>exact .ref _ _ A n c (by grind)
  grind
 ·split at e
  ·rename_i l;injection e with e;subst e
   exact Aq (k (h.pure l a))
  grind
theorem Sd{ρ}:∀{l l'},tQ ρ l=some l'→l'.length=l.length
 | [],l',h=>by injection h with h;grind
 | v::r,l',h=>by
  unfold tQ at h;split at h
  ·rename_i b a;injection h with h;subst h;simp[Sd a]
  grind
theorem T2{ρ}:∀{l l'},tQ ρ l=some l'→∀(i:Nat) a,l'[i]?=some a→∃b,l[i]?=some b∧Az ρ b=some a
 | [],l',h,i,a,c=>by injection h with h;grind
 | v::r,l',h,i,a,c=>by
  unfold tQ at h;split at h
  ·rename_i e d;injection h with h;subst h
   cases i with
   | zero=>grind
   | succ i=>exact T2 d i a c
  grind
theorem sM{ρ}:∀{l l'},fY ρ l=some l'→l'.length=l.length
 | [],l',h=>by injection h with h;grind
 | v::r,l',h=>by
  unfold fY at h;split at h
  ·rename_i b a;injection h with h;subst h;simp[sM a]
  grind
theorem uR{ρ}:∀{l l'},fY ρ l=some l'→∀(i:Nat) a,l'[i]?=some a→∃b,l[i]?=some b∧eu ρ b=some a
 | [],l',h,i,a,c=>by injection h with h;grind
 | v::r,l',h,i,a,c=>by
  unfold fY at h;split at h
  ·rename_i e d;injection h with h;subst h
   cases i with
   | zero=>grind
   | succ i=>exact uR d i a c
  grind
theorem AN{N N':Nat→Prop}{w:World}{ι a:Env}{ρ:hZ}{v v':AV}{x:Value}(h:Rel N w ι v x)(g:∀b,N' b→N b)(m:∀id j,look id ρ=some j→a j=ι id)(e:eu ρ v=some v'):Rel N' w a v' x:=by
 unfold eu at e;split at e
 ·split at e
  ·injection e with e;subst e
   cases h with
   | fno _ _ _ f d l =>
    refine .fno _ _ _ f (by grind[Sd]) (fun i c y k d=>?_)
    grind[T2,M0]
  grind
 grind[M0]
theorem Cells.rn{N N'}{w}{ι d}{ρ}{cs a}{vs}(h:Cells N w ι cs vs)(f:∀b,N' b→N b)(m:∀id j,look id ρ=some j→d j=ι id)(e:fY ρ cs=some a):Cells N' w d a vs :=
 ⟨by rw[sM e];exact h.len,h.one,fun i x v l k=>by
  obtain⟨b,g,c⟩:=uR e i x l;exact AN (h.rel i b v g k) f m c⟩
def Ca(l:hZ)(k v:Nat):Bool:=match look k l with|some x=>Nat.beq x v|none=>false
theorem pd{l}{k v}(h:Ca l k v=true):look k l=some v:=by
 unfold Ca at h;split at h
 ·simp_all
 grind
theorem kn{α}{k}{v:α}:∀{l},look k l=some v→(k,v)∈l
 | [],h=>by cases h
 | (j,x)::r,h=>by
  simp only[look]at h;split at h
  ·grind
  ·exact pt _ (kn h)
def pi(a b:Nat):Bool:=match Nat.ble 450000 a,Nat.ble 450000 b with
 | false,false=>true
 | true,true=>Nat.beq ((a-450000) % 1000) ((b-450000) % 1000)
 | _,_=>false
theorem Ib{a b T}(h:pi a b=true)(d:a<TG)(t:tyName a T):tyName b T:=fun c f=>by
 unfold pi at h;split at h
 ·have:=akg c;grind
 ·rename_i e g;rw[t (j3 e) d];simp_all
 grind
theorem ahO{a b}(h:pi a b=true):pi b a=true:=by
 unfold pi at h⊢;split at h
 ·grind
 ·rename_i c d;rw[c,d];simp_all
 grind
def gO(ρ a:hZ):Bool:=(ρ.all fun p=>Ca a p.2 p.1&&(Nat.ble (p.1+1) TG&&Nat.ble (p.2+1) TG))&&a.all fun p=>Ca ρ p.2 p.1&&pi p.1 p.2
theorem fb{ρ a}(h:gO ρ a=true){id j}(e:look id ρ=some j):look j a=some id∧id<TG∧j<TG:=by
 simp only[gO,iO,n5]at h;have:=h.1 _ (kn e);exact⟨pd this.1,j3 this.2.1,j3 this.2.2⟩
theorem fK{ρ a}(h:gO ρ a=true){id j}(e:look j a=some id):look id ρ=some j:=by
 simp only[gO,iO,n5]at h;exact pd (h.2 _ (kn e)).1
theorem GI{ρ a}(h:gO ρ a=true){id j}(e:look j a=some id):pi j id=true:=by
 simp only[gO,iO,n5]at h;exact(h.2 _ (kn e)).2
def cn(a:hZ)(ι:Env):Env:=fun j=>match look j a with|some id=>ι id|none=>none
theorem jU{a}{ι}{j}{y}(h:cn a ι j=some y):∃id,look j a=some id∧ι id=some y:=by
 grind[cn]
theorem kR{a}{ι}{j id}(h:look j a=some id):cn a ι j=ι id:=by grind[cn]
def fP(ρ:hZ)(o:iF):hZ→Option iF
 | []=>some []
 | (id,j)::r=>match look id o,fP ρ o r with
  | some cs,some l=>match fY ρ cs with
   | some c=>some ((j,c)::l)
   | none=>none
  | _,_=>none
theorem Dv{ρ:hZ}{o:iF}:∀{l:hZ} {O:iF},fP ρ o l=some O→∀{j:Nat} {c:c6},look j O=some c→∃id cs,(id,j)∈l∧look id o=some cs∧fY ρ cs=some c
 | [],O,h,j,c,a=>by injection h with h;subst h;cases a
 | (id,k)::r,O,h,j,c,a=>by
  unfold fP at h;split at h
  case h_2=>cases h
  rename_i cs l b f;split at h
  case h_2=>cases h
  rename_i c0 g;injection h with h;subst h
  simp only[look]at a;split at a
  ·rename_i e;subst e;injection a with a;subst a
   exact⟨id,cs,ti,b,g⟩
  ·obtain⟨i,d,m,n⟩:=Dv f a;exact⟨i,d,pt _ m,n⟩
def lR(w:World)(a:Env)(O:iF):aC:=⟨w,fun b=>∃i,br (a i)=some b,fun j=>match look j O with|some _=>a j|none=>none⟩
def jE(P:Program)(f:FuncId)(b:c6)(O:iF)(d:Nat)(ar:cg)(U:ed)(Q:AV→AS→Prop):Prop :=
 ∀M w c xs,HS M (lR w c O) w c ⟨[],O,[(d,ar)],U⟩→b.length=xs.size→(∀(i:Nat) a x,b[i]?=some a→xs[i]?=some x→Rel (NN M c) w c a x)→Calls P f xs w (bP M (lR w c O) Q)
theorem mZ{P:Program}{f:FuncId}{i:Func}{c:Code}{b:c6}{O:iF}{m:Nat}{ar:cg}{U:ed}{Q:AV→AS→Prop}(r:P.funcs[f]?=some i)(q:i.body=some c)(n:Nat)(x:i.ntmps=n)(u:b.length≤n)
  (h:∀M o,VE ⟨P,n,M,o⟩ (bodyPost P i (bP M o Q)) [.c c] .normal ⟨idxs 0 b,O,[(m,ar)],U⟩):jE P f b O m ar U Q:=by
 intro M w p xs d l t;refine alg r q ?_;refine amd (h M (lR w p O) { tmps:=xs++Array.replicate (i.ntmps-xs.size) undef,defers:=[] } w p ?_) (fun e a w' s=>?_)
 ·refine⟨⟨d.below,d.old,d.use,d.own,d.inj,d.ko,d.kr,d.objs,d.arrs,d.pin⟩,rfl,?_,fun k v j=>?_⟩
  ·simp;omega
  ·rw[rx,ll (v9 _),akm]at j;have g:k<xs.size:=by rw[←l];exact(jt.1 j).1
   refine⟨xs[k],?_,t k v _ j (la g)⟩;simp only[];rw[Dz g,la g]
 ·cases e<;>exact s
def zN(U:ed)(b:hZ)(a:Nat):Bool:=U.contains a&&b.all fun p=>U.contains p.2&&U.contains (de p.2)
theorem HS.Fa{M:Nat→Prop}{w0:aC}{w:World}{ι:Env}{s:AS}(h:HS M w0 w ι s){J ρ d:hZ}{o I:Nat}{ar:cg}{O:iF}{U:ed}(P:ρ=(o,I)::J)(n:gO ρ d=true)(hO:fP ρ s.o J=some O)(hr:look o s.r=some ar)(F:zN U J I=true):
  HS (fun b=>NN M ι b∧∀i,br (cn d ι i)≠some b) (lR w (cn d ι) O) w (cn d ι) ⟨[],O,[(I,ar)],U⟩:=by
 have S:∀b,NN (fun b=>NN M ι b∧∀i,br (cn d ι i)≠some b) (cn d ι) b→NN M ι b:=fun b f=>by
  rcases f with f|⟨j,f⟩
  ·exact f.1
  ·cases m:cn d ι j with
   | none=>rw[m]at f;cases f
   | some y=>obtain⟨id,_,A⟩:=jU m;exact .inr ⟨id,by rw[A];rw[m]at f;exact f⟩
 have hι:∀id j,look id ρ=some j→cn d ι j=ι id:=fun id j e=>kR (fb n e).1;have H:look o ρ=some I:=by rw[P];simp[look]
 have C:∀j id,look j d=some id→U.contains j=true:=fun j id e=>by
  have:=kn (fK n e);rw[P]at this;simp only[zN,iO,n5]at F;rcases ol.1 this with z|z
  ·injection z with R W;rw[W];exact F.1
  ·exact(F.2 _ z).1
 have B:∀{j c},look j O=some c→∃id cs,look j d=some id∧(id,j)∈J∧look id s.o=some cs∧fY ρ cs=some c:=fun {j c} l=>by
  obtain⟨id,cs,V,q2,q3⟩:=Dv hO l;refine⟨id,cs,?_,V,q2,q3⟩;simp only[gO,iO,n5]at n;exact pd (n.1 (id,j) (by rw[P];exact pt _ V)).1
 refine⟨⟨rfl,rfl,rfl,lc _,fun _ _ _=>rfl⟩,fun b f=>⟨lx h f.1,fun⟨i,hi⟩=>f.2 i hi⟩,fun j y hy=>?_,fun j g r=>?_,fun j j' g r t=>?_,fun j c l=>?_,fun j a p=>?_,fun j c l G=>?_,fun j a p G=>?_,fun j v hv=>?_⟩
 ·obtain⟨id,k,_⟩:=jU hy;exact fq (C j id k)
 ·cases m:cn d ι j with
  | none=>rw[m]at r;cases r
  | some y =>
   obtain⟨id,k,A⟩:=jU m;refine⟨.inr ⟨j,r⟩,(h.own id g ?_).2⟩;rw[m]at r;rw[A];exact r
 ·cases m:cn d ι j with
  | none=>rw[m]at r;cases r
  | some y =>
   cases D:cn d ι j' with
   | none=>rw[D]at t;cases t
   | some y' =>
    obtain⟨id,k,A⟩:=jU m;obtain⟨Q,K,L⟩:=jU D;have:=h.inj id Q g (by rw[m]at r;rw[A];exact r) (by rw[D]at t;rw[L];exact t);subst this;have E:=fK n k;have z:=fK n K;rw[E]at z;injection z
 ·obtain⟨id,cs,k,_⟩:=B l;exact fq (C j id k)
 ·simp only[look]at p;split at p
  ·rename_i e;subst e;exact fq (C _ o (fb n H).1)
  ·cases p
 ·obtain⟨id,cs,k,_,A,h3⟩:=B l;rw[kR k]at G⊢;obtain⟨g,T,vs,E,z,R⟩:=h.objs id cs A G;exact⟨g,⟨T.1,Ib (ahO (GI n k)) (fb n (fK n k)).2.1 T.2⟩,vs,E,z,R.rn S hι h3⟩
 ·simp only[look]at p;split at p
  ·rename_i e;subst e;injection p with p;subst p
   have E:=fb n H;rw[kR E.1]at G⊢;obtain⟨v,xs,X,Y,Z,g4,g5⟩:=h.arrs o ar hr G;refine⟨v,xs,X,Y,Z,g4,fun q e hq i c l=>?_⟩;obtain⟨x,hx,N⟩:=g5 q e hq i c l;exact⟨x,hx,.inl ((N.flat (by omega)).mono (lc _) (fun b _ f=>S b f) (fun _ _ _=>rfl) (fun _ _ h=>h))⟩
  ·cases p
 ·have u:(match look j O with|some _=>cn d ι j|none=>none)=some v:=hv;cases l:look j O with
  | none=>rw[l]at u;cases u
  | some c =>
   rw[l]at u;obtain⟨id,cs,_,k,_⟩:=B l;simp only[zN,iO,n5]at F;exact⟨u,(F.2 _ k).2⟩
def cB(o:iF):iF→Prop
 | []=>True
 | (j,c)::r=>look j o=some c∧cB o r
theorem IY{o}:∀{a},cB o a→∀{j} {c},look j a=some c→look j o=some c
 | [],_,j,c,h=>by cases h
 | (i,d)::r,b,j,c,h=>by
  simp only[look]at h;split at h
  ·rename_i e;subst e;injection h with h;subst h;exact b.1
  ·exact IY b.2 h
def d7(b:hZ)(a:iF):hZ→Option iF
 | []=>some []
 | (id,j)::r=>match look j a,d7 b a r with
  | some c,some l=>match fY b c with
   | some d=>some ((id,d)::l)
   | none=>none
  | _,_=>none
theorem xh{g:hZ}{f:iF}:∀{l:hZ} {b:iF},d7 g f l=some b→∀{id:Nat} {c:c6},look id b=some c→∃j d,(id,j)∈l∧look j f=some d∧fY g d=some c
 | [],b,h,id,c,a=>by injection h with h;subst h;cases a
 | (i,j)::r,b,h,id,c,a=>by
  unfold d7 at h;split at h
  case h_2=>cases h
  rename_i d l k m;split at h
  case h_2=>cases h
  rename_i c0 n;injection h with h;subst h
  simp only[look]at a;split at a
  ·rename_i e;subst e;injection a with a;subst a
   exact⟨j,d,ti,k,n⟩
  ·obtain⟨q,e,o,p⟩:=xh m a;exact⟨q,e,pt _ o,p⟩
theorem Jg{g}{c}:∀{l} {a},d7 g c l=some a→∀{id j},(id,j)∈l→look id a≠none
 | [],a,h,id,j,b=>by grind
 | (i,q)::r,a,h,id,j,b=>by
  unfold d7 at h;split at h
  case h_2=>grind
  rename_i d l k f;split at h
  case h_2=>grind
  rename_i c0 m;injection h with h;subst h
  simp only[look];split
  ·grind
  ·rcases ol.1 b with e|e
   ·grind
   ·exact Jg f e
theorem Al{ρ}{o}:∀{l} {O},fP ρ o l=some O→∀{id j},(id,j)∈l→∃c,look j O=some c
 | [],O,h,id,j,a=>by grind
 | (i,q)::r,O,h,id,j,a=>by
  unfold fP at h;split at h
  case h_2=>grind
  rename_i cs l d b;split at h
  case h_2=>grind
  rename_i c0 f;injection h with h;subst h
  simp only[look];split
  ·grind
  ·rcases ol.1 a with e|e
   ·grind
   ·exact Al b e
def Ar:iF→iF→iF
 | [],o=>o
 | (k,v)::r,o=>bi k v (Ar r o)
theorem yn{o}:∀{l} {i} {c},look i (Ar l o)=some c→look i l=some c∨(look i l=none∧look i o=some c)
 | [],i,c,h=>.inr ⟨rfl,h⟩
 | (k,v)::r,i,c,h=>by
  simp only[Ar,cq,look]at h⊢;split at h
  ·grind
  ·rename_i e;rw[kc e];exact yn h
def jV(a:Nat)(b:cg)(c:iF)(s:AS):AS:=⟨dA a s.t,Ar c (eN a s.o),bi a b s.r,s.u⟩
def cJ(ι c:Env)(a b:Nat):Env:=fun i=>if i=a then c b else ι i
theorem HS.Q0{M:Nat→Prop}{w0:aC}{w w':World}{ι C:Env}{s s1:AS}(h:HS M w0 w ι s){ρo ρ G:hZ}{f z:Nat}{ar Q:cg}{O O1 o2:iF}(hρ:ρ=(f,z)::ρo)(N:gO ρ G=true)(hO:fP ρ s.o ρo=some O)(hr:look f s.r=some ar)
  (k0:s.u.contains (de f)=false) (o0:look f s.o=none) (l0:∀p∈ρo,look p.1 s.r=none) (h0:∀p∈ρo,∃y,cn G ι p.2=some y)
  (L:HS (fun b=>NN M ι b∧∀i,br (cn G ι i)≠some b) (lR w (cn G ι) O) w' C s1) (g0:cB s1.o O1) (m0:look z s1.r=some Q) (l:d7 G O1 ρo=some o2) :
  HS M w0 w' (cJ ι C f z) (jV f Q o2 s)∧(∀{v:AV} {x:Value},Rel (NN M ι) w ι v x→Rel (NN M (cJ ι C f z)) w' (cJ ι C f z) (v.cS f) x) ∧
   (∀{v v':AV} {x:Value},Rel (NN (fun b=>NN M ι b∧∀i,br (cn G ι i)≠some b) C) w' C v x→eu G v=some v'→Rel (NN M (cJ ι C f z)) w' (cJ ι C f z) v' x):=by
 have X:look f ρ=some z:=by rw[hρ];simp[look]
 have f1:∀id j,(id,j)∈ρo→C j=ι id∧look j G=some id:=fun id j hm=>by
  have E:look j G=some id:=by
   have e0:=N;simp only[gO,iO,n5]at e0;exact pd (e0.1 (id,j) (by rw[hρ];exact pt _ hm)).1
  obtain⟨y,hy⟩:=h0 _ hm;obtain⟨c,hc⟩:=Al hO hm;have H:=(L.pin j y (by show(match look j O with|some _=>cn G ι j|none=>none)=some y;rw[hc];exact hy)).1;refine⟨?_,E⟩;rw[H,← kR (ι:=ι) E];exact hy.symm
 have f2:∀j id,look j G=some id→cJ ι C f z id=C j:=fun j id e=>by
  have t:=fK N e;unfold cJ;by_cases n:id=f
  ·subst n;rw[ll rfl];rw[X]at t;injection t with t;rw[t]
  ·rw[kc n];have:=kn t;rw[hρ]at this;rcases ol.1 this with I|I
   ·injection I with V e5;exact absurd V n
   ·exact(f1 id j I).1.symm
 have m:∀{q b},br (cn G ι q)=some b→∃id,look q G=some id∧br (ι id)=some b:=fun {q b} P=>by
  cases he:cn G ι q with
  | none=>rw[he]at P;cases P
  | some y=>obtain⟨id,E,t⟩:=jU he;exact⟨id,E,by rw[t];rw[he]at P;exact P⟩
 have Y:w.heap.size≤w'.heap.size:=L.below.size;have b8:∀b,b<w.heap.size→(∀i,br (cn G ι i)≠some b)→w'.heap[b]?=w.heap[b]?:=fun b R l=>L.below.block b R (fun⟨i,F⟩=>l i F);have S:∀b,b<w.heap.size→¬ NN M ι b→w'.heap[b]?=w.heap[b]?:=fun b R l=>b8 b R (fun i F=>by
  obtain⟨id,_,e⟩:=m F;exact l (.inr ⟨id,e⟩))
 have a0:∀b,NN M (cJ ι C f z) b→NN (fun b=>NN M ι b∧∀i,br (cn G ι i)≠some b) C b:=fun b l=>by
  rcases l with l|⟨id,l⟩
  ·exact .inl ⟨.inl l,fun i F=>by obtain⟨id,_,e⟩:=m F;exact h.sep l e⟩
  ·unfold cJ at l;by_cases n:id=f
   ·rw[ll n]at l;exact .inr ⟨z,l⟩
   ·rw[kc n]at l;by_cases hl:∃i,br (cn G ι i)=some b
    ·obtain⟨q,P⟩:=hl;obtain⟨K,E,t⟩:=m P;have:=h.inj K id b t l;subst this;have:=f2 q K E;unfold cJ at this;rw[kc n]at this;exact .inr ⟨q,by rw[←this];exact l⟩
    ·exact .inl ⟨.inr ⟨id,l⟩,fun i F=>hl ⟨i,F⟩⟩
 have d0:∀b,b<w.heap.size→NN M (cJ ι C f z) b→NN M ι b:=fun b R l=>by
  rcases l with l|⟨id,l⟩
  ·exact .inl l
  ·unfold cJ at l;by_cases n:id=f
   ·rw[ll n]at l;rcases (L.own z b l).1 with e|⟨q,e⟩
    ·exact absurd R (akf.2 e)
    ·obtain⟨K,_,t⟩:=m e;exact .inr ⟨K,t⟩
   ·rw[kc n]at l;exact .inr ⟨id,l⟩
 have T:∀{v:AV} {x:Value},Rel (NN M ι) w ι v x→Rel (NN M (cJ ι C f z)) w' (cJ ι C f z) (v.cS f) x:=fun hv =>
  (hv.mono Y d0 S (fun _ _ h=>h)).cS (fun i F=>kc F)
 have np:w0.pv f=none:=h.np k0;refine⟨⟨?_,h.old,fun i y hy=>?_,fun i g D=>?_,fun i U g D B=>?_,fun i c F=>?_,fun i a F=>?_,fun i c F H=>?_,fun i a F H=>?_,fun i v H=>?_⟩,T,fun hv e=>AN hv a0 (fun j id e=>f2 j id e) e⟩
 ·refine h.below.trans ⟨L.below.os,L.below.tape,L.below.output,Y,fun k hk hG=>b8 k (wl hk h.below.size) (fun i F=>?_)⟩;obtain⟨id,_,e⟩:=m F;rcases (h.own id k e).1 with h9|h9
  ·exact absurd hk (akf.2 h9)
  ·exact hG h9
 ·unfold cJ at hy;by_cases n:i=f
  ·subst n;exact h.kr i ar hr
  ·rw[kc n]at hy;exact h.use i y hy
 ·unfold cJ at D;by_cases n:i=f
  ·rw[ll n]at D;obtain⟨A,Z⟩:=L.own z g D;refine⟨?_,Z⟩;rcases A with A|⟨q,A⟩
   ·exact .inl (aaN h.below.size A)
   ·obtain⟨id,_,e⟩:=m A;exact(h.own id g e).1
  ·rw[kc n]at D;exact⟨(h.own i g D).1,wl (h.own i g D).2 Y⟩
 ·have f0:∀U,U≠f→br (C z)=some g→br (ι U)=some g→False:=fun U o D B=>by
   rcases (L.own z g D).1 with A|⟨q,A⟩
   ·exact absurd (h.own U g B).2 (akf.2 A)
   ·obtain⟨id,E,t⟩:=m A;have:=h.inj id U g t B;subst this;have I:=f2 q id E;unfold cJ at I;rw[kc o]at I;have:=L.inj q z g (by rw[←I];exact t) D;subst this;have:=(fb N X).1;rw[E]at this;injection this with this;exact o this
  unfold cJ at D B;by_cases n:i=f
  ·by_cases J:U=f
   ·rw[n,J]
   ·rw[ll n]at D;rw[kc J]at B;exact(f0 U J D B).elim
  ·by_cases J:U=f
   ·rw[kc n]at D;rw[ll J]at B;exact(f0 i n B D).elim
   ·rw[kc n]at D;rw[kc J]at B;exact h.inj i U g D B
 ·rcases yn F with e|⟨_,e⟩
  ·obtain⟨j,d,A,_,_⟩:=xh l e;obtain⟨c0,i0⟩:=Al hO A;obtain⟨K,cs,p1,p2,p3⟩:=Dv hO i0;have E:=(f1 i j A).2;have t:=(f1 K j p1).2;rw[E]at t;injection t with t;subst t
   exact h.ko i cs p2
  ·obtain⟨u,hu,_⟩:=jF e;exact h.ko i u hu
 ·have o:look i (bi f Q s.r)=some a:=F;rw[cq]at o;split at o
  ·rename_i e;subst e;exact h.kr i ar hr
  ·exact h.kr i a o
 ·rcases yn F with e|⟨en,e⟩
  ·obtain⟨j,d,A,Z,q3⟩:=xh l e;have E:=f2 j i (f1 i j A).2;rw[E]at H⊢;obtain⟨g,T0,vs,r1,r2,r3⟩:=L.objs j d (IY g0 Z) H;have e9:=(f1 i j A).2;exact⟨g,⟨T0.1,Ib (GI N e9) (fb N (fK N e9)).2.2 T0.2⟩,vs,r1,r2,r3.rn a0 (fun j id e=>f2 j id e) q3⟩
  ·obtain⟨u,hu,rfl⟩:=jF e;have n:i≠f:=fun e=>by rw[e,o0]at hu;cases hu
   have E:cJ ι C f z i=ι i:=kc n;rw[E]at H⊢;obtain⟨g,T0,vs,r1,r2,r3⟩:=h.objs i u hu H;refine⟨g,T0,vs,r1,(b8 g (h.own i g (by rw[r1];rfl)).2 (fun q P=>?_)).trans r2,⟨by rw[lK];exact r3.len,r3.one,fun k x v hx hv=>?_⟩⟩
   ·obtain⟨id,t,I⟩:=m P;have:=h.inj id i g I (by rw[r1];rfl);subst this;have:=kn (fK N t);rw[hρ]at this;rcases ol.1 this with V|V
    ·injection V with e5 e6;exact n e5
    ·exact Jg l V en
   ·obtain⟨y,hy,rfl⟩:=ln hx;exact T (r3.rel k y v hy hv)
 ·have o:look i (bi f Q s.r)=some a:=F;rw[cq]at o;split at o
  ·rename_i e;subst e;injection o with o;subst o
   have E:cJ ι C i z i=C z:=ll rfl;rw[E]at H⊢;have p0:=(fb N X).2.2;obtain⟨v,xs,A,Z,q3,q4,q5⟩:=L.arrs z Q m0 H;refine⟨v,xs,A,Z,q3,q4,fun j e hj k c hk=>?_⟩;obtain⟨x,hx,b0⟩:=q5 j e hj k c hk;exact⟨x,hx,.inl ((b0.flat (by omega)).mono (lc _) (fun b _ l=>a0 b l) (fun _ _ _=>rfl) (fun _ _ h=>h))⟩
  ·rename_i n;have E:cJ ι C f z i=ι i:=kc n;rw[E]at H⊢;obtain⟨v,xs,A,Z,q3,q4,q5⟩:=h.arrs i a o H;have q0:=(fb N X).2.1;refine⟨v,xs,A,fO Z (fun g D=>b8 g (h.own i g (by rw[A];exact D)).2 (fun q P=>?_)),q3,q4,fun j e hj k c hk=>?_⟩
   ·obtain⟨id,t,I⟩:=m P;have:=h.inj id i g I (by rw[A];exact D);subst this;have:=kn (fK N t);rw[hρ]at this;rcases ol.1 this with V|V
    ·injection V with e5 e6;exact n e5
    ·have:=l0 _ V;rw[o]at this;cases this
   ·obtain⟨x,hx,b0⟩:=q5 j e hj k c hk;have nb:∀q:Nat,dW≤nm i q:=fun q=>ak5 _ _;have lb:TG<dW:=by decide
    refine⟨x,hx,b0.mono Y d0 S (fun r W=>?_) (fun r W=>b8 r (h.jJ W) (fun q P=>?_)) (fun h=>h)⟩
    ·exact(kc (fun e=>by have:=nb (j*a.sz+k);omega)).trans W
    ·obtain⟨id,t,I⟩:=m P;have:=h.inj id _ r I (by rw[W];rfl);have h9:=(fb N (fK N t)).2.1;have:=nb (j*a.sz+k);omega
 ·obtain⟨A,Z⟩:=h.pin i v H;refine⟨?_,Z⟩;have n:i≠f:=fun e=>by rw[e,np]at H;cases H
  exact(kc n).trans A
def cc:hZ→hZ
 | []=>[]
 | (a,b)::r=>(b,a)::cc r
def wZ(j:Nat):AV→Bool
 | .ptr i o=>Nat.beq i j&&Nat.beq o 0
 | _=>false
def yj(j:Nat):AV→Bool
 | .fno _ cs=>cs.any (wZ j)
 | v=>wZ j v
theorem UN{N}{w}{ι}{j}{v}{x}(h:wZ j v=true)(a:Rel N w ι v x):∃y,ι j=some y:=by
 unfold wZ at h;split at h
 ·rw[iO]at h;have:=n3 h.1;cases a with
  | ptr _ _ _ g h=>grind
 grind
theorem Vp{N:Nat→Prop}{w:World}{ι:Env}{j:Nat}{v:AV}{x:Value}(h:yj j v=true)(d:Rel N w ι v x):∃y,ι j=some y:=by
 cases d with
 | fno _ f cs i m d =>
  obtain⟨c,k,a⟩:=ahD.1 h;obtain⟨q,e⟩:=ak1.1 k;have b:q<i.length:=by rw[←m];exact(jt.1 e).1
  exact UN a (d q c i[q] e (kb b))
 | ptr _ id o g l=>exact UN (N:=N) (w:=w) (v:=.ptr id o) (by grind[yj]) (.ptr _ id o g l)
 | _=>grind[yj,wZ]
def CX(a:AV→AV)(s:AS)(o:Oper)(ρ:hZ):Option (FuncId×c6) :=
 match o.op with
 | .call c=>match c.callee with
  | .value d=>match s.ev d,dr s c.args.toList with
   | some (.fn f []),some l=>match fY ρ (l.map a) with
    | some l'=>some (f,l')
    | none=>none
   | some (.fno f cs),some l=>match fY ρ (l.map a),fY ρ cs with
    | some l',some b=>some (f,l'++b)
    | _,_=>none
   | _,_=>none
  | _=>none
 | _=>none
def Gj(s:AS)(a d:Nat)(c:hZ)(U:ed)(b:c6):Bool :=
 gO ((a,d)::c) (cc ((a,d)::c))&&(zN U c d&&((match s.u.contains (de a) with|true=>false|false=>true)&&((match look a s.o with|none=>true|some _=>false) &&
  ((c.all fun p=>match look p.1 s.r with|none=>true|some _=>false)&&c.all fun p=>b.any (yj p.2)))))
section
variable{d:Cx}{s:AS}{a:Act}{w:World}{ι:Env}
theorem V0(J:aV d s a w ι){F:AV→AV}(I:∀{v:AV} {x:Value},Rel (NN d.M ι) w ι v x→Rel (NN d.M ι) w ι (F v) x){o:Oper}{ρ:hZ}{g:FuncId}{j:c6}(h:CX F s o ρ=some (g,j))(y:cK d.P g=true):
  ∃xs:Array Value,(execOp a.eval o).run d.P w=.ok (.enter g xs) w∧j.length=xs.size∧∀(i:Nat) (v:AV) (x:Value),j[i]?=some v→xs[i]?=some x→∃u,eu ρ u=some v∧Rel (NN d.M ι) w ι u x:=by
 unfold CX at h;split at h
 case h_2=>cases h
 rename_i c A;split at h
 case h_2=>cases h
 rename_i Q m;have part:∀{l l':c6},dr s c.args.toList=some l→fY ρ (l.map F)=some l'→l'.length=(c.args.map a.eval).size∧∀(i:Nat) (v:AV) (x:Value),l'[i]?=some v→(c.args.map a.eval)[i]?=some x→∃u,eu ρ u=some v∧Rel (NN d.M ι) w ι u x:=fun {l l'} z e=>by
  obtain⟨S,T⟩:=li J z;refine⟨by rw[sM e];simp at S⊢;omega,fun i v x r q=>?_⟩;obtain⟨b,k,p⟩:=uR e i v r;rw[Dk]at k;cases n:l[i]? with
  | none=>rw[n]at k;cases k
  | some P =>
   rw[n]at k;injection k with k;subst k
   exact⟨_,p,I (T i P x n (by rw[←akd,ahk];exact q))⟩
 split at h
 ·rename_i f l H z;split at h
  case h_2=>cases h
  rename_i l' e;injection h with h;injection h with D E;subst D;subst E
  obtain⟨N,B,G,_⟩:=kT J A m H y;have L:N=[]:=ob (by simpa using G.symm);subst L;have K:c.args.map a.eval++([]:ee).toArray=c.args.map a.eval:=by simp
  rw[K]at B;obtain⟨p1,M⟩:=part z e;exact⟨_,B,p1,M⟩
 ·rename_i f cs l H z;split at h
  case h_2=>cases h
  rename_i l' U e t;injection h with h;injection h with D E;subst D;subst E
  obtain⟨p1,M⟩:=part z e;have C:=J.ev H;generalize R:a.eval Q=X at C;cases C with
  | fno _ _ _ N V C =>
   refine⟨c.args.map a.eval++N.toArray,?_,by simp at p1⊢;rw[sM t];omega,fun i v x r q=>?_⟩
   ·unfold execOp;simp only[A,resolve,m,R,Deferred.ofValue,u3,S2,u6,invoke];rw[Kf y];simp
   ·by_cases O:i<l'.length
    ·rw[Db O]at r;rw[Dz (by rw[←p1];exact O)]at q;exact M i v x r q
    ·rw[Dy (by omega)]at r;rw[akb (by rw[←p1];omega)]at q;rw[←p1]at q;obtain⟨b,k,p⟩:=uR t _ v r;exact⟨b,p,C _ b x k (by simpa using q)⟩
 grind
end
section
variable{c:Cx}{Q:Exit→Act→World→Prop}{l:dt}{s:AS}{d:Array Oper}{f:Func}{p:ed}{i:Nat}
theorem ah5{a:Act}{w:World}{ι:Env}(C:aV c s a w ι){fn:AV→AV}(S:∀{v:AV} {x:Value},Rel (NN c.M ι) w ι v x→Rel (NN c.M ι) w ι (fn v) x)(h n:Nat)(m:hZ){g:FuncId}{r:c6}{V1:AV}{O L:iF}{ar B:cg}{U:ed}(hc:jE c.P g r O n ar U (fun v s1=>v=V1∧cB s1.o L∧look n s1.r=some B))
  (k:OT c Q l d (aR f p (i+1)) ((jV h B ((d7 (cc ((h,n)::m)) L m).getD []) s).put (aW f p i).dst ((eu (cc ((h,n)::m)) V1).getD .any)))
  (P:cK c.P g=true) (h1:CX fn s (aW f p i) ((h,n)::m)=some (g,r))
  (hO:fP ((h,n)::m) s.o m=some O) (J:look h s.r=some ar) (z:(d7 (cc ((h,n)::m)) L m).isSome=true) (G:(eu (cc ((h,n)::m)) V1).isSome=true)
  (hd:cQ c.n (aW f p i).dst=true) (E:Gj s h n m U r=true):wpList c.P d (Kw c.P Q l) ({ aW f p i with guard:=none }::aR f p (i+1)) a w:=by
 refine abM rfl fun K hK=>?_;obtain⟨o2,D⟩:=yk.1 z;obtain⟨V2,H⟩:=yk.1 G;rw[D,H]at k;simp only[RX]at k;simp only[Gj,iO]at E;obtain⟨k1,k2,k3,k4,k5,k6⟩:=E;have W:s.u.contains (de h)=false:=by
  cases A:s.u.contains (de h) with
  | true=>rw[A]at k3;cases k3
  | false=>rfl
 have c0:look h s.o=none:=by
  cases A:look h s.o with
  | some _=>rw[A]at k4;cases k4
  | none=>rfl
 have X:∀p∈m,look p.1 s.r=none:=fun p Y=>by
  have:=n5.1 k5 p Y;cases A:look p.1 s.r with
  | some _=>rw[A]at this;cases this
  | none=>rfl
 unfold Oper.wp;obtain⟨xs,a0,I,e0⟩:=V0 (o:={ aW f p i with guard:=none }) C S h1 P;rw[a0,ahH];have hN:∀b,NN (fun b=>NN c.M ι b∧∀i,br (cn (cc ((h,n)::m)) ι i)≠some b) (cn (cc ((h,n)::m)) ι) b→NN c.M ι b:=fun b z=>by
  rcases z with z|⟨j,z⟩
  ·exact z.1
  ·cases R:cn (cc ((h,n)::m)) ι j with
   | none=>rw[R]at z;cases z
   | some y=>obtain⟨id,_,h2⟩:=jU R;exact .inr ⟨id,by rw[h2];rw[R]at z;exact z⟩
 have t:∀(i:Nat) (a:AV) (x:Value),r[i]?=some a→xs[i]?=some x→Rel (NN (fun b=>NN c.M ι b∧∀i,br (cn (cc ((h,n)::m)) ι i)≠some b) (cn (cc ((h,n)::m)) ι)) w (cn (cc ((h,n)::m)) ι) a x:=fun i v x G hx=>by
  obtain⟨u,q1,q2⟩:=e0 i v x G hx;exact AN q2 hN (fun id j e=>kR (fb k1 e).1) q1
 have N:∀p∈m,∃y,cn (cc ((h,n)::m)) ι p.2=some y:=fun p Y=>by
  have:=n5.1 k6 p Y;obtain⟨v,G,d0⟩:=ahD.1 this;obtain⟨q,A⟩:=ak1.1 G;have V:q<xs.size:=by rw[←I];exact(jt.1 A).1
  exact Vp d0 (t q v _ A (la V))
 refine (hc _ w _ xs (C.hs.Fa rfl k1 hO J k2) I t).mono ?_
 rintro e w' ⟨x,v,s1,ι1,rfl,⟨rfl,M,Z⟩,T,b0⟩
 obtain⟨g1,g2,g3⟩:=C.hs.Q0 rfl k1 hO J W c0 X N T M Z D;have F:aV c (jV h B o2 s) a w' (cJ ι ι1 h n):=⟨g1,C.dfr,C.n,fun k v hk=>by
  obtain⟨u,hu,rfl⟩:=nL hk;obtain⟨y,hy,J⟩:=C.tmp k u hu;exact⟨y,hy,g2 J⟩⟩
 exact hK _ _ (k _ _ _ (F.put (f8 hd) (g3 b0 H)))
theorem kp b m j{g}{e}{V1}{O o}{ar n}{U}(z:jE c.P g e O m ar U (fun v t=>v=V1∧cB t.o o∧look m t.r=some n))
  (k:OT c Q l d (aR f p (i+1)) ((jV b n ((d7 (cc ((b,m)::j)) o j).getD []) s).put (aW f p i).dst ((eu (cc ((b,m)::j)) V1).getD .any)))
  (C:aR f p i=aW f p i::aR f p (i+1):=by kernel_rfl) (B:cE d s (aW f p i)=true:=by kernel_rfl) (q:cK c.P g=true:=by kernel_rfl) (u:CX id s (aW f p i) ((b,m)::j)=some (g,e):=by kernel_rfl)
  (x:fP ((b,m)::j) s.o j=some O:=by kernel_rfl) (D:look b s.r=some ar:=by kernel_rfl) (y:(d7 (cc ((b,m)::j)) o j).isSome=true:=by kernel_rfl) (F:(eu (cc ((b,m)::j)) V1).isSome=true:=by kernel_rfl)
  (A:cQ c.n (aW f p i).dst=true:=by kernel_rfl) (r:Gj s b m j U e=true:=by kernel_rfl):OT c Q l d (aR f p i) s:=by
 rw[C];exact eZ _ B fun a w ι E=>ah5 E (fun h=>h) b m j z k q u x D y F A r
end
end Go.Proofs.YtocgkfoifehcbaaGreat
