/- Calls that are lent variables of the caller's and one slice of its own, and that give them back. No program in sight. -/
import Derived.Test.YtocgkfoifehcbaaGreatRkVn
namespace Go.Proofs.YtocgkfoifehcbaaGreat
set_option linter.all false
open Go.RowKit
def alj:=@List.mem_iff_getElem?
def yq(ρ:hH):AV→Option AV
 | .ptr id o=>match look id ρ with|some j=>some (.ptr j o)|none=>none
 | .ref id=>match look id ρ with|some j=>some (.ref j)|none=>none
 | v=>match v.dg [] with|true=>some (gF v)|false=>none
def uO(ρ:hH):c6→Option c6
 | []=>some []
 | v::r=>match yq ρ v,uO ρ r with|some x,some l=>some (x::l)|_,_=>none
def ec(ρ:hH):AV→Option AV
 | .fno f cs=>match uO ρ cs with|some l=>some (.fno f l)|none=>none
 | v=>yq ρ v
def fX(ρ:hH):c6→Option c6
 | []=>some []
 | v::r=>match ec ρ v,fX ρ r with|some x,some l=>some (x::l)|_,_=>none
theorem PM{N N':Nat→Prop}{w:World}{ι a:Env}{ρ:hH}{v v':AV}{x:Value}(h:Rel N w ι v x)(f:∀b,N' b→N b)(m:∀id j,look id ρ=some j→a j=ι id)(e:yq ρ v=some v'):Rel N' w a v' x:=by
 have k:∀{e:Env} {v:AV} {x:Value},Rel N w e v x→Rel N' w e v x:=fun h=>h.mono (ll _) (fun b _ i=>f b i) (fun _ _ _=>rfl) (fun _ _ h=>h);unfold yq at e;split at e
 ·rename_i id o;split at e
  ·rename_i j d;injection e with e;subst e
   cases h with
   | ptr _ _ _ g h=>exact .ptr _ _ _ g ((m _ _ d).trans h)
  ·cases e
 ·rename_i id;split at e
  ·rename_i j d;injection e with e;subst e
   cases h with
   | ref _ _ A n c h=>exact .ref _ _ A n c (by grind)
  grind
 ·split at e
  ·rename_i l;injection e with e;subst e
   exact zh (k (h.pure l a))
  grind
theorem VB{ρ}:∀{l l'},uO ρ l=some l'→l'.length=l.length
 | [],l',h=>by injection h with h;grind
 | v::r,l',h=>by
  unfold uO at h;split at h
  ·rename_i b a;injection h with h;subst h;simp[VB a]
  grind
theorem U2{ρ}:∀{l l'},uO ρ l=some l'→∀(i:Nat) a,l'[i]?=some a→∃b,l[i]?=some b∧yq ρ b=some a
 | [],l',h,i,a,c=>by injection h with h;grind
 | v::r,l',h,i,a,c=>by
  unfold uO at h;split at h
  ·rename_i e d;injection h with h;subst h
   cases i with
   | zero=>grind
   | succ i=>exact U2 d i a c
  grind
theorem uk{ρ}:∀{l l'},fX ρ l=some l'→l'.length=l.length
 | [],l',h=>by injection h with h;grind
 | v::r,l',h=>by
  unfold fX at h;split at h
  ·rename_i b a;injection h with h;subst h;simp[uk a]
  grind
theorem vU{ρ}:∀{l l'},fX ρ l=some l'→∀(i:Nat) a,l'[i]?=some a→∃b,l[i]?=some b∧ec ρ b=some a
 | [],l',h,i,a,c=>by injection h with h;grind
 | v::r,l',h,i,a,c=>by
  unfold fX at h;split at h
  ·rename_i e d;injection h with h;subst h
   cases i with
   | zero=>grind
   | succ i=>exact vU d i a c
  grind
theorem y5{N N':Nat→Prop}{w:World}{ι a:Env}{ρ:hH}{v v':AV}{x:Value}(h:Rel N w ι v x)(g:∀b,N' b→N b)(m:∀id j,look id ρ=some j→a j=ι id)(e:ec ρ v=some v'):Rel N' w a v' x:=by
 unfold ec at e;split at e
 ·split at e
  ·injection e with e;subst e
   cases h with
   | fno _ _ _ f d l =>
    refine .fno _ _ _ f (by grind[VB]) (fun i c y k d=>?_)
    grind[U2,PM]
  grind
 grind[PM]
theorem Cells.rn{N N'}{w}{ι d}{ρ}{cs a}{vs}(h:Cells N w ι cs vs)(f:∀b,N' b→N b)(m:∀id j,look id ρ=some j→d j=ι id)(e:fX ρ cs=some a):Cells N' w d a vs :=
 ⟨by rw[uk e];exact h.len,h.one,fun i x v l k=>by
  obtain⟨b,g,c⟩:=vU e i x l;exact y5 (h.rel i b v g k) f m c⟩
def CF(l:hH)(k v:Nat):Bool:=match look k l with|some x=>Nat.beq x v|none=>false
theorem qa{l}{k v}(h:CF l k v=true):look k l=some v:=by
 unfold CF at h;split at h
 ·simp_all
 grind
theorem jW{α}{k}{v:α}:∀{l},look k l=some v→(k,v)∈l
 | [],h=>by cases h
 | (j,x)::r,h=>by
  simp only[look]at h;split at h
  ·grind
  ·exact ol _ (jW h)
def o9(a b:Nat):Bool:=match Nat.ble 450000 a,Nat.ble 450000 b with
 | false,false=>true
 | true,true=>Nat.beq ((a-450000) % 1000) ((b-450000) % 1000)
 | _,_=>false
theorem HN{a b T}(h:o9 a b=true)(d:a<TG)(t:tyName a T):tyName b T:=fun c f=>by
 unfold o9 at h;split at h
 ·have:=alg c;grind
 ·rename_i e g;rw[t (j3 e) d];simp_all
 grind
theorem Yt{a b}(h:o9 a b=true):o9 b a=true:=by
 unfold o9 at h⊢;split at h
 ·grind
 ·rename_i c d;rw[c,d];simp_all
 grind
def ik(ρ a:hH):Bool:=(ρ.all fun p=>CF a p.2 p.1&&(Nat.ble (p.1+1) TG&&Nat.ble (p.2+1) TG))&&a.all fun p=>CF ρ p.2 p.1&&o9 p.1 p.2
theorem eY{ρ a}(h:ik ρ a=true){id j}(e:look id ρ=some j):look j a=some id∧id<TG∧j<TG:=by
 simp only[ik,iN,ne]at h;have:=h.1 _ (jW e);exact⟨qa this.1,j3 this.2.1,j3 this.2.2⟩
theorem fN{ρ a}(h:ik ρ a=true){id j}(e:look j a=some id):look id ρ=some j:=by
 simp only[ik,iN,ne]at h;exact qa (h.2 _ (jW e)).1
theorem Hv{ρ a}(h:ik ρ a=true){id j}(e:look j a=some id):o9 j id=true:=by
 simp only[ik,iN,ne]at h;exact(h.2 _ (jW e)).2
def cp(a:hH)(ι:Env):Env:=fun j=>match look j a with|some id=>ι id|none=>none
theorem jQ{a}{ι}{j}{y}(h:cp a ι j=some y):∃id,look j a=some id∧ι id=some y:=by
 grind[cp]
theorem kz{a}{ι}{j id}(h:look j a=some id):cp a ι j=ι id:=by grind[cp]
def fz(ρ:hH)(o:io):hH→Option io
 | []=>some []
 | (id,j)::r=>match look id o,fz ρ o r with
  | some cs,some l=>match fX ρ cs with
   | some c=>some ((j,c)::l)
   | none=>none
  | _,_=>none
theorem Ci{ρ:hH}{o:io}:∀{l:hH} {O:io},fz ρ o l=some O→∀{j:Nat} {c:c6},look j O=some c→∃id cs,(id,j)∈l∧look id o=some cs∧fX ρ cs=some c
 | [],O,h,j,c,a=>by injection h with h;subst h;cases a
 | (id,k)::r,O,h,j,c,a=>by
  unfold fz at h;split at h
  case h_2=>cases h
  rename_i cs l b f;split at h
  case h_2=>cases h
  rename_i c0 g;injection h with h;subst h
  simp only[look]at a;split at a
  ·rename_i e;subst e;injection a with a;subst a
   exact⟨id,cs,ti,b,g⟩
  ·obtain⟨i,d,m,n⟩:=Ci f a;exact⟨i,d,ol _ m,n⟩
def lB(w:World)(a:Env)(O:io):aA:=⟨w,fun b=>∃i,bz (a i)=some b,fun j=>match look j O with|some _=>a j|none=>none⟩
def jw(P:Program)(f:FuncId)(b:c6)(O:io)(d:Nat)(ar:co)(U:eb)(Q:AV→AS→Prop):Prop :=
 ∀M w c xs,HS M (lB w c O) w c ⟨[],O,[(d,ar)],U⟩→b.length=xs.size→(∀(i:Nat) a x,b[i]?=some a→xs[i]?=some x→Rel (NN M c) w c a x)→Calls P f xs w (bJ M (lB w c O) Q)
theorem m9{P:Program}{f:FuncId}{i:Func}{c:Code}{b:c6}{O:io}{m:Nat}{ar:co}{U:eb}{Q:AV→AS→Prop}(r:P.funcs[f]?=some i)(q:i.body=some c)(n:Nat)(x:i.ntmps=n)(u:b.length≤n)
  (h:∀M o,VE ⟨P,n,M,o⟩ (bodyPost P i (bJ M o Q)) [.c c] .normal ⟨idxs 0 b,O,[(m,ar)],U⟩):jw P f b O m ar U Q:=by
 intro M w p xs d l t;refine alx r q ?_;refine amu (h M (lB w p O) { tmps:=xs++Array.replicate (i.ntmps-xs.size) undef,defers:=[] } w p ?_) (fun e a w' s=>?_)
 ·refine⟨⟨d.below,d.old,d.use,d.own,d.inj,d.ko,d.kr,d.objs,d.arrs,d.pin⟩,rfl,?_,fun k v j=>?_⟩
  ·simp;omega
  ·rw[qW,lc (u6 _),akG]at j;have g:k<xs.size:=by rw[←l];exact(jf.1 j).1
   refine⟨xs[k],?_,t k v _ j (la g)⟩;simp only[];rw[Dk g,la g]
 ·cases e<;>exact s
def zk(U:eb)(b:hH)(a:Nat):Bool:=U.contains a&&b.all fun p=>U.contains p.2&&U.contains (da p.2)
theorem HS.IW{M:Nat→Prop}{w0:aA}{w:World}{ι:Env}{s:AS}(h:HS M w0 w ι s){J ρ d:hH}{o I:Nat}{ar:co}{O:io}{U:eb}(P:ρ=(o,I)::J)(n:ik ρ d=true)(hO:fz ρ s.o J=some O)(hr:look o s.r=some ar)(F:zk U J I=true):
  HS (fun b=>NN M ι b∧∀i,bz (cp d ι i)≠some b) (lB w (cp d ι) O) w (cp d ι) ⟨[],O,[(I,ar)],U⟩:=by
 have S:∀b,NN (fun b=>NN M ι b∧∀i,bz (cp d ι i)≠some b) (cp d ι) b→NN M ι b:=fun b f=>by
  rcases f with f|⟨j,f⟩
  ·exact f.1
  ·cases m:cp d ι j with
   | none=>rw[m]at f;cases f
   | some y=>obtain⟨id,_,A⟩:=jQ m;exact .inr ⟨id,by rw[A];rw[m]at f;exact f⟩
 have hι:∀id j,look id ρ=some j→cp d ι j=ι id:=fun id j e=>kz (eY n e).1;have H:look o ρ=some I:=by rw[P];simp[look]
 have C:∀j id,look j d=some id→U.contains j=true:=fun j id e=>by
  have:=jW (fN n e);rw[P]at this;simp only[zk,iN,ne]at F;rcases oR.1 this with z|z
  ·injection z with R W;rw[W];exact F.1
  ·exact(F.2 _ z).1
 have B:∀{j c},look j O=some c→∃id cs,look j d=some id∧(id,j)∈J∧look id s.o=some cs∧fX ρ cs=some c:=fun {j c} l=>by
  obtain⟨id,cs,V,q2,q3⟩:=Ci hO l;refine⟨id,cs,?_,V,q2,q3⟩;simp only[ik,iN,ne]at n;exact qa (n.1 (id,j) (by rw[P];exact ol _ V)).1
 refine⟨⟨rfl,rfl,rfl,ll _,fun _ _ _=>rfl⟩,fun b f=>⟨lW h f.1,fun⟨i,hi⟩=>f.2 i hi⟩,fun j y hy=>?_,fun j g r=>?_,fun j j' g r t=>?_,fun j c l=>?_,fun j a p=>?_,fun j c l G=>?_,fun j a p G=>?_,fun j v hv=>?_⟩
 ·obtain⟨id,k,_⟩:=jQ hy;exact fk (C j id k)
 ·cases m:cp d ι j with
  | none=>rw[m]at r;cases r
  | some y =>
   obtain⟨id,k,A⟩:=jQ m;refine⟨.inr ⟨j,r⟩,(h.own id g ?_).2⟩;rw[m]at r;rw[A];exact r
 ·cases m:cp d ι j with
  | none=>rw[m]at r;cases r
  | some y =>
   cases D:cp d ι j' with
   | none=>rw[D]at t;cases t
   | some y' =>
    obtain⟨id,k,A⟩:=jQ m;obtain⟨Q,K,L⟩:=jQ D;have:=h.inj id Q g (by rw[m]at r;rw[A];exact r) (by rw[D]at t;rw[L];exact t);subst this;have E:=fN n k;have z:=fN n K;rw[E]at z;injection z
 ·obtain⟨id,cs,k,_⟩:=B l;exact fk (C j id k)
 ·simp only[look]at p;split at p
  ·rename_i e;subst e;exact fk (C _ o (eY n H).1)
  ·cases p
 ·obtain⟨id,cs,k,_,A,h3⟩:=B l;rw[kz k]at G⊢;obtain⟨g,T,vs,E,z,R⟩:=h.objs id cs A G;exact⟨g,⟨T.1,HN (Yt (Hv n k)) (eY n (fN n k)).2.1 T.2⟩,vs,E,z,R.rn S hι h3⟩
 ·simp only[look]at p;split at p
  ·rename_i e;subst e;injection p with p;subst p
   have E:=eY n H;rw[kz E.1]at G⊢;obtain⟨v,xs,X,Y,Z,g4,g5⟩:=h.arrs o ar hr G;refine⟨v,xs,X,Y,Z,g4,fun q e hq i c l=>?_⟩;obtain⟨x,hx,N⟩:=g5 q e hq i c l;exact⟨x,hx,.inl ((N.flat (by omega)).mono (ll _) (fun b _ f=>S b f) (fun _ _ _=>rfl) (fun _ _ h=>h))⟩
  ·cases p
 ·have u:(match look j O with|some _=>cp d ι j|none=>none)=some v:=hv;cases l:look j O with
  | none=>rw[l]at u;cases u
  | some c =>
   rw[l]at u;obtain⟨id,cs,_,k,_⟩:=B l;simp only[zk,iN,ne]at F;exact⟨u,(F.2 _ k).2⟩
def cy(o:io):io→Prop
 | []=>True
 | (j,c)::r=>look j o=some c∧cy o r
theorem FR{o}:∀{a},cy o a→∀{j} {c},look j a=some c→look j o=some c
 | [],_,j,c,h=>by cases h
 | (i,d)::r,b,j,c,h=>by
  simp only[look]at h;split at h
  ·rename_i e;subst e;injection h with h;subst h;exact b.1
  ·exact FR b.2 h
def dS(b:hH)(a:io):hH→Option io
 | []=>some []
 | (id,j)::r=>match look j a,dS b a r with
  | some c,some l=>match fX b c with
   | some d=>some ((id,d)::l)
   | none=>none
  | _,_=>none
theorem yM{g:hH}{f:io}:∀{l:hH} {b:io},dS g f l=some b→∀{id:Nat} {c:c6},look id b=some c→∃j d,(id,j)∈l∧look j f=some d∧fX g d=some c
 | [],b,h,id,c,a=>by injection h with h;subst h;cases a
 | (i,j)::r,b,h,id,c,a=>by
  unfold dS at h;split at h
  case h_2=>cases h
  rename_i d l k m;split at h
  case h_2=>cases h
  rename_i c0 n;injection h with h;subst h
  simp only[look]at a;split at a
  ·rename_i e;subst e;injection a with a;subst a
   exact⟨j,d,ti,k,n⟩
  ·obtain⟨q,e,o,p⟩:=yM m a;exact⟨q,e,ol _ o,p⟩
theorem Hs{g}{c}:∀{l} {a},dS g c l=some a→∀{id j},(id,j)∈l→look id a≠none
 | [],a,h,id,j,b=>by grind
 | (i,q)::r,a,h,id,j,b=>by
  unfold dS at h;split at h
  case h_2=>grind
  rename_i d l k f;split at h
  case h_2=>grind
  rename_i c0 m;injection h with h;subst h
  simp only[look];split
  ·grind
  ·rcases oR.1 b with e|e
   ·grind
   ·exact Hs f e
theorem yd{ρ}{o}:∀{l} {O},fz ρ o l=some O→∀{id j},(id,j)∈l→∃c,look j O=some c
 | [],O,h,id,j,a=>by grind
 | (i,q)::r,O,h,id,j,a=>by
  unfold fz at h;split at h
  case h_2=>grind
  rename_i cs l d b;split at h
  case h_2=>grind
  rename_i c0 f;injection h with h;subst h
  simp only[look];split
  ·grind
  ·rcases oR.1 a with e|e
   ·grind
   ·exact yd b e
def xI:io→io→io
 | [],o=>o
 | (k,v)::r,o=>bm k v (xI r o)
theorem xj{o}:∀{l} {i} {c},look i (xI l o)=some c→look i l=some c∨(look i l=none∧look i o=some c)
 | [],i,c,h=>.inr ⟨rfl,h⟩
 | (k,v)::r,i,c,h=>by
  simp only[xI,cv,look]at h⊢;split at h
  ·grind
  ·rename_i e;rw[kb e];exact xj h
def j8(a:Nat)(b:co)(c:io)(s:AS):AS:=⟨dF a s.t,xI c (fK a s.o),bm a b s.r,s.u⟩
def cE(ι c:Env)(a b:Nat):Env:=fun i=>if i=a then c b else ι i
theorem HS.UR{M:Nat→Prop}{w0:aA}{w w':World}{ι C:Env}{s s1:AS}(h:HS M w0 w ι s){ρo ρ G:hH}{f z:Nat}{ar Q:co}{O O1 o2:io}(hρ:ρ=(f,z)::ρo)(N:ik ρ G=true)(hO:fz ρ s.o ρo=some O)(hr:look f s.r=some ar)
  (k0:s.u.contains (da f)=false) (o0:look f s.o=none) (l0:∀p∈ρo,look p.1 s.r=none) (h0:∀p∈ρo,∃y,cp G ι p.2=some y)
  (L:HS (fun b=>NN M ι b∧∀i,bz (cp G ι i)≠some b) (lB w (cp G ι) O) w' C s1) (g0:cy s1.o O1) (m0:look z s1.r=some Q) (l:dS G O1 ρo=some o2) :
  HS M w0 w' (cE ι C f z) (j8 f Q o2 s)∧(∀{v:AV} {x:Value},Rel (NN M ι) w ι v x→Rel (NN M (cE ι C f z)) w' (cE ι C f z) (v.cY f) x) ∧
   (∀{v v':AV} {x:Value},Rel (NN (fun b=>NN M ι b∧∀i,bz (cp G ι i)≠some b) C) w' C v x→ec G v=some v'→Rel (NN M (cE ι C f z)) w' (cE ι C f z) v' x):=by
 have X:look f ρ=some z:=by rw[hρ];simp[look]
 have f1:∀id j,(id,j)∈ρo→C j=ι id∧look j G=some id:=fun id j hm=>by
  have E:look j G=some id:=by
   have e0:=N;simp only[ik,iN,ne]at e0;exact qa (e0.1 (id,j) (by rw[hρ];exact ol _ hm)).1
  obtain⟨y,hy⟩:=h0 _ hm;obtain⟨c,hc⟩:=yd hO hm;have H:=(L.pin j y (by show(match look j O with|some _=>cp G ι j|none=>none)=some y;rw[hc];exact hy)).1;refine⟨?_,E⟩;rw[H,← kz (ι:=ι) E];exact hy.symm
 have f2:∀j id,look j G=some id→cE ι C f z id=C j:=fun j id e=>by
  have t:=fN N e;unfold cE;by_cases n:id=f
  ·subst n;rw[lc rfl];rw[X]at t;injection t with t;rw[t]
  ·rw[kb n];have:=jW t;rw[hρ]at this;rcases oR.1 this with I|I
   ·injection I with V e5;exact absurd V n
   ·exact(f1 id j I).1.symm
 have m:∀{q b},bz (cp G ι q)=some b→∃id,look q G=some id∧bz (ι id)=some b:=fun {q b} P=>by
  cases he:cp G ι q with
  | none=>rw[he]at P;cases P
  | some y=>obtain⟨id,E,t⟩:=jQ he;exact⟨id,E,by rw[t];rw[he]at P;exact P⟩
 have Y:w.heap.size≤w'.heap.size:=L.below.size;have bZ:∀b,b<w.heap.size→(∀i,bz (cp G ι i)≠some b)→w'.heap[b]?=w.heap[b]?:=fun b R l=>L.below.block b R (fun⟨i,F⟩=>l i F);have S:∀b,b<w.heap.size→¬ NN M ι b→w'.heap[b]?=w.heap[b]?:=fun b R l=>bZ b R (fun i F=>by
  obtain⟨id,_,e⟩:=m F;exact l (.inr ⟨id,e⟩))
 have a0:∀b,NN M (cE ι C f z) b→NN (fun b=>NN M ι b∧∀i,bz (cp G ι i)≠some b) C b:=fun b l=>by
  rcases l with l|⟨id,l⟩
  ·exact .inl ⟨.inl l,fun i F=>by obtain⟨id,_,e⟩:=m F;exact h.sep l e⟩
  ·unfold cE at l;by_cases n:id=f
   ·rw[lc n]at l;exact .inr ⟨z,l⟩
   ·rw[kb n]at l;by_cases hl:∃i,bz (cp G ι i)=some b
    ·obtain⟨q,P⟩:=hl;obtain⟨K,E,t⟩:=m P;have:=h.inj K id b t l;subst this;have:=f2 q K E;unfold cE at this;rw[kb n]at this;exact .inr ⟨q,by rw[←this];exact l⟩
    ·exact .inl ⟨.inr ⟨id,l⟩,fun i F=>hl ⟨i,F⟩⟩
 have d0:∀b,b<w.heap.size→NN M (cE ι C f z) b→NN M ι b:=fun b R l=>by
  rcases l with l|⟨id,l⟩
  ·exact .inl l
  ·unfold cE at l;by_cases n:id=f
   ·rw[lc n]at l;rcases (L.own z b l).1 with e|⟨q,e⟩
    ·exact absurd R (akq.2 e)
    ·obtain⟨K,_,t⟩:=m e;exact .inr ⟨K,t⟩
   ·rw[kb n]at l;exact .inr ⟨id,l⟩
 have T:∀{v:AV} {x:Value},Rel (NN M ι) w ι v x→Rel (NN M (cE ι C f z)) w' (cE ι C f z) (v.cY f) x:=fun hv =>
  (hv.mono Y d0 S (fun _ _ h=>h)).cY (fun i F=>kb F)
 have np:w0.pv f=none:=h.np k0;refine⟨⟨?_,h.old,fun i y hy=>?_,fun i g D=>?_,fun i U g D B=>?_,fun i c F=>?_,fun i a F=>?_,fun i c F H=>?_,fun i a F H=>?_,fun i v H=>?_⟩,T,fun hv e=>y5 hv a0 (fun j id e=>f2 j id e) e⟩
 ·refine h.below.trans ⟨L.below.os,L.below.tape,L.below.output,Y,fun k hk hG=>bZ k (u7 hk h.below.size) (fun i F=>?_)⟩;obtain⟨id,_,e⟩:=m F;rcases (h.own id k e).1 with h9|h9
  ·exact absurd hk (akq.2 h9)
  ·exact hG h9
 ·unfold cE at hy;by_cases n:i=f
  ·subst n;exact h.kr i ar hr
  ·rw[kb n]at hy;exact h.use i y hy
 ·unfold cE at D;by_cases n:i=f
  ·rw[lc n]at D;obtain⟨A,Z⟩:=L.own z g D;refine⟨?_,Z⟩;rcases A with A|⟨q,A⟩
   ·exact .inl (RX h.below.size A)
   ·obtain⟨id,_,e⟩:=m A;exact(h.own id g e).1
  ·rw[kb n]at D;exact⟨(h.own i g D).1,u7 (h.own i g D).2 Y⟩
 ·have f0:∀U,U≠f→bz (C z)=some g→bz (ι U)=some g→False:=fun U o D B=>by
   rcases (L.own z g D).1 with A|⟨q,A⟩
   ·exact absurd (h.own U g B).2 (akq.2 A)
   ·obtain⟨id,E,t⟩:=m A;have:=h.inj id U g t B;subst this;have I:=f2 q id E;unfold cE at I;rw[kb o]at I;have:=L.inj q z g (by rw[←I];exact t) D;subst this;have:=(eY N X).1;rw[E]at this;injection this with this;exact o this
  unfold cE at D B;by_cases n:i=f
  ·by_cases J:U=f
   ·rw[n,J]
   ·rw[lc n]at D;rw[kb J]at B;exact(f0 U J D B).elim
  ·by_cases J:U=f
   ·rw[kb n]at D;rw[lc J]at B;exact(f0 i n B D).elim
   ·rw[kb n]at D;rw[kb J]at B;exact h.inj i U g D B
 ·rcases xj F with e|⟨_,e⟩
  ·obtain⟨j,d,A,_,_⟩:=yM l e;obtain⟨c0,i0⟩:=yd hO A;obtain⟨K,cs,p1,p2,p3⟩:=Ci hO i0;have E:=(f1 i j A).2;have t:=(f1 K j p1).2;rw[E]at t;injection t with t;subst t
   exact h.ko i cs p2
  ·obtain⟨u,hu,_⟩:=kS e;exact h.ko i u hu
 ·have o:look i (bm f Q s.r)=some a:=F;rw[cv]at o;split at o
  ·rename_i e;subst e;exact h.kr i ar hr
  ·exact h.kr i a o
 ·rcases xj F with e|⟨en,e⟩
  ·obtain⟨j,d,A,Z,q3⟩:=yM l e;have E:=f2 j i (f1 i j A).2;rw[E]at H⊢;obtain⟨g,T0,vs,r1,r2,r3⟩:=L.objs j d (FR g0 Z) H;have e9:=(f1 i j A).2;exact⟨g,⟨T0.1,HN (Hv N e9) (eY N (fN N e9)).2.2 T0.2⟩,vs,r1,r2,r3.rn a0 (fun j id e=>f2 j id e) q3⟩
  ·obtain⟨u,hu,rfl⟩:=kS e;have n:i≠f:=fun e=>by rw[e,o0]at hu;cases hu
   have E:cE ι C f z i=ι i:=kb n;rw[E]at H⊢;obtain⟨g,T0,vs,r1,r2,r3⟩:=h.objs i u hu H;refine⟨g,T0,vs,r1,(bZ g (h.own i g (by rw[r1];rfl)).2 (fun q P=>?_)).trans r2,⟨by rw[mY];exact r3.len,r3.one,fun k x v hx hv=>?_⟩⟩
   ·obtain⟨id,t,I⟩:=m P;have:=h.inj id i g I (by rw[r1];rfl);subst this;have:=jW (fN N t);rw[hρ]at this;rcases oR.1 this with V|V
    ·injection V with e5 e6;exact n e5
    ·exact Hs l V en
   ·obtain⟨y,hy,rfl⟩:=mu hx;exact T (r3.rel k y v hy hv)
 ·have o:look i (bm f Q s.r)=some a:=F;rw[cv]at o;split at o
  ·rename_i e;subst e;injection o with o;subst o
   have E:cE ι C i z i=C z:=lc rfl;rw[E]at H⊢;have p0:=(eY N X).2.2;obtain⟨v,xs,A,Z,q3,q4,q5⟩:=L.arrs z Q m0 H;refine⟨v,xs,A,Z,q3,q4,fun j e hj k c hk=>?_⟩;obtain⟨x,hx,b0⟩:=q5 j e hj k c hk;exact⟨x,hx,.inl ((b0.flat (by omega)).mono (ll _) (fun b _ l=>a0 b l) (fun _ _ _=>rfl) (fun _ _ h=>h))⟩
  ·rename_i n;have E:cE ι C f z i=ι i:=kb n;rw[E]at H⊢;obtain⟨v,xs,A,Z,q3,q4,q5⟩:=h.arrs i a o H;have q0:=(eY N X).2.1;refine⟨v,xs,A,fR Z (fun g D=>bZ g (h.own i g (by rw[A];exact D)).2 (fun q P=>?_)),q3,q4,fun j e hj k c hk=>?_⟩
   ·obtain⟨id,t,I⟩:=m P;have:=h.inj id i g I (by rw[A];exact D);subst this;have:=jW (fN N t);rw[hρ]at this;rcases oR.1 this with V|V
    ·injection V with e5 e6;exact n e5
    ·have:=l0 _ V;rw[o]at this;cases this
   ·obtain⟨x,hx,b0⟩:=q5 j e hj k c hk;have nb:∀q:Nat,dX≤nm i q:=fun q=>aln _ _;have lb:TG<dX:=by decide
    refine⟨x,hx,b0.mono Y d0 S (fun r W=>?_) (fun r W=>bZ r (h.j9 W) (fun q P=>?_)) (fun h=>h)⟩
    ·exact(kb (fun e=>by have:=nb (j*a.sz+k);omega)).trans W
    ·obtain⟨id,t,I⟩:=m P;have:=h.inj id _ r I (by rw[W];rfl);have h9:=(eY N (fN N t)).2.1;have:=nb (j*a.sz+k);omega
 ·obtain⟨A,Z⟩:=h.pin i v H;refine⟨?_,Z⟩;have n:i≠f:=fun e=>by rw[e,np]at H;cases H
  exact(kb n).trans A
def ca:hH→hH
 | []=>[]
 | (a,b)::r=>(b,a)::ca r
def yC(j:Nat):AV→Bool
 | .ptr i o=>Nat.beq i j&&Nat.beq o 0
 | _=>false
def xJ(j:Nat):AV→Bool
 | .fno _ cs=>cs.any (yC j)
 | v=>yC j v
theorem Tp{N}{w}{ι}{j}{v}{x}(h:yC j v=true)(a:Rel N w ι v x):∃y,ι j=some y:=by
 unfold yC at h;split at h
 ·rw[iN]at h;have:=mo h.1;cases a with
  | ptr _ _ _ g h=>grind
 grind
theorem MP{N:Nat→Prop}{w:World}{ι:Env}{j:Nat}{v:AV}{x:Value}(h:xJ j v=true)(d:Rel N w ι v x):∃y,ι j=some y:=by
 cases d with
 | fno _ f cs i m d =>
  obtain⟨c,k,a⟩:=adz.1 h;obtain⟨q,e⟩:=alj.1 k;have b:q<i.length:=by rw[←m];exact(jf.1 e).1
  exact Tp a (d q c i[q] e (jt b))
 | ptr _ id o g l=>exact Tp (N:=N) (w:=w) (v:=.ptr id o) (by grind[xJ]) (.ptr _ id o g l)
 | _=>grind[xJ,yC]
def Eu(a:AV→AV)(s:AS)(o:Oper)(ρ:hH):Option (FuncId×c6) :=
 match o.op with
 | .call c=>match c.callee with
  | .value d=>match s.ev d,dk s c.args.toList with
   | some (.fn f []),some l=>match fX ρ (l.map a) with
    | some l'=>some (f,l')
    | none=>none
   | some (.fno f cs),some l=>match fX ρ (l.map a),fX ρ cs with
    | some l',some b=>some (f,l'++b)
    | _,_=>none
   | _,_=>none
  | _=>none
 | _=>none
def Fb(s:AS)(a d:Nat)(c:hH)(U:eb)(b:c6):Bool :=
 ik ((a,d)::c) (ca ((a,d)::c))&&(zk U c d&&((match s.u.contains (da a) with|true=>false|false=>true)&&((match look a s.o with|none=>true|some _=>false) &&
  ((c.all fun p=>match look p.1 s.r with|none=>true|some _=>false)&&c.all fun p=>b.any (xJ p.2)))))
section
variable{d:Cx}{s:AS}{a:Act}{w:World}{ι:Env}
theorem aea(J:aU d s a w ι){F:AV→AV}(I:∀{v:AV} {x:Value},Rel (NN d.M ι) w ι v x→Rel (NN d.M ι) w ι (F v) x){o:Oper}{ρ:hH}{g:FuncId}{j:c6}(h:Eu F s o ρ=some (g,j))(y:cF d.P g=true):
  ∃xs:Array Value,(execOp a.eval o).run d.P w=.ok (.enter g xs) w∧j.length=xs.size∧∀(i:Nat) (v:AV) (x:Value),j[i]?=some v→xs[i]?=some x→∃u,ec ρ u=some v∧Rel (NN d.M ι) w ι u x:=by
 unfold Eu at h;split at h
 case h_2=>cases h
 rename_i c A;split at h
 case h_2=>cases h
 rename_i Q m;have part:∀{l l':c6},dk s c.args.toList=some l→fX ρ (l.map F)=some l'→l'.length=(c.args.map a.eval).size∧∀(i:Nat) (v:AV) (x:Value),l'[i]?=some v→(c.args.map a.eval)[i]?=some x→∃u,ec ρ u=some v∧Rel (NN d.M ι) w ι u x:=fun {l l'} z e=>by
  obtain⟨S,T⟩:=ln J z;refine⟨by rw[uk e];simp at S⊢;omega,fun i v x r q=>?_⟩;obtain⟨b,k,p⟩:=vU e i v r;rw[AT]at k;cases n:l[i]? with
  | none=>rw[n]at k;cases k
  | some P =>
   rw[n]at k;injection k with k;subst k
   exact⟨_,p,I (T i P x n (by rw[←aj6,afC];exact q))⟩
 split at h
 ·rename_i f l H z;split at h
  case h_2=>cases h
  rename_i l' e;injection h with h;injection h with D E;subst D;subst E
  obtain⟨N,B,G,_⟩:=kx J A m H y;have L:N=[]:=n3 (by simpa using G.symm);subst L;have K:c.args.map a.eval++([]:ee).toArray=c.args.map a.eval:=by simp
  rw[K]at B;obtain⟨p1,M⟩:=part z e;exact⟨_,B,p1,M⟩
 ·rename_i f cs l H z;split at h
  case h_2=>cases h
  rename_i l' U e t;injection h with h;injection h with D E;subst D;subst E
  obtain⟨p1,M⟩:=part z e;have C:=J.ev H;generalize R:a.eval Q=X at C;cases C with
  | fno _ _ _ N V C =>
   refine⟨c.args.map a.eval++N.toArray,?_,by simp at p1⊢;rw[uk t];omega,fun i v x r q=>?_⟩
   ·unfold execOp;simp only[A,resolve,m,R,Deferred.ofValue,sj,IT,u3,invoke];rw[Jy y];simp
   ·by_cases O:i<l'.length
    ·rw[z3 O]at r;rw[Dk (by rw[←p1];exact O)]at q;exact M i v x r q
    ·rw[Dj (by omega)]at r;rw[ajx (by rw[←p1];omega)]at q;rw[←p1]at q;obtain⟨b,k,p⟩:=vU t _ v r;exact⟨b,p,C _ b x k (by simpa using q)⟩
 grind
end
section
variable{c:Cx}{Q:Exit→Act→World→Prop}{l:dt}{s:AS}{d:Array Oper}{f:Func}{p:eb}{i:Nat}
theorem adK{a:Act}{w:World}{ι:Env}(C:aU c s a w ι){fn:AV→AV}(S:∀{v:AV} {x:Value},Rel (NN c.M ι) w ι v x→Rel (NN c.M ι) w ι (fn v) x)(h n:Nat)(m:hH){g:FuncId}{r:c6}{V1:AV}{O L:io}{ar B:co}{U:eb}(hc:jw c.P g r O n ar U (fun v s1=>v=V1∧cy s1.o L∧look n s1.r=some B))
  (k:OT c Q l d (aV f p (i+1)) ((j8 h B ((dS (ca ((h,n)::m)) L m).getD []) s).put (aW f p i).dst ((ec (ca ((h,n)::m)) V1).getD .any)))
  (P:cF c.P g=true) (h1:Eu fn s (aW f p i) ((h,n)::m)=some (g,r))
  (hO:fz ((h,n)::m) s.o m=some O) (J:look h s.r=some ar) (z:(dS (ca ((h,n)::m)) L m).isSome=true) (G:(ec (ca ((h,n)::m)) V1).isSome=true)
  (hd:cJ c.n (aW f p i).dst=true) (E:Fb s h n m U r=true):wpList c.P d (Kw c.P Q l) ({ aW f p i with guard:=none }::aV f p (i+1)) a w:=by
 refine aa6 rfl fun K hK=>?_;obtain⟨o2,D⟩:=v9.1 z;obtain⟨V2,H⟩:=v9.1 G;rw[D,H]at k;simp only[Ts]at k;simp only[Fb,iN]at E;obtain⟨k1,k2,k3,k4,k5,k6⟩:=E;have W:s.u.contains (da h)=false:=by
  cases A:s.u.contains (da h) with
  | true=>rw[A]at k3;cases k3
  | false=>rfl
 have c0:look h s.o=none:=by
  cases A:look h s.o with
  | some _=>rw[A]at k4;cases k4
  | none=>rfl
 have X:∀p∈m,look p.1 s.r=none:=fun p Y=>by
  have:=ne.1 k5 p Y;cases A:look p.1 s.r with
  | some _=>rw[A]at this;cases this
  | none=>rfl
 unfold Oper.wp;obtain⟨xs,a0,I,e0⟩:=aea (o:={ aW f p i with guard:=none }) C S h1 P;rw[a0,aeq];have hN:∀b,NN (fun b=>NN c.M ι b∧∀i,bz (cp (ca ((h,n)::m)) ι i)≠some b) (cp (ca ((h,n)::m)) ι) b→NN c.M ι b:=fun b z=>by
  rcases z with z|⟨j,z⟩
  ·exact z.1
  ·cases R:cp (ca ((h,n)::m)) ι j with
   | none=>rw[R]at z;cases z
   | some y=>obtain⟨id,_,h2⟩:=jQ R;exact .inr ⟨id,by rw[h2];rw[R]at z;exact z⟩
 have t:∀(i:Nat) (a:AV) (x:Value),r[i]?=some a→xs[i]?=some x→Rel (NN (fun b=>NN c.M ι b∧∀i,bz (cp (ca ((h,n)::m)) ι i)≠some b) (cp (ca ((h,n)::m)) ι)) w (cp (ca ((h,n)::m)) ι) a x:=fun i v x G hx=>by
  obtain⟨u,q1,q2⟩:=e0 i v x G hx;exact y5 q2 hN (fun id j e=>kz (eY k1 e).1) q1
 have N:∀p∈m,∃y,cp (ca ((h,n)::m)) ι p.2=some y:=fun p Y=>by
  have:=ne.1 k6 p Y;obtain⟨v,G,d0⟩:=adz.1 this;obtain⟨q,A⟩:=alj.1 G;have V:q<xs.size:=by rw[←I];exact(jf.1 A).1
  exact MP d0 (t q v _ A (la V))
 refine (hc _ w _ xs (C.hs.IW rfl k1 hO J k2) I t).mono ?_
 rintro e w' ⟨x,v,s1,ι1,rfl,⟨rfl,M,Z⟩,T,b0⟩
 obtain⟨g1,g2,g3⟩:=C.hs.UR rfl k1 hO J W c0 X N T M Z D;have F:aU c (j8 h B o2 s) a w' (cE ι ι1 h n):=⟨g1,C.dfr,C.n,fun k v hk=>by
  obtain⟨u,hu,rfl⟩:=pM hk;obtain⟨y,hy,J⟩:=C.tmp k u hu;exact⟨y,hy,g2 J⟩⟩
 exact hK _ _ (k _ _ _ (F.put (fU hd) (g3 b0 H)))
theorem jR b m j{g}{e}{V1}{O o}{ar n}{U}(z:jw c.P g e O m ar U (fun v t=>v=V1∧cy t.o o∧look m t.r=some n))
  (k:OT c Q l d (aV f p (i+1)) ((j8 b n ((dS (ca ((b,m)::j)) o j).getD []) s).put (aW f p i).dst ((ec (ca ((b,m)::j)) V1).getD .any)))
  (C:aV f p i=aW f p i::aV f p (i+1):=by kernel_rfl) (B:cH d s (aW f p i)=true:=by kernel_rfl) (q:cF c.P g=true:=by kernel_rfl) (u:Eu id s (aW f p i) ((b,m)::j)=some (g,e):=by kernel_rfl)
  (x:fz ((b,m)::j) s.o j=some O:=by kernel_rfl) (D:look b s.r=some ar:=by kernel_rfl) (y:(dS (ca ((b,m)::j)) o j).isSome=true:=by kernel_rfl) (F:(ec (ca ((b,m)::j)) V1).isSome=true:=by kernel_rfl)
  (A:cJ c.n (aW f p i).dst=true:=by kernel_rfl) (r:Fb s b m j U e=true:=by kernel_rfl):OT c Q l d (aV f p i) s:=by
 rw[C];exact fu _ B fun a w ι E=>adK E (fun h=>h) b m j z k q u x D y F A r
end
end Go.Proofs.YtocgkfoifehcbaaGreat
