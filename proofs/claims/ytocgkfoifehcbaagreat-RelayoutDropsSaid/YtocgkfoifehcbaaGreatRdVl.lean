/- Calls that are lent variables of the caller's and one slice of its own, and that give them back. No program in sight. -/
import Derived.Test.YtocgkfoifehcbaaGreatRdVn
namespace Go.Proofs.YtocgkfoifehcbaaGreat
set_option linter.all false
open Go.RowKit
def alO:=@List.mem_iff_getElem?
def AQ(ρ:hZ):AV→Option AV
 | .ptr id o=>match look id ρ with|some j=>some (.ptr j o)|none=>none
 | .ref id=>match look id ρ with|some j=>some (.ref j)|none=>none
 | v=>match v.de [] with|true=>some (gu v)|false=>none
def wH(ρ:hZ):c6→Option c6
 | []=>some []
 | v::r=>match AQ ρ v,wH ρ r with|some x,some l=>some (x::l)|_,_=>none
def eo(ρ:hZ):AV→Option AV
 | .fno f cs=>match wH ρ cs with|some l=>some (.fno f l)|none=>none
 | v=>AQ ρ v
def fZ(ρ:hZ):c6→Option c6
 | []=>some []
 | v::r=>match eo ρ v,fZ ρ r with|some x,some l=>some (x::l)|_,_=>none
theorem VX{N N':Nat→Prop}{w:World}{ι a:Env}{ρ:hZ}{v v':AV}{x:Value}(h:Rel N w ι v x)(f:∀b,N' b→N b)(m:∀id j,look id ρ=some j→a j=ι id)(e:AQ ρ v=some v'):Rel N' w a v' x:=by
 have k:∀{e:Env} {v:AV} {x:Value},Rel N w e v x→Rel N' w e v x:=fun h=>h.mono (la _) (fun b _ i=>f b i) (fun _ _ _=>rfl) (fun _ _ h=>h);unfold AQ at e;split at e
 ·rename_i id o;split at e
  ·rename_i j d;injection e with e;subst e
   cases h with
   | ptr _ _ _ g h=>exact .ptr _ _ _ g ((m _ _ d).trans h)
  ·cases e
 ·rename_i id;split at e
  ·rename_i j d;injection e with e;subst e
   cases h with
   | ref _ _ A n c h=>exact .ref _ _ A n c (by grind)
  grind
 ·split at e
  ·rename_i l;injection e with e;subst e
   exact xT (k (h.pure l a))
  grind
theorem OH{ρ}:∀{l l'},wH ρ l=some l'→l'.length=l.length
 | [],l',h=>by injection h with h;grind
 | v::r,l',h=>by
  unfold wH at h;split at h
  ·rename_i b a;injection h with h;subst h;simp[OH a]
  grind
theorem LF{ρ}:∀{l l'},wH ρ l=some l'→∀(i:Nat) a,l'[i]?=some a→∃b,l[i]?=some b∧AQ ρ b=some a
 | [],l',h,i,a,c=>by injection h with h;grind
 | v::r,l',h,i,a,c=>by
  unfold wH at h;split at h
  ·rename_i e d;injection h with h;subst h
   cases i with
   | zero=>grind
   | succ i=>exact LF d i a c
  grind
theorem sx{ρ}:∀{l l'},fZ ρ l=some l'→l'.length=l.length
 | [],l',h=>by injection h with h;grind
 | v::r,l',h=>by
  unfold fZ at h;split at h
  ·rename_i b a;injection h with h;subst h;simp[sx a]
  grind
theorem wC{ρ}:∀{l l'},fZ ρ l=some l'→∀(i:Nat) a,l'[i]?=some a→∃b,l[i]?=some b∧eo ρ b=some a
 | [],l',h,i,a,c=>by injection h with h;grind
 | v::r,l',h,i,a,c=>by
  unfold fZ at h;split at h
  ·rename_i e d;injection h with h;subst h
   cases i with
   | zero=>grind
   | succ i=>exact wC d i a c
  grind
theorem yW{N N':Nat→Prop}{w:World}{ι a:Env}{ρ:hZ}{v v':AV}{x:Value}(h:Rel N w ι v x)(g:∀b,N' b→N b)(m:∀id j,look id ρ=some j→a j=ι id)(e:eo ρ v=some v'):Rel N' w a v' x:=by
 unfold eo at e;split at e
 ·split at e
  ·injection e with e;subst e
   cases h with
   | fno _ _ _ f d l =>
    refine .fno _ _ _ f (by grind[OH]) (fun i c y k d=>?_)
    grind[LF,VX]
  grind
 grind[VX]
theorem Cells.rn{N N'}{w}{ι d}{ρ}{cs a}{vs}(h:Cells N w ι cs vs)(f:∀b,N' b→N b)(m:∀id j,look id ρ=some j→d j=ι id)(e:fZ ρ cs=some a):Cells N' w d a vs :=
 ⟨by rw[sx e];exact h.len,h.one,fun i x v l k=>by
  obtain⟨b,g,c⟩:=wC e i x l;exact yW (h.rel i b v g k) f m c⟩
def DX(l:hZ)(k v:Nat):Bool:=match look k l with|some x=>Nat.beq x v|none=>false
theorem qc{l}{k v}(h:DX l k v=true):look k l=some v:=by
 unfold DX at h;split at h
 ·simp_all
 grind
theorem jV{α}{k}{v:α}:∀{l},look k l=some v→(k,v)∈l
 | [],h=>by cases h
 | (j,x)::r,h=>by
  simp only[look]at h;split at h
  ·grind
  ·exact oR _ (jV h)
def rm(a b:Nat):Bool:=match Nat.ble 450000 a,Nat.ble 450000 b with
 | false,false=>true
 | true,true=>Nat.beq ((a-450000) % 1000) ((b-450000) % 1000)
 | _,_=>false
theorem HX{a b T}(h:rm a b=true)(d:a<TG)(t:tyName a T):tyName b T:=fun c f=>by
 unfold rm at h;split at h
 ·have:=alt c;grind
 ·rename_i e g;rw[t (kb e) d];simp_all
 grind
theorem XL{a b}(h:rm a b=true):rm b a=true:=by
 unfold rm at h⊢;split at h
 ·grind
 ·rename_i c d;rw[c,d];simp_all
 grind
def gU(ρ a:hZ):Bool:=(ρ.all fun p=>DX a p.2 p.1&&(Nat.ble (p.1+1) TG&&Nat.ble (p.2+1) TG))&&a.all fun p=>DX ρ p.2 p.1&&rm p.1 p.2
theorem fh{ρ a}(h:gU ρ a=true){id j}(e:look id ρ=some j):look j a=some id∧id<TG∧j<TG:=by
 simp only[gU,iO,n3]at h;have:=h.1 _ (jV e);exact⟨qc this.1,kb this.2.1,kb this.2.2⟩
theorem fP{ρ a}(h:gU ρ a=true){id j}(e:look j a=some id):look id ρ=some j:=by
 simp only[gU,iO,n3]at h;exact qc (h.2 _ (jV e)).1
theorem Ji{ρ a}(h:gU ρ a=true){id j}(e:look j a=some id):rm j id=true:=by
 simp only[gU,iO,n3]at h;exact(h.2 _ (jV e)).2
def co(a:hZ)(ι:Env):Env:=fun j=>match look j a with|some id=>ι id|none=>none
theorem km{a}{ι}{j}{y}(h:co a ι j=some y):∃id,look j a=some id∧ι id=some y:=by
 grind[co]
theorem k8{a}{ι}{j id}(h:look j a=some id):co a ι j=ι id:=by grind[co]
def fy(ρ:hZ)(o:iF):hZ→Option iF
 | []=>some []
 | (id,j)::r=>match look id o,fy ρ o r with
  | some cs,some l=>match fZ ρ cs with
   | some c=>some ((j,c)::l)
   | none=>none
  | _,_=>none
theorem BI{ρ:hZ}{o:iF}:∀{l:hZ} {O:iF},fy ρ o l=some O→∀{j:Nat} {c:c6},look j O=some c→∃id cs,(id,j)∈l∧look id o=some cs∧fZ ρ cs=some c
 | [],O,h,j,c,a=>by injection h with h;subst h;cases a
 | (id,k)::r,O,h,j,c,a=>by
  unfold fy at h;split at h
  case h_2=>cases h
  rename_i cs l b f;split at h
  case h_2=>cases h
  rename_i c0 g;injection h with h;subst h
  simp only[look]at a;split at a
  ·rename_i e;subst e;injection a with a;subst a
   exact⟨id,cs,tl,b,g⟩
  ·obtain⟨i,d,m,n⟩:=BI f a;exact⟨i,d,oR _ m,n⟩
def mc(w:World)(a:Env)(O:iF):aB:=⟨w,fun b=>∃i,bu (a i)=some b,fun j=>match look j O with|some _=>a j|none=>none⟩
def iX(P:Program)(f:FuncId)(b:c6)(O:iF)(d:Nat)(ar:cj)(U:ed)(Q:AV→AS→Prop):Prop :=
 ∀M w c xs,HS M (mc w c O) w c ⟨[],O,[(d,ar)],U⟩→b.length=xs.size→(∀(i:Nat) a x,b[i]?=some a→xs[i]?=some x→Rel (NN M c) w c a x)→Calls P f xs w (bI M (mc w c O) Q)
theorem lA{P:Program}{f:FuncId}{i:Func}{c:Code}{b:c6}{O:iF}{m:Nat}{ar:cj}{U:ed}{Q:AV→AS→Prop}(r:P.funcs[f]?=some i)(q:i.body=some c)(n:Nat)(x:i.ntmps=n)(u:b.length≤n)
  (h:∀M o,VE ⟨P,n,M,o⟩ (bodyPost P i (bI M o Q)) [.c c] .normal ⟨idxs 0 b,O,[(m,ar)],U⟩):iX P f b O m ar U Q:=by
 intro M w p xs d l t;refine al1 r q ?_;refine am3 (h M (mc w p O) { tmps:=xs++Array.replicate (i.ntmps-xs.size) undef,defers:=[] } w p ?_) (fun e a w' s=>?_)
 ·refine⟨⟨d.below,d.old,d.use,d.own,d.inj,d.ko,d.kr,d.objs,d.arrs,d.pin⟩,rfl,?_,fun k v j=>?_⟩
  ·simp;omega
  ·rw[qf,lp (u4 _),ale]at j;have g:k<xs.size:=by rw[←l];exact(jt.1 j).1
   refine⟨xs[k],?_,t k v _ j (ll g)⟩;simp only[];rw[Dz g,ll g]
 ·cases e<;>exact s
def xF(U:ed)(b:hZ)(a:Nat):Bool:=U.contains a&&b.all fun p=>U.contains p.2&&U.contains (da p.2)
theorem HS.JY{M:Nat→Prop}{w0:aB}{w:World}{ι:Env}{s:AS}(h:HS M w0 w ι s){J ρ d:hZ}{o I:Nat}{ar:cj}{O:iF}{U:ed}(P:ρ=(o,I)::J)(n:gU ρ d=true)(hO:fy ρ s.o J=some O)(hr:look o s.r=some ar)(F:xF U J I=true):
  HS (fun b=>NN M ι b∧∀i,bu (co d ι i)≠some b) (mc w (co d ι) O) w (co d ι) ⟨[],O,[(I,ar)],U⟩:=by
 have S:∀b,NN (fun b=>NN M ι b∧∀i,bu (co d ι i)≠some b) (co d ι) b→NN M ι b:=fun b f=>by
  rcases f with f|⟨j,f⟩
  ·exact f.1
  ·cases m:co d ι j with
   | none=>rw[m]at f;cases f
   | some y=>obtain⟨id,_,A⟩:=km m;exact .inr ⟨id,by rw[A];rw[m]at f;exact f⟩
 have hι:∀id j,look id ρ=some j→co d ι j=ι id:=fun id j e=>k8 (fh n e).1;have H:look o ρ=some I:=by rw[P];simp[look]
 have C:∀j id,look j d=some id→U.contains j=true:=fun j id e=>by
  have:=jV (fP n e);rw[P]at this;simp only[xF,iO,n3]at F;rcases ol.1 this with z|z
  ·injection z with R W;rw[W];exact F.1
  ·exact(F.2 _ z).1
 have B:∀{j c},look j O=some c→∃id cs,look j d=some id∧(id,j)∈J∧look id s.o=some cs∧fZ ρ cs=some c:=fun {j c} l=>by
  obtain⟨id,cs,V,q2,q3⟩:=BI hO l;refine⟨id,cs,?_,V,q2,q3⟩;simp only[gU,iO,n3]at n;exact qc (n.1 (id,j) (by rw[P];exact oR _ V)).1
 refine⟨⟨rfl,rfl,rfl,la _,fun _ _ _=>rfl⟩,fun b f=>⟨ml h f.1,fun⟨i,hi⟩=>f.2 i hi⟩,fun j y hy=>?_,fun j g r=>?_,fun j j' g r t=>?_,fun j c l=>?_,fun j a p=>?_,fun j c l G=>?_,fun j a p G=>?_,fun j v hv=>?_⟩
 ·obtain⟨id,k,_⟩:=km hy;exact ft (C j id k)
 ·cases m:co d ι j with
  | none=>rw[m]at r;cases r
  | some y =>
   obtain⟨id,k,A⟩:=km m;refine⟨.inr ⟨j,r⟩,(h.own id g ?_).2⟩;rw[m]at r;rw[A];exact r
 ·cases m:co d ι j with
  | none=>rw[m]at r;cases r
  | some y =>
   cases D:co d ι j' with
   | none=>rw[D]at t;cases t
   | some y' =>
    obtain⟨id,k,A⟩:=km m;obtain⟨Q,K,L⟩:=km D;have:=h.inj id Q g (by rw[m]at r;rw[A];exact r) (by rw[D]at t;rw[L];exact t);subst this;have E:=fP n k;have z:=fP n K;rw[E]at z;injection z
 ·obtain⟨id,cs,k,_⟩:=B l;exact ft (C j id k)
 ·simp only[look]at p;split at p
  ·rename_i e;subst e;exact ft (C _ o (fh n H).1)
  ·cases p
 ·obtain⟨id,cs,k,_,A,h3⟩:=B l;rw[k8 k]at G⊢;obtain⟨g,T,vs,E,z,R⟩:=h.objs id cs A G;exact⟨g,⟨T.1,HX (XL (Ji n k)) (fh n (fP n k)).2.1 T.2⟩,vs,E,z,R.rn S hι h3⟩
 ·simp only[look]at p;split at p
  ·rename_i e;subst e;injection p with p;subst p
   have E:=fh n H;rw[k8 E.1]at G⊢;obtain⟨v,xs,X,Y,Z,g4,g5⟩:=h.arrs o ar hr G;refine⟨v,xs,X,Y,Z,g4,fun q e hq i c l=>?_⟩;obtain⟨x,hx,N⟩:=g5 q e hq i c l;exact⟨x,hx,.inl ((N.flat (by omega)).mono (la _) (fun b _ f=>S b f) (fun _ _ _=>rfl) (fun _ _ h=>h))⟩
  ·cases p
 ·have u:(match look j O with|some _=>co d ι j|none=>none)=some v:=hv;cases l:look j O with
  | none=>rw[l]at u;cases u
  | some c =>
   rw[l]at u;obtain⟨id,cs,_,k,_⟩:=B l;simp only[xF,iO,n3]at F;exact⟨u,(F.2 _ k).2⟩
def cq(o:iF):iF→Prop
 | []=>True
 | (j,c)::r=>look j o=some c∧cq o r
theorem JZ{o}:∀{a},cq o a→∀{j} {c},look j a=some c→look j o=some c
 | [],_,j,c,h=>by cases h
 | (i,d)::r,b,j,c,h=>by
  simp only[look]at h;split at h
  ·rename_i e;subst e;injection h with h;subst h;exact b.1
  ·exact JZ b.2 h
def dT(b:hZ)(a:iF):hZ→Option iF
 | []=>some []
 | (id,j)::r=>match look j a,dT b a r with
  | some c,some l=>match fZ b c with
   | some d=>some ((id,d)::l)
   | none=>none
  | _,_=>none
theorem wT{g:hZ}{f:iF}:∀{l:hZ} {b:iF},dT g f l=some b→∀{id:Nat} {c:c6},look id b=some c→∃j d,(id,j)∈l∧look j f=some d∧fZ g d=some c
 | [],b,h,id,c,a=>by injection h with h;subst h;cases a
 | (i,j)::r,b,h,id,c,a=>by
  unfold dT at h;split at h
  case h_2=>cases h
  rename_i d l k m;split at h
  case h_2=>cases h
  rename_i c0 n;injection h with h;subst h
  simp only[look]at a;split at a
  ·rename_i e;subst e;injection a with a;subst a
   exact⟨j,d,tl,k,n⟩
  ·obtain⟨q,e,o,p⟩:=wT m a;exact⟨q,e,oR _ o,p⟩
theorem H1{g}{c}:∀{l} {a},dT g c l=some a→∀{id j},(id,j)∈l→look id a≠none
 | [],a,h,id,j,b=>by grind
 | (i,q)::r,a,h,id,j,b=>by
  unfold dT at h;split at h
  case h_2=>grind
  rename_i d l k f;split at h
  case h_2=>grind
  rename_i c0 m;injection h with h;subst h
  simp only[look];split
  ·grind
  ·rcases ol.1 b with e|e
   ·grind
   ·exact H1 f e
theorem Av{ρ}{o}:∀{l} {O},fy ρ o l=some O→∀{id j},(id,j)∈l→∃c,look j O=some c
 | [],O,h,id,j,a=>by grind
 | (i,q)::r,O,h,id,j,a=>by
  unfold fy at h;split at h
  case h_2=>grind
  rename_i cs l d b;split at h
  case h_2=>grind
  rename_i c0 f;injection h with h;subst h
  simp only[look];split
  ·grind
  ·rcases ol.1 a with e|e
   ·grind
   ·exact Av b e
def zb:iF→iF→iF
 | [],o=>o
 | (k,v)::r,o=>bd k v (zb r o)
theorem Ap{o}:∀{l} {i} {c},look i (zb l o)=some c→look i l=some c∨(look i l=none∧look i o=some c)
 | [],i,c,h=>.inr ⟨rfl,h⟩
 | (k,v)::r,i,c,h=>by
  simp only[zb,cn,look]at h⊢;split at h
  ·grind
  ·rename_i e;rw[kc e];exact Ap h
def j7(a:Nat)(b:cj)(c:iF)(s:AS):AS:=⟨dw a s.t,zb c (eV a s.o),bd a b s.r,s.u⟩
def cE(ι c:Env)(a b:Nat):Env:=fun i=>if i=a then c b else ι i
theorem HS.Ls{M:Nat→Prop}{w0:aB}{w w':World}{ι C:Env}{s s1:AS}(h:HS M w0 w ι s){ρo ρ F:hZ}{f z:Nat}{ar P:cj}{O O1 o2:iF}(hρ:ρ=(f,z)::ρo)(L:gU ρ F=true)(hO:fy ρ s.o ρo=some O)(hr:look f s.r=some ar)
  (k0:s.u.contains (da f)=false) (o0:look f s.o=none) (l0:∀p∈ρo,look p.1 s.r=none) (h0:∀p∈ρo,∃y,co F ι p.2=some y)
  (K:HS (fun b=>NN M ι b∧∀i,bu (co F ι i)≠some b) (mc w (co F ι) O) w' C s1) (g0:cq s1.o O1) (m0:look z s1.r=some P) (l:dT F O1 ρo=some o2) :
  HS M w0 w' (cE ι C f z) (j7 f P o2 s)∧(∀{v:AV} {x:Value},Rel (NN M ι) w ι v x→Rel (NN M (cE ι C f z)) w' (cE ι C f z) (v.cO f) x) ∧
   (∀{v v':AV} {x:Value},Rel (NN (fun b=>NN M ι b∧∀i,bu (co F ι i)≠some b) C) w' C v x→eo F v=some v'→Rel (NN M (cE ι C f z)) w' (cE ι C f z) v' x):=by
 have W:look f ρ=some z:=by rw[hρ];simp[look]
 have f1:∀id j,(id,j)∈ρo→C j=ι id∧look j F=some id:=fun id j hm=>by
  have E:look j F=some id:=by
   have e0:=L;simp only[gU,iO,n3]at e0;exact qc (e0.1 (id,j) (by rw[hρ];exact oR _ hm)).1
  obtain⟨y,Z⟩:=h0 _ hm;obtain⟨c,hc⟩:=Av hO hm;have G:=(K.pin j y (by show(match look j O with|some _=>co F ι j|none=>none)=some y;rw[hc];exact Z)).1;refine⟨?_,E⟩;rw[G,← k8 (ι:=ι) E];exact Z.symm
 have f2:∀j id,look j F=some id→cE ι C f z id=C j:=fun j id e=>by
  have t:=fP L e;unfold cE;by_cases n:id=f
  ·subst n;rw[lp rfl];rw[W]at t;injection t with t;rw[t]
  ·rw[kc n];have:=jV t;rw[hρ]at this;rcases ol.1 this with H|H
   ·injection H with U e5;exact absurd U n
   ·exact(f1 id j H).1.symm
 have m:∀{q b},bu (co F ι q)=some b→∃id,look q F=some id∧bu (ι id)=some b:=fun {q b} N=>by
  cases he:co F ι q with
  | none=>rw[he]at N;cases N
  | some y=>obtain⟨id,E,t⟩:=km he;exact⟨id,E,by rw[t];rw[he]at N;exact N⟩
 have X:w.heap.size≤w'.heap.size:=K.below.size;have bZ:∀b,b<w.heap.size→(∀i,bu (co F ι i)≠some b)→w'.heap[b]?=w.heap[b]?:=fun b Q l=>K.below.block b Q (fun⟨i,hi⟩=>l i hi);have R:∀b,b<w.heap.size→¬ NN M ι b→w'.heap[b]?=w.heap[b]?:=fun b Q l=>bZ b Q (fun i hi=>by
  obtain⟨id,_,e⟩:=m hi;exact l (.inr ⟨id,e⟩))
 have a0:∀b,NN M (cE ι C f z) b→NN (fun b=>NN M ι b∧∀i,bu (co F ι i)≠some b) C b:=fun b l=>by
  rcases l with l|⟨id,l⟩
  ·exact .inl ⟨.inl l,fun i hi=>by obtain⟨id,_,e⟩:=m hi;exact h.sep l e⟩
  ·unfold cE at l;by_cases n:id=f
   ·rw[lp n]at l;exact .inr ⟨z,l⟩
   ·rw[kc n]at l;by_cases hl:∃i,bu (co F ι i)=some b
    ·obtain⟨q,N⟩:=hl;obtain⟨J,E,t⟩:=m N;have:=h.inj J id b t l;subst this;have:=f2 q J E;unfold cE at this;rw[kc n]at this;exact .inr ⟨q,by rw[←this];exact l⟩
    ·exact .inl ⟨.inr ⟨id,l⟩,fun i hi=>hl ⟨i,hi⟩⟩
 have d0:∀b,b<w.heap.size→NN M (cE ι C f z) b→NN M ι b:=fun b Q l=>by
  rcases l with l|⟨id,l⟩
  ·exact .inl l
  ·unfold cE at l;by_cases n:id=f
   ·rw[lp n]at l;rcases (K.own z b l).1 with e|⟨q,e⟩
    ·exact absurd Q (akX.2 e)
    ·obtain⟨J,_,t⟩:=m e;exact .inr ⟨J,t⟩
   ·rw[kc n]at l;exact .inr ⟨id,l⟩
 have T:∀{v:AV} {x:Value},Rel (NN M ι) w ι v x→Rel (NN M (cE ι C f z)) w' (cE ι C f z) (v.cO f) x:=fun hv =>
  (hv.mono X d0 R (fun _ _ h=>h)).cO (fun i hi=>kc hi)
 have np:w0.pv f=none:=h.np k0;refine⟨⟨?_,h.old,fun i y Z=>?_,fun i g D=>?_,fun i S g D B=>?_,fun i c hi=>?_,fun i a hi=>?_,fun i c hi G=>?_,fun i a hi G=>?_,fun i v G=>?_⟩,T,fun hv e=>yW hv a0 (fun j id e=>f2 j id e) e⟩
 ·refine h.below.trans ⟨K.below.os,K.below.tape,K.below.output,X,fun k hk hG=>bZ k (wl hk h.below.size) (fun i hi=>?_)⟩;obtain⟨id,_,e⟩:=m hi;rcases (h.own id k e).1 with h9|h9
  ·exact absurd hk (akX.2 h9)
  ·exact hG h9
 ·unfold cE at Z;by_cases n:i=f
  ·subst n;exact h.kr i ar hr
  ·rw[kc n]at Z;exact h.use i y Z
 ·unfold cE at D;by_cases n:i=f
  ·rw[lp n]at D;obtain⟨A,Y⟩:=K.own z g D;refine⟨?_,Y⟩;rcases A with A|⟨q,A⟩
   ·exact .inl (RX h.below.size A)
   ·obtain⟨id,_,e⟩:=m A;exact(h.own id g e).1
  ·rw[kc n]at D;exact⟨(h.own i g D).1,wl (h.own i g D).2 X⟩
 ·have f0:∀S,S≠f→bu (C z)=some g→bu (ι S)=some g→False:=fun S o D B=>by
   rcases (K.own z g D).1 with A|⟨q,A⟩
   ·exact absurd (h.own S g B).2 (akX.2 A)
   ·obtain⟨id,E,t⟩:=m A;have:=h.inj id S g t B;subst this;have H:=f2 q id E;unfold cE at H;rw[kc o]at H;have:=K.inj q z g (by rw[←H];exact t) D;subst this;have:=(fh L W).1;rw[E]at this;injection this with this;exact o this
  unfold cE at D B;by_cases n:i=f
  ·by_cases I:S=f
   ·rw[n,I]
   ·rw[lp n]at D;rw[kc I]at B;exact(f0 S I D B).elim
  ·by_cases I:S=f
   ·rw[kc n]at D;rw[lp I]at B;exact(f0 i n B D).elim
   ·rw[kc n]at D;rw[kc I]at B;exact h.inj i S g D B
 ·rcases Ap hi with e|⟨_,e⟩
  ·obtain⟨j,d,A,_,_⟩:=wT l e;obtain⟨c0,i0⟩:=Av hO A;obtain⟨J,cs,p1,p2,p3⟩:=BI hO i0;have E:=(f1 i j A).2;have t:=(f1 J j p1).2;rw[E]at t;injection t with t;subst t
   exact h.ko i cs p2
  ·obtain⟨u,hu,_⟩:=jB e;exact h.ko i u hu
 ·have o:look i (bd f P s.r)=some a:=hi;rw[cn]at o;split at o
  ·rename_i e;subst e;exact h.kr i ar hr
  ·exact h.kr i a o
 ·rcases Ap hi with e|⟨en,e⟩
  ·obtain⟨j,d,A,Y,q3⟩:=wT l e;have E:=f2 j i (f1 i j A).2;rw[E]at G⊢;obtain⟨g,T0,vs,r1,r2,r3⟩:=K.objs j d (JZ g0 Y) G;have e9:=(f1 i j A).2;exact⟨g,⟨T0.1,HX (Ji L e9) (fh L (fP L e9)).2.2 T0.2⟩,vs,r1,r2,r3.rn a0 (fun j id e=>f2 j id e) q3⟩
  ·obtain⟨u,hu,rfl⟩:=jB e;have n:i≠f:=fun e=>by rw[e,o0]at hu;cases hu
   have E:cE ι C f z i=ι i:=kc n;rw[E]at G⊢;obtain⟨g,T0,vs,r1,r2,r3⟩:=h.objs i u hu G;refine⟨g,T0,vs,r1,(bZ g (h.own i g (by rw[r1];rfl)).2 (fun q N=>?_)).trans r2,⟨by rw[l5];exact r3.len,r3.one,fun k x v hx hv=>?_⟩⟩
   ·obtain⟨id,t,H⟩:=m N;have:=h.inj id i g H (by rw[r1];rfl);subst this;have:=jV (fP L t);rw[hρ]at this;rcases ol.1 this with U|U
    ·injection U with e5 e6;exact n e5
    ·exact H1 l U en
   ·obtain⟨y,Z,rfl⟩:=lq hx;exact T (r3.rel k y v Z hv)
 ·have o:look i (bd f P s.r)=some a:=hi;rw[cn]at o;split at o
  ·rename_i e;subst e;injection o with o;subst o
   have E:cE ι C i z i=C z:=lp rfl;rw[E]at G⊢;have p0:=(fh L W).2.2;obtain⟨v,xs,A,Y,q3,q4,q5⟩:=K.arrs z P m0 G;refine⟨v,xs,A,Y,q3,q4,fun j e hj k c hk=>?_⟩;obtain⟨x,hx,b0⟩:=q5 j e hj k c hk;exact⟨x,hx,.inl ((b0.flat (by omega)).mono (la _) (fun b _ l=>a0 b l) (fun _ _ _=>rfl) (fun _ _ h=>h))⟩
  ·rename_i n;have E:cE ι C f z i=ι i:=kc n;rw[E]at G⊢;obtain⟨v,xs,A,Y,q3,q4,q5⟩:=h.arrs i a o G;have q0:=(fh L W).2.1;refine⟨v,xs,A,fK Y (fun g D=>bZ g (h.own i g (by rw[A];exact D)).2 (fun q N=>?_)),q3,q4,fun j e hj k c hk=>?_⟩
   ·obtain⟨id,t,H⟩:=m N;have:=h.inj id i g H (by rw[A];exact D);subst this;have:=jV (fP L t);rw[hρ]at this;rcases ol.1 this with U|U
    ·injection U with e5 e6;exact n e5
    ·have:=l0 _ U;rw[o]at this;cases this
   ·obtain⟨x,hx,b0⟩:=q5 j e hj k c hk;have nb:∀q:Nat,dX≤nm i q:=fun q=>alR _ _;have lb:TG<dX:=by decide
    refine⟨x,hx,b0.mono X d0 R (fun r V=>?_) (fun r V=>bZ r (h.j6 V) (fun q N=>?_)) (fun h=>h)⟩
    ·exact(kc (fun e=>by have:=nb (j*a.sz+k);omega)).trans V
    ·obtain⟨id,t,H⟩:=m N;have:=h.inj id _ r H (by rw[V];rfl);have h9:=(fh L (fP L t)).2.1;have:=nb (j*a.sz+k);omega
 ·obtain⟨A,Y⟩:=h.pin i v G;refine⟨?_,Y⟩;have n:i≠f:=fun e=>by rw[e,np]at G;cases G
  exact(kc n).trans A
def b8:hZ→hZ
 | []=>[]
 | (a,b)::r=>(b,a)::b8 r
def zD(j:Nat):AV→Bool
 | .ptr i o=>Nat.beq i j&&Nat.beq o 0
 | _=>false
def wN(j:Nat):AV→Bool
 | .fno _ cs=>cs.any (zD j)
 | v=>zD j v
theorem UD{N}{w}{ι}{j}{v}{x}(h:zD j v=true)(a:Rel N w ι v x):∃y,ι j=some y:=by
 unfold zD at h;split at h
 ·rw[iO]at h;have:=nx h.1;cases a with
  | ptr _ _ _ g h=>grind
 grind
theorem NM{N:Nat→Prop}{w:World}{ι:Env}{j:Nat}{v:AV}{x:Value}(h:wN j v=true)(d:Rel N w ι v x):∃y,ι j=some y:=by
 cases d with
 | fno _ f cs i m d =>
  obtain⟨c,k,a⟩:=ahE.1 h;obtain⟨q,e⟩:=alO.1 k;have b:q<i.length:=by rw[←m];exact(jt.1 e).1
  exact UD a (d q c i[q] e (j3 b))
 | ptr _ id o g l=>exact UD (N:=N) (w:=w) (v:=.ptr id o) (by grind[wN]) (.ptr _ id o g l)
 | _=>grind[wN,zD]
def Cr(a:AV→AV)(s:AS)(o:Oper)(ρ:hZ):Option (FuncId×c6) :=
 match o.op with
 | .call c=>match c.callee with
  | .value d=>match s.ev d,dj s c.args.toList with
   | some (.fn f []),some l=>match fZ ρ (l.map a) with
    | some l'=>some (f,l')
    | none=>none
   | some (.fno f cs),some l=>match fZ ρ (l.map a),fZ ρ cs with
    | some l',some b=>some (f,l'++b)
    | _,_=>none
   | _,_=>none
  | _=>none
 | _=>none
def Ku(s:AS)(a d:Nat)(c:hZ)(U:ed)(b:c6):Bool :=
 gU ((a,d)::c) (b8 ((a,d)::c))&&(xF U c d&&((match s.u.contains (da a) with|true=>false|false=>true)&&((match look a s.o with|none=>true|some _=>false) &&
  ((c.all fun p=>match look p.1 s.r with|none=>true|some _=>false)&&c.all fun p=>b.any (wN p.2)))))
section
variable{d:Cx}{s:AS}{a:Act}{w:World}{ι:Env}
theorem afn(J:aV d s a w ι){F:AV→AV}(I:∀{v:AV} {x:Value},Rel (NN d.M ι) w ι v x→Rel (NN d.M ι) w ι (F v) x){o:Oper}{ρ:hZ}{g:FuncId}{j:c6}(h:Cr F s o ρ=some (g,j))(y:cI d.P g=true):
  ∃xs:Array Value,(execOp a.eval o).run d.P w=.ok (.enter g xs) w∧j.length=xs.size∧∀(i:Nat) (v:AV) (x:Value),j[i]?=some v→xs[i]?=some x→∃u,eo ρ u=some v∧Rel (NN d.M ι) w ι u x:=by
 unfold Cr at h;split at h
 case h_2=>cases h
 rename_i c A;split at h
 case h_2=>cases h
 rename_i P m;have part:∀{l l':c6},dj s c.args.toList=some l→fZ ρ (l.map F)=some l'→l'.length=(c.args.map a.eval).size∧∀(i:Nat) (v:AV) (x:Value),l'[i]?=some v→(c.args.map a.eval)[i]?=some x→∃u,eo ρ u=some v∧Rel (NN d.M ι) w ι u x:=fun {l l'} z e=>by
  obtain⟨R,S⟩:=lr J z;refine⟨by rw[sx e];simp at R⊢;omega,fun i v x r q=>?_⟩;obtain⟨b,k,p⟩:=wC e i v r;rw[Do]at k;cases n:l[i]? with
  | none=>rw[n]at k;cases k
  | some O =>
   rw[n]at k;injection k with k;subst k
   exact⟨_,p,I (S i O x n (by rw[←akW,aix];exact q))⟩
 split at h
 ·rename_i f l H z;split at h
  case h_2=>cases h
  rename_i l' e;injection h with h;injection h with D E;subst D;subst E
  obtain⟨N,B,G,_⟩:=kF J A m H y;have L:N=[]:=qk (by simpa using G.symm);subst L;have K:c.args.map a.eval++([]:eg).toArray=c.args.map a.eval:=by simp
  rw[K]at B;obtain⟨p1,M⟩:=part z e;exact⟨_,B,p1,M⟩
 ·rename_i f cs l H z;split at h
  case h_2=>cases h
  rename_i l' T e t;injection h with h;injection h with D E;subst D;subst E
  obtain⟨p1,M⟩:=part z e;have C:=J.ev H;generalize Q:a.eval P=X at C;cases C with
  | fno _ _ _ N U C =>
   refine⟨c.args.map a.eval++N.toArray,?_,by simp at p1⊢;rw[sx t];omega,fun i v x r q=>?_⟩
   ·unfold execOp;simp only[A,resolve,m,Q,Deferred.ofValue,sj,Qf,u5,invoke];rw[Ga y];simp
   ·by_cases hi:i<l'.length
    ·rw[zt hi]at r;rw[Dz (by rw[←p1];exact hi)]at q;exact M i v x r q
    ·rw[z3 (by omega)]at r;rw[akU (by rw[←p1];omega)]at q;rw[←p1]at q;obtain⟨b,k,p⟩:=wC t _ v r;exact⟨b,p,C _ b x k (by simpa using q)⟩
 grind
end
section
variable{c:Cx}{Q:Exit→Act→World→Prop}{l:dt}{s:AS}{d:Array Oper}{f:Func}{p:ed}{i:Nat}
theorem Wk{a:Act}{w:World}{ι:Env}(C:aV c s a w ι){fn:AV→AV}(S:∀{v:AV} {x:Value},Rel (NN c.M ι) w ι v x→Rel (NN c.M ι) w ι (fn v) x)(h n:Nat)(m:hZ){g:FuncId}{r:c6}{V1:AV}{O L:iF}{ar B:cj}{U:ed}(hc:iX c.P g r O n ar U (fun v s1=>v=V1∧cq s1.o L∧look n s1.r=some B))
  (k:OT c Q l d (aU f p (i+1)) ((j7 h B ((dT (b8 ((h,n)::m)) L m).getD []) s).put (aS f p i).dst ((eo (b8 ((h,n)::m)) V1).getD .any)))
  (P:cI c.P g=true) (h1:Cr fn s (aS f p i) ((h,n)::m)=some (g,r))
  (hO:fy ((h,n)::m) s.o m=some O) (J:look h s.r=some ar) (z:(dT (b8 ((h,n)::m)) L m).isSome=true) (G:(eo (b8 ((h,n)::m)) V1).isSome=true)
  (hd:cK c.n (aS f p i).dst=true) (E:Ku s h n m U r=true):wpList c.P d (Kw c.P Q l) ({ aS f p i with guard:=none }::aU f p (i+1)) a w:=by
 refine Ts rfl fun K hK=>?_;obtain⟨o2,D⟩:=w3.1 z;obtain⟨V2,H⟩:=w3.1 G;rw[D,H]at k;simp only[aag]at k;simp only[Ku,iO]at E;obtain⟨k1,k2,k3,k4,k5,k6⟩:=E;have W:s.u.contains (da h)=false:=by
  cases A:s.u.contains (da h) with
  | true=>rw[A]at k3;cases k3
  | false=>rfl
 have c0:look h s.o=none:=by
  cases A:look h s.o with
  | some _=>rw[A]at k4;cases k4
  | none=>rfl
 have X:∀p∈m,look p.1 s.r=none:=fun p Y=>by
  have:=n3.1 k5 p Y;cases A:look p.1 s.r with
  | some _=>rw[A]at this;cases this
  | none=>rfl
 unfold Oper.wp;obtain⟨xs,a0,I,e0⟩:=afn (o:={ aS f p i with guard:=none }) C S h1 P;rw[a0,ahR];have hN:∀b,NN (fun b=>NN c.M ι b∧∀i,bu (co (b8 ((h,n)::m)) ι i)≠some b) (co (b8 ((h,n)::m)) ι) b→NN c.M ι b:=fun b z=>by
  rcases z with z|⟨j,z⟩
  ·exact z.1
  ·cases R:co (b8 ((h,n)::m)) ι j with
   | none=>rw[R]at z;cases z
   | some y=>obtain⟨id,_,h2⟩:=km R;exact .inr ⟨id,by rw[h2];rw[R]at z;exact z⟩
 have t:∀(i:Nat) (a:AV) (x:Value),r[i]?=some a→xs[i]?=some x→Rel (NN (fun b=>NN c.M ι b∧∀i,bu (co (b8 ((h,n)::m)) ι i)≠some b) (co (b8 ((h,n)::m)) ι)) w (co (b8 ((h,n)::m)) ι) a x:=fun i v x G hx=>by
  obtain⟨u,q1,q2⟩:=e0 i v x G hx;exact yW q2 hN (fun id j e=>k8 (fh k1 e).1) q1
 have N:∀p∈m,∃y,co (b8 ((h,n)::m)) ι p.2=some y:=fun p Y=>by
  have:=n3.1 k6 p Y;obtain⟨v,G,d0⟩:=ahE.1 this;obtain⟨q,A⟩:=alO.1 G;have V:q<xs.size:=by rw[←I];exact(jt.1 A).1
  exact NM d0 (t q v _ A (ll V))
 refine (hc _ w _ xs (C.hs.JY rfl k1 hO J k2) I t).mono ?_
 rintro e w' ⟨x,v,s1,ι1,rfl,⟨rfl,M,Z⟩,T,b0⟩
 obtain⟨g1,g2,g3⟩:=C.hs.Ls rfl k1 hO J W c0 X N T M Z D;have F:aV c (j7 h B o2 s) a w' (cE ι ι1 h n):=⟨g1,C.dfr,C.n,fun k v hk=>by
  obtain⟨u,hu,rfl⟩:=ow hk;obtain⟨y,hy,J⟩:=C.tmp k u hu;exact⟨y,hy,g2 J⟩⟩
 exact hK _ _ (k _ _ _ (F.put (fX hd) (g3 b0 H)))
theorem jw b m j{g}{e}{V1}{O o}{ar n}{U}(z:iX c.P g e O m ar U (fun v t=>v=V1∧cq t.o o∧look m t.r=some n))
  (k:OT c Q l d (aU f p (i+1)) ((j7 b n ((dT (b8 ((b,m)::j)) o j).getD []) s).put (aS f p i).dst ((eo (b8 ((b,m)::j)) V1).getD .any)))
  (C:aU f p i=aS f p i::aU f p (i+1):=by kernel_rfl) (B:cC d s (aS f p i)=true:=by kernel_rfl) (q:cI c.P g=true:=by kernel_rfl) (u:Cr id s (aS f p i) ((b,m)::j)=some (g,e):=by kernel_rfl)
  (x:fy ((b,m)::j) s.o j=some O:=by kernel_rfl) (D:look b s.r=some ar:=by kernel_rfl) (y:(dT (b8 ((b,m)::j)) o j).isSome=true:=by kernel_rfl) (F:(eo (b8 ((b,m)::j)) V1).isSome=true:=by kernel_rfl)
  (A:cK c.n (aS f p i).dst=true:=by kernel_rfl) (r:Ku s b m j U e=true:=by kernel_rfl):OT c Q l d (aU f p i) s:=by
 rw[C];exact eU _ B fun a w ι E=>Wk E (fun h=>h) b m j z k q u x D y F A r
end
end Go.Proofs.YtocgkfoifehcbaaGreat
