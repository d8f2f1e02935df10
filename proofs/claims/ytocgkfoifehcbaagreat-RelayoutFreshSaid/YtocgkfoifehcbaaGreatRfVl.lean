/- Calls that are lent variables of the caller's and one slice of its own, and that give them back. No program in sight. -/
import Derived.Test.YtocgkfoifehcbaaGreatRfVz
import Derived.Test.YtocgkfoifehcbaaGreatRfVn
namespace Go.Proofs.YtocgkfoifehcbaaGreat
set_option linter.all false
open Go.RowKit
def ri(ρ:List (Nat×Nat)):AV→Option AV
 | .ptr id o=>match look id ρ with|some j=>some (.ptr j o)|none=>none
 | .ref id=>match look id ρ with|some j=>some (.ref j)|none=>none
 | v=>match v.cL [] with|true=>some (fP v)|false=>none
def n4(ρ:List (Nat×Nat)):List AV→Option (List AV)
 | []=>some []
 | v::r=>match ri ρ v,n4 ρ r with|some x,some l=>some (x::l)|_,_=>none
def dA(ρ:List (Nat×Nat)):AV→Option AV
 | .fno f cs=>match n4 ρ cs with|some l=>some (.fno f l)|none=>none
 | v=>ri ρ v
def eE(ρ:List (Nat×Nat)):List AV→Option (List AV)
 | []=>some []
 | v::r=>match dA ρ v,eE ρ r with|some x,some l=>some (x::l)|_,_=>none
theorem FZ{N N':Nat→Prop}{w:World}{ι ι0:Env}{ρ:List (Nat×Nat)}{v v':AV}{x:Value}(h:Rel N w ι v x)(hN:∀b,N' b→N b)(hι:∀id j,look id ρ=some j→ι0 j=ι id)(e:ri ρ v=some v'):Rel N' w ι0 v' x:=by
 have hm:∀{e:Env} {v:AV} {x:Value},Rel N w e v x→Rel N' w e v x:=fun h=>h.mono (Nat.le_refl _) (fun b _ hb=>hN b hb) (fun _ _ _=>rfl) (fun _ _ h=>h);unfold ri at e;split at e
 ·rename_i id o;split at e
  ·rename_i j hj;injection e with e;subst e
   cases h with
   | ptr _ _ _ g h=>exact .ptr _ _ _ g ((hι _ _ hj).trans h)
  ·cases e
 ·rename_i id;split at e
  ·rename_i j hj;injection e with e;subst e
   cases h with
   | ref _ _ A n c h=>exact .ref _ _ A n c ((hι _ _ hj).trans h)
  ·cases e
 ·split at e
  ·rename_i hu;injection e with e;subst e
   exact wJ (hm (h.pure hu ι0))
  ·cases e
theorem G4{ρ:List (Nat×Nat)}:∀{l l':List AV},n4 ρ l=some l'→l'.length=l.length
 | [],l',h=>by injection h with h;subst h;rfl
 | v::r,l',h=>by
  unfold n4 at h;split at h
  ·rename_i h1 h2;injection h with h;subst h;simp[G4 h2]
  ·cases h
theorem Hk{ρ:List (Nat×Nat)}:∀{l l':List AV},n4 ρ l=some l'→∀(i:Nat) (a:AV),l'[i]?=some a→∃b,l[i]?=some b∧ri ρ b=some a
 | [],l',h,i,a,ha=>by injection h with h;subst h;simp at ha
 | v::r,l',h,i,a,ha=>by
  unfold n4 at h;split at h
  ·rename_i h1 h2;injection h with h;subst h
   cases i with
   | zero=>simp at ha;subst ha;exact⟨v,rfl,h1⟩
   | succ i=>simp only[List.getElem?_cons_succ]at ha⊢;exact Hk h2 i a ha
  ·cases h
theorem rB{ρ:List (Nat×Nat)}:∀{l l':List AV},eE ρ l=some l'→l'.length=l.length
 | [],l',h=>by injection h with h;subst h;rfl
 | v::r,l',h=>by
  unfold eE at h;split at h
  ·rename_i h1 h2;injection h with h;subst h;simp[rB h2]
  ·cases h
theorem tc{ρ:List (Nat×Nat)}:∀{l l':List AV},eE ρ l=some l'→∀(i:Nat) (a:AV),l'[i]?=some a→∃b,l[i]?=some b∧dA ρ b=some a
 | [],l',h,i,a,ha=>by injection h with h;subst h;simp at ha
 | v::r,l',h,i,a,ha=>by
  unfold eE at h;split at h
  ·rename_i h1 h2;injection h with h;subst h
   cases i with
   | zero=>simp at ha;subst ha;exact⟨v,rfl,h1⟩
   | succ i=>simp only[List.getElem?_cons_succ]at ha⊢;exact tc h2 i a ha
  ·cases h
theorem wV{N N':Nat→Prop}{w:World}{ι ι0:Env}{ρ:List (Nat×Nat)}{v v':AV}{x:Value}(h:Rel N w ι v x)(hN:∀b,N' b→N b)(hι:∀id j,look id ρ=some j→ι0 j=ι id)(e:dA ρ v=some v'):Rel N' w ι0 v' x:=by
 unfold dA at e;split at e
 ·rename_i f cs;split at e
  ·rename_i l hl;injection e with e;subst e
   cases h with
   | fno _ _ _ ys hy hr =>
    refine .fno _ _ _ ys (by rw[G4 hl];exact hy) (fun i c y hc hy=>?_);obtain⟨b,hb,hbc⟩:=Hk hl i c hc;exact FZ (hr i b y hb hy) hN hι hbc
  ·cases e
 ·exact FZ h hN hι e
theorem Cells.rn{N N':Nat→Prop}{w:World}{ι ι0:Env}{ρ:List (Nat×Nat)}{cs cs':List AV}{vs:List Value}(h:Cells N w ι cs vs)(hN:∀b,N' b→N b)(hι:∀id j,look id ρ=some j→ι0 j=ι id)(e:eE ρ cs=some cs'):Cells N' w ι0 cs' vs :=
 ⟨by rw[rB e];exact h.len,h.one,fun i x v hx hv=>by
  obtain⟨b,hb,hbx⟩:=tc e i x hx;exact wV (h.rel i b v hb hv) hN hι hbx⟩
def uM(l:List (Nat×Nat))(k v:Nat):Bool:=match look k l with|some x=>Nat.beq x v|none=>false
theorem qw{l:List (Nat×Nat)}{k v:Nat}(h:uM l k v=true):look k l=some v:=by
 unfold uM at h;split at h
 ·rename_i x hx;rw[hx,Nat.eq_of_beq_eq_true h]
 ·cases h
theorem kx{α:Type}{k:Nat}{v:α}:∀{l:List (Nat×α)},look k l=some v→(k,v)∈l
 | [],h=>by cases h
 | (j,x)::r,h=>by
  simp only[look]at h;split at h
  ·rename_i e;subst e;injection h with h;subst h;exact List.mem_cons_self
  ·exact List.mem_cons_of_mem _ (kx h)
def lq(a b:Nat):Bool:=match Nat.ble 450000 a,Nat.ble 450000 b with
 | false,false=>true
 | true,true=>Nat.beq ((a-450000) % 1000) ((b-450000) % 1000)
 | _,_=>false
theorem CJ{a b T:Nat}(h:lq a b=true)(hb:a<TG)(t:tyName a T):tyName b T:=fun h1 h2=>by
 unfold lq at h;split at h
 ·rename_i q1 q2;have:=Nat.ble_eq_true_of_le h1;rw[q2]at this;cases this
 ·rename_i q1 q2;rw[t (Nat.le_of_ble_eq_true q1) hb];exact Nat.eq_of_beq_eq_true h
 ·cases h
theorem SJ{a b:Nat}(h:lq a b=true):lq b a=true:=by
 unfold lq at h⊢;split at h
 ·rename_i q1 q2;rw[q1,q2]
 ·rename_i q1 q2;rw[q1,q2];simp only[Nat.eq_of_beq_eq_true h];exact Nat.beq_refl _
 ·cases h
def fZ(ρ ρ':List (Nat×Nat)):Bool:=(ρ.all fun p=>uM ρ' p.2 p.1&&(Nat.ble (p.1+1) TG&&Nat.ble (p.2+1) TG))&&ρ'.all fun p=>uM ρ p.2 p.1&&lq p.1 p.2
theorem fG{ρ ρ':List (Nat×Nat)}(h:fZ ρ ρ'=true){id j:Nat}(e:look id ρ=some j):look j ρ'=some id∧id<TG∧j<TG:=by
 simp only[fZ,Bool.and_eq_true,List.all_eq_true]at h;have:=h.1 _ (kx e);exact⟨qw this.1,Nat.le_of_ble_eq_true this.2.1,Nat.le_of_ble_eq_true this.2.2⟩
theorem iG{ρ ρ':List (Nat×Nat)}(h:fZ ρ ρ'=true){id j:Nat}(e:look j ρ'=some id):look id ρ=some j:=by
 simp only[fZ,Bool.and_eq_true,List.all_eq_true]at h;exact qw (h.2 _ (kx e)).1
theorem DN{ρ ρ':List (Nat×Nat)}(h:fZ ρ ρ'=true){id j:Nat}(e:look j ρ'=some id):lq j id=true:=by
 simp only[fZ,Bool.and_eq_true,List.all_eq_true]at h;exact(h.2 _ (kx e)).2
def cw(ρ':List (Nat×Nat))(ι:Env):Env:=fun j=>match look j ρ' with|some id=>ι id|none=>none
theorem iW{ρ':List (Nat×Nat)}{ι:Env}{j:Nat}{y:Value}(h:cw ρ' ι j=some y):∃id,look j ρ'=some id∧ι id=some y:=by
 unfold cw at h;split at h
 ·rename_i id hid;exact⟨id,hid,h⟩
 ·cases h
theorem kY{ρ':List (Nat×Nat)}{ι:Env}{j id:Nat}(h:look j ρ'=some id):cw ρ' ι j=ι id:=by unfold cw;rw[h]
def eM(ρ:List (Nat×Nat))(o:List (Nat×List AV)):List (Nat×Nat)→Option (List (Nat×List AV))
 | []=>some []
 | (id,j)::r=>match look id o,eM ρ o r with
  | some cs,some l=>match eE ρ cs with
   | some c=>some ((j,c)::l)
   | none=>none
  | _,_=>none
theorem yP{ρ:List (Nat×Nat)}{o:List (Nat×List AV)}:∀{l:List (Nat×Nat)} {O:List (Nat×List AV)},eM ρ o l=some O→∀{j:Nat} {c:List AV},look j O=some c→∃id cs,(id,j)∈l∧look id o=some cs∧eE ρ cs=some c
 | [],O,h,j,c,hc=>by injection h with h;subst h;cases hc
 | (id,k)::r,O,h,j,c,hc=>by
  unfold eM at h;split at h
  case h_2=>cases h
  rename_i cs l h1 h2;split at h
  case h_2=>cases h
  rename_i c0 h3;injection h with h;subst h
  simp only[look]at hc;split at hc
  ·rename_i e;subst e;injection hc with hc;subst hc
   exact⟨id,cs,List.mem_cons_self,h1,h3⟩
  ·obtain⟨i,d,q1,q2⟩:=yP h2 hc;exact⟨i,d,List.mem_cons_of_mem _ q1,q2⟩
def jc(w:World)(ι0:Env)(O:List (Nat×List AV)):aE:=⟨w,fun b=>∃i,bm (ι0 i)=some b,fun j=>match look j O with|some _=>ι0 j|none=>none⟩
def f8(P:Program)(f:FuncId)(args:List AV)(O:List (Nat×List AV))(sj:Nat)(ar:br)(U:List Nat)(Q:AV→AS→Prop):Prop :=
 ∀(M:Nat→Prop) (w:World) (ι0:Env) (xs:Array Value),HS M (jc w ι0 O) w ι0 ⟨[],O,[(sj,ar)],U⟩→args.length=xs.size→(∀(i:Nat) (a:AV) (x:Value),args[i]?=some a→xs[i]?=some x→Rel (NN M ι0) w ι0 a x)→Calls P f xs w (bA M (jc w ι0 O) Q)
theorem jO{P:Program}{f:FuncId}{fn:Func}{c:Code}{args:List AV}{O:List (Nat×List AV)}{sj:Nat}{ar:br}{U:List Nat}{Q:AV→AS→Prop}(hf:P.funcs[f]?=some fn)(hb:fn.body=some c)(n:Nat)(hn:fn.ntmps=n)(hl:args.length≤n)
  (h:∀M w0,VE ⟨P,n,M,w0⟩ (bodyPost P fn (bA M w0 Q)) [.c c] .normal ⟨idxs 0 args,O,[(sj,ar)],U⟩):f8 P f args O sj ar U Q:=by
 intro M w ι0 xs hs hlx hx;refine calls_of_wp hf hb ?_;refine wp_mono (h M (jc w ι0 O) { tmps:=xs++Array.replicate (fn.ntmps-xs.size) undef,defers:=[] } w ι0 ?_) (fun e a w' hq=>?_)
 ·refine⟨⟨hs.below,hs.old,hs.use,hs.own,hs.inj,hs.ko,hs.kr,hs.objs,hs.arrs,hs.pin⟩,rfl,?_,fun k v hk=>?_⟩
  ·simp;omega
  ·rw[nC,if_pos (Nat.zero_le _),Nat.sub_zero]at hk;have hlt:k<xs.size:=by rw[←hlx];exact(List.getElem?_eq_some_iff.1 hk).1
   refine⟨xs[k],?_,hx k v _ hk (Array.getElem?_eq_getElem hlt)⟩;simp only[];rw[Array.getElem?_append_left hlt,Array.getElem?_eq_getElem hlt]
 ·cases e<;>exact hq
def rq(U:List Nat)(ρo:List (Nat×Nat))(sj:Nat):Bool:=U.contains sj&&ρo.all fun p=>U.contains p.2&&U.contains (cK p.2)
theorem HS.FD{M:Nat→Prop}{w0:aE}{w:World}{ι:Env}{s:AS}(h:HS M w0 w ι s){ρo ρ ρ':List (Nat×Nat)}{sid sj:Nat}{ar:br}{O:List (Nat×List AV)}{U:List Nat}(hρ:ρ=(sid,sj)::ρo)(hn:fZ ρ ρ'=true)(hO:eM ρ s.o ρo=some O)(hr:look sid s.r=some ar)(hU:rq U ρo sj=true):
  HS (fun b=>NN M ι b∧∀i,bm (cw ρ' ι i)≠some b) (jc w (cw ρ' ι) O) w (cw ρ' ι) ⟨[],O,[(sj,ar)],U⟩:=by
 have hN:∀b,NN (fun b=>NN M ι b∧∀i,bm (cw ρ' ι i)≠some b) (cw ρ' ι) b→NN M ι b:=fun b hb=>by
  rcases hb with hb|⟨j,hb⟩
  ·exact hb.1
  ·cases he:cw ρ' ι j with
   | none=>rw[he]at hb;cases hb
   | some y=>obtain⟨id,_,h2⟩:=iW he;exact .inr ⟨id,by rw[h2];rw[he]at hb;exact hb⟩
 have hι:∀id j,look id ρ=some j→cw ρ' ι j=ι id:=fun id j e=>kY (fG hn e).1;have hs0:look sid ρ=some sj:=by rw[hρ];simp[look]
 have hUc:∀j id,look j ρ'=some id→U.contains j=true:=fun j id e=>by
  have:=kx (iG hn e);rw[hρ]at this;simp only[rq,Bool.and_eq_true,List.all_eq_true]at hU;rcases List.mem_cons.1 this with e2|e2
  ·injection e2 with e3 e4;rw[e4];exact hU.1
  ·exact(hU.2 _ e2).1
 have hOj:∀{j c},look j O=some c→∃id cs,look j ρ'=some id∧(id,j)∈ρo∧look id s.o=some cs∧eE ρ cs=some c:=fun {j c} hc=>by
  obtain⟨id,cs,q1,q2,q3⟩:=yP hO hc;refine⟨id,cs,?_,q1,q2,q3⟩;simp only[fZ,Bool.and_eq_true,List.all_eq_true]at hn;exact qw (hn.1 (id,j) (by rw[hρ];exact List.mem_cons_of_mem _ q1)).1
 refine⟨⟨rfl,rfl,rfl,Nat.le_refl _,fun _ _ _=>rfl⟩,fun b hb=>⟨jH h hb.1,fun⟨i,hi⟩=>hb.2 i hi⟩,fun j y hy=>?_,fun j g hg=>?_,fun j j' g hg hg'=>?_,fun j c hc=>?_,fun j a ha=>?_,fun j c hc hp=>?_,fun j a ha hp=>?_,fun j v hv=>?_⟩
 ·obtain⟨id,h1,_⟩:=iW hy;exact eB (hUc j id h1)
 ·cases he:cw ρ' ι j with
  | none=>rw[he]at hg;cases hg
  | some y =>
   obtain⟨id,h1,h2⟩:=iW he;refine⟨.inr ⟨j,hg⟩,(h.own id g ?_).2⟩;rw[he]at hg;rw[h2];exact hg
 ·cases he:cw ρ' ι j with
  | none=>rw[he]at hg;cases hg
  | some y =>
   cases he':cw ρ' ι j' with
   | none=>rw[he']at hg';cases hg'
   | some y' =>
    obtain⟨id,h1,h2⟩:=iW he;obtain⟨id',h1',h2'⟩:=iW he';have:=h.inj id id' g (by rw[he]at hg;rw[h2];exact hg) (by rw[he']at hg';rw[h2'];exact hg');subst this;have e1:=iG hn h1;have e2:=iG hn h1';rw[e1]at e2;injection e2
 ·obtain⟨id,cs,h1,_⟩:=hOj hc;exact eB (hUc j id h1)
 ·simp only[look]at ha;split at ha
  ·rename_i e;subst e;exact eB (hUc _ sid (fG hn hs0).1)
  ·cases ha
 ·obtain⟨id,cs,h1,_,h2,h3⟩:=hOj hc;rw[kY h1]at hp⊢;obtain⟨g,T,vs,e1,e2,e3⟩:=h.objs id cs h2 hp;exact⟨g,⟨T.1,CJ (SJ (DN hn h1)) (fG hn (iG hn h1)).2.1 T.2⟩,vs,e1,e2,e3.rn hN hι h3⟩
 ·simp only[look]at ha;split at ha
  ·rename_i e;subst e;injection ha with ha;subst ha
   have e1:=fG hn hs0;rw[kY e1.1]at hp⊢;obtain⟨v,xs,g1,g2,g3,g4,g5⟩:=h.arrs sid ar hr hp;refine⟨v,xs,g1,g2,g3,g4,fun q e hq i c hc=>?_⟩;obtain⟨x,hx,hrx⟩:=g5 q e hq i c hc;exact⟨x,hx,.inl ((hrx.flat (by omega)).mono (Nat.le_refl _) (fun b _ hb=>hN b hb) (fun _ _ _=>rfl) (fun _ _ h=>h))⟩
  ·cases ha
 ·have hv':(match look j O with|some _=>cw ρ' ι j|none=>none)=some v:=hv;cases hc:look j O with
  | none=>rw[hc]at hv';cases hv'
  | some c =>
   rw[hc]at hv';obtain⟨id,cs,_,h1,_⟩:=hOj hc;simp only[rq,Bool.and_eq_true,List.all_eq_true]at hU;exact⟨hv',(hU.2 _ h1).2⟩
def cj(o:List (Nat×List AV)):List (Nat×List AV)→Prop
 | []=>True
 | (j,c)::r=>look j o=some c∧cj o r
theorem HY{o:List (Nat×List AV)}:∀{O1:List (Nat×List AV)},cj o O1→∀{j:Nat} {c:List AV},look j O1=some c→look j o=some c
 | [],_,j,c,h=>by cases h
 | (i,d)::r,hh,j,c,h=>by
  simp only[look]at h;split at h
  ·rename_i e;subst e;injection h with h;subst h;exact hh.1
  ·exact HY hh.2 h
def dF(ρ':List (Nat×Nat))(O1:List (Nat×List AV)):List (Nat×Nat)→Option (List (Nat×List AV))
 | []=>some []
 | (id,j)::r=>match look j O1,dF ρ' O1 r with
  | some c,some l=>match eE ρ' c with
   | some c2=>some ((id,c2)::l)
   | none=>none
  | _,_=>none
theorem A6{ρ':List (Nat×Nat)}{O1:List (Nat×List AV)}:∀{l:List (Nat×Nat)} {o2:List (Nat×List AV)},dF ρ' O1 l=some o2→∀{id:Nat} {c:List AV},look id o2=some c→∃j d,(id,j)∈l∧look j O1=some d∧eE ρ' d=some c
 | [],o2,h,id,c,hc=>by injection h with h;subst h;cases hc
 | (i,j)::r,o2,h,id,c,hc=>by
  unfold dF at h;split at h
  case h_2=>cases h
  rename_i d l h1 h2;split at h
  case h_2=>cases h
  rename_i c0 h3;injection h with h;subst h
  simp only[look]at hc;split at hc
  ·rename_i e;subst e;injection hc with hc;subst hc
   exact⟨j,d,List.mem_cons_self,h1,h3⟩
  ·obtain⟨q,e,q1,q2⟩:=A6 h2 hc;exact⟨q,e,List.mem_cons_of_mem _ q1,q2⟩
theorem FY{ρ':List (Nat×Nat)}{O1:List (Nat×List AV)}:∀{l:List (Nat×Nat)} {o2:List (Nat×List AV)},dF ρ' O1 l=some o2→∀{id j:Nat},(id,j)∈l→look id o2≠none
 | [],o2,h,id,j,hm=>by cases hm
 | (i,q)::r,o2,h,id,j,hm=>by
  unfold dF at h;split at h
  case h_2=>cases h
  rename_i d l h1 h2;split at h
  case h_2=>cases h
  rename_i c0 h3;injection h with h;subst h
  simp only[look];split
  ·exact Option.some_ne_none _
  ·rename_i hne;rcases List.mem_cons.1 hm with e|e
   ·injection e with e1 e2;exact absurd e1 hne
   ·exact FY h2 e
theorem yT{ρ:List (Nat×Nat)}{o:List (Nat×List AV)}:∀{l:List (Nat×Nat)} {O:List (Nat×List AV)},eM ρ o l=some O→∀{id j:Nat},(id,j)∈l→∃c,look j O=some c
 | [],O,h,id,j,hm=>by cases hm
 | (i,q)::r,O,h,id,j,hm=>by
  unfold eM at h;split at h
  case h_2=>cases h
  rename_i cs l h1 h2;split at h
  case h_2=>cases h
  rename_i c0 h3;injection h with h;subst h
  simp only[look];split
  ·exact⟨_,rfl⟩
  ·rename_i hne;rcases List.mem_cons.1 hm with e|e
   ·injection e with e1 e2;exact absurd e2 hne
   ·exact yT h2 e
def uB:List (Nat×List AV)→List (Nat×List AV)→List (Nat×List AV)
 | [],o=>o
 | (k,v)::r,o=>aZ k v (uB r o)
theorem zI{o:List (Nat×List AV)}:∀{l:List (Nat×List AV)} {i:Nat} {c:List AV},look i (uB l o)=some c→look i l=some c∨(look i l=none∧look i o=some c)
 | [],i,c,h=>.inr ⟨rfl,h⟩
 | (k,v)::r,i,c,h=>by
  simp only[uB,ca,look]at h⊢;split at h
  ·rename_i e;rw[if_pos e];exact .inl h
  ·rename_i e;rw[if_neg e];exact zI h
def gz(sid:Nat)(ar1:br)(o2:List (Nat×List AV))(s:AS):AS:=⟨cQ sid s.t,uB o2 (dJ sid s.o),aZ sid ar1 s.r,s.u⟩
def dj(ι ι1:Env)(sid sj:Nat):Env:=fun i=>if i=sid then ι1 sj else ι i
theorem HS.C1{M:Nat→Prop}{w0:aE}{w w':World}{ι ι1:Env}{s s1:AS}(h:HS M w0 w ι s){ρo ρ ρ':List (Nat×Nat)}{sid sj:Nat}{ar ar1:br}{O O1 o2:List (Nat×List AV)}(hρ:ρ=(sid,sj)::ρo)(hn:fZ ρ ρ'=true)(hO:eM ρ s.o ρo=some O)(hr:look sid s.r=some ar)
  (hnp:s.u.contains (cK sid)=false) (hso:look sid s.o=none) (hor:∀p∈ρo,look p.1 s.r=none) (hal:∀p∈ρo,∃y,cw ρ' ι p.2=some y)
  (h1:HS (fun b=>NN M ι b∧∀i,bm (cw ρ' ι i)≠some b) (jc w (cw ρ' ι) O) w' ι1 s1) (hO1:cj s1.o O1) (hr1:look sj s1.r=some ar1) (hb:dF ρ' O1 ρo=some o2) :
  HS M w0 w' (dj ι ι1 sid sj) (gz sid ar1 o2 s)∧(∀{v:AV} {x:Value},Rel (NN M ι) w ι v x→Rel (NN M (dj ι ι1 sid sj)) w' (dj ι ι1 sid sj) (v.co sid) x) ∧
   (∀{v v':AV} {x:Value},Rel (NN (fun b=>NN M ι b∧∀i,bm (cw ρ' ι i)≠some b) ι1) w' ι1 v x→dA ρ' v=some v'→Rel (NN M (dj ι ι1 sid sj)) w' (dj ι ι1 sid sj) v' x):=by
 have hs0:look sid ρ=some sj:=by rw[hρ];simp[look]
 have f1:∀id j,(id,j)∈ρo→ι1 j=ι id∧look j ρ'=some id:=fun id j hm=>by
  have e1:look j ρ'=some id:=by
   have hn':=hn;simp only[fZ,Bool.and_eq_true,List.all_eq_true]at hn';exact qw (hn'.1 (id,j) (by rw[hρ];exact List.mem_cons_of_mem _ hm)).1
  obtain⟨y,hy⟩:=hal _ hm;obtain⟨c,hc⟩:=yT hO hm;have hp:=(h1.pin j y (by show(match look j O with|some _=>cw ρ' ι j|none=>none)=some y;rw[hc];exact hy)).1;refine⟨?_,e1⟩;rw[hp,← kY (ι:=ι) e1];exact hy.symm
 have f2:∀j id,look j ρ'=some id→dj ι ι1 sid sj id=ι1 j:=fun j id e=>by
  have e2:=iG hn e;unfold dj;by_cases ei:id=sid
  ·subst ei;rw[if_pos rfl];rw[hs0]at e2;injection e2 with e2;rw[e2]
  ·rw[if_neg ei];have:=kx e2;rw[hρ]at this;rcases List.mem_cons.1 this with e3|e3
   ·injection e3 with e4 e5;exact absurd e4 ei
   ·exact(f1 id j e3).1.symm
 have lent:∀{q b},bm (cw ρ' ι q)=some b→∃id,look q ρ'=some id∧bm (ι id)=some b:=fun {q b} hq=>by
  cases he:cw ρ' ι q with
  | none=>rw[he]at hq;cases hq
  | some y=>obtain⟨id,e1,e2⟩:=iW he;exact⟨id,e1,by rw[e2];rw[he]at hq;exact hq⟩
 have hsz:w.heap.size≤w'.heap.size:=h1.below.size;have bI:∀b,b<w.heap.size→(∀i,bm (cw ρ' ι i)≠some b)→w'.heap[b]?=w.heap[b]?:=fun b hlt hb=>h1.below.block b hlt (fun⟨i,hi⟩=>hb i hi);have keep':∀b,b<w.heap.size→¬ NN M ι b→w'.heap[b]?=w.heap[b]?:=fun b hlt hb=>bI b hlt (fun i hi=>by
  obtain⟨id,_,e⟩:=lent hi;exact hb (.inr ⟨id,e⟩))
 have hN2:∀b,NN M (dj ι ι1 sid sj) b→NN (fun b=>NN M ι b∧∀i,bm (cw ρ' ι i)≠some b) ι1 b:=fun b hb=>by
  rcases hb with hb|⟨id,hb⟩
  ·exact .inl ⟨.inl hb,fun i hi=>by obtain⟨id,_,e⟩:=lent hi;exact h.sep hb e⟩
  ·unfold dj at hb;by_cases ei:id=sid
   ·rw[if_pos ei]at hb;exact .inr ⟨sj,hb⟩
   ·rw[if_neg ei]at hb;by_cases hl:∃i,bm (cw ρ' ι i)=some b
    ·obtain⟨q,hq⟩:=hl;obtain⟨id2,e1,e2⟩:=lent hq;have:=h.inj id2 id b e2 hb;subst this;have:=f2 q id2 e1;unfold dj at this;rw[if_neg ei]at this;exact .inr ⟨q,by rw[←this];exact hb⟩
    ·exact .inl ⟨.inr ⟨id,hb⟩,fun i hi=>hl ⟨i,hi⟩⟩
 have hNo:∀b,b<w.heap.size→NN M (dj ι ι1 sid sj) b→NN M ι b:=fun b hlt hb=>by
  rcases hb with hb|⟨id,hb⟩
  ·exact .inl hb
  ·unfold dj at hb;by_cases ei:id=sid
   ·rw[if_pos ei]at hb;rcases (h1.own sj b hb).1 with e|⟨q,e⟩
    ·exact absurd hlt (Nat.not_lt.2 e)
    ·obtain⟨id2,_,e2⟩:=lent e;exact .inr ⟨id2,e2⟩
   ·rw[if_neg ei]at hb;exact .inr ⟨id,hb⟩
 have T:∀{v:AV} {x:Value},Rel (NN M ι) w ι v x→Rel (NN M (dj ι ι1 sid sj)) w' (dj ι ι1 sid sj) (v.co sid) x:=fun hv =>
  (hv.mono hsz hNo keep' (fun _ _ h=>h)).co (fun i hi=>if_neg hi)
 have np:w0.pv sid=none:=h.np hnp;refine⟨⟨?_,h.old,fun i y hy=>?_,fun i g hg=>?_,fun i i' g hg hg'=>?_,fun i c hi=>?_,fun i a hi=>?_,fun i c hi hp=>?_,fun i a hi hp=>?_,fun i v hp=>?_⟩,T,fun hv e=>wV hv hN2 (fun j id e=>f2 j id e) e⟩
 ·refine h.below.trans ⟨h1.below.os,h1.below.tape,h1.below.output,hsz,fun k hk hG=>bI k (Nat.lt_of_lt_of_le hk h.below.size) (fun i hi=>?_)⟩;obtain⟨id,_,e⟩:=lent hi;rcases (h.own id k e).1 with h9|h9
  ·exact absurd hk (Nat.not_lt.2 h9)
  ·exact hG h9
 ·unfold dj at hy;by_cases ei:i=sid
  ·subst ei;exact h.kr i ar hr
  ·rw[if_neg ei]at hy;exact h.use i y hy
 ·unfold dj at hg;by_cases ei:i=sid
  ·rw[if_pos ei]at hg;obtain⟨q1,q2⟩:=h1.own sj g hg;refine⟨?_,q2⟩;rcases q1 with q1|⟨q,q1⟩
   ·exact .inl (Nat.le_trans h.below.size q1)
   ·obtain⟨id,_,e⟩:=lent q1;exact(h.own id g e).1
  ·rw[if_neg ei]at hg;exact⟨(h.own i g hg).1,Nat.lt_of_lt_of_le (h.own i g hg).2 hsz⟩
 ·have one:∀i',i'≠sid→bm (ι1 sj)=some g→bm (ι i')=some g→False:=fun i' hi' hg hg'=>by
   rcases (h1.own sj g hg).1 with q1|⟨q,q1⟩
   ·exact absurd (h.own i' g hg').2 (Nat.not_lt.2 q1)
   ·obtain⟨id,e1,e2⟩:=lent q1;have:=h.inj id i' g e2 hg';subst this;have e3:=f2 q id e1;unfold dj at e3;rw[if_neg hi']at e3;have:=h1.inj q sj g (by rw[←e3];exact e2) hg;subst this;have:=(fG hn hs0).1;rw[e1]at this;injection this with this;exact hi' this
  unfold dj at hg hg';by_cases ei:i=sid
  ·by_cases ei':i'=sid
   ·rw[ei,ei']
   ·rw[if_pos ei]at hg;rw[if_neg ei']at hg';exact(one i' ei' hg hg').elim
  ·by_cases ei':i'=sid
   ·rw[if_neg ei]at hg;rw[if_pos ei']at hg';exact(one i ei hg' hg).elim
   ·rw[if_neg ei]at hg;rw[if_neg ei']at hg';exact h.inj i i' g hg hg'
 ·rcases zI hi with e|⟨_,e⟩
  ·obtain⟨j,d,q1,_,_⟩:=A6 hb e;obtain⟨c0,hc0⟩:=yT hO q1;obtain⟨id2,cs,p1,p2,p3⟩:=yP hO hc0;have e1:=(f1 i j q1).2;have e2:=(f1 id2 j p1).2;rw[e1]at e2;injection e2 with e2;subst e2
   exact h.ko i cs p2
  ·obtain⟨u,hu,_⟩:=gP e;exact h.ko i u hu
 ·have hi':look i (aZ sid ar1 s.r)=some a:=hi;rw[ca]at hi';split at hi'
  ·rename_i e;subst e;exact h.kr i ar hr
  ·exact h.kr i a hi'
 ·rcases zI hi with e|⟨en,e⟩
  ·obtain⟨j,d,q1,q2,q3⟩:=A6 hb e;have e1:=f2 j i (f1 i j q1).2;rw[e1]at hp⊢;obtain⟨g,T0,vs,r1,r2,r3⟩:=h1.objs j d (HY hO1 q2) hp;have e9:=(f1 i j q1).2;exact⟨g,⟨T0.1,CJ (DN hn e9) (fG hn (iG hn e9)).2.2 T0.2⟩,vs,r1,r2,r3.rn hN2 (fun j id e=>f2 j id e) q3⟩
  ·obtain⟨u,hu,rfl⟩:=gP e;have ei:i≠sid:=fun e=>by rw[e,hso]at hu;cases hu
   have e1:dj ι ι1 sid sj i=ι i:=if_neg ei;rw[e1]at hp⊢;obtain⟨g,T0,vs,r1,r2,r3⟩:=h.objs i u hu hp;refine⟨g,T0,vs,r1,(bI g (h.own i g (by rw[r1];rfl)).2 (fun q hq=>?_)).trans r2,⟨by rw[jj];exact r3.len,r3.one,fun k x v hx hv=>?_⟩⟩
   ·obtain⟨id,e2,e3⟩:=lent hq;have:=h.inj id i g e3 (by rw[r1];rfl);subst this;have:=kx (iG hn e2);rw[hρ]at this;rcases List.mem_cons.1 this with e4|e4
    ·injection e4 with e5 e6;exact ei e5
    ·exact FY hb e4 en
   ·obtain⟨y,hy,rfl⟩:=jk hx;exact T (r3.rel k y v hy hv)
 ·have hi':look i (aZ sid ar1 s.r)=some a:=hi;rw[ca]at hi';split at hi'
  ·rename_i e;subst e;injection hi' with hi';subst hi'
   have e1:dj ι ι1 i sj i=ι1 sj:=if_pos rfl;rw[e1]at hp⊢;have htj:=(fG hn hs0).2.2;obtain⟨v,xs,q1,q2,q3,q4,q5⟩:=h1.arrs sj ar1 hr1 hp;refine⟨v,xs,q1,q2,q3,q4,fun j e hj k c hk=>?_⟩;obtain⟨x,hx,hrx⟩:=q5 j e hj k c hk;exact⟨x,hx,.inl ((hrx.flat (by omega)).mono (Nat.le_refl _) (fun b _ hb=>hN2 b hb) (fun _ _ _=>rfl) (fun _ _ h=>h))⟩
  ·rename_i ei;have e1:dj ι ι1 sid sj i=ι i:=if_neg ei;rw[e1]at hp⊢;obtain⟨v,xs,q1,q2,q3,q4,q5⟩:=h.arrs i a hi' hp;have hts:=(fG hn hs0).2.1;refine⟨v,xs,q1,eo q2 (fun g hg=>bI g (h.own i g (by rw[q1];exact hg)).2 (fun q hq=>?_)),q3,q4,fun j e hj k c hk=>?_⟩
   ·obtain⟨id,e2,e3⟩:=lent hq;have:=h.inj id i g e3 (by rw[q1];exact hg);subst this;have:=kx (iG hn e2);rw[hρ]at this;rcases List.mem_cons.1 this with e4|e4
    ·injection e4 with e5 e6;exact ei e5
    ·have:=hor _ e4;rw[hi']at this;cases this
   ·obtain⟨x,hx,hrx⟩:=q5 j e hj k c hk;have nb:∀q:Nat,rt≤nm i q:=fun q=>Nat.le_add_right _ _;have lb:TG<rt:=by decide
    refine⟨x,hx,hrx.mono hsz hNo keep' (fun r hr0=>?_) (fun r hr0=>bI r (h.iJ hr0) (fun q hq=>?_)) (fun h=>h)⟩
    ·exact(if_neg (fun e=>by have:=nb (j*a.sz+k);omega)).trans hr0
    ·obtain⟨id,e2,e3⟩:=lent hq;have:=h.inj id _ r e3 (by rw[hr0];rfl);have h9:=(fG hn (iG hn e2)).2.1;have:=nb (j*a.sz+k);omega
 ·obtain⟨q1,q2⟩:=h.pin i v hp;refine⟨?_,q2⟩;have ei:i≠sid:=fun e=>by rw[e,np]at hp;cases hp
  exact(if_neg ei).trans q1
def b8:List (Nat×Nat)→List (Nat×Nat)
 | []=>[]
 | (a,b)::r=>(b,a)::b8 r
def rb(j:Nat):AV→Bool
 | .ptr i o=>Nat.beq i j&&Nat.beq o 0
 | _=>false
def qd(j:Nat):AV→Bool
 | .fno _ cs=>cs.any (rb j)
 | v=>rb j v
theorem Ev{N:Nat→Prop}{w:World}{ι:Env}{j:Nat}{v:AV}{x:Value}(h:rb j v=true)(hr:Rel N w ι v x):∃y,ι j=some y:=by
 unfold rb at h;split at h
 ·rename_i id o;rw[Bool.and_eq_true]at h;have:=Nat.eq_of_beq_eq_true h.1;subst this;cases hr with
  | ptr _ _ _ g h=>exact⟨_,h⟩
 ·cases h
theorem Fl{N:Nat→Prop}{w:World}{ι:Env}{j:Nat}{v:AV}{x:Value}(h:qd j v=true)(hr:Rel N w ι v x):∃y,ι j=some y:=by
 cases hr with
 | fno _ f cs ys hl hr =>
  obtain⟨c,hc,hcp⟩:=List.any_eq_true.1 h;obtain⟨q,hq⟩:=List.mem_iff_getElem?.1 hc;have hlt:q<ys.length:=by rw[←hl];exact(List.getElem?_eq_some_iff.1 hq).1
  exact Ev hcp (hr q c ys[q] hq (List.getElem?_eq_getElem hlt))
 | ptr _ id o g hg=>exact Ev (N:=N) (w:=w) (v:=.ptr id o) (by simpa[qd]using h) (.ptr _ id o g hg)
 | _=>first|(cases h;done)|(simp[qd,rb]at h)
def wX(fn:AV→AV)(s:AS)(o:Oper)(ρ:List (Nat×Nat)):Option (FuncId×List AV) :=
 match o.op with
 | .call c=>match c.callee with
  | .value fo=>match s.ev fo,cG s c.args.toList with
   | some (.fn f []),some l=>match eE ρ (l.map fn) with
    | some l'=>some (f,l')
    | none=>none
   | some (.fno f cs),some l=>match eE ρ (l.map fn),eE ρ cs with
    | some l',some c'=>some (f,l'++c')
    | _,_=>none
   | _,_=>none
  | _=>none
 | _=>none
def BV(s:AS)(sid sj:Nat)(ρo:List (Nat×Nat))(U:List Nat)(args:List AV):Bool :=
 fZ ((sid,sj)::ρo) (b8 ((sid,sj)::ρo))&&(rq U ρo sj&&((match s.u.contains (cK sid) with|true=>false|false=>true)&&((match look sid s.o with|none=>true|some _=>false) &&
  ((ρo.all fun p=>match look p.1 s.r with|none=>true|some _=>false)&&ρo.all fun p=>args.any (qd p.2)))))
section
variable{cx:Cx}{s:AS}{a:Act}{w:World}{ι:Env}
theorem UL(hs:aN cx s a w ι){fn:AV→AV}(hfn:∀{v:AV} {x:Value},Rel (NN cx.M ι) w ι v x→Rel (NN cx.M ι) w ι (fn v) x){o:Oper}{ρ:List (Nat×Nat)}{g:FuncId}{args:List AV}(h:wX fn s o ρ=some (g,args))(hcl:cf cx.P g=true):
  ∃xs:Array Value,(execOp a.eval o).run cx.P w=.ok (.enter g xs) w∧args.length=xs.size∧∀(i:Nat) (v:AV) (x:Value),args[i]?=some v→xs[i]?=some x→∃u,dA ρ u=some v∧Rel (NN cx.M ι) w ι u x:=by
 unfold wX at h;split at h
 case h_2=>cases h
 rename_i c hop;split at h
 case h_2=>cases h
 rename_i fo hcal;have part:∀{l l':List AV},cG s c.args.toList=some l→eE ρ (l.map fn)=some l'→l'.length=(c.args.map a.eval).size∧∀(i:Nat) (v:AV) (x:Value),l'[i]?=some v→(c.args.map a.eval)[i]?=some x→∃u,dA ρ u=some v∧Rel (NN cx.M ι) w ι u x:=fun {l l'} hl hl'=>by
  obtain⟨q1,q2⟩:=jo hs hl;refine⟨by rw[rB hl'];simp at q1⊢;omega,fun i v x hv hx=>?_⟩;obtain⟨b,hb,hbv⟩:=tc hl' i v hv;rw[List.getElem?_map]at hb;cases hbl:l[i]? with
  | none=>rw[hbl]at hb;cases hb
  | some b0 =>
   rw[hbl]at hb;injection hb with hb;subst hb
   exact⟨_,hbv,hfn (q2 i b0 x hbl (by rw[←Array.toList_map,Array.getElem?_toList];exact hx))⟩
 split at h
 ·rename_i f l hf hl;split at h
  case h_2=>cases h
  rename_i l' hl';injection h with h;injection h with e1 e2;subst e1;subst e2
  obtain⟨ys,hrc,hc1,_⟩:=iR hs hop hcal hf hcl;have hys:ys=[]:=List.eq_nil_of_length_eq_zero (by simpa using hc1.symm);subst hys;have hxs:c.args.map a.eval++([]:List Value).toArray=c.args.map a.eval:=by simp
  rw[hxs]at hrc;obtain⟨p1,p2⟩:=part hl hl';exact⟨_,hrc,p1,p2⟩
 ·rename_i f cs l hf hl;split at h
  case h_2=>cases h
  rename_i l' c' hl' hc';injection h with h;injection h with e1 e2;subst e1;subst e2
  obtain⟨p1,p2⟩:=part hl hl';have hr:=hs.ev hf;generalize hX:a.eval fo=X at hr;cases hr with
  | fno _ _ _ ys hy hr =>
   refine⟨c.args.map a.eval++ys.toArray,?_,by simp at p1⊢;rw[rB hc'];omega,fun i v x hv hx=>?_⟩
   ·unfold execOp;simp only[hop,resolve,hcal,hX,Deferred.ofValue,Sem.run_bind,Sem.run_pure,Result.andThen_ok,invoke];rw[zF hcl];simp
   ·by_cases hi:i<l'.length
    ·rw[List.getElem?_append_left hi]at hv;rw[Array.getElem?_append_left (by rw[←p1];exact hi)]at hx;exact p2 i v x hv hx
    ·rw[List.getElem?_append_right (by omega)]at hv;rw[Array.getElem?_append_right (by rw[←p1];omega)]at hx;rw[←p1]at hx;obtain⟨b,hb,hbv⟩:=tc hc' _ v hv;exact⟨b,hbv,hr _ b x hb (by simpa using hx)⟩
 ·cases h
end
section
variable{cx:Cx}{Q:Exit→Act→World→Prop}{ks:List aq}{s:AS}{all:Array Oper}{f:Func}{p:List Nat}{i:Nat}
theorem S5{a:Act}{w:World}{ι:Env}(hs:aN cx s a w ι){fn:AV→AV}(hfn:∀{v:AV} {x:Value},Rel (NN cx.M ι) w ι v x→Rel (NN cx.M ι) w ι (fn v) x)(sid sj:Nat)(ρo:List (Nat×Nat)){g:FuncId}{args:List AV}{V1:AV}{O O1:List (Nat×List AV)}{ar ar1:br}{U:List Nat}(hc:f8 cx.P g args O sj ar U (fun v s1=>v=V1∧cj s1.o O1∧look sj s1.r=some ar1))
  (k:OT cx Q ks all (aK f p (i+1)) ((gz sid ar1 ((dF (b8 ((sid,sj)::ρo)) O1 ρo).getD []) s).put (aQ f p i).dst ((dA (b8 ((sid,sj)::ρo)) V1).getD .any)))
  (hcl:cf cx.P g=true) (h1:wX fn s (aQ f p i) ((sid,sj)::ρo)=some (g,args))
  (hO:eM ((sid,sj)::ρo) s.o ρo=some O) (hr:look sid s.r=some ar) (hb:(dF (b8 ((sid,sj)::ρo)) O1 ρo).isSome=true) (hv:(dA (b8 ((sid,sj)::ρo)) V1).isSome=true)
  (hd:cm cx.n (aQ f p i).dst=true) (hok:BV s sid sj ρo U args=true):wpList cx.P all (Kw cx.P Q ks) ({ aQ f p i with guard:=none }::aK f p (i+1)) a w:=by
 refine wpList_plain rfl fun K hK=>?_;obtain⟨o2,hb2⟩:=Option.isSome_iff_exists.1 hb;obtain⟨V2,hv2⟩:=Option.isSome_iff_exists.1 hv;rw[hb2,hv2]at k;simp only[Option.getD_some]at k;simp only[BV,Bool.and_eq_true]at hok;obtain⟨k1,k2,k3,k4,k5,k6⟩:=hok;have hnp:s.u.contains (cK sid)=false:=by
  cases hq:s.u.contains (cK sid) with
  | true=>rw[hq]at k3;cases k3
  | false=>rfl
 have hso:look sid s.o=none:=by
  cases hq:look sid s.o with
  | some _=>rw[hq]at k4;cases k4
  | none=>rfl
 have hor:∀p∈ρo,look p.1 s.r=none:=fun p hp=>by
  have:=List.all_eq_true.1 k5 p hp;cases hq:look p.1 s.r with
  | some _=>rw[hq]at this;cases this
  | none=>rfl
 unfold Oper.wp;obtain⟨xs,hrc,hxl,hxr⟩:=UL (o:={ aQ f p i with guard:=none }) hs hfn h1 hcl;rw[hrc,Oper.upon_enter];have hN:∀b,NN (fun b=>NN cx.M ι b∧∀i,bm (cw (b8 ((sid,sj)::ρo)) ι i)≠some b) (cw (b8 ((sid,sj)::ρo)) ι) b→NN cx.M ι b:=fun b hb=>by
  rcases hb with hb|⟨j,hb⟩
  ·exact hb.1
  ·cases he:cw (b8 ((sid,sj)::ρo)) ι j with
   | none=>rw[he]at hb;cases hb
   | some y=>obtain⟨id,_,h2⟩:=iW he;exact .inr ⟨id,by rw[h2];rw[he]at hb;exact hb⟩
 have hargs:∀(i:Nat) (a:AV) (x:Value),args[i]?=some a→xs[i]?=some x→Rel (NN (fun b=>NN cx.M ι b∧∀i,bm (cw (b8 ((sid,sj)::ρo)) ι i)≠some b) (cw (b8 ((sid,sj)::ρo)) ι)) w (cw (b8 ((sid,sj)::ρo)) ι) a x:=fun i v x hv hx=>by
  obtain⟨u,q1,q2⟩:=hxr i v x hv hx;exact wV q2 hN (fun id j e=>kY (fG k1 e).1) q1
 have hal:∀p∈ρo,∃y,cw (b8 ((sid,sj)::ρo)) ι p.2=some y:=fun p hp=>by
  have:=List.all_eq_true.1 k6 p hp;obtain⟨v,hv,hvp⟩:=List.any_eq_true.1 this;obtain⟨q,hq⟩:=List.mem_iff_getElem?.1 hv;have hlt:q<xs.size:=by rw[←hxl];exact(List.getElem?_eq_some_iff.1 hq).1
  exact Fl hvp (hargs q v _ hq (Array.getElem?_eq_getElem hlt))
 refine (hc _ w _ xs (hs.hs.FD rfl k1 hO hr k2) hxl hargs).mono ?_
 rintro e w' ⟨x,v,s1,ι1,rfl,⟨rfl,hO1,hr1⟩,hhs,hrx⟩
 obtain⟨g1,g2,g3⟩:=hs.hs.C1 rfl k1 hO hr hnp hso hor hal hhs hO1 hr1 hb2;have hsim:aN cx (gz sid ar1 o2 s) a w' (dj ι ι1 sid sj):=⟨g1,hs.dfr,hs.n,fun k v hk=>by
  obtain⟨u,hu,rfl⟩:=lO hk;obtain⟨y,hy,hr⟩:=hs.tmp k u hu;exact⟨y,hy,g2 hr⟩⟩
 exact hK _ _ (k _ _ _ (hsim.put (eN hd) (g3 hrx hv2)))
theorem gE(sid sj:Nat)(ρo:List (Nat×Nat)){g:FuncId}{args:List AV}{V1:AV}{O O1:List (Nat×List AV)}{ar ar1:br}{U:List Nat}(hc:f8 cx.P g args O sj ar U (fun v s1=>v=V1∧cj s1.o O1∧look sj s1.r=some ar1))
  (k:OT cx Q ks all (aK f p (i+1)) ((gz sid ar1 ((dF (b8 ((sid,sj)::ρo)) O1 ρo).getD []) s).put (aQ f p i).dst ((dA (b8 ((sid,sj)::ρo)) V1).getD .any)))
  (hl:aK f p i=aQ f p i::aK f p (i+1):=by kernel_rfl) (hg:cd all s (aQ f p i)=true:=by kernel_rfl) (hcl:cf cx.P g=true:=by kernel_rfl) (h1:wX id s (aQ f p i) ((sid,sj)::ρo)=some (g,args):=by kernel_rfl)
  (hO:eM ((sid,sj)::ρo) s.o ρo=some O:=by kernel_rfl) (hr:look sid s.r=some ar:=by kernel_rfl) (hb:(dF (b8 ((sid,sj)::ρo)) O1 ρo).isSome=true:=by kernel_rfl) (hv:(dA (b8 ((sid,sj)::ρo)) V1).isSome=true:=by kernel_rfl)
  (hd:cm cx.n (aQ f p i).dst=true:=by kernel_rfl) (hok:BV s sid sj ρo U args=true:=by kernel_rfl):OT cx Q ks all (aK f p i) s:=by
 rw[hl];exact ef _ hg fun a w ι hs=>S5 hs (fun h=>h) sid sj ρo hc k hcl h1 hO hr hb hv hd hok
end
end Go.Proofs.YtocgkfoifehcbaaGreat
