/- Closures that capture the variable in which they lie: once it is written no more, its value is known to every depth. Bound methods. No program in sight. -/
import Derived.Test.YtocgkfoifehcbaaGreatRdVk
namespace Go.Proofs.YtocgkfoifehcbaaGreat
set_option linter.all false
open Go.RowKit
def Nj(o:iF)(e:Nat)(t:c6):AV→AV
 | .ptr id _=>match Nat.beq id e with|true=>.cptr t|false=>match look id o with|some cs=>.cptr cs|none=>.any
 | _=>.any
def stepT(o:iF)(e:Nat)(t:c6):AV→AV
 | .fno f cs=>.fn f (cs.map (Nj o e t))
 | v=>v
def agy:AV→AV:=fun _=>.any
def acN:AV→AV
 | .fno f cs=>.fn f (cs.map agy)
 | v=>v
def nM(o:iF)(e:Nat)(cs:c6):Nat→c6
 | 0=>cs.map acN
 | d+1=>cs.map (stepT o e (nM o e cs d))
def xm(o:iF)(e r:Nat):AV→Bool
 | .ptr id off=>Nat.beq off 0&&((match Nat.beq id r with|true=>false|false=>true)&&(Nat.beq id e||match look id o with|some cs=>dV [] cs|none=>false))
 | _=>false
def C6(o:iF)(e r:Nat):AV→Bool
 | .fno _ cs=>cs.all (xm o e r)
 | _=>false
theorem N3{o}{e r}{v}(h:C6 o e r v=true):∃f cs,v=.fno f cs∧cs.all (xm o e r)=true:=by
 cases v<;>first|(exact⟨_,_,rfl,h⟩)|cases h
theorem LO{o:iF}{e r:Nat}{v:AV}(h:xm o e r v=true):∃id,v=.ptr id 0∧id≠r∧(id=e∨∃cs,look id o=some cs∧dV [] cs=true):=by
 cases v<;>first|grind[xm]|skip
 rename_i id off;simp only[xm,iO,Dk]at h;obtain⟨b,c,a⟩:=h;have:=nx b;subst this;refine⟨id,rfl,(fun e=>by simp_all),?_⟩;rcases a with a|a
 ·simp_all
 grind
theorem P3{M:Nat→Prop}{t:aB}{w:World}{ι:Env}{s:AS}(h:HS M t w ι s){N':Nat→Prop}{id g:Nat}{b cs:c6}(l:ι id=some (.pointer (some ⟨g,0,none⟩)))(q:look id s.o=some b)(p:¬ N' g)(n:cs.length=b.length)
  (r:∀vs:eg,(∀(i:Nat) (x:AV) (v:Value),b[i]?=some x→vs[i]?=some v→Rel (NN M ι) w ι x v)→∀(i:Nat) (c:AV) (v:Value),cs[i]?=some c→vs[i]?=some v→Rel N' w bH c v) (ι':Env):Rel N' w ι' (.cptr cs) (.pointer (some ⟨g,0,none⟩)):=by
 obtain⟨u,T,vs,a,o,k⟩:=h.objs id b q (by rw[l];rfl);rw[l]at a;injection a with a;injection a with a;injection a with a;injection a with a;subst a
 have d:=k.len;refine .cptr _ cs g 0 (fun i=>(vs[i]?).getD (.bool true)) (h.own id g (by rw[l];rfl)).2 p (fun i=>?_) (fun i c j=>?_) (fun i c j=>?_)
 ·cases e:vs[i]? with
  | none=>rfl
  | some v=>exact k.one v (by rw[←aix]at e;exact mm e)
 ·have f:i<vs.size:=by have:=(jt.1 j).1;rw[n,d]at this;simpa using this
  rw[alJ w g _ vs T (0,0) o,IF];simp[ll f]
 ·have f:i<vs.size:=by have:=(jt.1 j).1;rw[n,d]at this;simpa using this
  have m:vs.toList[i]?=some vs[i]:=by simp
  have:=r vs.toList k.rel i c _ j m
  grind
theorem Qu{M:Nat→Prop}{T:aB}{w:World}{ι:Env}{s:AS}(h:HS M T w ι s){N':Nat→Prop}{r e:Nat}{cs:c6}(P:∀b,N' b→NN M ι b)(D:∀b,N' b→M b∨bu (ι r)=some b)(Q:look e s.o=some cs)(H:e≠r)(K:cs.all (C6 s.o e r)=true):
  ∀(d:Nat) (vs:eg),(∀(i:Nat) (x:AV) (v:Value),cs[i]?=some x→vs[i]?=some v→Rel (NN M ι) w ι x v)→∀(i:Nat) (c:AV) (v:Value),(nM s.o e cs d)[i]?=some c→vs[i]?=some v→Rel N' w bH c v
 | 0,vs,A,i,c,v,a,E=>by
  simp only[nM,Do]at a;cases o:cs[i]? with
  | none=>rw[o]at a;cases a
  | some x =>
   rw[o]at a;injection a with a;subst a
   obtain⟨f,aR,rfl,k⟩:=N3 (n3.1 K x (mm o));have z:=A i _ v o E;cases z with
   | fno _ _ _ N J z =>
    refine .fn _ f _ N (by simpa using J) (fun j c y l L=>?_);rw[Do]at l;cases n:aR[j]? with
    | none=>rw[n]at l;cases l
    | some q =>
     rw[n]at l;injection l with l;subst l
     obtain⟨id,rfl,_,_⟩:=LO (n3.1 k q (mm n));have G:=z j _ y n L;cases G with
     | ptr _ _ _ g C=>exact .any _ _ rfl
 | d+1,vs,A,i,c,v,a,E=>by
  simp only[nM,Do]at a;cases o:cs[i]? with
  | none=>rw[o]at a;cases a
  | some x =>
   rw[o]at a;injection a with a;subst a
   obtain⟨f,aR,rfl,k⟩:=N3 (n3.1 K x (mm o));have z:=A i _ v o E;cases z with
   | fno _ _ _ N J z =>
    refine .fn _ f _ N (by simpa using J) (fun j c y l L=>?_);rw[Do]at l;cases n:aR[j]? with
    | none=>rw[n]at l;cases l
    | some q =>
     rw[n]at l;injection l with l;subst l
     obtain⟨id,rfl,I,t⟩:=LO (n3.1 k q (mm n));have G:=z j _ y n L;cases G with
     | ptr _ _ _ g C =>
      have B:¬ N' g:=fun p=>by
       rcases D g p with p|p
       ·exact h.sep p (by rw[C];rfl)
       ·exact I (h.inj id r g (by rw[C];rfl) p)
      simp only[Nj];cases u:Nat.beq id e with
      | true =>
       have:=nx u;subst this;exact P3 h C Q B (by cases d<;>simp[nM]) (fun F m i c v=>Qu h P D Q H K d F m i c v) _
      | false =>
       rcases t with t|⟨R,O,S⟩
       ·subst t;rw[amc]at u;cases u
       ·simp only[O];exact P3 h C O B rfl (fun F m i c v a E=>(((m i c v a E).pure (lY S i c a) bH).mono (la _) (fun b _ p=>P b p) (fun _ _ _=>rfl) (fun _ _ h=>h))) _
def UQ(k r e:Nat)(d:Nat)(s:AS):AS:=match look e s.o with
 | some cs=>⟨[(k,.ptr r 0)],[(r,nM s.o e cs d)],[],[r]⟩
 | none=>s
def P7(k r e:Nat)(s:AS):Bool:=match look e s.o,look r s.o with
 | some cs,some a=>cs.all (C6 s.o e r)&&(a.all (C6 s.o e r)&&(s.u.all (fun n=>Nat.ble (n+1) 1000000)&&((match Nat.beq e r with|true=>false|false=>true)&&match look k s.t with|some (.ptr i 0)=>Nat.beq i r|_=>false)))
 | _,_=>false
theorem aeb{n:Cx}{Q:Exit→Act→World→Prop}{N:dt}{e:Exit}{s:AS}(k r A d:Nat)(h:VE n Q N e (UQ k r A d s))(f:P7 k r A s=true:=by kernel_rfl)(u:look r s.o=look A s.o:=by kernel_rfl):VE n Q N e s:=fun a w ι m=>by
 unfold P7 at f;split at f
 case h_2=>cases f
 rename_i cs t D M;simp only[iO]at f;obtain⟨O,b2,P,L,B⟩:=f;have H:A≠r:=fun e=>by subst e;rw[amc]at L;cases L
 have E:t=cs:=by rw[D,M]at u;injection u
 subst E;unfold UQ at h;rw[D]at h;have W:look k s.t=some (.ptr r 0):=by
  split at B
  ·rename_i i hi;rw[hi,nx B]
  ·cases B
 obtain⟨x,Y,J⟩:=m.tmp k _ W;have Z:∀id,n.w0.pv id=none:=fun id=>by
  cases q:n.w0.pv id with
  | none=>rfl
  | some v =>
   have:=(m.hs.pin id v q).2;have:=n3.1 P (da id) (by simpa using this);have:=kb this;unfold da at this;omega
 let ι':Env:=fun i=>if i=r then ι r else none
 have K:∀{i y},ι' i=some y→i=r∧ι r=some y:=fun {i y} o=>by
  by_cases e:i=r
  ·exact⟨e,by simpa[ι',e]using o⟩
  ·simp[ι',e]at o
 have z:∀{i g},bu (ι' i)=some g→i=r∧bu (ι r)=some g:=fun {i g} l=>by
  cases F:ι' i with
  | none=>rw[F]at l;cases l
  | some y=>obtain⟨q1,q2⟩:=K F;exact⟨q1,by rw[q2,← F];exact l⟩
 have U:∀b,NN n.M ι' b→NN n.M ι b:=fun b f=>by
  rcases f with f|⟨i,f⟩
  ·exact .inl f
  ·exact .inr ⟨r,(z f).2⟩
 have I:∀b,NN n.M ι' b→n.M b∨bu (ι r)=some b:=fun b f=>by
  rcases f with f|⟨i,f⟩
  ·exact .inl f
  ·exact .inr (z f).2
 refine h a w ι' ⟨⟨m.hs.below,m.hs.old,fun i y o=>?_,fun i g l=>m.hs.own r g (z l).2,fun i i' g l G=>(z l).1.trans (z G).1.symm,fun i c hi=>?_,fun i c hi=>(by cases hi),fun i c hi q=>?_,fun i c hi=>(by cases hi),fun i v q=>by rw[Z i]at q;cases q⟩,m.dfr,m.n,fun j v p=>?_⟩
 ·rw[(K o).1];exact ft (by simp)
 ·simp only[look]at hi;split at hi
  ·rename_i e;rw[e];exact ft (by simp)
  ·cases hi
 ·simp only[look]at hi;split at hi
  case isFalse=>cases hi
  rename_i e;subst e;injection hi with hi;subst hi
  obtain⟨y,o⟩:=w3.1 q;obtain⟨g,T,vs,R,S,C⟩:=m.hs.objs i t M (by rw[(K o).2];rfl);refine⟨g,T,vs,by simp only[ι'];exact R,S,⟨?_,C.one,fun j c v V X=>?_⟩⟩
  ·have:=C.len;cases d<;>simpa[nM]using this
  ·exact(Qu m.hs U I D H O d vs.toList C.rel j c v V X).mono (la _) (fun _ _ h=>h) (fun _ _ _=>rfl) (fun id y o=>by cases o)
 ·simp only[look]at p;split at p
  case isFalse=>cases p
  rename_i e;subst e;injection p with p;subst p
  refine⟨x,Y,?_⟩;cases J with
  | ptr _ _ _ g l=>exact .ptr _ _ _ g (by simp only[ι',lp rfl];exact l)
def lkV[GS](f:FuncId)(b:Bool):Value:=match b with|true=>i8 f GS.g|false=>.nilFunc
def eE[GS](f:FuncId)(b:Bool):AV:=.vv (lkV f b)
def Nk(op:BinOp)(b:Bool):Bool:=match op with|.eql=>!b|_=>b
def LJ[GS]:Value:=.pointer (some ⟨GS.g,0,none⟩)
def sy(s:AS)(k:Nat):Bool:=match look k s.t with|some v=>v.DC|none=>false
section
variable{c:Cx}{Q:Exit→Act→World→Prop}{m:dt}{s:AS}{j:Array Oper}{f:Func}{p:ed}{i:Nat}{e:Exit}{l:List Oper}
theorem YO[GS][SG c.w0]{a}{w}{ι}(e:aV c s a w ι){k off}(f:look k s.t=some (.ptr 440001 off)):aV c (kY k (.adr GS.g off) s) a w ι:=by
 refine e.jX (fun y j=>?_) ⟨_,f⟩;obtain⟨x,d,i⟩:=e.tmp k _ f;rw[j]at d;injection d with d;subst d
 cases i with
 | ptr _ _ _ g b =>
  have h:=(e.hs.pin _ _ SG.pv).1;rw[h]at b;injection b with b;injection b with b;injection b with b;injection b with b;subst b
  exact .adr _ _ _
theorem ahp[GS][SG c.w0]{a}{w}{ι}(d:aV c s a w ι){k off}(e:look k s.t=some (.adr GS.g off)):aV c (kY k (.ptr 440001 off) s) a w ι:=by
 refine d.jX (fun y g=>?_) ⟨_,e⟩;obtain⟨x,b,f⟩:=d.tmp k _ e;rw[g]at b;injection b with b;subst b
 cases f with
 | adr _ _ _=>exact .ptr _ _ _ _ ((d.hs.pin _ _ SG.pv).1)
theorem adw[GS][SG c.w0]{a}{w}{ι}(e:aV c s a w ι){k}(d:sy s k=true):aV c (kY k (.lk 440001 LJ) s) a w ι:=by
 unfold sy at d;split at d
 ·rename_i v f;refine e.jX (fun y h=>?_) ⟨_,f⟩;obtain⟨x,b,g⟩:=e.tmp k _ f;rw[h]at b;injection b with b;subst b
  exact .lk _ _ _ _ ((e.hs.pin _ _ SG.pv).1) (g.one d)
 grind
theorem aat[GS][SG c.w0] k off(h:VE c Q m e (kY k (.adr GS.g off) s))(b:look k s.t=some (.ptr 440001 off):=by kernel_rfl):VE c Q m e s:=fun a w ι d=>h a w ι (YO d b)
theorem Su[GS][SG c.w0] k off(h:OT c Q m j l (kY k (.ptr 440001 off) s))(b:look k s.t=some (.adr GS.g off):=by kernel_rfl):OT c Q m j l s:=fun a w ι d=>h a w ι (ahp d b)
theorem ER[GS][SG c.w0] k(h:VE c Q m e (kY k (.lk 440001 LJ) s))(b:sy s k=true:=by kernel_rfl):VE c Q m e s:=fun a w ι d=>h a w ι (adw d b)
theorem RV[GS](g:FuncId)(b:Bool)(op:BinOp)(T T':TypeId)(x y:Operand)(d:Nat)(k:OT c Q m j (aU f p (i+1)) (s.put (some d) (.bool (Nk op b))))
  (I:aU f p i=aS f p i::aU f p (i+1):=by kernel_rfl) (H:cC j s (aS f p i)=true:=by kernel_rfl) (o:(aS f p i).op=.binOp op T x y T':=by kernel_rfl) (G:(aS f p i).dst=some d:=by kernel_rfl) (J:Nat.ble (d+1) c.n=true:=by kernel_rfl)
  (L:s.ev x=some (eE g b):=by kernel_rfl) (M:s.ev y=some .nilf:=by kernel_rfl) (r:(xq op&&(match c.P.underlying T with|some (.func _ _ _)=>true|_=>false))=true:=by kernel_rfl):OT c Q m j (aU f p i) s:=by
 rw[I];refine eU _ H fun a w ι E=>?_;refine Ts rfl fun K F=>?_;have B:d<c.n:=kb J;simp only[iO]at r;obtain⟨h,r⟩:=r;split at r
 case h_2=>cases r
 rename_i N O P t;have e:=E.ev L;have v:=E.ev M;have u:a.eval y=.nilFunc:=by
  generalize a.eval y=Y at v;cases v with
  | nilf _=>rfl
 have run:(execOp a.eval { aS f p i with guard:=none }).run c.P w=.ok (.value (.bool (Nk op b))) w:=by
  cases b with
  | true =>
   have l:a.eval x=i8 g GS.g:=by
    generalize a.eval x=X at e;cases e with
    | vv _ _ _=>rfl
   have z:∀{q:BinOp},q=.eql∨q=.neq→(eqGuard q T x y (i8 g GS.g) .nilFunc).run c.P w=.ok () w:=by
    intro q D;rcases D with rfl|rfl<;>simp[eqGuard,i8]
   have A:(Op.equalIn 10000 T (i8 g GS.g) .nilFunc).run c.P w=.ok false w:=by
    unfold Op.equalIn;rw[sj,ob t w];rfl
   unfold execOp;simp only[o,l,u,sj];cases op<;>simp[xq]at h
   ·have n:binOp .eql T (i8 g GS.g) .nilFunc=(do pure (.bool (← Op.equalIn 10000 T (i8 g GS.g) .nilFunc))):=rfl;rw[z (.inl rfl),n];simp only[u5,sj,A,Qf];rfl
   ·have n:binOp .neq T (i8 g GS.g) .nilFunc=(do pure (.bool (!(← Op.equalIn 10000 T (i8 g GS.g) .nilFunc)))):=rfl;rw[z (.inr rfl),n];simp only[u5,sj,A,Qf];rfl
  | false =>
   have l:a.eval x=.nilFunc:=by
    generalize a.eval x=X at e;cases e with
    | vv _ _ _=>rfl
   have z:∀{q:BinOp},q=.eql∨q=.neq→(eqGuard q T x y .nilFunc .nilFunc).run c.P w=.ok () w:=by
    intro q D;rcases D with rfl|rfl<;>simp[eqGuard]
   have A:(Op.equalIn 10000 T .nilFunc .nilFunc).run c.P w=.ok true w:=by
    unfold Op.equalIn;rw[sj,ob t w];rfl
   unfold execOp;simp only[o,l,u,sj];cases op<;>simp[xq]at h
   ·have n:binOp .eql T .nilFunc .nilFunc=(do pure (.bool (← Op.equalIn 10000 T .nilFunc .nilFunc))):=rfl;rw[z (.inl rfl),n];simp only[u5,sj,A,Qf];rfl
   ·have n:binOp .neq T .nilFunc .nilFunc=(do pure (.bool (!(← Op.equalIn 10000 T .nilFunc .nilFunc)))):=rfl;rw[z (.inr rfl),n];simp only[u5,sj,A,Qf];rfl
 unfold Oper.wp;rw[run];refine F _ _ ?_;show wpList _ _ _ _ (a.put (aS f p i).dst _) _;rw[G];exact k _ _ _ (E.put (fun k C=>by injection C with C;subst C;exact B) (.bool _ _))
end
def n6{α:Type}(_:α):AV:=.tup []
def anyS(k j:Nat)(s:AS):AS:=match look k s.t with|some (.agg cs)=>kY k (.agg (cs.set j .any)) s|_=>s
section
variable{d:Cx}{Q:Exit→Act→World→Prop}{e:dt}{s:AS}{b:Array Oper}{l:List Oper}
theorem akh(k j:Nat)(h:OT d Q e b l (anyS k j s)):OT d Q e b l s:=fun a w ι m=>by
 unfold anyS at h;split at h
 ·rename_i cs n;refine h a w ι (m.jX (fun y r=>?_) ⟨_,n⟩);obtain⟨x,g,o⟩:=m.tmp k _ n;rw[r]at g;injection g with g;subst g
  cases o with
  | agg _ _ vs q p o =>
   refine .agg _ _ vs (by simpa using q) p (fun i c v f t=>?_);rw[ak8]at f;split at f
   ·split at f
    ·injection f with f;subst f;exact .any _ _ (by grind)
    grind
   grind
 ·exact h a w ι m
end
section
variable{a:Cx}{s:AS}{b:Func}
theorem Nc{l}{e}{f d}{ar c}(h:gZ a.P s b.results.toList=some l:=by kernel_rfl)(g:look f s.r=some ar:=by kernel_rfl)(k:look d s.r=some c:=by kernel_rfl)(i:(e.map fun p=>look p.1 s.o)=(e.map fun p=>some p.2):=by kernel_rfl)(j:re l=.tup l:=by kernel_rfl):
  VE a (bodyPost a.P b (bI a.M a.w0 (fun v s=>v=.tup l∧cq s.o e∧look f s.r=some ar∧look d s.r=some c))) [] .ret s :=by grind[pY,Cd]
end
def om{α:Type}(c:Bool)(B:Option (List α)):Option (List α):=match c with
 | true=>(match B with|some []=>some []|_=>none)
 | false=>B
theorem Vs{α}{c}{B:Option (List α)}{r}(a:c=true)(h:om c B=some r):some []=some r:=by
 grind[om]
theorem Ms{α}{c}{B:Option (List α)}{r}(h:om c B=some r):B=some r:=by
 unfold om at h
 grind
theorem Yl{l:Cx}{Q:Exit→Act→World→Prop}{m:dt}{s:AS}{e:Exit}(k p d:Nat)(h:∀g:Nat,VE l Q m e (kY k (.lk d (.pointer (some ⟨g,0,none⟩))) s))(n:look p s.t=some (.ptr d 0):=by kernel_rfl)(c:sy s k=true:=by kernel_rfl):VE l Q m e s:=fun a w ι i=>by
 obtain⟨x,_,o⟩:=i.tmp p _ n;cases o with
 | ptr _ _ _ g r =>
  refine h g a w ι (i.jX (fun y q=>?_) ?_)
  ·unfold sy at c;split at c
   ·rename_i v j;obtain⟨t,b,f⟩:=i.tmp k _ j;rw[q]at b;injection b with b;subst b
    exact .lk _ _ _ _ r (f.one c)
   ·cases c
  ·unfold sy at c;split at c
   ·rename_i v j;exact⟨v,j⟩
   ·cases c
end Go.Proofs.YtocgkfoifehcbaaGreat
