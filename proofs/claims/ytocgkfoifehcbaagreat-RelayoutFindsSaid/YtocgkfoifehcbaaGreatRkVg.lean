/- Closures that capture the variable in which they lie: once it is written no more, its value is known to every depth. Bound methods. No program in sight. -/
import Derived.Test.YtocgkfoifehcbaaGreatRkVk
namespace Go.Proofs.YtocgkfoifehcbaaGreat
set_option linter.all false
open Go.RowKit
def Lj(o:io)(e:Nat)(t:c6):AV→AV
 | .ptr id _=>match Nat.beq id e with|true=>.cptr t|false=>match look id o with|some cs=>.cptr cs|none=>.any
 | _=>.any
def stepT(o:io)(e:Nat)(t:c6):AV→AV
 | .fno f cs=>.fn f (cs.map (Lj o e t))
 | v=>v
def Wm:AV→AV:=fun _=>.any
def Wi:AV→AV
 | .fno f cs=>.fn f (cs.map Wm)
 | v=>v
def nA(o:io)(e:Nat)(cs:c6):Nat→c6
 | 0=>cs.map Wi
 | d+1=>cs.map (stepT o e (nA o e cs d))
def wI(o:io)(e r:Nat):AV→Bool
 | .ptr id off=>Nat.beq off 0&&((match Nat.beq id r with|true=>false|false=>true)&&(Nat.beq id e||match look id o with|some cs=>dW [] cs|none=>false))
 | _=>false
def BW(o:io)(e r:Nat):AV→Bool
 | .fno _ cs=>cs.all (wI o e r)
 | _=>false
theorem TA{o}{e r}{v}(h:BW o e r v=true):∃f cs,v=.fno f cs∧cs.all (wI o e r)=true:=by
 cases v<;>first|(exact⟨_,_,rfl,h⟩)|cases h
theorem PV{o:io}{e r:Nat}{v:AV}(h:wI o e r v=true):∃id,v=.ptr id 0∧id≠r∧(id=e∨∃cs,look id o=some cs∧dW [] cs=true):=by
 cases v<;>first|grind[wI]|skip
 rename_i id off;simp only[wI,iN,Io]at h;obtain⟨b,c,a⟩:=h;have:=mo b;subst this;refine⟨id,rfl,(fun e=>by simp_all),?_⟩;rcases a with a|a
 ·simp_all
 grind
theorem Lq{M:Nat→Prop}{t:aA}{w:World}{ι:Env}{s:AS}(h:HS M t w ι s){N':Nat→Prop}{id g:Nat}{b cs:c6}(l:ι id=some (.pointer (some ⟨g,0,none⟩)))(q:look id s.o=some b)(p:¬ N' g)(n:cs.length=b.length)
  (r:∀vs:ee,(∀(i:Nat) (x:AV) (v:Value),b[i]?=some x→vs[i]?=some v→Rel (NN M ι) w ι x v)→∀(i:Nat) (c:AV) (v:Value),cs[i]?=some c→vs[i]?=some v→Rel N' w bG c v) (ι':Env):Rel N' w ι' (.cptr cs) (.pointer (some ⟨g,0,none⟩)):=by
 obtain⟨u,T,vs,a,o,k⟩:=h.objs id b q (by rw[l];rfl);rw[l]at a;injection a with a;injection a with a;injection a with a;injection a with a;subst a
 have d:=k.len;refine .cptr _ cs g 0 (fun i=>(vs[i]?).getD (.bool true)) (h.own id g (by rw[l];rfl)).2 p (fun i=>?_) (fun i c j=>?_) (fun i c j=>?_)
 ·cases e:vs[i]? with
  | none=>rfl
  | some v=>exact k.one v (by rw[←afC]at e;exact mm e)
 ·have f:i<vs.size:=by have:=(jf.1 j).1;rw[n,d]at this;simpa using this
  rw[ald w g _ vs T (0,0) o,Dy];simp[la f]
 ·have f:i<vs.size:=by have:=(jf.1 j).1;rw[n,d]at this;simpa using this
  have m:vs.toList[i]?=some vs[i]:=by simp
  have:=r vs.toList k.rel i c _ j m
  grind
theorem Pe{M:Nat→Prop}{T:aA}{w:World}{ι:Env}{s:AS}(h:HS M T w ι s){N':Nat→Prop}{r e:Nat}{cs:c6}(P:∀b,N' b→NN M ι b)(D:∀b,N' b→M b∨bz (ι r)=some b)(Q:look e s.o=some cs)(H:e≠r)(K:cs.all (BW s.o e r)=true):
  ∀(d:Nat) (vs:ee),(∀(i:Nat) (x:AV) (v:Value),cs[i]?=some x→vs[i]?=some v→Rel (NN M ι) w ι x v)→∀(i:Nat) (c:AV) (v:Value),(nA s.o e cs d)[i]?=some c→vs[i]?=some v→Rel N' w bG c v
 | 0,vs,A,i,c,v,a,E=>by
  simp only[nA,AT]at a;cases o:cs[i]? with
  | none=>rw[o]at a;cases a
  | some x =>
   rw[o]at a;injection a with a;subst a
   obtain⟨f,aO,rfl,k⟩:=TA (ne.1 K x (mm o));have z:=A i _ v o E;cases z with
   | fno _ _ _ N J z =>
    refine .fn _ f _ N (by simpa using J) (fun j c y l L=>?_);rw[AT]at l;cases n:aO[j]? with
    | none=>rw[n]at l;cases l
    | some q =>
     rw[n]at l;injection l with l;subst l
     obtain⟨id,rfl,_,_⟩:=PV (ne.1 k q (mm n));have G:=z j _ y n L;cases G with
     | ptr _ _ _ g C=>exact .any _ _ rfl
 | d+1,vs,A,i,c,v,a,E=>by
  simp only[nA,AT]at a;cases o:cs[i]? with
  | none=>rw[o]at a;cases a
  | some x =>
   rw[o]at a;injection a with a;subst a
   obtain⟨f,aO,rfl,k⟩:=TA (ne.1 K x (mm o));have z:=A i _ v o E;cases z with
   | fno _ _ _ N J z =>
    refine .fn _ f _ N (by simpa using J) (fun j c y l L=>?_);rw[AT]at l;cases n:aO[j]? with
    | none=>rw[n]at l;cases l
    | some q =>
     rw[n]at l;injection l with l;subst l
     obtain⟨id,rfl,I,t⟩:=PV (ne.1 k q (mm n));have G:=z j _ y n L;cases G with
     | ptr _ _ _ g C =>
      have B:¬ N' g:=fun p=>by
       rcases D g p with p|p
       ·exact h.sep p (by rw[C];rfl)
       ·exact I (h.inj id r g (by rw[C];rfl) p)
      simp only[Lj];cases u:Nat.beq id e with
      | true =>
       have:=mo u;subst this;exact Lq h C Q B (by cases d<;>simp[nA]) (fun F m i c v=>Pe h P D Q H K d F m i c v) _
      | false =>
       rcases t with t|⟨R,O,S⟩
       ·subst t;rw[al3]at u;cases u
       ·simp only[O];exact Lq h C O B rfl (fun F m i c v a E=>(((m i c v a E).pure (lH S i c a) bG).mono (ll _) (fun b _ p=>P b p) (fun _ _ _=>rfl) (fun _ _ h=>h))) _
def RI(k r e:Nat)(d:Nat)(s:AS):AS:=match look e s.o with
 | some cs=>⟨[(k,.ptr r 0)],[(r,nA s.o e cs d)],[],[r]⟩
 | none=>s
def Qs(k r e:Nat)(s:AS):Bool:=match look e s.o,look r s.o with
 | some cs,some a=>cs.all (BW s.o e r)&&(a.all (BW s.o e r)&&(s.u.all (fun n=>Nat.ble (n+1) 1000000)&&((match Nat.beq e r with|true=>false|false=>true)&&match look k s.t with|some (.ptr i 0)=>Nat.beq i r|_=>false)))
 | _,_=>false
theorem aau{o:Cx}{Q:Exit→Act→World→Prop}{O:dt}{e:Exit}{s:AS}(k r B d:Nat)(h:VE o Q O e (RI k r B d s))(f:Qs k r B s=true:=by kernel_rfl)(z:look r s.o=look B s.o:=by kernel_rfl):VE o Q O e s:=fun a w ι n=>by
 unfold Qs at f;split at f
 case h_2=>cases f
 rename_i cs u E N;simp only[iN]at f;obtain⟨P,b2,R,M,C⟩:=f;have I:B≠r:=fun e=>by subst e;rw[al3]at M;cases M
 have F:u=cs:=by rw[E,N]at z;injection z
 subst F;unfold RI at h;rw[E]at h;have X:look k s.t=some (.ptr r 0):=by
  split at C
  ·rename_i i l;rw[l,mo C]
  ·cases C
 obtain⟨x,Z,K⟩:=n.tmp k _ X;have np:∀id,o.w0.pv id=none:=fun id=>by
  cases t:o.w0.pv id with
  | none=>rfl
  | some v =>
   have:=(n.hs.pin id v t).2;have:=ne.1 R (da id) (by simpa using this);have:=j3 this;unfold da at this;omega
 let ι':Env:=fun i=>if i=r then ι r else none
 have L:∀{i y},ι' i=some y→i=r∧ι r=some y:=fun {i y} p=>by
  by_cases e:i=r
  ·exact⟨e,by simpa[ι',e]using p⟩
  ·simp[ι',e]at p
 have A:∀{i g},bz (ι' i)=some g→i=r∧bz (ι r)=some g:=fun {i g} m=>by
  cases G:ι' i with
  | none=>rw[G]at m;cases m
  | some y=>obtain⟨q1,q2⟩:=L G;exact⟨q1,by rw[q2,← G];exact m⟩
 have V:∀b,NN o.M ι' b→NN o.M ι b:=fun b f=>by
  rcases f with f|⟨i,f⟩
  ·exact .inl f
  ·exact .inr ⟨r,(A f).2⟩
 have J:∀b,NN o.M ι' b→o.M b∨bz (ι r)=some b:=fun b f=>by
  rcases f with f|⟨i,f⟩
  ·exact .inl f
  ·exact .inr (A f).2
 refine h a w ι' ⟨⟨n.hs.below,n.hs.old,fun i y p=>?_,fun i g m=>n.hs.own r g (A m).2,fun i i' g m H=>(A m).1.trans (A H).1.symm,fun i c l=>?_,fun i c l=>(by cases l),fun i c l t=>?_,fun i c l=>(by cases l),fun i v t=>by rw[np i]at t;cases t⟩,n.dfr,n.n,fun j v q=>?_⟩
 ·rw[(L p).1];exact fk (by simp)
 ·simp only[look]at l;split at l
  ·rename_i e;rw[e];exact fk (by simp)
  ·cases l
 ·simp only[look]at l;split at l
  case isFalse=>cases l
  rename_i e;subst e;injection l with l;subst l
  obtain⟨y,p⟩:=v9.1 t;obtain⟨g,T,vs,S,U,D⟩:=n.hs.objs i u N (by rw[(L p).2];rfl);refine⟨g,T,vs,by simp only[ι'];exact S,U,⟨?_,D.one,fun j c v W Y=>?_⟩⟩
  ·have:=D.len;cases d<;>simpa[nA]using this
  ·exact(Pe n.hs V J E I P d vs.toList D.rel j c v W Y).mono (ll _) (fun _ _ h=>h) (fun _ _ _=>rfl) (fun id y p=>by cases p)
 ·simp only[look]at q;split at q
  case isFalse=>cases q
  rename_i e;subst e;injection q with q;subst q
  refine⟨x,Z,?_⟩;cases K with
  | ptr _ _ _ g m=>exact .ptr _ _ _ g (by simp only[ι',lc rfl];exact m)
def lkV[GS](f:FuncId)(b:Bool):Value:=match b with|true=>jo f GS.g|false=>.nilFunc
def ex[GS](f:FuncId)(b:Bool):AV:=.vv (lkV f b)
def La(op:BinOp)(b:Bool):Bool:=match op with|.eql=>!b|_=>b
def Ox[GS]:Value:=.pointer (some ⟨GS.g,0,none⟩)
def vV(s:AS)(k:Nat):Bool:=match look k s.t with|some v=>v.Dx|none=>false
section
variable{c:Cx}{Q:Exit→Act→World→Prop}{m:dt}{s:AS}{j:Array Oper}{f:Func}{p:eb}{i:Nat}{e:Exit}{l:List Oper}
theorem aao[GS][SG c.w0]{a}{w}{ι}(e:aU c s a w ι){k off}(f:look k s.t=some (.ptr 440001 off)):aU c (kP k (.adr GS.g off) s) a w ι:=by
 refine e.kg (fun y j=>?_) ⟨_,f⟩;obtain⟨x,d,i⟩:=e.tmp k _ f;rw[j]at d;injection d with d;subst d
 cases i with
 | ptr _ _ _ g b =>
  have h:=(e.hs.pin _ _ SG.pv).1;rw[h]at b;injection b with b;injection b with b;injection b with b;injection b with b;subst b
  exact .adr _ _ _
theorem aaS[GS][SG c.w0]{a}{w}{ι}(d:aU c s a w ι){k off}(e:look k s.t=some (.adr GS.g off)):aU c (kP k (.ptr 440001 off) s) a w ι:=by
 refine d.kg (fun y g=>?_) ⟨_,e⟩;obtain⟨x,b,f⟩:=d.tmp k _ e;rw[g]at b;injection b with b;subst b
 cases f with
 | adr _ _ _=>exact .ptr _ _ _ _ ((d.hs.pin _ _ SG.pv).1)
theorem agQ[GS][SG c.w0]{a}{w}{ι}(e:aU c s a w ι){k}(d:vV s k=true):aU c (kP k (.lk 440001 Ox) s) a w ι:=by
 unfold vV at d;split at d
 ·rename_i v f;refine e.kg (fun y h=>?_) ⟨_,f⟩;obtain⟨x,b,g⟩:=e.tmp k _ f;rw[h]at b;injection b with b;subst b
  exact .lk _ _ _ _ ((e.hs.pin _ _ SG.pv).1) (g.one d)
 grind
theorem ahj[GS][SG c.w0] k off(h:VE c Q m e (kP k (.adr GS.g off) s))(b:look k s.t=some (.ptr 440001 off):=by kernel_rfl):VE c Q m e s:=fun a w ι d=>h a w ι (aao d b)
theorem U4[GS][SG c.w0] k off(h:OT c Q m j l (kP k (.ptr 440001 off) s))(b:look k s.t=some (.adr GS.g off):=by kernel_rfl):OT c Q m j l s:=fun a w ι d=>h a w ι (aaS d b)
theorem J3[GS][SG c.w0] k(h:VE c Q m e (kP k (.lk 440001 Ox) s))(b:vV s k=true:=by kernel_rfl):VE c Q m e s:=fun a w ι d=>h a w ι (agQ d b)
theorem MU[GS](g:FuncId)(b:Bool)(op:BinOp)(T T':TypeId)(x y:Operand)(d:Nat)(k:OT c Q m j (aV f p (i+1)) (s.put (some d) (.bool (La op b))))
  (I:aV f p i=aW f p i::aV f p (i+1):=by kernel_rfl) (H:cH j s (aW f p i)=true:=by kernel_rfl) (o:(aW f p i).op=.binOp op T x y T':=by kernel_rfl) (G:(aW f p i).dst=some d:=by kernel_rfl) (J:Nat.ble (d+1) c.n=true:=by kernel_rfl)
  (L:s.ev x=some (ex g b):=by kernel_rfl) (M:s.ev y=some .nilf:=by kernel_rfl) (r:(zJ op&&(match c.P.underlying T with|some (.func _ _ _)=>true|_=>false))=true:=by kernel_rfl):OT c Q m j (aV f p i) s:=by
 rw[I];refine fu _ H fun a w ι E=>?_;refine aa6 rfl fun K F=>?_;have B:d<c.n:=j3 J;simp only[iN]at r;obtain⟨h,r⟩:=r;split at r
 case h_2=>cases r
 rename_i N O P t;have e:=E.ev L;have v:=E.ev M;have u:a.eval y=.nilFunc:=by
  generalize a.eval y=Y at v;cases v with
  | nilf _=>rfl
 have run:(execOp a.eval { aW f p i with guard:=none }).run c.P w=.ok (.value (.bool (La op b))) w:=by
  cases b with
  | true =>
   have l:a.eval x=jo g GS.g:=by
    generalize a.eval x=X at e;cases e with
    | vv _ _ _=>rfl
   have z:∀{q:BinOp},q=.eql∨q=.neq→(eqGuard q T x y (jo g GS.g) .nilFunc).run c.P w=.ok () w:=by
    intro q D;rcases D with rfl|rfl<;>simp[eqGuard,jo]
   have A:(Op.equalIn 10000 T (jo g GS.g) .nilFunc).run c.P w=.ok false w:=by
    unfold Op.equalIn;rw[sj,pt t w];rfl
   unfold execOp;simp only[o,l,u,sj];cases op<;>simp[zJ]at h
   ·have n:binOp .eql T (jo g GS.g) .nilFunc=(do pure (.bool (← Op.equalIn 10000 T (jo g GS.g) .nilFunc))):=rfl;rw[z (.inl rfl),n];simp only[u3,sj,A,IT];rfl
   ·have n:binOp .neq T (jo g GS.g) .nilFunc=(do pure (.bool (!(← Op.equalIn 10000 T (jo g GS.g) .nilFunc)))):=rfl;rw[z (.inr rfl),n];simp only[u3,sj,A,IT];rfl
  | false =>
   have l:a.eval x=.nilFunc:=by
    generalize a.eval x=X at e;cases e with
    | vv _ _ _=>rfl
   have z:∀{q:BinOp},q=.eql∨q=.neq→(eqGuard q T x y .nilFunc .nilFunc).run c.P w=.ok () w:=by
    intro q D;rcases D with rfl|rfl<;>simp[eqGuard]
   have A:(Op.equalIn 10000 T .nilFunc .nilFunc).run c.P w=.ok true w:=by
    unfold Op.equalIn;rw[sj,pt t w];rfl
   unfold execOp;simp only[o,l,u,sj];cases op<;>simp[zJ]at h
   ·have n:binOp .eql T .nilFunc .nilFunc=(do pure (.bool (← Op.equalIn 10000 T .nilFunc .nilFunc))):=rfl;rw[z (.inl rfl),n];simp only[u3,sj,A,IT];rfl
   ·have n:binOp .neq T .nilFunc .nilFunc=(do pure (.bool (!(← Op.equalIn 10000 T .nilFunc .nilFunc)))):=rfl;rw[z (.inr rfl),n];simp only[u3,sj,A,IT];rfl
 unfold Oper.wp;rw[run];refine F _ _ ?_;show wpList _ _ _ _ (a.put (aW f p i).dst _) _;rw[G];exact k _ _ _ (E.put (fun k C=>by injection C with C;subst C;exact B) (.bool _ _))
end
def nM{α:Type}(_:α):AV:=.tup []
def anyS(k j:Nat)(s:AS):AS:=match look k s.t with|some (.agg cs)=>kP k (.agg (cs.set j .any)) s|_=>s
section
variable{d:Cx}{Q:Exit→Act→World→Prop}{e:dt}{s:AS}{b:Array Oper}{l:List Oper}
theorem adW(k j:Nat)(h:OT d Q e b l (anyS k j s)):OT d Q e b l s:=fun a w ι m=>by
 unfold anyS at h;split at h
 ·rename_i cs n;refine h a w ι (m.kg (fun y r=>?_) ⟨_,n⟩);obtain⟨x,g,o⟩:=m.tmp k _ n;rw[r]at g;injection g with g;subst g
  cases o with
  | agg _ _ vs q p o =>
   refine .agg _ _ vs (by simpa using q) p (fun i c v f t=>?_);rw[aky]at f;split at f
   ·split at f
    ·injection f with f;subst f;exact .any _ _ (by grind)
    grind
   grind
 ·exact h a w ι m
end
section
variable{a:Cx}{s:AS}{b:Func}
theorem Sv{l}{e}{f d}{ar c}(h:ij a.P s b.results.toList=some l:=by kernel_rfl)(g:look f s.r=some ar:=by kernel_rfl)(k:look d s.r=some c:=by kernel_rfl)(i:(e.map fun p=>look p.1 s.o)=(e.map fun p=>some p.2):=by kernel_rfl)(j:pH l=.tup l:=by kernel_rfl):
  VE a (bodyPost a.P b (bJ a.M a.w0 (fun v s=>v=.tup l∧cy s.o e∧look f s.r=some ar∧look d s.r=some c))) [] .ret s :=by grind[rg,Er]
end
def om{α:Type}(c:Bool)(B:Option (List α)):Option (List α):=match c with
 | true=>(match B with|some []=>some []|_=>none)
 | false=>B
theorem QV{α}{c}{B:Option (List α)}{r}(a:c=true)(h:om c B=some r):some []=some r:=by
 grind[om]
theorem Ps{α}{c}{B:Option (List α)}{r}(h:om c B=some r):B=some r:=by
 unfold om at h
 grind
theorem RN{l:Cx}{Q:Exit→Act→World→Prop}{m:dt}{s:AS}{e:Exit}(k p d:Nat)(h:∀g:Nat,VE l Q m e (kP k (.lk d (.pointer (some ⟨g,0,none⟩))) s))(n:look p s.t=some (.ptr d 0):=by kernel_rfl)(c:vV s k=true:=by kernel_rfl):VE l Q m e s:=fun a w ι i=>by
 obtain⟨x,_,o⟩:=i.tmp p _ n;cases o with
 | ptr _ _ _ g r =>
  refine h g a w ι (i.kg (fun y q=>?_) ?_)
  ·unfold vV at c;split at c
   ·rename_i v j;obtain⟨t,b,f⟩:=i.tmp k _ j;rw[q]at b;injection b with b;subst b
    exact .lk _ _ _ _ r (f.one c)
   ·cases c
  ·unfold vV at c;split at c
   ·rename_i v j;exact⟨v,j⟩
   ·cases c
theorem acN{P:Program}{f:FuncId}{Q:AV→AS→Prop}(h:aX P f [.vv .nilFunc,.vv .nilFunc] Q):aX P f [.nilf,.nilf] Q:=fun M w xs d b =>
 h M w xs d ⟨b.1,fun i v y a c=>by
  have e:∀y,Rel M w bG .nilf y→Rel M w bG (.vv .nilFunc) y:=fun y g=>by cases g;exact .vv _ _ rfl
  match i,a with
  | 0,a=>injection a with a;subst a;exact e y (b.2 0 _ y rfl c)
  | 1,a=>injection a with a;subst a;exact e y (b.2 1 _ y rfl c)⟩
end Go.Proofs.YtocgkfoifehcbaaGreat
