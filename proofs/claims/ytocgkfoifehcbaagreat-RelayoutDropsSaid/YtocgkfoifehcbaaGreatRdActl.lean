/- Code on abstract states: rules for each form of code, for calls, loops, returns. No program in sight. -/
import Derived.Test.YtocgkfoifehcbaaGreatRdAop4
import Derived.LoopN
namespace Go.Proofs.YtocgkfoifehcbaaGreat
set_option linter.all false
open Go.RowKit
abbrev iF:=List h7
def v9:=@Array.getD_eq_getD_getElem?
def Dz:=@Array.getElem?_append_left
def Ts:=@wpList_plain
def ahR:=@Oper.upon_enter
def al1:=@calls_of_wp
def am3:=@wp_mono
inductive aq where
 | c (c:Code)
 | b (id:Nat)
 | l (back:Act→World→Prop)
def Kw(P:Program)(Q:Exit→Act→World→Prop):List aq→Exit→Act→World→Prop
 | []=>Q
 | .c c::a=>Exit.then (c.wp P (Kw P Q a)) (Kw P Q a)
 | .b id::a=>Exit.inBlock id (Kw P Q a)
 | .l b::a=>Exit.then b (Kw P Q a)
def VE(b:Cx)(Q:Exit→Act→World→Prop)(c:List aq)(e:Exit)(s:AS):Prop:=∀a w ι,aV b s a w ι→Kw b.P Q c e a w
def OT(c:Cx)(Q:Exit→Act→World→Prop)(d:List aq)(b:Array Oper)(l:List Oper)(s:AS):Prop:=∀a w ι,aV c s a w ι→wpList c.P b (Kw c.P Q d) l a w
section
variable{f:Cx}{Q:Exit→Act→World→Prop}{n:List aq}{s:AS}
theorem acs(h:VE f Q n .normal s):VE f Q (.c .skip::n) .normal s:=fun a w ι b=>wp_skip (h a w ι b)
theorem afW{x y}(h:VE f Q (.c x :: .c y::n) .normal s):VE f Q (.c (.seq x y)::n) .normal s:=fun a w ι b=>wp_seq (h a w ι b)
theorem Zh{id}{c}(h:VE f Q (.c c :: .b id::n) .normal s):VE f Q (.c (.block id c)::n) .normal s:=fun a w ι b=>wp_block (h a w ι b)
theorem abe{id}(h:VE f Q n .normal s):VE f Q (.b id::n) .normal s:=fun a w ι b=>h a w ι b
theorem afB{id}(h:VE f Q n (.exit id) s):VE f Q (.c (.exit id)::n) .normal s:=fun a w ι b=>wp_exit (h a w ι b)
theorem XA(h:VE f Q n .ret s):VE f Q (.c .ret::n) .normal s:=fun a w ι b=>wp_ret (h a w ι b)
theorem agb{id}{b}(h:VE f Q n (.exit id) s):VE f Q (.l b::n) (.exit id) s:=fun a w ι c=>h a w ι c
theorem Y3{id}(h:VE f Q n .normal s):VE f Q (.b id::n) (.exit id) s:=fun a w ι b=>by
 show Exit.inBlock id _ _ _ _;simp only[Exit.inBlock];exact h a w ι b
theorem adW{id b}(c:¬ id=b)(h:VE f Q n (.exit id) s):VE f Q (.b b::n) (.exit id) s:=fun a w ι d=>by
 show Exit.inBlock b _ _ _ _;simp only[Exit.inBlock,kc c];exact h a w ι d
theorem aaZ{b}(h:VE f Q n .ret s):VE f Q (.l b::n) .ret s:=fun a w ι c=>h a w ι c
theorem V6{id}(h:VE f Q n .ret s):VE f Q (.b id::n) .ret s:=fun a w ι b=>h a w ι b
theorem UV{c}{x y}{b}(i:s.ev c=some (.bool b))(k:b=true→VE f Q (.c x::n) .normal s)(j:b=false→VE f Q (.c y::n) .normal s):VE f Q (.c (.cond c x y)::n) .normal s:=fun a w ι e=>by
 have h:=e.ev i;have d:a.eval c=.bool b:=by cases g:a.eval c<;>rw[g]at h<;>cases h;rfl
 cases b
 ·exact wp_cond d (j rfl a w ι e)
 ·exact wp_cond d (k rfl a w ι e)
theorem ab4{c}{x y}(a:s.ev c=some (.bool true))(b:VE f Q (.c x::n) .normal s):VE f Q (.c (.cond c x y)::n) .normal s :=by grind[UV]
theorem ZR{c}{x y}(a:s.ev c=some (.bool false))(b:VE f Q (.c y::n) .normal s):VE f Q (.c (.cond c x y)::n) .normal s :=by grind[UV]
theorem Mu{id}{ops}(h:OT f Q n ops ops.toList s):VE f Q (.c (.region id ops false)::n) .normal s:=fun a w ι b=>wp_region_list (h a w ι b)
theorem Lw{b}(h:VE f Q n .normal s):OT f Q n b [] s:=fun a w ι c=>h a w ι c
theorem FX{d}{o}{r}{s'}(i:o.guard=none)(h:cc f.P f.n s o=some s')(k:OT f Q n d r s'):OT f Q n d (o::r) s:=fun a w ι j=>by
 refine Ts i fun K g=>?_;unfold Oper.wp;obtain⟨ι',_,b⟩:=Qk j h;obtain⟨x,w',e,c⟩|⟨w',e,c⟩:=b
 ·rw[e];exact g _ _ (k _ _ _ c)
 ·rw[e];exact g _ _ (k _ _ _ c)
theorem aad{c:Array Oper}{o i}{r}{j d:Nat}{b}(m:o.guard=some (j,b))(p:c[j]?=some i)(l:i.dst=some d)(t:look d s.t=some (.bool b))(k:OT f Q n c ({ o with guard:=none }::r) s):OT f Q n c (o::r) s:=fun a w ι h=>by
 have e:=k a w ι h;obtain⟨x,v,q⟩:=h.tmp d _ t;cases q;have u:Region.wanted o (yielded c a.tmps)=true:=by simp[Region.wanted,m,yielded,p,l,v]
 have g:Region.wanted { o with guard:=none } (yielded c a.tmps)=true:=by rfl
 unfold wpList at e⊢;rw[lp g]at e;rw[lp u];exact e
def Bs(u:ed)(l:il):il→Prop
 | []=>True
 | (k,v)::r=>look k l=some v∧v.de u=true∧Bs u l r
def CS(u:ed)(l:iF):iF→Prop
 | []=>True
 | (k,v)::r=>look k l=some v∧dV u v=true∧u.contains k=true∧CS u l r
def Dx(u:ed)(l:List (Nat×cj)):List (Nat×cj)→Prop
 | []=>True
 | (k,v)::r=>look k l=some v∧u.contains k=true∧Dx u l r
def Sub(s' s:AS):Prop:=Bs s'.u s.t s'.t∧CS s'.u s.o s'.o∧Dx s'.u s.r s'.r∧∀id,s.u.contains (da id)=true→s'.u.contains (da id)=true∧s'.u.contains id=true
theorem VW{u}{l}:∀{m},Bs u l m→∀k v,look k m=some v→look k l=some v∧v.de u=true
 | [],_,k,v,a=>by cases a
 | (j,x)::r,h,k,v,a=>by
  simp only[look]at a;split at a
  ·rename_i e;subst e;injection a with a;subst a;exact⟨h.1,h.2.1⟩
  ·exact VW h.2.2 k v a
theorem F2{u}{l}:∀{m},CS u l m→∀k v,look k m=some v→look k l=some v∧dV u v=true∧u.contains k=true
 | [],_,k,v,a=>by cases a
 | (j,x)::r,h,k,v,a=>by
  simp only[look]at a;split at a
  ·rename_i e;subst e;injection a with a;subst a;exact⟨h.1,h.2.1,h.2.2.1⟩
  ·exact F2 h.2.2.2 k v a
theorem I2{u}{l}:∀{m},Dx u l m→∀k v,look k m=some v→look k l=some v∧u.contains k=true
 | [],_,k,v,a=>by cases a
 | (j,x)::r,h,k,v,a=>by
  simp only[look]at a;split at a
  ·rename_i e;subst e;injection a with a;subst a;exact⟨h.1,h.2.1⟩
  ·exact I2 h.2.2 k v a
def jk(ι:Env)(u:ed):Env:=fun i=>if has u i=true then ι i else none
theorem rg{ι}{u}{i}(h:has u i=true):jk ι u i=ι i:=by grind[jk]
theorem agL{ι}{u}{i}{y}(h:jk ι u i=some y):ι i=some y∧has u i=true:=by
 grind[jk]
theorem Cn{ι}{u}{i g}(h:bu (jk ι u i)=some g):bu (ι i)=some g:=by
 unfold jk at h;split at h
 ·grind
 ·cases h
theorem Rel.jk{N N'}{w}{ι}{v}{x}(h:Rel N w ι v x){u}(e:v.de u=true)(c:∀b,N' b→N b):Rel N' w (jk ι u) v x :=
 (h.env (ι':=Proofs.YtocgkfoifehcbaaGreat.jk ι u) (fun id a=>rg (ft a)) e).mono (by omega) (fun b _ d=>c b d) (fun _ _ _=>rfl) (fun _ _ h=>h)
theorem Gh{M}{ι}{u}:∀b,NN M (jk ι u) b→NN M ι b:=fun b a=>by
 rcases a with a|⟨id,a⟩
 ·exact .inl a
 ·exact .inr ⟨id,Cn a⟩
theorem HS.sub{M:Nat→Prop}{z:aB}{w:World}{ι:Env}{s s':AS}(h:HS M z w ι s)(l:Sub s' s):HS M z w (jk ι s'.u) s':=by
 refine⟨h.below,h.old,fun i y J=>(agL J).2,fun i g t=>h.own i g (Cn t),fun i K g t u=>h.inj i K g (Cn t) (Cn u),fun i cs hi=>ft (F2 l.2.1 i cs hi).2.2,fun i a hi=>ft (I2 l.2.2.1 i a hi).2,fun i cs hi f=>?_,fun i ar hi f=>?_,fun i y f=>⟨(rg (ft (l.2.2.2 i (h.pin i y f).2).2)).trans (h.pin i y f).1,(l.2.2.2 i (h.pin i y f).2).1⟩⟩
 ·obtain⟨q,D,d⟩:=F2 l.2.1 i cs hi;have d:=ft d;rw[rg d]at f;obtain⟨g,T,vs,o,p,m⟩:=h.objs i cs q f;exact⟨g,T,vs,(rg d).trans o,p,m.len,m.one,fun j x v n I=>(m.rel j x v n I).jk (lY D j x n) Gh⟩
 ·obtain⟨q,d⟩:=I2 l.2.2.1 i ar hi;have d:=ft d;rw[rg d]at f;obtain⟨v,xs,o,p,m,A,B⟩:=h.arrs i ar q f;refine⟨v,xs,(rg d).trans o,p,m,A,fun j e F k c G=>?_⟩;obtain⟨x,n,H⟩:=B j e F k c G;exact⟨x,n,H.mono (by omega) (fun b _ E=>Gh b E) (fun _ _ _=>rfl) (fun r C=>(rg (Pb _ _ _)).trans C) (fun _ _=>rfl) (fun h=>h)⟩
theorem aV.sub{s'}{a}{w}{ι}(h:aV f s a w ι)(b:Sub s' s):aV f s' a w (jk ι s'.u) :=
 ⟨h.hs.sub b,h.dfr,h.n,fun k v e=>by
  obtain⟨c,d⟩:=VW b.1 k v e;obtain⟨x,i,g⟩:=h.tmp k v c;exact⟨x,i,g.jk d Gh⟩⟩
theorem PY{e} s'(c:Sub s' s)(h:VE f Q n e s'):VE f Q n e s:=fun a w ι b=>h a w _ (b.sub c)
end
def va(N:Nat→Prop)(w:World)(a:c6)(xs:Array Value):Prop:=a.length=xs.size∧∀(i:Nat) v y,a[i]?=some v→xs[i]?=some y→Rel N w bH v y
def aY(P:Program)(f:FuncId)(a:c6)(Q:AV→AS→Prop):Prop :=
 ∀M w xs,(∀b,M b→b<w.heap.size)→va M w a xs →
  Calls P f xs w fun e w'=>∃x v s ι,e=.returned x∧Q v s∧HS M (nj w) w' ι s∧Rel (NN M ι) w' ι v x
theorem aY.mono{P}{f}{a}{Q b}(h:aY P f a Q)(k:∀v s,Q v s→b v s):aY P f a b:=fun M w xs i j =>
 (h M w xs i j).mono fun _ _ ⟨x,v,s,ι,c,d,e,g⟩=>⟨x,v,s,ι,c,k _ _ d,e,g⟩
def idxs(k:Nat):c6→il
 | []=>[]
 | v::r=>(k,v)::idxs (k+1) r
theorem qf:∀l k i,look i (idxs k l)=if k≤i then l[i-k]? else none
 | [],k,i=>by simp[idxs,look]
 | v::r,k,i=>by
  simp only[idxs,look,qf r (k+1) i]
  grind
def bI(M:Nat→Prop)(w:aB)(Q:AV→AS→Prop)(e:Ending)(w':World):Prop:=∃x v s ι,e=.returned x∧Q v s∧HS M w w' ι s∧Rel (NN M ι) w' ι v x
theorem acm{P:Program}{f:FuncId}{m:Func}{c:Code}{d:c6}{Q:AV→AS→Prop}(t:P.funcs[f]?=some m)(j:m.body=some c)(n:Nat)(B:m.ntmps=n)(A:d.length≤n)
  (h:∀M r,VE ⟨P,n,M,r⟩ (bodyPost P m (bI M r Q)) [.c c] .normal ⟨idxs 0 d,[],[],[]⟩):aY P f d Q:=by
 intro M w xs s q;refine al1 t j ?_;refine am3 (h M (nj w) { tmps:=xs++Array.replicate (m.ntmps-xs.size) undef,defers:=[] } w bH ?_) (fun e a w' u=>?_)
 ·refine⟨⟨⟨rfl,rfl,rfl,la _,fun _ _ _=>rfl⟩,fun b j=>⟨s b j,fun h=>h⟩,fun i y z=>(by cases z),fun i g o=>(by cases o),fun i C g o=>(by cases o),fun i cs hi=>(by cases hi),fun i a hi=>(by cases hi),fun i cs hi=>(by cases hi),fun i a hi=>(by cases hi),fun i v x=>(by cases x)⟩,rfl,?_,fun k v p=>?_⟩
  ·have:=q.1;simp;omega
  ·rw[qf,lp (u4 _),ale]at p;have l:k<xs.size:=by rw[←q.1];exact(jt.1 p).1
   refine⟨xs[k],?_,(q.2 k v _ p (ll l)).mono (la _) (fun b _ j=>?_) (fun _ _ _=>rfl) (fun _ _ h=>h)⟩
   ·simp only[];rw[Dz l,ll l]
   ·rcases j with j|⟨id,j⟩
    ·exact j
    ·cases j
 ·cases e<;>exact u
def gZ(P:Program)(s:AS):List ResultVar→Option c6
 | []=>some []
 | .tmp t::r=>match look t s.t,gZ P s r with|some v,some l=>some (v::l)|_,_=>none
 | .cell t T::r=>match look t s.t with
  | some p=>match mz P s T p,gZ P s r with|some v,some l=>some (v::l)|_,_=>none
  | none=>none
def re:c6→AV
 | [v]=>v
 | l=>.tup l
def yF(tmps:Array Value):ResultVar→Sem Value
 | .tmp t=>pure (tmps.getD t undef)
 | .cell a t=>do loadVar t (← asAddr (tmps.getD a undef))
theorem BS{f:Cx}{s:AS}{a:Act}{w:World}{ι:Env}(c:aV f s a w ι):∀{rs:List ResultVar} {l:c6},gZ f.P s rs=some l →
  ∃vs:eg,(rs.mapM (yF a.tmps)).run f.P w=.ok vs w∧l.length=vs.length∧∀(i:Nat) (v:AV) (y:Value),l[i]?=some v→vs[i]?=some y→Rel (NN f.M ι) w ι v y
 | [],l,h=>by injection h with h;subst h;exact⟨[],by simp,rfl,fun i v y e _=>by simp at e⟩
 | .tmp t::r,l,h=>by
  unfold gZ at h;cases g:look t s.t with
  | none=>rw[g]at h;cases h
  | some v =>
   cases j:gZ f.P s r with
   | none=>rw[g,j]at h;cases h
   | some l' =>
    rw[g,j]at h;injection h with h;subst h
    obtain⟨vs,o,q,u⟩:=BS c j;obtain⟨x,C,A⟩:=c.tmp t v g;refine⟨x::vs,?_,by simp[q],fun i v' y e m=>?_⟩
    ·rw[List.mapM_cons];simp[yF,o,v9,C]
    ·cases i with
     | zero=>simp at e m;subst e;subst m;exact A
     | succ i=>exact u i v' y (by simpa using e) (by simpa using m)
 | .cell t T::r,l,h=>by
  unfold gZ at h;cases g:look t s.t with
  | none=>rw[g]at h;cases h
  | some p =>
   simp only[g]at h;cases k:mz f.P s T p with
   | none=>rw[k]at h;cases h
   | some v =>
    cases j:gZ f.P s r with
    | none=>rw[k,j]at h;cases h
    | some l' =>
     rw[k,j]at h;injection h with h;subst h
     obtain⟨vs,o,q,u⟩:=BS c j;obtain⟨x,C,A⟩:=c.tmp t p g;unfold mz at k;split at k
     ·rename_i cs F;obtain⟨b,G,H,D,d⟩:=Va c A F;obtain⟨z,n,B⟩:=Lq k d;refine⟨z::vs,?_,by simp[q],fun i v' y e m=>?_⟩
      ·rw[List.mapM_cons];have E:(loadVar T ⟨b,G,none⟩).run f.P w=.ok z w:=by simpa[Instr.loadAt,Instr.sureAddr]using n
       simp[yF,o,v9,C,D,asAddr,E]
      ·cases i with
       | zero=>simp at e m;subst e;subst m;exact B
       | succ i=>exact u i v' y (by simpa using e) (by simpa using m)
     ·cases k
def ajo:eg→Value
 | [v]=>v
 | l=>.tuple l.toArray
theorem aaM a tmps:results a tmps=(do let vs ← a.results.mapM (yF tmps);pure (if h:vs.size=1 then vs[0] else .tuple vs)):=by
 rfl
theorem QI{P}{w}{a}{tmps}{vs}(h:(a.results.toList.mapM (yF tmps)).run P w=.ok vs w):
  (results a tmps).run P w=.ok (ajo vs) w:=by
 rw[aaM,Array.mapM_eq_mapM_toList];simp only[sj,Sem.run_map,h];congr 1
 match vs with
 | []=>rfl
 | [v]=>rfl
 | v::u::r=>rfl
theorem pY{d}{g}{s}{Q}{l}{rs}(f:g.results=rs)(h:gZ d.P s rs.toList=some l)(k:Q (re l) s):VE d (bodyPost d.P g (bI d.M d.w0 Q)) [] .ret s:=fun a w ι b=>by
 obtain⟨vs,j,e,c⟩:=BS b h;refine⟨b.dfr,_,QI (by rw[f];exact j),_,re l,s,ι,rfl,k,b.hs,?_⟩
 match l,vs,e,c with
 | [],[],_,c=>exact .tup _ _ _ rfl (fun i x v m _=>by grind)
 | [v],[y],_,c=>exact c 0 v y rfl rfl
 | v::u::r,y::z::q,e,c=>exact .tup _ _ _ e c
def cI (P:Program) (f:FuncId):Bool:=match P.funcs[f]? with | some a=>!(a.name == "runtime.NumGoroutine") && !a.body.isNone | none=>false
theorem Ga{P}{w}{f}(h:cI P f=true) xs:(callFunc f xs).run P w=.ok (.enter f xs) w:=by
 unfold cI at h;cases a:P.funcs[f]? with
 | none=>grind
 | some b =>
  simp only[a]at h;unfold callFunc;simp only[sj,run_program,u5,a];rw[kc (by grind),kc (by grind)];rfl
def gu:AV→AV
 | .agg cs=>.agg (cs.map fT)
 | v=>fT v
theorem xT{N}{w}{ι}{v}{x}(h:Rel N w ι v x):Rel N w ι (gu v) x:=by
 cases h with
 | agg _ cs vs b a d =>
  have c:=(Cells.mk b a d).pz;exact .agg _ _ _ c.len c.one c.rel
 | nils _=>exact .sl0 _ _ _
 | _=>simp only[gu];constructor<;>assumption
theorem aiH{f:Cx}{s:AS}{a:Act}{w:World}{ι:Env}(h:aV f s a w ι){xs:Array Operand}{l:c6}(k:dj s xs.toList=some l)(m:dV [] l=true):va (NN f.M ι) w (l.map gu) (xs.map a.eval):=by
 obtain⟨g,j⟩:=lr h k;refine⟨by simp at g;simp[g],fun i v y b n=>?_⟩;rw[Do]at b;cases e:l[i]? with
 | none=>rw[e]at b;cases b
 | some c =>
  rw[e]at b;injection b with b;subst b
  have d:(xs.toList.map a.eval)[i]?=some y:=by rw[←akW];simpa using n
  exact xT ((j i c y e d).pure (lY m i c e) bH)
theorem HS.mL{M:Nat→Prop}{q:aB}{w w':World}{ι:Env}{s:AS}(h:HS M q w ι s)(a:Below w.heap.size w w'):HS M q w' ι s:=by
 have p:∀b,b<w.heap.size→¬ NN M ι b→w'.heap[b]?=w.heap[b]?:=fun b m _=>a.block b m;refine⟨h.below.trans (.of a h.below.size),h.old,h.use,fun i g c=>⟨(h.own i g c).1,by have:=(h.own i g c).2;have:=a.size;omega⟩,h.inj,h.ko,h.kr,fun i cs hi n=>?_,fun i ar hi n=>?_,h.pin⟩
 ·obtain⟨g,T,vs,d,f,k⟩:=h.objs i cs hi n;exact⟨g,T,vs,d,(a.block g (h.own i g (by rw[d];rfl)).2).trans f,k.mono a.size (fun b _ a=>a) p (fun _ _ h=>h)⟩
 ·obtain⟨v',xs,d,f,k,u,v⟩:=h.arrs i ar hi n;refine⟨v',xs,d,fK f (fun g c=>a.block g (h.own i g (by grind)).2),k,u,fun j e z B t l=>?_⟩;obtain⟨y,A,o⟩:=v j e z B t l;exact⟨y,A,o.mono a.size (fun b _ a=>a) p (fun _ h=>h) (fun r x=>a.block r (h.j6 x)) (fun h=>h)⟩
theorem aV.mL{e}{s}{a}{w w'}{ι}(h:aV e s a w ι)(c:Below w.heap.size w w'):aV e s a w' ι :=
 h.world (h.hs.mL c) rfl c.size (fun b _ c=>c) (fun b d _=>c.block b d) (fun _ _ h=>h)
theorem kF{e:Cx}{s:AS}{a:Act}{w:World}{ι:Env}(p:aV e s a w ι){o:Oper}{c:Call}{h:Operand}{f:FuncId}{aR:c6}(n:o.op=.call c)(b:c.callee=.value h)(l:s.ev h=some (.fn f aR))(k:cI e.P f=true):
  ∃d:eg,(execOp a.eval o).run e.P w=.ok (.enter f (c.args.map a.eval++d.toArray)) w∧aR.length=d.length∧∀(i:Nat) (c:AV) (y:Value),aR[i]?=some c→d[i]?=some y→Rel (NN e.M ι) w bH c y:=by
 have g:=p.ev l;generalize j:a.eval h=X at g;cases g with
 | fn _ _ _ d m g =>
  refine⟨d,?_,m,g⟩;unfold execOp;simp only[n,resolve,b,j,Deferred.ofValue,Qf,u5,invoke]
  grind[Ga]
theorem y9{b:Cx}{s:AS}{a:Act}{w:World}{ι:Env}(h:aV b s a w ι){xs:Array Operand}{l:c6}(k:dj s xs.toList=some l)(m:dV [] l=true){aR:c6}{e:eg}(n:aR.length=e.length)
  (o:∀(i:Nat) (c:AV) (y:Value),aR[i]?=some c→e[i]?=some y→Rel (NN b.M ι) w bH c y):va (NN b.M ι) w (l.map gu++aR) (xs.map a.eval++e.toArray):=by
 have f:=aiH h k m;have d:=f.1;refine⟨by simp at d⊢;omega,fun i v y g j=>?_⟩;by_cases hi:i<(l.map gu).length
 ·rw[zt hi]at g;rw[Dz (by grind)]at j;exact f.2 i v y g j
 grind
theorem adT{d}{Q}{C}{s}{i}{o}{r}{c}{B}{f}{aR l}{A}
  (F:aY d.P f (l.map gu++aR) A)
  (I:o.guard=none) (M:o.op=.call c) (j:c.callee=.value B) (H:s.ev B=some (.fn f aR)) (t:cI d.P f=true) (G:cK d.n o.dst=true) (L:dj s c.args.toList=some l) (N:dV [] l=true)
  (k:∀v z,A v z→v.de []=true∧OT d Q C i r (s.put o.dst v)):OT d Q C i (o::r) s:=fun a w ι m=>by
 refine Ts I fun K E=>?_;unfold Oper.wp;obtain⟨R,y,p,q⟩:=kF m M j H t;rw[y,ahR];refine (F (NN d.M ι) w _ (fun b n=>ml m.hs n) (y9 m L N p q)).mono ?_
 rintro e w' ⟨x,v,z,S,rfl,O,u,P⟩
 obtain⟨g,J⟩:=k v z O;have D:Rel (NN d.M ι) w' ι v x:=(P.pure g ι).mono (by omega) (fun b _ n=>.inl n) (fun _ _ _=>rfl) (fun _ _ h=>h);exact E _ _ (J _ _ _ ((m.mL u.below.plain).put (fX G) D))
theorem XN{d}{Q}{h}{s}{b}{o}{r}{c}{e}{f}{aR l a}{V}
  (m:aY d.P f a (fun v _=>v=V))
  (q:o.guard=none) (u:o.op=.call c) (g:c.callee=.value e) (p:s.ev e=some (.fn f aR)) (i:cI d.P f=true) (n:cK d.n o.dst=true) (t:dj s c.args.toList=some l) (j:l.map gu++aR=a) (w:dV [] l=true)
  (x:V.de []=true) (k:OT d Q h b r (s.put o.dst V)):OT d Q h b (o::r) s :=by grind[adT]
end Go.Proofs.YtocgkfoifehcbaaGreat
