/- Code on abstract states: rules for each form of code, for calls, loops, returns. No program in sight. -/
import Derived.Test.YtocgkfoifehcbaaGreatRkAop4
import Derived.LoopN
namespace Go.Proofs.YtocgkfoifehcbaaGreat
set_option linter.all false
open Go.RowKit
abbrev io:=List h6
def u5:=@Array.getD_eq_getD_getElem?
def Dk:=@Array.getElem?_append_left
def aa6:=@wpList_plain
def aeq:=@Oper.upon_enter
def alx:=@calls_of_wp
def amu:=@wp_mono
inductive aq where
 | c (c:Code)
 | b (id:Nat)
 | l (back:Act→World→Prop)
def Kw(P:Program)(Q:Exit→Act→World→Prop):List aq→Exit→Act→World→Prop
 | []=>Q
 | .c c::a=>Exit.then (c.wp P (Kw P Q a)) (Kw P Q a)
 | .b id::a=>Exit.inBlock id (Kw P Q a)
 | .l b::a=>Exit.then b (Kw P Q a)
def VE(b:Cx)(Q:Exit→Act→World→Prop)(c:List aq)(e:Exit)(s:AS):Prop:=∀a w ι,aU b s a w ι→Kw b.P Q c e a w
def OT(c:Cx)(Q:Exit→Act→World→Prop)(d:List aq)(b:Array Oper)(l:List Oper)(s:AS):Prop:=∀a w ι,aU c s a w ι→wpList c.P b (Kw c.P Q d) l a w
section
variable{f:Cx}{Q:Exit→Act→World→Prop}{n:List aq}{s:AS}
theorem acF(h:VE f Q n .normal s):VE f Q (.c .skip::n) .normal s:=fun a w ι b=>wp_skip (h a w ι b)
theorem X1{x y}(h:VE f Q (.c x :: .c y::n) .normal s):VE f Q (.c (.seq x y)::n) .normal s:=fun a w ι b=>wp_seq (h a w ι b)
theorem ah9{id}{c}(h:VE f Q (.c c :: .b id::n) .normal s):VE f Q (.c (.block id c)::n) .normal s:=fun a w ι b=>wp_block (h a w ι b)
theorem XL{id}(h:VE f Q n .normal s):VE f Q (.b id::n) .normal s:=fun a w ι b=>h a w ι b
theorem adI{id}(h:VE f Q n (.exit id) s):VE f Q (.c (.exit id)::n) .normal s:=fun a w ι b=>wp_exit (h a w ι b)
theorem afy(h:VE f Q n .ret s):VE f Q (.c .ret::n) .normal s:=fun a w ι b=>wp_ret (h a w ι b)
theorem aaA{id}{b}(h:VE f Q n (.exit id) s):VE f Q (.l b::n) (.exit id) s:=fun a w ι c=>h a w ι c
theorem abj{id}(h:VE f Q n .normal s):VE f Q (.b id::n) (.exit id) s:=fun a w ι b=>by
 show Exit.inBlock id _ _ _ _;simp only[Exit.inBlock];exact h a w ι b
theorem abG{id b}(c:¬ id=b)(h:VE f Q n (.exit id) s):VE f Q (.b b::n) (.exit id) s:=fun a w ι d=>by
 show Exit.inBlock b _ _ _ _;simp only[Exit.inBlock,kb c];exact h a w ι d
theorem abg{b}(h:VE f Q n .ret s):VE f Q (.l b::n) .ret s:=fun a w ι c=>h a w ι c
theorem Xf{id}(h:VE f Q n .ret s):VE f Q (.b id::n) .ret s:=fun a w ι b=>h a w ι b
theorem SY{c}{x y}{b}(i:s.ev c=some (.bool b))(k:b=true→VE f Q (.c x::n) .normal s)(j:b=false→VE f Q (.c y::n) .normal s):VE f Q (.c (.cond c x y)::n) .normal s:=fun a w ι e=>by
 have h:=e.ev i;have d:a.eval c=.bool b:=by cases g:a.eval c<;>rw[g]at h<;>cases h;rfl
 cases b
 ·exact wp_cond d (j rfl a w ι e)
 ·exact wp_cond d (k rfl a w ι e)
theorem abp{c}{x y}(a:s.ev c=some (.bool true))(b:VE f Q (.c x::n) .normal s):VE f Q (.c (.cond c x y)::n) .normal s :=by grind[SY]
theorem afj{c}{x y}(a:s.ev c=some (.bool false))(b:VE f Q (.c y::n) .normal s):VE f Q (.c (.cond c x y)::n) .normal s :=by grind[SY]
theorem SA{id}{ops}(h:OT f Q n ops ops.toList s):VE f Q (.c (.region id ops false)::n) .normal s:=fun a w ι b=>wp_region_list (h a w ι b)
theorem TX{b}(h:VE f Q n .normal s):OT f Q n b [] s:=fun a w ι c=>h a w ι c
theorem I9{d}{o}{r}{s'}(i:o.guard=none)(h:cb f.P f.n s o=some s')(k:OT f Q n d r s'):OT f Q n d (o::r) s:=fun a w ι j=>by
 refine aa6 i fun K g=>?_;unfold Oper.wp;obtain⟨ι',_,b⟩:=Q3 j h;obtain⟨x,w',e,c⟩|⟨w',e,c⟩:=b
 ·rw[e];exact g _ _ (k _ _ _ c)
 ·rw[e];exact g _ _ (k _ _ _ c)
theorem aaa{c:Array Oper}{o i}{r}{j d:Nat}{b}(m:o.guard=some (j,b))(p:c[j]?=some i)(l:i.dst=some d)(t:look d s.t=some (.bool b))(k:OT f Q n c ({ o with guard:=none }::r) s):OT f Q n c (o::r) s:=fun a w ι h=>by
 have e:=k a w ι h;obtain⟨x,v,q⟩:=h.tmp d _ t;cases q;have u:Region.wanted o (yielded c a.tmps)=true:=by simp[Region.wanted,m,yielded,p,l,v]
 have g:Region.wanted { o with guard:=none } (yielded c a.tmps)=true:=by rfl
 unfold wpList at e⊢;rw[lc g]at e;rw[lc u];exact e
def Dl(u:eb)(l:h8):h8→Prop
 | []=>True
 | (k,v)::r=>look k l=some v∧v.dg u=true∧Dl u l r
def DS(u:eb)(l:io):io→Prop
 | []=>True
 | (k,v)::r=>look k l=some v∧dW u v=true∧u.contains k=true∧DS u l r
def Cg(u:eb)(l:List (Nat×co)):List (Nat×co)→Prop
 | []=>True
 | (k,v)::r=>look k l=some v∧u.contains k=true∧Cg u l r
def Sub(s' s:AS):Prop:=Dl s'.u s.t s'.t∧DS s'.u s.o s'.o∧Cg s'.u s.r s'.r∧∀id,s.u.contains (da id)=true→s'.u.contains (da id)=true∧s'.u.contains id=true
theorem Lu{u}{l}:∀{m},Dl u l m→∀k v,look k m=some v→look k l=some v∧v.dg u=true
 | [],_,k,v,a=>by cases a
 | (j,x)::r,h,k,v,a=>by
  simp only[look]at a;split at a
  ·rename_i e;subst e;injection a with a;subst a;exact⟨h.1,h.2.1⟩
  ·exact Lu h.2.2 k v a
theorem Jj{u}{l}:∀{m},DS u l m→∀k v,look k m=some v→look k l=some v∧dW u v=true∧u.contains k=true
 | [],_,k,v,a=>by cases a
 | (j,x)::r,h,k,v,a=>by
  simp only[look]at a;split at a
  ·rename_i e;subst e;injection a with a;subst a;exact⟨h.1,h.2.1,h.2.2.1⟩
  ·exact Jj h.2.2.2 k v a
theorem G9{u}{l}:∀{m},Cg u l m→∀k v,look k m=some v→look k l=some v∧u.contains k=true
 | [],_,k,v,a=>by cases a
 | (j,x)::r,h,k,v,a=>by
  simp only[look]at a;split at a
  ·rename_i e;subst e;injection a with a;subst a;exact⟨h.1,h.2.1⟩
  ·exact G9 h.2.2 k v a
def jn(ι:Env)(u:eb):Env:=fun i=>if has u i=true then ι i else none
theorem po{ι}{u}{i}(h:has u i=true):jn ι u i=ι i:=by grind[jn]
theorem ahV{ι}{u}{i}{y}(h:jn ι u i=some y):ι i=some y∧has u i=true:=by
 grind[jn]
theorem Ec{ι}{u}{i g}(h:bz (jn ι u i)=some g):bz (ι i)=some g:=by
 unfold jn at h;split at h
 ·grind
 ·cases h
theorem Rel.jn{N N'}{w}{ι}{v}{x}(h:Rel N w ι v x){u}(e:v.dg u=true)(c:∀b,N' b→N b):Rel N' w (jn ι u) v x :=
 (h.env (ι':=Proofs.YtocgkfoifehcbaaGreat.jn ι u) (fun id a=>po (fk a)) e).mono (by omega) (fun b _ d=>c b d) (fun _ _ _=>rfl) (fun _ _ h=>h)
theorem Jd{M}{ι}{u}:∀b,NN M (jn ι u) b→NN M ι b:=fun b a=>by
 rcases a with a|⟨id,a⟩
 ·exact .inl a
 ·exact .inr ⟨id,Ec a⟩
theorem HS.sub{M:Nat→Prop}{A:aA}{w:World}{ι:Env}{s s':AS}(h:HS M A w ι s)(m:Sub s' s):HS M A w (jn ι s'.u) s':=by
 refine⟨h.below,h.old,fun i y K=>(ahV K).2,fun i g u=>h.own i g (Ec u),fun i L g u z=>h.inj i L g (Ec u) (Ec z),fun i cs l=>fk (Jj m.2.1 i cs l).2.2,fun i a l=>fk (G9 m.2.2.1 i a l).2,fun i cs l f=>?_,fun i ar l f=>?_,fun i y f=>⟨(po (fk (m.2.2.2 i (h.pin i y f).2).2)).trans (h.pin i y f).1,(m.2.2.2 i (h.pin i y f).2).1⟩⟩
 ·obtain⟨t,E,d⟩:=Jj m.2.1 i cs l;have d:=fk d;rw[po d]at f;obtain⟨g,T,vs,p,q,n⟩:=h.objs i cs t f;exact⟨g,T,vs,(po d).trans p,q,n.len,n.one,fun j x v o J=>(n.rel j x v o J).jn (lH E j x o) Jd⟩
 ·obtain⟨t,d⟩:=G9 m.2.2.1 i ar l;have d:=fk d;rw[po d]at f;obtain⟨v,xs,p,q,n,B,C⟩:=h.arrs i ar t f;refine⟨v,xs,(po d).trans p,q,n,B,fun j e G k c H=>?_⟩;obtain⟨x,o,I⟩:=C j e G k c H;exact⟨x,o,I.mono (by omega) (fun b _ F=>Jd b F) (fun _ _ _=>rfl) (fun r D=>(po (P3 _ _ _)).trans D) (fun _ _=>rfl) (fun h=>h)⟩
theorem aU.sub{s'}{a}{w}{ι}(h:aU f s a w ι)(b:Sub s' s):aU f s' a w (jn ι s'.u) :=
 ⟨h.hs.sub b,h.dfr,h.n,fun k v e=>by
  obtain⟨c,d⟩:=Lu b.1 k v e;obtain⟨x,i,g⟩:=h.tmp k v c;exact⟨x,i,g.jn d Jd⟩⟩
theorem OX{e} s'(c:Sub s' s)(h:VE f Q n e s'):VE f Q n e s:=fun a w ι b=>h a w _ (b.sub c)
end
def tB(N:Nat→Prop)(w:World)(a:c6)(xs:Array Value):Prop:=a.length=xs.size∧∀(i:Nat) v y,a[i]?=some v→xs[i]?=some y→Rel N w bG v y
def aX(P:Program)(f:FuncId)(a:c6)(Q:AV→AS→Prop):Prop :=
 ∀M w xs,(∀b,M b→b<w.heap.size)→tB M w a xs →
  Calls P f xs w fun e w'=>∃x v s ι,e=.returned x∧Q v s∧HS M (mi w) w' ι s∧Rel (NN M ι) w' ι v x
theorem aX.mono{P}{f}{a}{Q b}(h:aX P f a Q)(k:∀v s,Q v s→b v s):aX P f a b:=fun M w xs i j =>
 (h M w xs i j).mono fun _ _ ⟨x,v,s,ι,c,d,e,g⟩=>⟨x,v,s,ι,c,k _ _ d,e,g⟩
def idxs(k:Nat):c6→h8
 | []=>[]
 | v::r=>(k,v)::idxs (k+1) r
theorem qW:∀l k i,look i (idxs k l)=if k≤i then l[i-k]? else none
 | [],k,i=>by simp[idxs,look]
 | v::r,k,i=>by
  simp only[idxs,look,qW r (k+1) i]
  grind
def bJ(M:Nat→Prop)(w:aA)(Q:AV→AS→Prop)(e:Ending)(w':World):Prop:=∃x v s ι,e=.returned x∧Q v s∧HS M w w' ι s∧Rel (NN M ι) w' ι v x
theorem acX{P:Program}{f:FuncId}{o:Func}{c:Code}{d:c6}{Q:AV→AS→Prop}(u:P.funcs[f]?=some o)(j:o.body=some c)(n:Nat)(C:o.ntmps=n)(B:d.length≤n)
  (h:∀M s,VE ⟨P,n,M,s⟩ (bodyPost P o (bJ M s Q)) [.c c] .normal ⟨idxs 0 d,[],[],[]⟩):aX P f d Q:=by
 intro M w xs t r;refine alx u j ?_;refine amu (h M (mi w) { tmps:=xs++Array.replicate (o.ntmps-xs.size) undef,defers:=[] } w bG ?_) (fun e a w' x=>?_)
 ·refine⟨⟨⟨rfl,rfl,rfl,ll _,fun _ _ _=>rfl⟩,fun b j=>⟨t b j,fun h=>h⟩,fun i y A=>(by cases A),fun i g p=>(by cases p),fun i D g p=>(by cases p),fun i cs l=>(by cases l),fun i a l=>(by cases l),fun i cs l=>(by cases l),fun i a l=>(by cases l),fun i v z=>(by cases z)⟩,rfl,?_,fun k v q=>?_⟩
  ·have:=r.1;simp;omega
  ·rw[qW,lc (u6 _),akG]at q;have m:k<xs.size:=by rw[←r.1];exact(jf.1 q).1
   refine⟨xs[k],?_,(r.2 k v _ q (la m)).mono (ll _) (fun b _ j=>?_) (fun _ _ _=>rfl) (fun _ _ h=>h)⟩
   ·simp only[];rw[Dk m,la m]
   ·rcases j with j|⟨id,j⟩
    ·exact j
    ·cases j
 ·cases e<;>exact x
def ij(P:Program)(s:AS):List ResultVar→Option c6
 | []=>some []
 | .tmp t::r=>match look t s.t,ij P s r with|some v,some l=>some (v::l)|_,_=>none
 | .cell t T::r=>match look t s.t with
  | some p=>match ny P s T p,ij P s r with|some v,some l=>some (v::l)|_,_=>none
  | none=>none
def pH:c6→AV
 | [v]=>v
 | l=>.tup l
def AQ(tmps:Array Value):ResultVar→Sem Value
 | .tmp t=>pure (tmps.getD t undef)
 | .cell a t=>do loadVar t (← asAddr (tmps.getD a undef))
theorem C6{f:Cx}{s:AS}{a:Act}{w:World}{ι:Env}(c:aU f s a w ι):∀{rs:List ResultVar} {l:c6},ij f.P s rs=some l →
  ∃vs:ee,(rs.mapM (AQ a.tmps)).run f.P w=.ok vs w∧l.length=vs.length∧∀(i:Nat) (v:AV) (y:Value),l[i]?=some v→vs[i]?=some y→Rel (NN f.M ι) w ι v y
 | [],l,h=>by injection h with h;subst h;exact⟨[],by simp,rfl,fun i v y e _=>by simp at e⟩
 | .tmp t::r,l,h=>by
  unfold ij at h;cases g:look t s.t with
  | none=>rw[g]at h;cases h
  | some v =>
   cases j:ij f.P s r with
   | none=>rw[g,j]at h;cases h
   | some l' =>
    rw[g,j]at h;injection h with h;subst h
    obtain⟨vs,o,q,u⟩:=C6 c j;obtain⟨x,C,A⟩:=c.tmp t v g;refine⟨x::vs,?_,by simp[q],fun i v' y e m=>?_⟩
    ·rw[List.mapM_cons];simp[AQ,o,u5,C]
    ·cases i with
     | zero=>simp at e m;subst e;subst m;exact A
     | succ i=>exact u i v' y (by simpa using e) (by simpa using m)
 | .cell t T::r,l,h=>by
  unfold ij at h;cases g:look t s.t with
  | none=>rw[g]at h;cases h
  | some p =>
   simp only[g]at h;cases k:ny f.P s T p with
   | none=>rw[k]at h;cases h
   | some v =>
    cases j:ij f.P s r with
    | none=>rw[k,j]at h;cases h
    | some l' =>
     rw[k,j]at h;injection h with h;subst h
     obtain⟨vs,o,q,u⟩:=C6 c j;obtain⟨x,C,A⟩:=c.tmp t p g;unfold ny at k;split at k
     ·rename_i cs F;obtain⟨b,G,H,D,d⟩:=U8 c A F;obtain⟨z,n,B⟩:=Qg k d;refine⟨z::vs,?_,by simp[q],fun i v' y e m=>?_⟩
      ·rw[List.mapM_cons];have E:(loadVar T ⟨b,G,none⟩).run f.P w=.ok z w:=by simpa[Instr.loadAt,Instr.sureAddr]using n
       simp[AQ,o,u5,C,D,asAddr,E]
      ·cases i with
       | zero=>simp at e m;subst e;subst m;exact B
       | succ i=>exact u i v' y (by simpa using e) (by simpa using m)
     ·cases k
def YD:ee→Value
 | [v]=>v
 | l=>.tuple l.toArray
theorem adt a tmps:results a tmps=(do let vs ← a.results.mapM (AQ tmps);pure (if h:vs.size=1 then vs[0] else .tuple vs)):=by
 rfl
theorem Li{P}{w}{a}{tmps}{vs}(h:(a.results.toList.mapM (AQ tmps)).run P w=.ok vs w):
  (results a tmps).run P w=.ok (YD vs) w:=by
 rw[adt,Array.mapM_eq_mapM_toList];simp only[sj,Sem.run_map,h];congr 1
 match vs with
 | []=>rfl
 | [v]=>rfl
 | v::u::r=>rfl
theorem rg{d}{g}{s}{Q}{l}{rs}(f:g.results=rs)(h:ij d.P s rs.toList=some l)(k:Q (pH l) s):VE d (bodyPost d.P g (bJ d.M d.w0 Q)) [] .ret s:=fun a w ι b=>by
 obtain⟨vs,j,e,c⟩:=C6 b h;refine⟨b.dfr,_,Li (by rw[f];exact j),_,pH l,s,ι,rfl,k,b.hs,?_⟩
 match l,vs,e,c with
 | [],[],_,c=>exact .tup _ _ _ rfl (fun i x v m _=>by grind)
 | [v],[y],_,c=>exact c 0 v y rfl rfl
 | v::u::r,y::z::q,e,c=>exact .tup _ _ _ e c
def cF (P:Program) (f:FuncId):Bool:=match P.funcs[f]? with | some a=>!(a.name == "runtime.NumGoroutine") && !a.body.isNone | none=>false
theorem Jy{P}{w}{f}(h:cF P f=true) xs:(callFunc f xs).run P w=.ok (.enter f xs) w:=by
 unfold cF at h;cases a:P.funcs[f]? with
 | none=>grind
 | some b =>
  simp only[a]at h;unfold callFunc;simp only[sj,run_program,u3,a];rw[kb (by grind),kb (by grind)];rfl
def gF:AV→AV
 | .agg cs=>.agg (cs.map jg)
 | v=>jg v
theorem zh{N}{w}{ι}{v}{x}(h:Rel N w ι v x):Rel N w ι (gF v) x:=by
 cases h with
 | agg _ cs vs b a d =>
  have c:=(Cells.mk b a d).pz;exact .agg _ _ _ c.len c.one c.rel
 | nils _=>exact .sl0 _ _ _
 | _=>simp only[gF];constructor<;>assumption
theorem WV{f:Cx}{s:AS}{a:Act}{w:World}{ι:Env}(h:aU f s a w ι){xs:Array Operand}{l:c6}(k:dk s xs.toList=some l)(m:dW [] l=true):tB (NN f.M ι) w (l.map gF) (xs.map a.eval):=by
 obtain⟨g,j⟩:=ln h k;refine⟨by simp at g;simp[g],fun i v y b n=>?_⟩;rw[AT]at b;cases e:l[i]? with
 | none=>rw[e]at b;cases b
 | some c =>
  rw[e]at b;injection b with b;subst b
  have d:(xs.toList.map a.eval)[i]?=some y:=by rw[←aj6];simpa using n
  exact zh ((j i c y e d).pure (lH m i c e) bG)
theorem HS.mz{M:Nat→Prop}{t:aA}{w w':World}{ι:Env}{s:AS}(h:HS M t w ι s)(a:Below w.heap.size w w'):HS M t w' ι s:=by
 have q:∀b,b<w.heap.size→¬ NN M ι b→w'.heap[b]?=w.heap[b]?:=fun b n _=>a.block b n;refine⟨h.below.trans (.of a h.below.size),h.old,h.use,fun i g c=>⟨(h.own i g c).1,by have:=(h.own i g c).2;have:=a.size;omega⟩,h.inj,h.ko,h.kr,fun i cs l o=>?_,fun i ar l o=>?_,h.pin⟩
 ·obtain⟨g,T,vs,d,f,k⟩:=h.objs i cs l o;exact⟨g,T,vs,d,(a.block g (h.own i g (by rw[d];rfl)).2).trans f,k.mono a.size (fun b _ a=>a) q (fun _ _ h=>h)⟩
 ·obtain⟨v',xs,d,f,k,v,x⟩:=h.arrs i ar l o;refine⟨v',xs,d,fR f (fun g c=>a.block g (h.own i g (by grind)).2),k,v,fun j e A C u m=>?_⟩;obtain⟨y,B,p⟩:=x j e A C u m;exact⟨y,B,p.mono a.size (fun b _ a=>a) q (fun _ h=>h) (fun r z=>a.block r (h.j9 z)) (fun h=>h)⟩
theorem aU.mz{e}{s}{a}{w w'}{ι}(h:aU e s a w ι)(c:Below w.heap.size w w'):aU e s a w' ι :=
 h.world (h.hs.mz c) rfl c.size (fun b _ c=>c) (fun b d _=>c.block b d) (fun _ _ h=>h)
theorem kx{e:Cx}{s:AS}{a:Act}{w:World}{ι:Env}(p:aU e s a w ι){o:Oper}{c:Call}{h:Operand}{f:FuncId}{aO:c6}(n:o.op=.call c)(b:c.callee=.value h)(l:s.ev h=some (.fn f aO))(k:cF e.P f=true):
  ∃d:ee,(execOp a.eval o).run e.P w=.ok (.enter f (c.args.map a.eval++d.toArray)) w∧aO.length=d.length∧∀(i:Nat) (c:AV) (y:Value),aO[i]?=some c→d[i]?=some y→Rel (NN e.M ι) w bG c y:=by
 have g:=p.ev l;generalize j:a.eval h=X at g;cases g with
 | fn _ _ _ d m g =>
  refine⟨d,?_,m,g⟩;unfold execOp;simp only[n,resolve,b,j,Deferred.ofValue,IT,u3,invoke]
  grind[Jy]
theorem Aj{b:Cx}{s:AS}{a:Act}{w:World}{ι:Env}(h:aU b s a w ι){xs:Array Operand}{l:c6}(m:dk s xs.toList=some l)(n:dW [] l=true){aO:c6}{e:ee}(o:aO.length=e.length)
  (p:∀(i:Nat) (c:AV) (y:Value),aO[i]?=some c→e[i]?=some y→Rel (NN b.M ι) w bG c y):tB (NN b.M ι) w (l.map gF++aO) (xs.map a.eval++e.toArray):=by
 have f:=WV h m n;have d:=f.1;refine⟨by simp at d⊢;omega,fun i v y g j=>?_⟩;by_cases k:i<(l.map gF).length
 ·rw[z3 k]at g;rw[Dk (by grind)]at j;exact f.2 i v y g j
 grind
theorem Yd{d}{Q}{C}{s}{i}{o}{r}{c}{B}{f}{aO l}{A}
  (F:aX d.P f (l.map gF++aO) A)
  (I:o.guard=none) (M:o.op=.call c) (j:c.callee=.value B) (H:s.ev B=some (.fn f aO)) (t:cF d.P f=true) (G:cJ d.n o.dst=true) (L:dk s c.args.toList=some l) (N:dW [] l=true)
  (k:∀v z,A v z→v.dg []=true∧OT d Q C i r (s.put o.dst v)):OT d Q C i (o::r) s:=fun a w ι m=>by
 refine aa6 I fun K E=>?_;unfold Oper.wp;obtain⟨R,y,p,q⟩:=kx m M j H t;rw[y,aeq];refine (F (NN d.M ι) w _ (fun b n=>lW m.hs n) (Aj m L N p q)).mono ?_
 rintro e w' ⟨x,v,z,S,rfl,O,u,P⟩
 obtain⟨g,J⟩:=k v z O;have D:Rel (NN d.M ι) w' ι v x:=(P.pure g ι).mono (by omega) (fun b _ n=>.inl n) (fun _ _ _=>rfl) (fun _ _ h=>h);exact E _ _ (J _ _ _ ((m.mz u.below.plain).put (fU G) D))
theorem aa5{d}{Q}{h}{s}{b}{o}{r}{c}{e}{f}{aO l a}{V}
  (m:aX d.P f a (fun v _=>v=V))
  (q:o.guard=none) (u:o.op=.call c) (g:c.callee=.value e) (p:s.ev e=some (.fn f aO)) (i:cF d.P f=true) (n:cJ d.n o.dst=true) (t:dk s c.args.toList=some l) (j:l.map gF++aO=a) (w:dW [] l=true)
  (x:V.dg []=true) (k:OT d Q h b r (s.put o.dst V)):OT d Q h b (o::r) s :=by grind[Yd]
end Go.Proofs.YtocgkfoifehcbaaGreat
