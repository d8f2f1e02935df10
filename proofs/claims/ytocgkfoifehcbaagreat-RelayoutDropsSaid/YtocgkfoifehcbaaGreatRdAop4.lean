/- All operations on abstract values in one function, and its soundness; a list of operations. No program in sight. -/
import Derived.Test.YtocgkfoifehcbaaGreatRdAcp
namespace Go.Proofs.YtocgkfoifehcbaaGreat
set_option linter.all false
open Go.RowKit
def Db:=@List.map_nil
def ak3:=@Array.toList_inj
def alt:=@Nat.ble_eq_true_of_le
def amt:=@List.map_toArray
def cK(n:Nat):Option Tmp→Bool
 | none=>true
 | some k=>decide (k<n)
theorem fX{n}{d}(h:cK n d=true):∀k,d=some k→k<n:=fun k a=>by grind[cK]
def qo(s:AS)(d:Nat)(cs:c6):Option AS:=if (has s.u d||Nat.ble 450000 d)=true then none else some { t:=bd d (.ptr d 0) s.t,o:=bd d cs s.o,r:=s.r,u:=d::s.u }
theorem Px{e:Cx}{s s':AS}{a:Act}{w:World}{ι:Env}(c:aV e s a w ι){d:Nat}(v:d<e.n){cs:c6}(h:qo s d cs=some s'){vs:eg}(p:Cells (NN e.M ι) w ι cs vs)(T:TypeId):
  ∃ι',aV e s' (a.put (some d) (.pointer (some ⟨w.heap.size,0,none⟩))) (w.alloc (.cells vs.toArray T)) ι'∧(∀i,i≠d→ι i=none→ι' i=none):=by
 unfold qo at h;split at h
 ·cases h
 ·rename_i t;injection h with h;subst h
  have l:=Bool.or_eq_false_iff.1 (Bool.eq_false_iff.2 t:(has s.u d||Nat.ble 450000 d)=false);have g:has s.u d=false:=l.1;have r:=c.hs.alloc (d:=d) g (T:=T) (fun h=>by have:=alt h;grind) p;have q:=c.hs.free g;have n:aV e { s with o:=bd d cs s.o,u:=d::s.u } a (w.alloc (.cells vs.toArray T)) (ext ι d (.pointer (some ⟨w.heap.size,0,none⟩))):=by
   refine c.world r rfl (by simp) (fun b m f=>?_) (fun b m _=>u7 _ _ _ m) (fd q _);rcases gk f with f|f
   ·grind
   ·injection f with f;grind
  exact⟨_,n.put (d:=some d) (fun k x=>by grind) (.ptr _ _ _ _ (cJ _ _ _)),fun i hi j=>(bS _ _ hi).trans j⟩
def zF(P:Program)(s:AS)(T:TypeId)(v:AV):Option AV :=
 match gA P T with
 | some _=>match v with
  | .nils=>some (.int .i64 0)
  | .sl l=>some (.int .i64 l.length)
  | .ref id=>match look id s.r with|some a=>some (.int .i64 a.l.length)|none=>none
  | .sref _ _ _ m=>some (.int .i64 m)
  | _=>none
 | none=>match ph P T with
  | some (n,_)=>some (.int .i64 n)
  | none=>if NT P T=true then (match v with|.str b=>some (.int .i64 b.size)|_=>none) else none
theorem aiu{j:Cx}{s:AS}{a:Act}{w:World}{ι:Env}(q:aV j s a w ι){T:TypeId}{v r:AV}(h:zF j.P s T v=some r){x:Value}(t:Rel (NN j.M ι) w ι v x)(ty:TypeId):
  ∃y,(Builtin.len_ #[T] ty #[x]).run j.P w=.ok y w∧Rel (NN j.M ι) w ι r y:=by
 unfold zF at h;split at h
 ·rename_i e i;unfold gA at i;split at i
  ·rename_i K f;split at h
   ·injection h with h;subst h
    cases t;exact⟨_,by simp[Builtin.len_,ob f,goInt],.int _ _ _⟩
   ·rename_i l;injection h with h;subst h
    cases t with
    | sl0 A c=>exact⟨_,by simp[Builtin.len_,ob f,goInt],.int _ _ _⟩
    | sl _ _ b o c sz I D R p m S V _=>exact⟨_,by simp[Builtin.len_,ob f,goInt],.int _ _ _⟩
   ·rename_i id;split at h
    ·rename_i ar u;injection h with h;subst h
     cases t with
     | ref _ _ A n c E =>
      obtain⟨v,xs,m,H,N,O,P⟩:=q.hs.arrs id ar u (by rw[E];rfl);rw[E]at m;injection m with m;subst m
      have p:n=ar.l.length:=by
       obtain⟨C,M⟩|⟨L,F,G,C,_⟩:=H.2
       ·injection C with _ p _;omega
       ·injection C
      subst p;exact⟨_,by simp[Builtin.len_,ob f,goInt],.int _ _ _⟩
    ·cases h
   ·injection h with h;subst h
    cases t with
    | sref _ _ _ _ _ n c J A B E Q=>exact⟨_,by simp[Builtin.len_,ob f,goInt],.int _ _ _⟩
   ·cases h
  ·cases i
 ·split at h
  ·rename_i n k d;injection h with h;subst h
   unfold ph at d;split at d
   ·rename_i W e f;cases D:cr j.P e with
    | none=>rw[D]at d;cases d
    | some z =>
     rw[D]at d;injection d with d;injection d with p U;subst p
     exact⟨_,by simp[Builtin.len_,ob f,goInt],.int _ _ _⟩
   ·cases d
  ·split at h
   ·rename_i g;split at h
    ·injection h with h;subst h
     cases t;unfold NT at g;split at g
     ·rename_i f;exact⟨_,by simp[Builtin.len_,ob f,goInt],.int _ _ _⟩
     ·cases g
    ·cases h
   grind
def Gp:c6→Option AV
 | [.int k x,.int a y]=>if k=a then some (.int k (max x y)) else none
 | _=>none
def J7:c6→Option AV
 | [.int k x,.int a y]=>if k=a then some (.int k (min x y)) else none
 | _=>none
def dj(s:AS):List Operand→Option c6
 | []=>some []
 | x::r=>match s.ev x,dj s r with|some v,some l=>some (v::l)|_,_=>none
def ot(P:Program)(s:AS)(b:Builtin)(xs:List Operand)(a:List TypeId):Option AV :=
 match b with
 | .len=>match xs,a with
  | [x],[T]=>match s.ev x with|some v=>zF P s T v|none=>none
  | _,_=>none
 | .max=>match dj s xs with|some l=>Gp l|none=>none
 | .min=>match dj s xs with|some l=>J7 l|none=>none
 | _=>none
theorem lr{f:Cx}{s:AS}{a:Act}{w:World}{ι:Env}(h:aV f s a w ι):∀{xs:List Operand} {l:c6},dj s xs=some l→l.length=xs.length ∧
  ∀(i:Nat) (v:AV) (y:Value),l[i]?=some v→(xs.map a.eval)[i]?=some y→Rel (NN f.M ι) w ι v y
 | [],l,e=>by injection e with e;subst e;exact⟨rfl,fun i p q c _=>by simp at c⟩
 | x::r,l,e=>by
  unfold dj at e;cases b:s.ev x with
  | none=>rw[b]at e;cases e
  | some v =>
   cases d:dj s r with
   | none=>rw[b,d]at e;cases e
   | some l' =>
    rw[b,d]at e;injection e with e;subst e
    obtain⟨j,m⟩:=lr h d;refine⟨by simp[j],fun k p q c g=>?_⟩;cases k with
    | zero=>simp at c g;subst c;subst g;exact h.ev b
    | succ k=>grind
theorem WD{u:Cx}{s:AS}{a:Act}{w:World}{ι:Env}(e:aV u s a w ι){b:Builtin}{c:Array Operand}{z:Array TypeId}{r:AV}(h:ot u.P s b c.toList z.toList=some r)(ty:TypeId)(j:Array Bool):
  ∃y,(builtin b z ty j (c.map a.eval)).run u.P w=.ok (.value y) w∧Rel (NN u.M ι) w ι r y:=by
 have t:∀{f:c6→Option AV} {mx:Int→Int→Int},(f=Gp∧mx=max∨f=J7∧mx=min)→∀{l:c6},dj s c.toList=some l→f l=some r→∃k x y,c.map a.eval = #[.int k x,.int k y]∧r=.int k (mx x y):=by
  intro f mx J l n d;obtain⟨I,A⟩:=lr e n;have F:∃k x y,l=[.int k x,.int k y]∧r=.int k (mx x y):=by
   obtain⟨rfl,rfl⟩|⟨rfl,rfl⟩:=J
   ·unfold Gp at d;split at d
    ·split at d
     ·rename_i k x L y D;subst D;injection d with d;exact⟨_,_,_,rfl,d.symm⟩
     ·cases d
    ·cases d
   ·unfold J7 at d;split at d
    ·split at d
     ·rename_i k x L y D;subst D;injection d with d;exact⟨_,_,_,rfl,d.symm⟩
     ·cases d
    ·cases d
  obtain⟨k,x,y,rfl,E⟩:=F;refine⟨k,x,y,?_,E⟩;apply ak3.1;rw[akW]
  match i:c.toList,I with
  | [p,q],_ =>
   rw[i]at A;have G:=A 0 _ (a.eval p) rfl rfl;have H:=A 1 _ (a.eval q) rfl rfl;simp only[rl,Db];cases g:a.eval p<;>rw[g]at G<;>cases G;cases B:a.eval q<;>rw[B]at H<;>cases H;rfl
 unfold ot at h;split at h
 ·split at h
  ·rename_i x T i C;have o:c = #[x]:=ak3.1 (by simpa using i);have m:z = #[T]:=ak3.1 (by simpa using C);subst o;subst m;split at h
   ·rename_i v K;obtain⟨y,g,B⟩:=aiu e h (e.ev K) ty;exact⟨y,by simp[builtin,g],B⟩
   ·cases h
  ·cases h
 ·split at h
  ·rename_i l n;obtain⟨k,x,y,g,rfl⟩:=t (.inl ⟨rfl,rfl⟩) n h;refine⟨.int k (max x y),?_,.int _ _ _⟩;rw[g];have:(if y>x then y else x)=max x y:=by omega
   simp[builtin,Builtin.max_,Builtin.max2,this]
  ·cases h
 ·split at h
  ·rename_i l n;obtain⟨k,x,y,g,rfl⟩:=t (.inr ⟨rfl,rfl⟩) n h;refine⟨.int k (min x y),?_,.int _ _ _⟩;rw[g];have:(if y<x then y else x)=min x y:=by omega
   simp[builtin,Builtin.min_,Builtin.min2,this]
  ·cases h
 grind
def Qx(i:Nat):AV→Option AV
 | .tup vs=>vs[i]?
 | _=>none
def mz(P:Program)(s:AS)(T:TypeId)(p:AV):Option AV:=match s.mem p with|some cs=>iV P T cs|none=>none
def U6(P:Program)(T:TypeId)(f:Nat)(p:AV):Option AV:=match HL P T f with|some k=>yJ k p|none=>none
def tw(P:Program)(s:AS)(T:TypeId)(x:AV):AV→Option AV
 | .int _ i=>yj P s T x i
 | _=>none
def cc(P:Program)(n:Nat)(s:AS)(o:Oper):Option AS :=
 if cK n o.dst=true then
  match o.op with
  | .move x|.assign x=>match s.ev x with|some v=>some (s.put o.dst v)|none=>none
  | .pick c x y=>match s.ev c with
   | some (.bool b)=>match Qn b (s.ev x) (s.ev y) with|some v=>some (s.put o.dst v)|none=>none
   | _=>none
  | .alloc T=>match o.dst,ey P T with|some d,some cs=>qo s d cs|_,_=>none
  | .box _ x=>match o.dst,s.ev x with
   | some d,some v=>match jR v with|some cs=>qo s d cs|none=>none
   | _,_=>none
  | .load T x=>match s.ev x with
   | some p=>match mz P s T p with|some v=>some (s.put o.dst v)|none=>none
   | none=>none
  | .store T x y=>match o.dst,s.ev x,s.ev y with|none,some p,some v=>rQ P s T p v|_,_,_=>none
  | .fieldAddr T x f=>match s.ev x with
   | some p=>match U6 P T f p with|some v=>some (s.put o.dst v)|none=>none
   | none=>none
  | .indexAddr T x i=>match s.ev x,s.ev i with
   | some p,some j=>match tw P s T p j with|some v=>some (s.put o.dst v)|none=>none
   | _,_=>none
  | .build T parts=>match sA P s T parts.toList with|some v=>some (s.put o.dst v)|none=>none
  | .buildSlice T a parts=>match oE P s T a parts.toList with|some v=>some (s.put o.dst v)|none=>none
  | .makeSlice T x y=>match tA P s T x y with|some v=>some (s.put o.dst v)|none=>none
  | .extract x i=>match s.ev x with
   | some p=>match Qx i p with|some v=>some (s.put o.dst v)|none=>none
   | none=>none
  | .binOp op _ x y _=>match s.ev x,s.ev y with
   | some u,some v=>match Ai op u v with
    | some r=>some (s.put o.dst r)
    | none=>match lG P s o with|some r=>some (s.put o.dst r)|none=>none
   | _,_=>none
  | .unOp op _ x=>match s.ev x with
   | some u=>match E3 op u with|some r=>some (s.put o.dst r)|none=>none
   | none=>none
  | .call c=>match c.callee with
   | .builtin .append=>match c.args.toList,c.argTypes.toList,o.dst with
    | [x,y],[T,T'],some d=>if T=T' then match s.ev x,s.ev y with
     | some v,some u=>zK P s d T v u
     | _,_=>none else none
    | _,_,_=>none
   | .builtin .copy=>match c.args.toList,c.argTypes.toList with
    | [x,y],[T,_]=>match s.ev x,s.ev y with
     | some u,some v=>match sk P s T u v with
      | some q=>some (q.1.put o.dst q.2)
      | none=>none
     | _,_=>none
    | _,_=>none
   | .builtin b=>match ot P s b c.args.toList c.argTypes.toList with|some r=>some (s.put o.dst r)|none=>none
   | _=>none
  | _=>match lG P s o with|some r=>some (s.put o.dst r)|none=>none
 else none
theorem Qk{E:Cx}{s s':AS}{a:Act}{w:World}{ι:Env}(g:aV E s a w ι){o:Oper}(h:cc E.P E.n s o=some s'):Good E ι s' a o ((execOp a.eval o).run E.P w):=by
 unfold cc at h;split at h
 case isFalse=>cases h
 rename_i Y;have X:=fX Y;have A:∀{v:AV} {x:Value} {w':World} {r:Result Next},r=.ok (.value x) w'→aV E s a w' ι→Rel (NN E.M ι) w' ι v x→Good E ι (s.put o.dst v) a o r:=fun D N m=>⟨ι,fun _ _ h=>h,.inl ⟨_,_,D,N.put X m⟩⟩;unfold execOp;cases n:o.op with
 | move x =>
  simp only[n]at h⊢;split at h
  ·rename_i v m;injection h with h;subst h;exact A rfl g (g.ev m)
  ·cases h
 | assign x =>
  simp only[n]at h⊢;split at h
  ·rename_i v m;injection h with h;subst h;exact A rfl g (g.ev m)
  ·cases h
 | pick c x y =>
  simp only[n]at h⊢;split at h
  ·rename_i b M;split at h
   ·rename_i v m;injection h with h;subst h
    have V:=g.ev M;cases W:a.eval c<;>rw[W]at V<;>cases V;have key:Rel (NN E.M ι) w ι v (if b=true then a.eval x else a.eval y):=by
     unfold Qn at m;split at m
     ·rename_i p q H hq;injection m with m;subst m
      have U:=g.ev H;have h2:=g.ev hq;cases b
      ·simpa using h2
      ·simpa using U
     ·cases b
      ·simp only[jf,pt]at m⊢;exact g.ev m
      ·simp only[AT]at m⊢;exact g.ev m
    refine A (x:=if b=true then a.eval x else a.eval y) ?_ g key;simp[asBool]
   ·cases h
  ·cases h
 | alloc T =>
  simp only[n]at h⊢;split at h
  ·rename_i d cs B hz;unfold ey at hz;cases K:E.P.info? T with
   | none=>simp[K]at hz
   | some it =>
    cases S:it.zero with
    | none=>simp[K,S]at hz
    | some zv =>
     simp only[K,iN,S]at hz;obtain⟨ι',U,G⟩:=Px g (X d B) h (lj (NN E.M ι) w ι hz) T;refine⟨ι',fun i hi=>G i (fun e=>hi (by rw[e,B])),.inl ⟨.pointer (some ⟨w.heap.size,0,none⟩),w.alloc (.cells zv.cells T),?_,?_⟩⟩
     ·simp[Instr.alloc,zeroValue,typeInfo,K,S,newVar,newRow]
     ·rw[B];simpa using U
  ·cases h
 | box T x =>
  simp only[n]at h⊢;split at h
  ·rename_i d v B m;split at h
   ·rename_i cs d0;obtain⟨ι',U,G⟩:=Px g (X d B) h (AJ d0 (g.ev m)) T;refine⟨ι',fun i hi=>G i (fun e=>hi (by rw[e,B])),.inl ⟨.pointer (some ⟨w.heap.size,0,none⟩),w.alloc (.cells (a.eval x).cells T),?_,?_⟩⟩
    ·simp[Instr.box,newVar,newRow]
    ·rw[B];simpa using U
   ·cases h
  ·cases h
 | load T x =>
  simp only[n]at h⊢;split at h
  ·rename_i p H;split at h
   ·rename_i v m;injection h with h;subst h
    unfold mz at m;split at m
    ·rename_i cs hm;obtain⟨b,o',vl,hx,J⟩:=Va g (g.ev H) hm;obtain⟨x,l,D⟩:=Lq m J;refine A ?_ g D;rw[hx];simp[l]
    ·cases m
   ·cases h
  ·cases h
 | store T x y =>
  simp only[n]at h⊢;split at h
  ·rename_i p v B H m;obtain⟨w',l,N⟩:=afu g h (g.ev H) (g.ev m);refine⟨ι,fun _ _ h=>h,.inr ⟨w',by simp[l],?_⟩⟩;rw[B];exact N
  ·cases h
 | fieldAddr T x f =>
  simp only[n]at h⊢;split at h
  ·rename_i p H;split at h
   ·rename_i v m;injection h with h;subst h
    unfold U6 at m;split at m
    ·rename_i k hk;obtain⟨z,l,D⟩:=abf hk m (g.ev H);exact A (by simp[l]) g D
    ·cases m
   ·cases h
  ·cases h
 | indexAddr T x y =>
  simp only[n]at h⊢;split at h
  ·rename_i p j H hj;split at h
   ·rename_i v m;injection h with h;subst h
    unfold tw at m;split at m
    ·rename_i k i;have Z:=g.ev hj;cases W:a.eval y<;>rw[W]at Z<;>cases Z;obtain⟨z,l,D⟩:=ae8 g (k:=k) m (g.ev H);exact A (by simp[l]) g D
    ·cases m
   ·cases h
  ·cases h
 | build T parts =>
  simp only[n]at h⊢;split at h
  ·rename_i v m;injection h with h;subst h
   obtain⟨x,l,D⟩:=ah5 g m;exact A (by simp only[sj,l];rfl) g D
  ·cases h
 | buildSlice T e0 parts =>
  simp only[n]at h⊢;split at h
  ·rename_i v m;injection h with h;subst h
   obtain⟨x,w',l,N,D⟩:=X5 g m;exact A (by simp only[sj,l];rfl) N D
  ·cases h
 | makeSlice T x y =>
  simp only[n]at h⊢;split at h
  ·rename_i v m;injection h with h;subst h
   obtain⟨x,w',l,N,D⟩:=ahx g m;exact A (by simp only[sj,l];rfl) N D
  ·cases h
 | extract x i =>
  simp only[n]at h⊢;split at h
  ·rename_i p H;split at h
   ·rename_i v m;injection h with h;subst h
    unfold Qx at m;split at m
    ·rename_i vs;have b0:=g.ev H;cases W:a.eval x<;>rw[W]at b0<;>cases b0;rename_i ws hl D;have a0:i<ws.length:=by rw[←hl];exact(jt.1 m).1
     refine A (x:=ws[i]) ?_ g (D i v _ m (j3 a0));simp[Instr.extract,j3 a0]
    ·cases m
   ·cases h
  ·cases h
 | binOp op T x y Ty =>
  simp only[n]at h⊢;split at h
  ·rename_i u v Q m;split at h
   ·rename_i r D;injection h with h;subst h
    obtain⟨z,l,t⟩:=Xc D (g.ev Q) (g.ev m) T x y;refine A ?_ g t;simp only[sj]at l⊢;rw[l];rfl
   ·split at h
    ·rename_i r D;injection h with h;subst h
     obtain⟨z,l,t⟩:=Ul g D;unfold execOp at l;simp only[n]at l;exact A l g t
    ·cases h
  ·cases h
 | unOp op T x =>
  simp only[n]at h⊢;split at h
  ·rename_i u Q;split at h
   ·rename_i r D;injection h with h;subst h
    obtain⟨z,l,t⟩:=Yy (P:=E.P) D (g.ev Q);exact A (by simp[l]) g t
   ·cases h
  ·cases h
 | call c =>
  simp only[n]at h⊢;split at h
  ·rename_i M;split at h
   ·rename_i x y T T' d R L B;split at h
    ·rename_i c0;subst c0;split at h
     ·rename_i v u m Q;have I:c.args = #[x,y]:=ak3.1 (by simpa using R);have F:c.argTypes = #[T,T]:=ak3.1 (by simpa using L);obtain⟨z,w',ι',l,O,G⟩:=aaF (ty:=o.type) g (X d B) h (g.ev m) (g.ev Q);refine⟨ι',fun i hi=>G i (fun e=>hi (by rw[e,B])),.inl ⟨z,w',?_,by rw[B];exact O⟩⟩;simp only[sj,resolve,M,Qf,u5,invoke,builtin,I,F,amt,rl,Db,l]
     ·cases h
    ·cases h
   ·cases h
  ·rename_i M;split at h
   ·rename_i x y T T' R L;split at h
    ·rename_i u v Q m;split at h
     ·rename_i q hq;injection h with h;subst h
      have I:c.args = #[x,y]:=ak3.1 (by simpa using R);have F:c.argTypes = #[T,T']:=ak3.1 (by simpa using L);obtain⟨z,w',l,O,t⟩:=Z7 (T':=T') (ty:=o.type) g (s':=q.1) (r:=q.2) hq (g.ev Q) (g.ev m);refine⟨ι,fun _ _ h=>h,.inl ⟨z,w',?_,O.put X t⟩⟩;simp only[sj,resolve,M,Qf,u5,invoke,builtin,I,F,amt,rl,Db,l]
     ·cases h
    ·cases h
   ·cases h
  ·rename_i b _ _ M;split at h
   ·rename_i r D;injection h with h;subst h
    simp only[sj,resolve,M,Qf,u5,invoke];generalize (Array.map _ c.args:Array Bool)=C;obtain⟨y,l,t⟩:=WD g D o.type C;exact A l g t
   ·cases h
  ·cases h
 | _ =>
  simp only[n]at h⊢;split at h
  ·rename_i r D;injection h with h;subst h
   obtain⟨z,l,t⟩:=Ul g D;unfold execOp at l;simp only[n]at l;exact A l g t
  ·cases h
end Go.Proofs.YtocgkfoifehcbaaGreat
