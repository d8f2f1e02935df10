/- All operations on abstract values in one function, and its soundness; a list of operations. No program in sight. -/
import Derived.Test.YtocgkfoifehcbaaGreatRkAcp
namespace Go.Proofs.YtocgkfoifehcbaaGreat
set_option linter.all false
open Go.RowKit
def yk:=@List.map_nil
def akv:=@Array.toList_inj
def alg:=@Nat.ble_eq_true_of_le
def alX:=@List.map_toArray
def cJ(n:Nat):Option Tmp→Bool
 | none=>true
 | some k=>decide (k<n)
theorem fU{n}{d}(h:cJ n d=true):∀k,d=some k→k<n:=fun k a=>by grind[cJ]
def rK(s:AS)(d:Nat)(cs:c6):Option AS:=if (has s.u d||Nat.ble 450000 d)=true then none else some { t:=bm d (.ptr d 0) s.t,o:=bm d cs s.o,r:=s.r,u:=d::s.u }
theorem UW{e:Cx}{s s':AS}{a:Act}{w:World}{ι:Env}(c:aU e s a w ι){d:Nat}(x:d<e.n){cs:c6}(h:rK s d cs=some s'){vs:ee}(p:Cells (NN e.M ι) w ι cs vs)(T:TypeId):
  ∃ι',aU e s' (a.put (some d) (.pointer (some ⟨w.heap.size,0,none⟩))) (w.alloc (.cells vs.toArray T)) ι'∧(∀i,i≠d→ι i=none→ι' i=none):=by
 unfold rK at h;split at h
 ·cases h
 ·rename_i v;injection h with h;subst h
  have l:=Bool.or_eq_false_iff.1 (Bool.eq_false_iff.2 v:(has s.u d||Nat.ble 450000 d)=false);have g:has s.u d=false:=l.1;have t:=c.hs.alloc (d:=d) g (T:=T) (fun h=>by have:=alg h;grind) p;have r:=c.hs.free g;have n:aU e { s with o:=bm d cs s.o,u:=d::s.u } a (w.alloc (.cells vs.toArray T)) (ext ι d (.pointer (some ⟨w.heap.size,0,none⟩))):=by
   refine c.world t rfl (by simp) (fun b m f=>?_) (fun b m _=>u4 _ _ _ m) (ff r _);rcases gg f with f|f
   ·grind
   ·injection f with f;grind
  exact⟨_,n.put (d:=some d) (fun k y=>by grind) (.ptr _ _ _ _ (cI _ _ _)),fun i q j=>(bS _ _ q).trans j⟩
def yO(P:Program)(s:AS)(T:TypeId)(v:AV):Option AV :=
 match gu P T with
 | some _=>match v with
  | .nils=>some (.int .i64 0)
  | .sl l=>some (.int .i64 l.length)
  | .ref id=>match look id s.r with|some a=>some (.int .i64 a.l.length)|none=>none
  | .sref _ _ _ m=>some (.int .i64 m)
  | _=>none
 | none=>match nK P T with
  | some (n,_)=>some (.int .i64 n)
  | none=>if N8 P T=true then (match v with|.str b=>some (.int .i64 b.size)|_=>none) else none
theorem adT{j:Cx}{s:AS}{a:Act}{w:World}{ι:Env}(q:aU j s a w ι){T:TypeId}{v r:AV}(h:yO j.P s T v=some r){x:Value}(t:Rel (NN j.M ι) w ι v x)(ty:TypeId):
  ∃y,(Builtin.len_ #[T] ty #[x]).run j.P w=.ok y w∧Rel (NN j.M ι) w ι r y:=by
 unfold yO at h;split at h
 ·rename_i e i;unfold gu at i;split at i
  ·rename_i K f;split at h
   ·injection h with h;subst h
    cases t;exact⟨_,by simp[Builtin.len_,pt f,goInt],.int _ _ _⟩
   ·rename_i l;injection h with h;subst h
    cases t with
    | sl0 A c=>exact⟨_,by simp[Builtin.len_,pt f,goInt],.int _ _ _⟩
    | sl _ _ b o c sz I D R p m S V _=>exact⟨_,by simp[Builtin.len_,pt f,goInt],.int _ _ _⟩
   ·rename_i id;split at h
    ·rename_i ar u;injection h with h;subst h
     cases t with
     | ref _ _ A n c E =>
      obtain⟨v,xs,m,H,N,O,P⟩:=q.hs.arrs id ar u (by rw[E];rfl);rw[E]at m;injection m with m;subst m
      have p:n=ar.l.length:=by
       obtain⟨C,M⟩|⟨L,F,G,C,_⟩:=H.2
       ·injection C with _ p _;omega
       ·injection C
      subst p;exact⟨_,by simp[Builtin.len_,pt f,goInt],.int _ _ _⟩
    ·cases h
   ·injection h with h;subst h
    cases t with
    | sref _ _ _ _ _ n c J A B E Q=>exact⟨_,by simp[Builtin.len_,pt f,goInt],.int _ _ _⟩
   ·cases h
  ·cases i
 ·split at h
  ·rename_i n k d;injection h with h;subst h
   unfold nK at d;split at d
   ·rename_i W e f;cases D:cC j.P e with
    | none=>rw[D]at d;cases d
    | some z =>
     rw[D]at d;injection d with d;injection d with p U;subst p
     exact⟨_,by simp[Builtin.len_,pt f,goInt],.int _ _ _⟩
   ·cases d
  ·split at h
   ·rename_i g;split at h
    ·injection h with h;subst h
     cases t;unfold N8 at g;split at g
     ·rename_i f;exact⟨_,by simp[Builtin.len_,pt f,goInt],.int _ _ _⟩
     ·cases g
    ·cases h
   grind
def EK:c6→Option AV
 | [.int k x,.int a y]=>if k=a then some (.int k (max x y)) else none
 | _=>none
def Fc:c6→Option AV
 | [.int k x,.int a y]=>if k=a then some (.int k (min x y)) else none
 | _=>none
def dk(s:AS):List Operand→Option c6
 | []=>some []
 | x::r=>match s.ev x,dk s r with|some v,some l=>some (v::l)|_,_=>none
def oI(P:Program)(s:AS)(b:Builtin)(xs:List Operand)(a:List TypeId):Option AV :=
 match b with
 | .len=>match xs,a with
  | [x],[T]=>match s.ev x with|some v=>yO P s T v|none=>none
  | _,_=>none
 | .max=>match dk s xs with|some l=>EK l|none=>none
 | .min=>match dk s xs with|some l=>Fc l|none=>none
 | _=>none
theorem ln{f:Cx}{s:AS}{a:Act}{w:World}{ι:Env}(h:aU f s a w ι):∀{xs:List Operand} {l:c6},dk s xs=some l→l.length=xs.length ∧
  ∀(i:Nat) (v:AV) (y:Value),l[i]?=some v→(xs.map a.eval)[i]?=some y→Rel (NN f.M ι) w ι v y
 | [],l,e=>by injection e with e;subst e;exact⟨rfl,fun i p q c _=>by simp at c⟩
 | x::r,l,e=>by
  unfold dk at e;cases b:s.ev x with
  | none=>rw[b]at e;cases e
  | some v =>
   cases d:dk s r with
   | none=>rw[b,d]at e;cases e
   | some l' =>
    rw[b,d]at e;injection e with e;subst e
    obtain⟨j,m⟩:=ln h d;refine⟨by simp[j],fun k p q c g=>?_⟩;cases k with
    | zero=>simp at c g;subst c;subst g;exact h.ev b
    | succ k=>grind
theorem WT{u:Cx}{s:AS}{a:Act}{w:World}{ι:Env}(e:aU u s a w ι){b:Builtin}{c:Array Operand}{z:Array TypeId}{r:AV}(h:oI u.P s b c.toList z.toList=some r)(ty:TypeId)(j:Array Bool):
  ∃y,(builtin b z ty j (c.map a.eval)).run u.P w=.ok (.value y) w∧Rel (NN u.M ι) w ι r y:=by
 have t:∀{f:c6→Option AV} {mx:Int→Int→Int},(f=EK∧mx=max∨f=Fc∧mx=min)→∀{l:c6},dk s c.toList=some l→f l=some r→∃k x y,c.map a.eval = #[.int k x,.int k y]∧r=.int k (mx x y):=by
  intro f mx J l n d;obtain⟨I,A⟩:=ln e n;have F:∃k x y,l=[.int k x,.int k y]∧r=.int k (mx x y):=by
   obtain⟨rfl,rfl⟩|⟨rfl,rfl⟩:=J
   ·unfold EK at d;split at d
    ·split at d
     ·rename_i k x L y D;subst D;injection d with d;exact⟨_,_,_,rfl,d.symm⟩
     ·cases d
    ·cases d
   ·unfold Fc at d;split at d
    ·split at d
     ·rename_i k x L y D;subst D;injection d with d;exact⟨_,_,_,rfl,d.symm⟩
     ·cases d
    ·cases d
  obtain⟨k,x,y,rfl,E⟩:=F;refine⟨k,x,y,?_,E⟩;apply akv.1;rw[aj6]
  match i:c.toList,I with
  | [p,q],_ =>
   rw[i]at A;have G:=A 0 _ (a.eval p) rfl rfl;have H:=A 1 _ (a.eval q) rfl rfl;simp only[q6,yk];cases g:a.eval p<;>rw[g]at G<;>cases G;cases B:a.eval q<;>rw[B]at H<;>cases H;rfl
 unfold oI at h;split at h
 ·split at h
  ·rename_i x T i C;have o:c = #[x]:=akv.1 (by simpa using i);have m:z = #[T]:=akv.1 (by simpa using C);subst o;subst m;split at h
   ·rename_i v K;obtain⟨y,g,B⟩:=adT e h (e.ev K) ty;exact⟨y,by simp[builtin,g],B⟩
   ·cases h
  ·cases h
 ·split at h
  ·rename_i l n;obtain⟨k,x,y,g,rfl⟩:=t (.inl ⟨rfl,rfl⟩) n h;refine⟨.int k (max x y),?_,.int _ _ _⟩;rw[g];have:(if y>x then y else x)=max x y:=by omega
   simp[builtin,Builtin.max_,Builtin.max2,this]
  ·cases h
 ·split at h
  ·rename_i l n;obtain⟨k,x,y,g,rfl⟩:=t (.inr ⟨rfl,rfl⟩) n h;refine⟨.int k (min x y),?_,.int _ _ _⟩;rw[g];have:(if y<x then y else x)=min x y:=by omega
   simp[builtin,Builtin.min_,Builtin.min2,this]
  ·cases h
 grind
def TT(i:Nat):AV→Option AV
 | .tup vs=>vs[i]?
 | _=>none
def ny(P:Program)(s:AS)(T:TypeId)(p:AV):Option AV:=match s.mem p with|some cs=>iq P T cs|none=>none
def Qy(P:Program)(T:TypeId)(f:Nat)(p:AV):Option AV:=match Hm P T f with|some k=>wZ k p|none=>none
def tR(P:Program)(s:AS)(T:TypeId)(x:AV):AV→Option AV
 | .int _ i=>A8 P s T x i
 | _=>none
def cb(P:Program)(n:Nat)(s:AS)(o:Oper):Option AS :=
 if cJ n o.dst=true then
  match o.op with
  | .move x|.assign x=>match s.ev x with|some v=>some (s.put o.dst v)|none=>none
  | .pick c x y=>match s.ev c with
   | some (.bool b)=>match Tg b (s.ev x) (s.ev y) with|some v=>some (s.put o.dst v)|none=>none
   | _=>none
  | .alloc T=>match o.dst,eZ P T with|some d,some cs=>rK s d cs|_,_=>none
  | .box _ x=>match o.dst,s.ev x with
   | some d,some v=>match ke v with|some cs=>rK s d cs|none=>none
   | _,_=>none
  | .load T x=>match s.ev x with
   | some p=>match ny P s T p with|some v=>some (s.put o.dst v)|none=>none
   | none=>none
  | .store T x y=>match o.dst,s.ev x,s.ev y with|none,some p,some v=>rp P s T p v|_,_,_=>none
  | .fieldAddr T x f=>match s.ev x with
   | some p=>match Qy P T f p with|some v=>some (s.put o.dst v)|none=>none
   | none=>none
  | .indexAddr T x i=>match s.ev x,s.ev i with
   | some p,some j=>match tR P s T p j with|some v=>some (s.put o.dst v)|none=>none
   | _,_=>none
  | .build T parts=>match wg P s T parts.toList with|some v=>some (s.put o.dst v)|none=>none
  | .buildSlice T a parts=>match n8 P s T a parts.toList with|some v=>some (s.put o.dst v)|none=>none
  | .makeSlice T x y=>match uR P s T x y with|some v=>some (s.put o.dst v)|none=>none
  | .extract x i=>match s.ev x with
   | some p=>match TT i p with|some v=>some (s.put o.dst v)|none=>none
   | none=>none
  | .binOp op _ x y _=>match s.ev x,s.ev y with
   | some u,some v=>match tJ op u v with
    | some r=>some (s.put o.dst r)
    | none=>match l4 P s o with|some r=>some (s.put o.dst r)|none=>none
   | _,_=>none
  | .unOp op _ x=>match s.ev x with
   | some u=>match HQ op u with|some r=>some (s.put o.dst r)|none=>none
   | none=>none
  | .call c=>match c.callee with
   | .builtin .append=>match c.args.toList,c.argTypes.toList,o.dst with
    | [x,y],[T,T'],some d=>if T=T' then match s.ev x,s.ev y with
     | some v,some u=>vN P s d T v u
     | _,_=>none else none
    | _,_,_=>none
   | .builtin .copy=>match c.args.toList,c.argTypes.toList with
    | [x,y],[T,_]=>match s.ev x,s.ev y with
     | some u,some v=>match wh P s T u v with
      | some q=>some (q.1.put o.dst q.2)
      | none=>none
     | _,_=>none
    | _,_=>none
   | .builtin b=>match oI P s b c.args.toList c.argTypes.toList with|some r=>some (s.put o.dst r)|none=>none
   | _=>none
  | _=>match l4 P s o with|some r=>some (s.put o.dst r)|none=>none
 else none
theorem Q3{E:Cx}{s s':AS}{a:Act}{w:World}{ι:Env}(g:aU E s a w ι){o:Oper}(h:cb E.P E.n s o=some s'):Good E ι s' a o ((execOp a.eval o).run E.P w):=by
 unfold cb at h;split at h
 case isFalse=>cases h
 rename_i Y;have X:=fU Y;have A:∀{v:AV} {x:Value} {w':World} {r:Result Next},r=.ok (.value x) w'→aU E s a w' ι→Rel (NN E.M ι) w' ι v x→Good E ι (s.put o.dst v) a o r:=fun D N m=>⟨ι,fun _ _ h=>h,.inl ⟨_,_,D,N.put X m⟩⟩;unfold execOp;cases n:o.op with
 | move x =>
  simp only[n]at h⊢;split at h
  ·rename_i v m;injection h with h;subst h;exact A rfl g (g.ev m)
  ·cases h
 | assign x =>
  simp only[n]at h⊢;split at h
  ·rename_i v m;injection h with h;subst h;exact A rfl g (g.ev m)
  ·cases h
 | pick c x y =>
  simp only[n]at h⊢;split at h
  ·rename_i b M;split at h
   ·rename_i v m;injection h with h;subst h
    have V:=g.ev M;cases W:a.eval c<;>rw[W]at V<;>cases V;have key:Rel (NN E.M ι) w ι v (if b=true then a.eval x else a.eval y):=by
     unfold Tg at m;split at m
     ·rename_i p q H hq;injection m with m;subst m
      have U:=g.ev H;have h2:=g.ev hq;cases b
      ·simpa using h2
      ·simpa using U
     ·cases b
      ·simp only[iO,qv]at m⊢;exact g.ev m
      ·simp only[zt]at m⊢;exact g.ev m
    refine A (x:=if b=true then a.eval x else a.eval y) ?_ g key;simp[asBool]
   ·cases h
  ·cases h
 | alloc T =>
  simp only[n]at h⊢;split at h
  ·rename_i d cs B hz;unfold eZ at hz;cases K:E.P.info? T with
   | none=>simp[K]at hz
   | some it =>
    cases S:it.zero with
    | none=>simp[K,S]at hz
    | some zv =>
     simp only[K,iF,S]at hz;obtain⟨ι',U,G⟩:=UW g (X d B) h (nc (NN E.M ι) w ι hz) T;refine⟨ι',fun i Z=>G i (fun e=>Z (by rw[e,B])),.inl ⟨.pointer (some ⟨w.heap.size,0,none⟩),w.alloc (.cells zv.cells T),?_,?_⟩⟩
     ·simp[Instr.alloc,zeroValue,typeInfo,K,S,newVar,newRow]
     ·rw[B];simpa using U
  ·cases h
 | box T x =>
  simp only[n]at h⊢;split at h
  ·rename_i d v B m;split at h
   ·rename_i cs e0;obtain⟨ι',U,G⟩:=UW g (X d B) h (As e0 (g.ev m)) T;refine⟨ι',fun i Z=>G i (fun e=>Z (by rw[e,B])),.inl ⟨.pointer (some ⟨w.heap.size,0,none⟩),w.alloc (.cells (a.eval x).cells T),?_,?_⟩⟩
    ·simp[Instr.box,newVar,newRow]
    ·rw[B];simpa using U
   ·cases h
  ·cases h
 | load T x =>
  simp only[n]at h⊢;split at h
  ·rename_i p H;split at h
   ·rename_i v m;injection h with h;subst h
    unfold ny at m;split at m
    ·rename_i cs hm;obtain⟨b,o',vl,hx,J⟩:=U8 g (g.ev H) hm;obtain⟨x,l,D⟩:=Qg m J;refine A ?_ g D;rw[hx];simp[l]
    ·cases m
   ·cases h
  ·cases h
 | store T x y =>
  simp only[n]at h⊢;split at h
  ·rename_i p v B H m;obtain⟨w',l,N⟩:=X4 g h (g.ev H) (g.ev m);refine⟨ι,fun _ _ h=>h,.inr ⟨w',by simp[l],?_⟩⟩;rw[B];exact N
  ·cases h
 | fieldAddr T x f =>
  simp only[n]at h⊢;split at h
  ·rename_i p H;split at h
   ·rename_i v m;injection h with h;subst h
    unfold Qy at m;split at m
    ·rename_i k hk;obtain⟨z,l,D⟩:=Xk hk m (g.ev H);exact A (by simp[l]) g D
    ·cases m
   ·cases h
  ·cases h
 | indexAddr T x y =>
  simp only[n]at h⊢;split at h
  ·rename_i p j H hj;split at h
   ·rename_i v m;injection h with h;subst h
    unfold tR at m;split at m
    ·rename_i k i;have a0:=g.ev hj;cases W:a.eval y<;>rw[W]at a0<;>cases a0;obtain⟨z,l,D⟩:=Yc g (k:=k) m (g.ev H);exact A (by simp[l]) g D
    ·cases m
   ·cases h
  ·cases h
 | build T parts =>
  simp only[n]at h⊢;split at h
  ·rename_i v m;injection h with h;subst h
   obtain⟨x,l,D⟩:=aik g m;exact A (by simp only[sj,l];rfl) g D
  ·cases h
 | buildSlice T f0 parts =>
  simp only[n]at h⊢;split at h
  ·rename_i v m;injection h with h;subst h
   obtain⟨x,w',l,N,D⟩:=Zj g m;exact A (by simp only[sj,l];rfl) N D
  ·cases h
 | makeSlice T x y =>
  simp only[n]at h⊢;split at h
  ·rename_i v m;injection h with h;subst h
   obtain⟨x,w',l,N,D⟩:=acY g m;exact A (by simp only[sj,l];rfl) N D
  ·cases h
 | extract x i =>
  simp only[n]at h⊢;split at h
  ·rename_i p H;split at h
   ·rename_i v m;injection h with h;subst h
    unfold TT at m;split at m
    ·rename_i vs;have c0:=g.ev H;cases W:a.eval x<;>rw[W]at c0<;>cases c0;rename_i ws hl D;have b0:i<ws.length:=by rw[←hl];exact(jf.1 m).1
     refine A (x:=ws[i]) ?_ g (D i v _ m (jt b0));simp[Instr.extract,jt b0]
    ·cases m
   ·cases h
  ·cases h
 | binOp op T x y Ty =>
  simp only[n]at h⊢;split at h
  ·rename_i u v Q m;split at h
   ·rename_i r D;injection h with h;subst h
    obtain⟨z,l,t⟩:=aa2 D (g.ev Q) (g.ev m) T x y;refine A ?_ g t;simp only[sj]at l⊢;rw[l];rfl
   ·split at h
    ·rename_i r D;injection h with h;subst h
     obtain⟨z,l,t⟩:=UK g D;unfold execOp at l;simp only[n]at l;exact A l g t
    ·cases h
  ·cases h
 | unOp op T x =>
  simp only[n]at h⊢;split at h
  ·rename_i u Q;split at h
   ·rename_i r D;injection h with h;subst h
    obtain⟨z,l,t⟩:=aeU (P:=E.P) D (g.ev Q);exact A (by simp[l]) g t
   ·cases h
  ·cases h
 | call c =>
  simp only[n]at h⊢;split at h
  ·rename_i M;split at h
   ·rename_i x y T T' d R L B;split at h
    ·rename_i d0;subst d0;split at h
     ·rename_i v u m Q;have I:c.args = #[x,y]:=akv.1 (by simpa using R);have F:c.argTypes = #[T,T]:=akv.1 (by simpa using L);obtain⟨z,w',ι',l,O,G⟩:=abk (ty:=o.type) g (X d B) h (g.ev m) (g.ev Q);refine⟨ι',fun i Z=>G i (fun e=>Z (by rw[e,B])),.inl ⟨z,w',?_,by rw[B];exact O⟩⟩;simp only[sj,resolve,M,IT,u3,invoke,builtin,I,F,alX,q6,yk,l]
     ·cases h
    ·cases h
   ·cases h
  ·rename_i M;split at h
   ·rename_i x y T T' R L;split at h
    ·rename_i u v Q m;split at h
     ·rename_i q hq;injection h with h;subst h
      have I:c.args = #[x,y]:=akv.1 (by simpa using R);have F:c.argTypes = #[T,T']:=akv.1 (by simpa using L);obtain⟨z,w',l,O,t⟩:=aih (T':=T') (ty:=o.type) g (s':=q.1) (r:=q.2) hq (g.ev Q) (g.ev m);refine⟨ι,fun _ _ h=>h,.inl ⟨z,w',?_,O.put X t⟩⟩;simp only[sj,resolve,M,IT,u3,invoke,builtin,I,F,alX,q6,yk,l]
     ·cases h
    ·cases h
   ·cases h
  ·rename_i b _ _ M;split at h
   ·rename_i r D;injection h with h;subst h
    simp only[sj,resolve,M,IT,u3,invoke];generalize (Array.map _ c.args:Array Bool)=C;obtain⟨y,l,t⟩:=WT g D o.type C;exact A l g t
   ·cases h
  ·cases h
 | _ =>
  simp only[n]at h⊢;split at h
  ·rename_i r D;injection h with h;subst h
   obtain⟨z,l,t⟩:=UK g D;unfold execOp at l;simp only[n]at l;exact A l g t
  ·cases h
end Go.Proofs.YtocgkfoifehcbaaGreat
