/- All operations on abstract values in one function, and its soundness; a list of operations. No program in sight. -/
import Derived.Test.YtocgkfoifehcbaaGreatRfAx
import Derived.Test.YtocgkfoifehcbaaGreatRfAcp
namespace Go.Proofs.YtocgkfoifehcbaaGreat
set_option linter.all false
open Go.RowKit
def cm(n:Nat):Option Tmp→Bool
 | none=>true
 | some k=>decide (k<n)
theorem eN{n:Nat}{d:Option Tmp}(h:cm n d=true):∀k,d=some k→k<n:=fun k hk=>by subst hk;simpa[cm]using h
def kN(s:AS)(d:Nat)(cs:List AV):Option AS:=if (has s.u d||Nat.ble 450000 d)=true then none else some { t:=aZ d (.ptr d 0) s.t,o:=aZ d cs s.o,r:=s.r,u:=d::s.u }
theorem CS{cx:Cx}{s s':AS}{a:Act}{w:World}{ι:Env}(hsim:aN cx s a w ι){d:Nat}(hd:d<cx.n){cs:List AV}(h:kN s d cs=some s'){vs:List Value}(hc:Cells (NN cx.M ι) w ι cs vs)(T:TypeId):
  ∃ι',aN cx s' (a.put (some d) (.pointer (some ⟨w.heap.size,0,none⟩))) (w.alloc (.cells vs.toArray T)) ι'∧(∀i,i≠d→ι i=none→ι' i=none):=by
 unfold kN at h;split at h
 ·cases h
 ·rename_i hu;injection h with h;subst h
  have hu1:=Bool.or_eq_false_iff.1 (Bool.eq_false_iff.2 hu:(has s.u d||Nat.ble 450000 d)=false);have hu':has s.u d=false:=hu1.1;have hs:=hsim.hs.alloc (d:=d) hu' (T:=T) (fun h=>by have:=Nat.ble_eq_true_of_le h;rw[hu1.2]at this;cases this) hc;have hn:=hsim.hs.free hu';have h1:aN cx { s with o:=aZ d cs s.o,u:=d::s.u } a (w.alloc (.cells vs.toArray T)) (ext ι d (.pointer (some ⟨w.heap.size,0,none⟩))):=by
   refine hsim.world hs rfl (by simp) (fun b hb hh=>?_) (fun b hb _=>Below.heap_alloc _ _ _ hb) (dQ hn _);rcases er hh with hh|hh
   ·exact hh
   ·injection hh with hh;simp only[]at hh;omega
  exact⟨_,h1.put (d:=some d) (fun k hk=>by injection hk with hk;subst hk;exact hd) (.ptr _ _ _ _ (cr _ _ _)),fun i hi hn'=>(bq _ _ hi).trans hn'⟩
def tK(P:Program)(s:AS)(T:TypeId)(v:AV):Option AV :=
 match eI P T with
 | some _=>match v with
  | .nils=>some (.int .i64 0)
  | .sl l=>some (.int .i64 l.length)
  | .ref id=>match look id s.r with|some a=>some (.int .i64 a.l.length)|none=>none
  | .sref _ _ _ m=>some (.int .i64 m)
  | _=>none
 | none=>match ke P T with
  | some (n,_)=>some (.int .i64 n)
  | none=>if GK P T=true then (match v with|.str b=>some (.int .i64 b.size)|_=>none) else none
theorem Mu{cx:Cx}{s:AS}{a:Act}{w:World}{ι:Env}(hsim:aN cx s a w ι){T:TypeId}{v r:AV}(h:tK cx.P s T v=some r){x:Value}(hx:Rel (NN cx.M ι) w ι v x)(ty:TypeId):
  ∃y,(Builtin.len_ #[T] ty #[x]).run cx.P w=.ok y w∧Rel (NN cx.M ι) w ι r y:=by
 unfold tK at h;split at h
 ·rename_i e hts;unfold eI at hts;split at hts
  ·rename_i e' hu;split at h
   ·injection h with h;subst h
    cases hx;exact⟨_,by simp[Builtin.len_,run_underlying hu,goInt],.int _ _ _⟩
   ·rename_i l;injection h with h;subst h
    cases hx with
    | sl0 A c=>exact⟨_,by simp[Builtin.len_,run_underlying hu,goInt],.int _ _ _⟩
    | sl _ _ b o c sz val hz hb hn h1 hc hr _=>exact⟨_,by simp[Builtin.len_,run_underlying hu,goInt],.int _ _ _⟩
   ·rename_i id;split at h
    ·rename_i ar har;injection h with h;subst h
     cases hx with
     | ref _ _ A n c hι =>
      obtain⟨v,xs,h1,h2,h3,h4,h5⟩:=hsim.hs.arrs id ar har (by rw[hι];rfl);rw[hι]at h1;injection h1 with h1;subst h1
      have hn:n=ar.l.length:=by
       obtain⟨hv,h0⟩|⟨g',cap,cur,hv,_⟩:=h2.2
       ·injection hv with _ hn _;omega
       ·injection hv
      subst hn;exact⟨_,by simp[Builtin.len_,run_underlying hu,goInt],.int _ _ _⟩
    ·cases h
   ·injection h with h;subst h
    cases hx with
    | sref _ _ _ _ _ n c c' A B hι hB=>exact⟨_,by simp[Builtin.len_,run_underlying hu,goInt],.int _ _ _⟩
   ·cases h
  ·cases hts
 ·split at h
  ·rename_i n k hta;injection h with h;subst h
   unfold ke at hta;split at hta
   ·rename_i n' e hu;cases hz:bU cx.P e with
    | none=>rw[hz]at hta;cases hta
    | some z =>
     rw[hz]at hta;injection hta with hta;injection hta with hn hk;subst hn
     exact⟨_,by simp[Builtin.len_,run_underlying hu,goInt],.int _ _ _⟩
   ·cases hta
  ·split at h
   ·rename_i hst;split at h
    ·injection h with h;subst h
     cases hx;unfold GK at hst;split at hst
     ·rename_i hu;exact⟨_,by simp[Builtin.len_,run_underlying hu,goInt],.int _ _ _⟩
     ·cases hst
    ·cases h
   ·cases h
def yw:List AV→Option AV
 | [.int k x,.int k' y]=>if k=k' then some (.int k (max x y)) else none
 | _=>none
def ze:List AV→Option AV
 | [.int k x,.int k' y]=>if k=k' then some (.int k (min x y)) else none
 | _=>none
def cG(s:AS):List Operand→Option (List AV)
 | []=>some []
 | x::r=>match s.ev x,cG s r with|some v,some l=>some (v::l)|_,_=>none
def kU(P:Program)(s:AS)(b:Builtin)(xs:List Operand)(Ts:List TypeId):Option AV :=
 match b with
 | .len=>match xs,Ts with
  | [x],[T]=>match s.ev x with|some v=>tK P s T v|none=>none
  | _,_=>none
 | .max=>match cG s xs with|some l=>yw l|none=>none
 | .min=>match cG s xs with|some l=>ze l|none=>none
 | _=>none
theorem jo{cx:Cx}{s:AS}{a:Act}{w:World}{ι:Env}(h:aN cx s a w ι):∀{xs:List Operand} {l:List AV},cG s xs=some l→l.length=xs.length ∧
  ∀(i:Nat) (v:AV) (y:Value),l[i]?=some v→(xs.map a.eval)[i]?=some y→Rel (NN cx.M ι) w ι v y
 | [],l,e=>by injection e with e;subst e;exact⟨rfl,fun i p q hp _=>by simp at hp⟩
 | x::r,l,e=>by
  unfold cG at e;cases h1:s.ev x with
  | none=>rw[h1]at e;cases e
  | some v =>
   cases h2:cG s r with
   | none=>rw[h1,h2]at e;cases e
   | some l' =>
    rw[h1,h2]at e;injection e with e;subst e
    obtain⟨e1,e2⟩:=jo h h2;refine⟨by simp[e1],fun k p q hp hq=>?_⟩;cases k with
    | zero=>simp at hp hq;subst hp;subst hq;exact h.ev h1
    | succ k=>exact e2 k p q (by simpa using hp) (by simpa using hq)
theorem QA{cx:Cx}{s:AS}{a:Act}{w:World}{ι:Env}(hsim:aN cx s a w ι){b:Builtin}{args:Array Operand}{Ts:Array TypeId}{r:AV}(h:kU cx.P s b args.toList Ts.toList=some r)(ty:TypeId)(cons:Array Bool):
  ∃y,(builtin b Ts ty cons (args.map a.eval)).run cx.P w=.ok (.value y) w∧Rel (NN cx.M ι) w ι r y:=by
 have two:∀{f:List AV→Option AV} {mx:Int→Int→Int},(f=yw∧mx=max∨f=ze∧mx=min)→∀{l:List AV},cG s args.toList=some l→f l=some r→∃k x y,args.map a.eval = #[.int k x,.int k y]∧r=.int k (mx x y):=by
  intro f mx hf l hl hr;obtain⟨e1,e2⟩:=jo hsim hl;have hsh:∃k x y,l=[.int k x,.int k y]∧r=.int k (mx x y):=by
   obtain⟨rfl,rfl⟩|⟨rfl,rfl⟩:=hf
   ·unfold yw at hr;split at hr
    ·split at hr
     ·rename_i k x k' y hk;subst hk;injection hr with hr;exact⟨_,_,_,rfl,hr.symm⟩
     ·cases hr
    ·cases hr
   ·unfold ze at hr;split at hr
    ·split at hr
     ·rename_i k x k' y hk;subst hk;injection hr with hr;exact⟨_,_,_,rfl,hr.symm⟩
     ·cases hr
    ·cases hr
  obtain⟨k,x,y,rfl,hr'⟩:=hsh;refine⟨k,x,y,?_,hr'⟩;apply Array.toList_inj.1;rw[Array.toList_map]
  match hxs:args.toList,e1 with
  | [p,q],_ =>
   rw[hxs]at e2;have r1:=e2 0 _ (a.eval p) rfl rfl;have r2:=e2 1 _ (a.eval q) rfl rfl;simp only[List.map_cons,List.map_nil];cases h1:a.eval p<;>rw[h1]at r1<;>cases r1;cases h2:a.eval q<;>rw[h2]at r2<;>cases r2;rfl
 unfold kU at h;split at h
 ·split at h
  ·rename_i x T hxs hTs;have hxs':args = #[x]:=Array.toList_inj.1 (by simpa using hxs);have hTs':Ts = #[T]:=Array.toList_inj.1 (by simpa using hTs);subst hxs';subst hTs';split at h
   ·rename_i v hv;obtain⟨y,h1,h2⟩:=Mu hsim h (hsim.ev hv) ty;exact⟨y,by simp[builtin,h1],h2⟩
   ·cases h
  ·cases h
 ·split at h
  ·rename_i l hl;obtain⟨k,x,y,h1,rfl⟩:=two (.inl ⟨rfl,rfl⟩) hl h;refine⟨.int k (max x y),?_,.int _ _ _⟩;rw[h1];have:(if y>x then y else x)=max x y:=by omega
   simp[builtin,Builtin.max_,Builtin.max2,this]
  ·cases h
 ·split at h
  ·rename_i l hl;obtain⟨k,x,y,h1,rfl⟩:=two (.inr ⟨rfl,rfl⟩) hl h;refine⟨.int k (min x y),?_,.int _ _ _⟩;rw[h1];have:(if y<x then y else x)=min x y:=by omega
   simp[builtin,Builtin.min_,Builtin.min2,this]
  ·cases h
 ·cases h
def EL(i:Nat):AV→Option AV
 | .tup vs=>vs[i]?
 | _=>none
def jr(P:Program)(s:AS)(T:TypeId)(p:AV):Option AV:=match s.mem p with|some cs=>fy P T cs|none=>none
def Ft(P:Program)(T:TypeId)(f:Nat)(p:AV):Option AV:=match xH P T f with|some k=>q9 k p|none=>none
def nV(P:Program)(s:AS)(T:TypeId)(x:AV):AV→Option AV
 | .int _ i=>tB P s T x i
 | _=>none
def bE(P:Program)(n:Nat)(s:AS)(o:Oper):Option AS :=
 if cm n o.dst=true then
  match o.op with
  | .move x|.assign x=>match s.ev x with|some v=>some (s.put o.dst v)|none=>none
  | .pick c x y=>match s.ev c with
   | some (.bool b)=>match IW b (s.ev x) (s.ev y) with|some v=>some (s.put o.dst v)|none=>none
   | _=>none
  | .alloc T=>match o.dst,eg P T with|some d,some cs=>kN s d cs|_,_=>none
  | .box _ x=>match o.dst,s.ev x with
   | some d,some v=>match gu v with|some cs=>kN s d cs|none=>none
   | _,_=>none
  | .load T x=>match s.ev x with
   | some p=>match jr P s T p with|some v=>some (s.put o.dst v)|none=>none
   | none=>none
  | .store T x y=>match o.dst,s.ev x,s.ev y with|none,some p,some v=>lY P s T p v|_,_,_=>none
  | .fieldAddr T x f=>match s.ev x with
   | some p=>match Ft P T f p with|some v=>some (s.put o.dst v)|none=>none
   | none=>none
  | .indexAddr T x i=>match s.ev x,s.ev i with
   | some p,some j=>match nV P s T p j with|some v=>some (s.put o.dst v)|none=>none
   | _,_=>none
  | .build T parts=>match oF P s T parts.toList with|some v=>some (s.put o.dst v)|none=>none
  | .buildSlice T len parts=>match kA P s T len parts.toList with|some v=>some (s.put o.dst v)|none=>none
  | .makeSlice T x y=>match oc P s T x y with|some v=>some (s.put o.dst v)|none=>none
  | .extract x i=>match s.ev x with
   | some p=>match EL i p with|some v=>some (s.put o.dst v)|none=>none
   | none=>none
  | .binOp op _ x y _=>match s.ev x,s.ev y with
   | some u,some v=>match tJ op u v with
    | some r=>some (s.put o.dst r)
    | none=>match hI P s o with|some r=>some (s.put o.dst r)|none=>none
   | _,_=>none
  | .unOp op _ x=>match s.ev x with
   | some u=>match zt op u with|some r=>some (s.put o.dst r)|none=>none
   | none=>none
  | .call c=>match c.callee with
   | .builtin .append=>match c.args.toList,c.argTypes.toList,o.dst with
    | [x,y],[T,T'],some d=>if T=T' then match s.ev x,s.ev y with
     | some v,some u=>qD P s d T v u
     | _,_=>none else none
    | _,_,_=>none
   | .builtin .copy=>match c.args.toList,c.argTypes.toList with
    | [x,y],[T,_]=>match s.ev x,s.ev y with
     | some u,some v=>match oi P s T u v with
      | some q=>some (q.1.put o.dst q.2)
      | none=>none
     | _,_=>none
    | _,_=>none
   | .builtin b=>match kU P s b c.args.toList c.argTypes.toList with|some r=>some (s.put o.dst r)|none=>none
   | _=>none
  | _=>match hI P s o with|some r=>some (s.put o.dst r)|none=>none
 else none
theorem DX{cx:Cx}{s s':AS}{a:Act}{w:World}{ι:Env}(hsim:aN cx s a w ι){o:Oper}(h:bE cx.P cx.n s o=some s'):Good cx ι s' a o ((execOp a.eval o).run cx.P w):=by
 unfold bE at h;split at h
 case isFalse=>cases h
 rename_i hdok;have hd:=eN hdok;have val:∀{v:AV} {x:Value} {w':World} {r:Result Next},r=.ok (.value x) w'→aN cx s a w' ι→Rel (NN cx.M ι) w' ι v x→Good cx ι (s.put o.dst v) a o r:=fun hr hs hv=>⟨ι,fun _ _ h=>h,.inl ⟨_,_,hr,hs.put hd hv⟩⟩;unfold execOp;cases hop:o.op with
 | move x =>
  simp only[hop]at h⊢;split at h
  ·rename_i v hv;injection h with h;subst h;exact val rfl hsim (hsim.ev hv)
  ·cases h
 | assign x =>
  simp only[hop]at h⊢;split at h
  ·rename_i v hv;injection h with h;subst h;exact val rfl hsim (hsim.ev hv)
  ·cases h
 | pick c x y =>
  simp only[hop]at h⊢;split at h
  ·rename_i b hb;split at h
   ·rename_i v hv;injection h with h;subst h
    have hb':=hsim.ev hb;cases hc:a.eval c<;>rw[hc]at hb'<;>cases hb';have key:Rel (NN cx.M ι) w ι v (if b=true then a.eval x else a.eval y):=by
     unfold IW at hv;split at hv
     ·rename_i p q hp hq;injection hv with hv;subst hv
      have h1:=hsim.ev hp;have h2:=hsim.ev hq;cases b
      ·simpa using h2
      ·simpa using h1
     ·cases b
      ·simp only[Bool.false_eq_true,if_false]at hv⊢;exact hsim.ev hv
      ·simp only[if_true]at hv⊢;exact hsim.ev hv
    refine val (x:=if b=true then a.eval x else a.eval y) ?_ hsim key;simp[asBool]
   ·cases h
  ·cases h
 | alloc T =>
  simp only[hop]at h⊢;split at h
  ·rename_i d cs hdd hz;unfold eg at hz;cases hit:cx.P.info? T with
   | none=>simp[hit]at hz
   | some it =>
    cases hzz:it.zero with
    | none=>simp[hit,hzz]at hz
    | some zv =>
     simp only[hit,Option.bind_some,hzz]at hz;obtain⟨ι',h1,hno⟩:=CS hsim (hd d hdd) h (kI (NN cx.M ι) w ι hz) T;refine⟨ι',fun i hi=>hno i (fun e=>hi (by rw[e,hdd])),.inl ⟨.pointer (some ⟨w.heap.size,0,none⟩),w.alloc (.cells zv.cells T),?_,?_⟩⟩
     ·simp[Instr.alloc,zeroValue,typeInfo,hit,hzz,newVar,newRow]
     ·rw[hdd];simpa using h1
  ·cases h
 | box T x =>
  simp only[hop]at h⊢;split at h
  ·rename_i d v hdd hv;split at h
   ·rename_i cs hcs;obtain⟨ι',h1,hno⟩:=CS hsim (hd d hdd) h (qF hcs (hsim.ev hv)) T;refine⟨ι',fun i hi=>hno i (fun e=>hi (by rw[e,hdd])),.inl ⟨.pointer (some ⟨w.heap.size,0,none⟩),w.alloc (.cells (a.eval x).cells T),?_,?_⟩⟩
    ·simp[Instr.box,newVar,newRow]
    ·rw[hdd];simpa using h1
   ·cases h
  ·cases h
 | load T x =>
  simp only[hop]at h⊢;split at h
  ·rename_i p hp;split at h
   ·rename_i v hv;injection h with h;subst h
    unfold jr at hv;split at hv
    ·rename_i cs hm;obtain⟨b,o',vl,hx,hcells⟩:=Ge hsim (hsim.ev hp) hm;obtain⟨x,hrun,hr⟩:=Es hv hcells;refine val ?_ hsim hr;rw[hx];simp[hrun]
    ·cases hv
   ·cases h
  ·cases h
 | store T x y =>
  simp only[hop]at h⊢;split at h
  ·rename_i p v hdd hp hv;obtain⟨w',hrun,hs⟩:=Sa hsim h (hsim.ev hp) (hsim.ev hv);refine⟨ι,fun _ _ h=>h,.inr ⟨w',by simp[hrun],?_⟩⟩;rw[hdd];exact hs
  ·cases h
 | fieldAddr T x f =>
  simp only[hop]at h⊢;split at h
  ·rename_i p hp;split at h
   ·rename_i v hv;injection h with h;subst h
    unfold Ft at hv;split at hv
    ·rename_i k hk;obtain⟨z,hrun,hr⟩:=QJ hk hv (hsim.ev hp);exact val (by simp[hrun]) hsim hr
    ·cases hv
   ·cases h
  ·cases h
 | indexAddr T x y =>
  simp only[hop]at h⊢;split at h
  ·rename_i p j hp hj;split at h
   ·rename_i v hv;injection h with h;subst h
    unfold nV at hv;split at hv
    ·rename_i k i;have hj':=hsim.ev hj;cases hc:a.eval y<;>rw[hc]at hj'<;>cases hj';obtain⟨z,hrun,hr⟩:=TP hsim (k:=k) hv (hsim.ev hp);exact val (by simp[hrun]) hsim hr
    ·cases hv
   ·cases h
  ·cases h
 | build T parts =>
  simp only[hop]at h⊢;split at h
  ·rename_i v hv;injection h with h;subst h
   obtain⟨x,hrun,hr⟩:=V6 hsim hv;exact val (by simp only[Sem.run_bind,hrun];rfl) hsim hr
  ·cases h
 | buildSlice T len parts =>
  simp only[hop]at h⊢;split at h
  ·rename_i v hv;injection h with h;subst h
   obtain⟨x,w',hrun,hs,hr⟩:=Lf hsim hv;exact val (by simp only[Sem.run_bind,hrun];rfl) hs hr
  ·cases h
 | makeSlice T x y =>
  simp only[hop]at h⊢;split at h
  ·rename_i v hv;injection h with h;subst h
   obtain⟨x,w',hrun,hs,hr⟩:=Nf hsim hv;exact val (by simp only[Sem.run_bind,hrun];rfl) hs hr
  ·cases h
 | extract x i =>
  simp only[hop]at h⊢;split at h
  ·rename_i p hp;split at h
   ·rename_i v hv;injection h with h;subst h
    unfold EL at hv;split at hv
    ·rename_i vs;have hp':=hsim.ev hp;cases hc:a.eval x<;>rw[hc]at hp'<;>cases hp';rename_i ws hl hr;have hlt:i<ws.length:=by rw[←hl];exact(List.getElem?_eq_some_iff.1 hv).1
     refine val (x:=ws[i]) ?_ hsim (hr i v _ hv (List.getElem?_eq_getElem hlt));simp[Instr.extract,List.getElem?_eq_getElem hlt]
    ·cases hv
   ·cases h
  ·cases h
 | binOp op T x y Ty =>
  simp only[hop]at h⊢;split at h
  ·rename_i u v hu hv;split at h
   ·rename_i r hr;injection h with h;subst h
    obtain⟨z,hrun,hrel⟩:=QW hr (hsim.ev hu) (hsim.ev hv) T x y;refine val ?_ hsim hrel;simp only[Sem.run_bind]at hrun⊢;rw[hrun];rfl
   ·split at h
    ·rename_i r hr;injection h with h;subst h
     obtain⟨z,hrun,hrel⟩:=DP hsim hr;unfold execOp at hrun;simp only[hop]at hrun;exact val hrun hsim hrel
    ·cases h
  ·cases h
 | unOp op T x =>
  simp only[hop]at h⊢;split at h
  ·rename_i u hu;split at h
   ·rename_i r hr;injection h with h;subst h
    obtain⟨z,hrun,hrel⟩:=Ry (P:=cx.P) hr (hsim.ev hu);exact val (by simp[hrun]) hsim hrel
   ·cases h
  ·cases h
 | call c =>
  simp only[hop]at h⊢;split at h
  ·rename_i hb;split at h
   ·rename_i x y T T' d hxs hTs hdd;split at h
    ·rename_i hTT;subst hTT;split at h
     ·rename_i v u hv hu;have hxs':c.args = #[x,y]:=Array.toList_inj.1 (by simpa using hxs);have hTs':c.argTypes = #[T,T]:=Array.toList_inj.1 (by simpa using hTs);obtain⟨z,w',ι',hrun,hs',hno⟩:=T8 (ty:=o.type) hsim (hd d hdd) h (hsim.ev hv) (hsim.ev hu);refine⟨ι',fun i hi=>hno i (fun e=>hi (by rw[e,hdd])),.inl ⟨z,w',?_,by rw[hdd];exact hs'⟩⟩;simp only[Sem.run_bind,resolve,hb,Sem.run_pure,Result.andThen_ok,invoke,builtin,hxs',hTs',List.map_toArray,List.map_cons,List.map_nil,hrun]
     ·cases h
    ·cases h
   ·cases h
  ·rename_i hb;split at h
   ·rename_i x y T T' hxs hTs;split at h
    ·rename_i u v hu hv;split at h
     ·rename_i q hq;injection h with h;subst h
      have hxs':c.args = #[x,y]:=Array.toList_inj.1 (by simpa using hxs);have hTs':c.argTypes = #[T,T']:=Array.toList_inj.1 (by simpa using hTs);obtain⟨z,w',hrun,hs',hrel⟩:=Lk (T':=T') (ty:=o.type) hsim (s':=q.1) (r:=q.2) hq (hsim.ev hu) (hsim.ev hv);refine⟨ι,fun _ _ h=>h,.inl ⟨z,w',?_,hs'.put hd hrel⟩⟩;simp only[Sem.run_bind,resolve,hb,Sem.run_pure,Result.andThen_ok,invoke,builtin,hxs',hTs',List.map_toArray,List.map_cons,List.map_nil,hrun]
     ·cases h
    ·cases h
   ·cases h
  ·rename_i b _ _ hb;split at h
   ·rename_i r hr;injection h with h;subst h
    simp only[Sem.run_bind,resolve,hb,Sem.run_pure,Result.andThen_ok,invoke];generalize (Array.map _ c.args:Array Bool)=C;obtain⟨y,hrun,hrel⟩:=QA hsim hr o.type C;exact val hrun hsim hrel
   ·cases h
  ·cases h
 | _ =>
  simp only[hop]at h⊢;split at h
  ·rename_i r hr;injection h with h;subst h
   obtain⟨z,hrun,hrel⟩:=DP hsim hr;unfold execOp at hrun;simp only[hop]at hrun;exact val hrun hsim hrel
  ·cases h
end Go.Proofs.YtocgkfoifehcbaaGreat
