/- The operations on abstract values: a function that computes, and the proof that the run does the same. No program in sight. -/
import Derived.Test.YtocgkfoifehcbaaGreatRdAmem
namespace Go.Proofs.YtocgkfoifehcbaaGreat
set_option linter.all false
open Go.RowKit
abbrev ew:=Nat×Nat
def jt:=@List.getElem?_eq_some_iff
def j3:=@List.getElem?_eq_getElem
def la:=@Nat.le_refl
def ll:=@Array.getElem?_eq_getElem
def mm:=@List.mem_of_getElem?
def nw:=@List.length_map
def ob:=@run_underlying
def sj:=@Sem.run_bind
def By:=@List.getElem?_take
def Do:=@List.getElem?_map
def Dy:=@List.mem_map
def aag:=@Option.getD_some
def aa3:=@Option.map_some
def ag5:=@List.mem_range
def ahn:=@List.getElem?_drop
def ak5:=@Nat.add_zero
def alD:=@Nat.add_assoc
def alJ:=@cell_of_row
def amv:=@List.head?_eq_getElem?
def cr(P:Program)(T:TypeId):Option Nat:=(P.info? T).map (·.size)
def qz(P:Program)(T:TypeId):Option Bool:=(P.underlying T).map (·.isRow)
def HL(P:Program)(T:TypeId)(f:Nat):Option Nat :=
 match P.underlying T with
 | some (.struct a)=>match a[f]? with
  | some g=>match cr P g.type with
   | some (_+1)=>some g.offset
   | _=>none
  | none=>none
 | _=>none
def ph(P:Program)(T:TypeId):Option ew :=
 match P.underlying T with
 | some (.array n e)=>(cr P e).map (n,·)
 | _=>none
def gA(P:Program)(T:TypeId):Option (TypeId×Nat) :=
 match P.underlying T with
 | some (.slice e)=>(cr P e).map (e,·)
 | _=>none
def NT(P:Program)(T:TypeId):Bool:=match P.underlying T with|some .string=>true|_=>false
def ey(P:Program)(T:TypeId):Option c6:=((P.info? T).bind (·.zero)).bind fun z=>lI z.cells.toList
def Jn(P:Program)(T:TypeId):Option (List ew) :=
 match P.underlying T with
 | some (.struct a)=>a.toList.mapM fun f=>(cr P f.type).map (f.offset,·)
 | some (.array n e)=>(cr P e).map fun k=>(List.range n).map fun i=>(i*k,k)
 | _=>none
def AS.mem(s:AS):AV→Option c6
 | .ptr id off=>match look id s.o with|some cs=>some (cs.drop off)|none=>none
 | .pp id _ off=>match look id s.o with|some cs=>some (cs.drop off)|none=>none
 | .cptr cs=>some cs
 | .eptr id sz j off=>match look id s.r with
  | some a=>if a.sz=sz then match a.l[j]? with|some e=>some (if id<TG then e.drop off else (e.drop off).map AV.wc)|none=>none else none
  | none=>none
 | _=>none
theorem Va{H:Cx}{s:AS}{a:Act}{w:World}{ι:Env}(h:aV H s a w ι){p:AV}{x:Value}(hp:Rel (NN H.M ι) w ι p x){cs:c6}(d:s.mem p=some cs):
  ∃(b o:Nat) (l:Nat→Value),x=.pointer (some ⟨b,o,none⟩)∧∀(i:Nat) (c:AV),cs[i]?=some c→w.cell? ⟨b,o+i,none⟩=some (l i)∧(l i).oneCell'=true∧Rel (NN H.M ι) w ι c (l i):=by
 cases hp with
 | ptr _ id off g t =>
  simp only[AS.mem]at d;cases e:look id s.o with
  | none=>rw[e]at d;cases d
  | some m =>
   rw[e]at d;injection d with d;subst d
   obtain⟨Q,T,vs,f,E,q⟩:=h.hs.objs id m e (by rw[t];rfl);rw[t]at f;injection f with f;injection f with f;injection f with f;injection f with f;subst f
   refine⟨g,off,fun i=>(vs[off+i]?).getD (.bool true),rfl,fun i c k=>?_⟩;rw[ahn]at k;have z:off+i<vs.size:=by have:=(jt.1 k).1;rw[q.len]at this;simpa using this
   have B:vs[off+i]?=some vs[off+i]:=ll z;have C:vs.toList[off+i]?=some vs[off+i]:=by simp
   rw[alJ w g _ vs T (0,0) E];simp only[B,aag];exact⟨trivial,q.one _ (by simp),q.rel _ _ _ k C⟩
 | pp _ id g off t =>
  simp only[AS.mem]at d;cases e:look id s.o with
  | none=>rw[e]at d;cases d
  | some m =>
   rw[e]at d;injection d with d;subst d
   obtain⟨Q,T,vs,f,E,q⟩:=h.hs.objs id m e (by rw[t];rfl);rw[t]at f;injection f with f;injection f with f;injection f with f;injection f with f;subst f
   refine⟨g,off,fun i=>(vs[off+i]?).getD (.bool true),rfl,fun i c k=>?_⟩;rw[ahn]at k;have z:off+i<vs.size:=by have:=(jt.1 k).1;rw[q.len]at this;simpa using this
   have B:vs[off+i]?=some vs[off+i]:=ll z;have C:vs.toList[off+i]?=some vs[off+i]:=by simp
   rw[alJ w g _ vs T (0,0) E];simp only[B,aag];exact⟨trivial,q.one _ (by simp),q.rel _ _ _ k C⟩
 | eptr _ id sz j off g n c t =>
  simp only[AS.mem]at d;cases e:look id s.r with
  | none=>rw[e]at d;cases d
  | some ar =>
   simp only[e]at d;split at d
   ·rename_i O;cases K:ar.l[j]? with
    | none=>rw[K]at d;cases d
    | some L =>
     rw[K]at d;injection d with d
     obtain⟨v,xs,f,E,q,W,X⟩:=h.hs.arrs id ar e (by rw[t];rfl);rw[t]at f;injection f with f;subst f
     obtain⟨B,_⟩|⟨Q,V,J,B,Y,Z,a0,S,N,A⟩:=E.2
     ·cases B
     ·injection B with F hn u
      injection F with F;injection F with F;subst F
      refine⟨g,j*sz+off,fun i=>(xs[j*sz+off+i]?).getD (.bool true),rfl,fun i c k=>?_⟩;have y:∃c0,L[off+i]?=some c0∧(c=c0∧id<TG∨c=c0.wc):=by
       subst d;split at k
       ·rename_i U;rw[ahn]at k;exact⟨c,k,.inl ⟨rfl,U⟩⟩
       ·rw[Do,ahn]at k;cases R:L[off+i]? with
        | none=>rw[R]at k;cases k
        | some c0=>rw[R]at k;injection k with k;exact⟨c0,rfl,.inr k.symm⟩
      obtain⟨c0,y,M⟩:=y;obtain⟨x,D,I⟩:=X j L K _ c0 y;rw[O]at D;have P:xs[j*sz+off+i]?=some x:=by rw[alD];exact D
      have r:=W _ (mm D);have G:Rel (NN H.M ι) w bH c x:=by
       rcases M with⟨rfl,U⟩|rfl
       ·exact I.flat (by omega)
       ·exact I.wc r
      rw[alD];simp only[P,aag];refine⟨?_,r,G.mono (la _) (fun _ _ h=>h) (fun _ _ _=>rfl) (fun _ _ h=>by cases h)⟩;rw[alJ w g _ J _ (0,0) Z];rw[←A,By]at D;split at D
      ·simpa using D
      ·cases D
   ·cases d
 | cptr _ m b o l Y hn f k I =>
  injection d with d;subst d
  exact⟨b,o,l,rfl,fun i c u=>⟨k i c u,f i,(I i c u).mono (by omega) (fun _ _ h=>h) (fun _ _ _=>rfl) (fun _ _ h=>by cases h)⟩⟩
 | _=>cases d
def iV(P:Program)(T:TypeId)(cs:c6):Option AV :=
 match qz P T with
 | some true=>match cr P T with
  | some n=>if n≤cs.length then some (.agg (cs.take n)) else none
  | none=>none
 | some false=>cs.head?
 | none=>none
theorem Lq{P:Program}{w:World}{N:Nat→Prop}{ι:Env}{T:TypeId}{cs:c6}{v:AV}(h:iV P T cs=some v){b o:Nat}{e:Nat→Value}
  (l:∀(i:Nat) (c:AV),cs[i]?=some c→w.cell? ⟨b,o+i,none⟩=some (e i)∧(e i).oneCell'=true∧Rel N w ι c (e i)) :
  ∃x,(Instr.loadAt T (.pointer (some ⟨b,o,none⟩))).run P w=.ok x w∧Rel N w ι v x:=by
 unfold iV at h;cases k:P.underlying T with
 | none=>simp[qz,k]at h
 | some d =>
  cases p:d.isRow with
  | true =>
   simp only[qz,k,aa3,p]at h;cases s:cr P T with
   | none=>simp[s]at h
   | some n =>
    simp only[s]at h;split at h
    ·rename_i A;injection h with h;subst h
     have f:∀i,((List.range n).map e)[i]?=if i<n then some (e i) else none:=fun i=>by
      by_cases hi:i<n<;>simp[hi]
     have B:w.rangeAt b o ((List.range n).map e):=fun j y a=>by
      rw[f]at a;split at a
      ·rename_i D;injection a with a;subst a
       have r:j<cs.length:=by omega
       exact(l j cs[j] (j3 r)).1
      ·cases a
     refine⟨_,run_loadAt_mid w b o T _ d B k p (by rw[nw,List.length_range];exact s),.agg _ _ _ (by simp;omega) (fun y a=>?_) (fun i c y m a=>?_)⟩
     ·obtain⟨i,hi,rfl⟩:=Dy.1 a;have q:i<cs.length:=by have:=ag5.1 hi;omega
      exact(l i cs[i] (j3 q)).2.1
     ·rw[f]at a;rw[By]at m;split at a
      ·rename_i hi;rw[lp hi]at m;injection a with a;subst a
       exact(l i c m).2.2
      ·cases a
    ·cases h
  | false =>
   simp only[qz,k,aa3,p]at h;have z:cs[0]?=some v:=by simpa[amv]using h
   obtain⟨t,C,u⟩:=l 0 v z;refine⟨e 0,?_,u⟩;have g:(isAgg T).run P w=.ok false w:=by
    unfold isAgg;rw[sj,ob k w];cases d<;>simp_all
   simp only[ak5]at t;simp[Instr.loadAt,Instr.sureAddr,loadVar,g,t]
def Good(b:Cx)(ι:Env)(s':AS)(a:Act)(o:Oper)(r:Result Next):Prop :=
 ∃ι',(∀i,some i≠o.dst→ι i=none→ι' i=none)∧((∃x w',r=.ok (.value x) w'∧aV b s' (a.put o.dst x) w' ι')∨(∃w',r=.ok .skip w'∧aV b s' (a.put o.dst undef) w' ι'))
def ij(k:IntKind)(x y:Int):Int:=k.wrap (BitVec.ofInt k.bits x &&& BitVec.ofInt k.bits y).toNat
def fj(k:IntKind)(x y:Int):Int:=k.wrap (BitVec.ofInt k.bits x ||| BitVec.ofInt k.bits y).toNat
def Ai:BinOp→AV→AV→Option AV
 | .add,.int k x,.int a y=>if k=a then some (.int k (k.wrap (x+y))) else none
 | .sub,.int k x,.int a y=>if k=a then some (.int k (k.wrap (x-y))) else none
 | .mul,.int k x,.int a y=>if k=a then some (.int k (k.wrap (x*y))) else none
 | .quo,.int k x,.int a y=>if k=a∧¬ y=0 then some (.int k (k.wrap (x.tdiv y))) else none
 | .rem,.int k x,.int a y=>if k=a∧¬ y=0 then some (.int k (x.tmod y)) else none
 | .shr,.int k x,.int _ y=>if 0≤y then some (.int k (x / 2 ^ min y.toNat k.bits)) else none
 | .and,.int k x,.int a y=>if k=a then some (.int k (ij k x y)) else none
 | .or,.int k x,.int a y=>if k=a then some (.int k (fj k x y)) else none
 | .shl,.int k x,.int _ y=>if 0≤y then some (.int k (k.wrap (x*2 ^ min y.toNat k.bits))) else none
 | .eql,.int k x,.int a y=>if k=a then some (.bool (x == y)) else none
 | .neq,.int k x,.int a y=>if k=a then some (.bool (x != y)) else none
 | .lss,.int k x,.int a y=>if k=a then some (.bool (decide (x<y))) else none
 | .leq,.int k x,.int a y=>if k=a then some (.bool (decide (x≤y))) else none
 | .gtr,.int k x,.int a y=>if k=a then some (.bool (decide (x>y))) else none
 | .geq,.int k x,.int a y=>if k=a then some (.bool (decide (x≥y))) else none
 | .eql,.str x,.str y=>some (.bool (x.toList == y.toList))
 | .neq,.str x,.str y=>some (.bool (!(x.toList == y.toList)))
 | _,_,_=>none
theorem Xc {P:Program} {w:World} {N:Nat→Prop} {ι:Env} {op:BinOp} {u v r:AV} (h:Ai op u v=some r) {x y:Value} (d:Rel N w ι u x) (e:Rel N w ι v y) (T:TypeId) (a b:Operand) :
    ∃z,(do eqGuard op T a b x y;binOp op T x y).run P w=.ok z w∧Rel N w ι r z:=by
  unfold Ai at h;split at h<;>first
    | (cases h;done)
    | (cases d;cases e
       split at h
       · rename_i c
         first
          | (obtain⟨rfl,g⟩:=c;injection h with h;subst h
             refine⟨_,?_,.int _ _ _⟩;simp[eqGuard,binOp,Op.intDiv,g])
          | (injection h with h;subst h
             refine⟨_,?_,.int _ _ _⟩;simp[eqGuard,binOp,Op.shift,Int.not_lt.mpr c]
             done)
          | (have f:=fun k i x=>shift_shr_any k i x _ c
             injection h with h;subst h
             refine⟨_,?_,.int _ _ _⟩;simp[eqGuard,binOp,f]
             done)
          | (subst c;injection h with h;subst h
             first
              | (refine⟨_,?_,.int _ _ _⟩;simp[eqGuard,binOp,Op.intArith];done)
              | (refine⟨_,?_,.int _ _ _⟩;simp[eqGuard,binOp,Op.intBits,ij,fj];done)
              | (refine⟨_,?_,.bool _ _⟩;simp[eqGuard,binOp,Op.intCmp];done))
       · cases h)
    | (cases d;cases e
       injection h with h;subst h
       refine⟨_,?_,.bool _ _⟩;simp[eqGuard,binOp,Op.stringOp])
def E3:UnOp→AV→Option AV
 | .not,.bool b=>some (.bool (!b))
 | .neg,.int k x=>some (.int k (k.wrap (0-x)))
 | _,_=>none
theorem Yy{P}{w}{N}{ι}{op}{u r}(h:E3 op u=some r){x}(a:Rel N w ι u x):
  ∃z,(Op.unary op x).run P w=.ok z w∧Rel N w ι r z:=by
 unfold E3 at h;split at h<;>first|grind|(cases a;injection h with h;subst h;first|exact⟨_,rfl,.bool _ _⟩|exact⟨_,rfl,.int _ _ _⟩)
def Qn(b:Bool)(x y:Option AV):Option AV :=
 match x,y with
 | some (.bool p),some (.bool q)=>some (.bool (bif b then p else q))
 | x,y=>if b=true then x else y
end Go.Proofs.YtocgkfoifehcbaaGreat
