/- The operations on abstract values: a function that computes, and the proof that the run does the same. No program in sight. -/
import Derived.Test.YtocgkfoifehcbaaGreatRkAmem
namespace Go.Proofs.YtocgkfoifehcbaaGreat
set_option linter.all false
open Go.RowKit
abbrev es:=Nat×Nat
def jf:=@List.getElem?_eq_some_iff
def jt:=@List.getElem?_eq_getElem
def la:=@Array.getElem?_eq_getElem
def ll:=@Nat.le_refl
def mm:=@List.mem_of_getElem?
def nx:=@List.length_map
def pt:=@run_underlying
def sj:=@Sem.run_bind
def AT:=@List.getElem?_map
def BY:=@List.mem_map
def In:=@List.getElem?_take
def Ts:=@Option.getD_some
def aaU:=@Option.map_some
def aa8:=@List.mem_range
def ac9:=@List.getElem?_drop
def akF:=@Nat.add_zero
def ak7:=@Nat.add_assoc
def ald:=@cell_of_row
def alZ:=@List.head?_eq_getElem?
def cC(P:Program)(T:TypeId):Option Nat:=(P.info? T).map (·.size)
def pg(P:Program)(T:TypeId):Option Bool:=(P.underlying T).map (·.isRow)
def Hm(P:Program)(T:TypeId)(f:Nat):Option Nat :=
 match P.underlying T with
 | some (.struct a)=>match a[f]? with
  | some g=>match cC P g.type with
   | some (_+1)=>some g.offset
   | _=>none
  | none=>none
 | _=>none
def nK(P:Program)(T:TypeId):Option es :=
 match P.underlying T with
 | some (.array n e)=>(cC P e).map (n,·)
 | _=>none
def gu(P:Program)(T:TypeId):Option (TypeId×Nat) :=
 match P.underlying T with
 | some (.slice e)=>(cC P e).map (e,·)
 | _=>none
def N8(P:Program)(T:TypeId):Bool:=match P.underlying T with|some .string=>true|_=>false
def eZ(P:Program)(T:TypeId):Option c6:=((P.info? T).bind (·.zero)).bind fun z=>mX z.cells.toList
def FF(P:Program)(T:TypeId):Option (List es) :=
 match P.underlying T with
 | some (.struct a)=>a.toList.mapM fun f=>(cC P f.type).map (f.offset,·)
 | some (.array n e)=>(cC P e).map fun k=>(List.range n).map fun i=>(i*k,k)
 | _=>none
def AS.mem(s:AS):AV→Option c6
 | .ptr id off=>match look id s.o with|some cs=>some (cs.drop off)|none=>none
 | .pp id _ off=>match look id s.o with|some cs=>some (cs.drop off)|none=>none
 | .cptr cs=>some cs
 | .eptr id sz j off=>match look id s.r with
  | some a=>if a.sz=sz then match a.l[j]? with|some e=>some (if id<TG then e.drop off else (e.drop off).map AV.wc)|none=>none else none
  | none=>none
 | _=>none
theorem U8{H:Cx}{s:AS}{a:Act}{w:World}{ι:Env}(h:aU H s a w ι){p:AV}{x:Value}(hp:Rel (NN H.M ι) w ι p x){cs:c6}(d:s.mem p=some cs):
  ∃(b o:Nat) (l:Nat→Value),x=.pointer (some ⟨b,o,none⟩)∧∀(i:Nat) (c:AV),cs[i]?=some c→w.cell? ⟨b,o+i,none⟩=some (l i)∧(l i).oneCell'=true∧Rel (NN H.M ι) w ι c (l i):=by
 cases hp with
 | ptr _ id off g t =>
  simp only[AS.mem]at d;cases e:look id s.o with
  | none=>rw[e]at d;cases d
  | some m =>
   rw[e]at d;injection d with d;subst d
   obtain⟨Q,T,vs,f,E,q⟩:=h.hs.objs id m e (by rw[t];rfl);rw[t]at f;injection f with f;injection f with f;injection f with f;injection f with f;subst f
   refine⟨g,off,fun i=>(vs[off+i]?).getD (.bool true),rfl,fun i c k=>?_⟩;rw[ac9]at k;have z:off+i<vs.size:=by have:=(jf.1 k).1;rw[q.len]at this;simpa using this
   have B:vs[off+i]?=some vs[off+i]:=la z;have C:vs.toList[off+i]?=some vs[off+i]:=by simp
   rw[ald w g _ vs T (0,0) E];simp only[B,Ts];exact⟨trivial,q.one _ (by simp),q.rel _ _ _ k C⟩
 | pp _ id g off t =>
  simp only[AS.mem]at d;cases e:look id s.o with
  | none=>rw[e]at d;cases d
  | some m =>
   rw[e]at d;injection d with d;subst d
   obtain⟨Q,T,vs,f,E,q⟩:=h.hs.objs id m e (by rw[t];rfl);rw[t]at f;injection f with f;injection f with f;injection f with f;injection f with f;subst f
   refine⟨g,off,fun i=>(vs[off+i]?).getD (.bool true),rfl,fun i c k=>?_⟩;rw[ac9]at k;have z:off+i<vs.size:=by have:=(jf.1 k).1;rw[q.len]at this;simpa using this
   have B:vs[off+i]?=some vs[off+i]:=la z;have C:vs.toList[off+i]?=some vs[off+i]:=by simp
   rw[ald w g _ vs T (0,0) E];simp only[B,Ts];exact⟨trivial,q.one _ (by simp),q.rel _ _ _ k C⟩
 | eptr _ id sz j off g n c t =>
  simp only[AS.mem]at d;cases e:look id s.r with
  | none=>rw[e]at d;cases d
  | some ar =>
   simp only[e]at d;split at d
   ·rename_i O;cases K:ar.l[j]? with
    | none=>rw[K]at d;cases d
    | some L =>
     rw[K]at d;injection d with d
     obtain⟨v,xs,f,E,q,W,X⟩:=h.hs.arrs id ar e (by rw[t];rfl);rw[t]at f;injection f with f;subst f
     obtain⟨B,_⟩|⟨Q,V,J,B,Y,Z,a0,S,N,A⟩:=E.2
     ·cases B
     ·injection B with F hn u
      injection F with F;injection F with F;subst F
      refine⟨g,j*sz+off,fun i=>(xs[j*sz+off+i]?).getD (.bool true),rfl,fun i c k=>?_⟩;have y:∃c0,L[off+i]?=some c0∧(c=c0∧id<TG∨c=c0.wc):=by
       subst d;split at k
       ·rename_i U;rw[ac9]at k;exact⟨c,k,.inl ⟨rfl,U⟩⟩
       ·rw[AT,ac9]at k;cases R:L[off+i]? with
        | none=>rw[R]at k;cases k
        | some c0=>rw[R]at k;injection k with k;exact⟨c0,rfl,.inr k.symm⟩
      obtain⟨c0,y,M⟩:=y;obtain⟨x,D,I⟩:=X j L K _ c0 y;rw[O]at D;have P:xs[j*sz+off+i]?=some x:=by rw[ak7];exact D
      have r:=W _ (mm D);have G:Rel (NN H.M ι) w bG c x:=by
       rcases M with⟨rfl,U⟩|rfl
       ·exact I.flat (by omega)
       ·exact I.wc r
      rw[ak7];simp only[P,Ts];refine⟨?_,r,G.mono (ll _) (fun _ _ h=>h) (fun _ _ _=>rfl) (fun _ _ h=>by cases h)⟩;rw[ald w g _ J _ (0,0) Z];rw[←A,In]at D;split at D
      ·simpa using D
      ·cases D
   ·cases d
 | cptr _ m b o l Y hn f k I =>
  injection d with d;subst d
  exact⟨b,o,l,rfl,fun i c u=>⟨k i c u,f i,(I i c u).mono (by omega) (fun _ _ h=>h) (fun _ _ _=>rfl) (fun _ _ h=>by cases h)⟩⟩
 | _=>cases d
def iq(P:Program)(T:TypeId)(cs:c6):Option AV :=
 match pg P T with
 | some true=>match cC P T with
  | some n=>if n≤cs.length then some (.agg (cs.take n)) else none
  | none=>none
 | some false=>cs.head?
 | none=>none
theorem Qg{P:Program}{w:World}{N:Nat→Prop}{ι:Env}{T:TypeId}{cs:c6}{v:AV}(h:iq P T cs=some v){b o:Nat}{e:Nat→Value}
  (m:∀(i:Nat) (c:AV),cs[i]?=some c→w.cell? ⟨b,o+i,none⟩=some (e i)∧(e i).oneCell'=true∧Rel N w ι c (e i)) :
  ∃x,(Instr.loadAt T (.pointer (some ⟨b,o,none⟩))).run P w=.ok x w∧Rel N w ι v x:=by
 unfold iq at h;cases l:P.underlying T with
 | none=>simp[pg,l]at h
 | some d =>
  cases q:d.isRow with
  | true =>
   simp only[pg,l,aaU,q]at h;cases t:cC P T with
   | none=>simp[t]at h
   | some n =>
    simp only[t]at h;split at h
    ·rename_i B;injection h with h;subst h
     have f:∀i,((List.range n).map e)[i]?=if i<n then some (e i) else none:=fun i=>by
      by_cases k:i<n<;>simp[k]
     have C:w.rangeAt b o ((List.range n).map e):=fun j y a=>by
      rw[f]at a;split at a
      ·rename_i E;injection a with a;subst a
       have s:j<cs.length:=by omega
       exact(m j cs[j] (jt s)).1
      ·cases a
     refine⟨_,run_loadAt_mid w b o T _ d C l q (by rw[nx,List.length_range];exact t),.agg _ _ _ (by simp;omega) (fun y a=>?_) (fun i c y p a=>?_)⟩
     ·obtain⟨i,k,rfl⟩:=BY.1 a;have r:i<cs.length:=by have:=aa8.1 k;omega
      exact(m i cs[i] (jt r)).2.1
     ·rw[f]at a;rw[In]at p;split at a
      ·rename_i k;rw[lc k]at p;injection a with a;subst a
       exact(m i c p).2.2
      ·cases a
    ·cases h
  | false =>
   simp only[pg,l,aaU,q]at h;have A:cs[0]?=some v:=by simpa[alZ]using h
   obtain⟨u,D,z⟩:=m 0 v A;refine⟨e 0,?_,z⟩;have g:(isAgg T).run P w=.ok false w:=by
    unfold isAgg;rw[sj,pt l w];cases d<;>simp_all
   simp only[akF]at u;simp[Instr.loadAt,Instr.sureAddr,loadVar,g,u]
def Good(b:Cx)(ι:Env)(s':AS)(a:Act)(o:Oper)(r:Result Next):Prop :=
 ∃ι',(∀i,some i≠o.dst→ι i=none→ι' i=none)∧((∃x w',r=.ok (.value x) w'∧aU b s' (a.put o.dst x) w' ι')∨(∃w',r=.ok .skip w'∧aU b s' (a.put o.dst undef) w' ι'))
def gP(k:IntKind)(x y:Int):Int:=k.wrap (BitVec.ofInt k.bits x &&& BitVec.ofInt k.bits y).toNat
def fg(k:IntKind)(x y:Int):Int:=k.wrap (BitVec.ofInt k.bits x ||| BitVec.ofInt k.bits y).toNat
def tJ:BinOp→AV→AV→Option AV
 | .add,.int k x,.int a y=>if k=a then some (.int k (k.wrap (x+y))) else none
 | .sub,.int k x,.int a y=>if k=a then some (.int k (k.wrap (x-y))) else none
 | .mul,.int k x,.int a y=>if k=a then some (.int k (k.wrap (x*y))) else none
 | .quo,.int k x,.int a y=>if k=a∧¬ y=0 then some (.int k (k.wrap (x.tdiv y))) else none
 | .rem,.int k x,.int a y=>if k=a∧¬ y=0 then some (.int k (x.tmod y)) else none
 | .shr,.int k x,.int _ y=>if 0≤y then some (.int k (x / 2 ^ min y.toNat k.bits)) else none
 | .and,.int k x,.int a y=>if k=a then some (.int k (gP k x y)) else none
 | .or,.int k x,.int a y=>if k=a then some (.int k (fg k x y)) else none
 | .shl,.int k x,.int _ y=>if 0≤y then some (.int k (k.wrap (x*2 ^ min y.toNat k.bits))) else none
 | .eql,.int k x,.int a y=>if k=a then some (.bool (x == y)) else none
 | .neq,.int k x,.int a y=>if k=a then some (.bool (x != y)) else none
 | .lss,.int k x,.int a y=>if k=a then some (.bool (decide (x<y))) else none
 | .leq,.int k x,.int a y=>if k=a then some (.bool (decide (x≤y))) else none
 | .gtr,.int k x,.int a y=>if k=a then some (.bool (decide (x>y))) else none
 | .geq,.int k x,.int a y=>if k=a then some (.bool (decide (x≥y))) else none
 | .eql,.str x,.str y=>some (.bool (x.toList == y.toList))
 | .neq,.str x,.str y=>some (.bool (!(x.toList == y.toList)))
 | _,_,_=>none
theorem aa2 {P:Program} {w:World} {N:Nat→Prop} {ι:Env} {op:BinOp} {u v r:AV} (h:tJ op u v=some r) {x y:Value} (d:Rel N w ι u x) (e:Rel N w ι v y) (T:TypeId) (a b:Operand) :
    ∃z,(do eqGuard op T a b x y;binOp op T x y).run P w=.ok z w∧Rel N w ι r z:=by
  unfold tJ at h;split at h<;>first
    | (cases h;done)
    | (cases d;cases e
       split at h
       · rename_i c
         first
          | (obtain⟨rfl,g⟩:=c;injection h with h;subst h
             refine⟨_,?_,.int _ _ _⟩;simp[eqGuard,binOp,Op.intDiv,g])
          | (injection h with h;subst h
             refine⟨_,?_,.int _ _ _⟩;simp[eqGuard,binOp,Op.shift,Int.not_lt.mpr c]
             done)
          | (have f:=fun k i x=>shift_shr_any k i x _ c
             injection h with h;subst h
             refine⟨_,?_,.int _ _ _⟩;simp[eqGuard,binOp,f]
             done)
          | (subst c;injection h with h;subst h
             first
              | (refine⟨_,?_,.int _ _ _⟩;simp[eqGuard,binOp,Op.intArith];done)
              | (refine⟨_,?_,.int _ _ _⟩;simp[eqGuard,binOp,Op.intBits,gP,fg];done)
              | (refine⟨_,?_,.bool _ _⟩;simp[eqGuard,binOp,Op.intCmp];done))
       · cases h)
    | (cases d;cases e
       injection h with h;subst h
       refine⟨_,?_,.bool _ _⟩;simp[eqGuard,binOp,Op.stringOp])
def HQ:UnOp→AV→Option AV
 | .not,.bool b=>some (.bool (!b))
 | .neg,.int k x=>some (.int k (k.wrap (0-x)))
 | _,_=>none
theorem aeU{P}{w}{N}{ι}{op}{u r}(h:HQ op u=some r){x}(a:Rel N w ι u x):
  ∃z,(Op.unary op x).run P w=.ok z w∧Rel N w ι r z:=by
 unfold HQ at h;split at h<;>first|grind|(cases a;injection h with h;subst h;first|exact⟨_,rfl,.bool _ _⟩|exact⟨_,rfl,.int _ _ _⟩)
def Tg(b:Bool)(x y:Option AV):Option AV :=
 match x,y with
 | some (.bool p),some (.bool q)=>some (.bool (bif b then p else q))
 | x,y=>if b=true then x else y
end Go.Proofs.YtocgkfoifehcbaaGreat
