/- The operations on abstract values: a function that computes, and the proof that the run does the same. No program in sight. -/
import Derived.Test.YtocgkfoifehcbaaGreatRfAmem
namespace Go.Proofs.YtocgkfoifehcbaaGreat
set_option linter.all false
open Go.RowKit
def bU(P:Program)(T:TypeId):Option Nat:=(P.info? T).map (·.size)
def lG(P:Program)(T:TypeId):Option Bool:=(P.underlying T).map (·.isRow)
def xH(P:Program)(T:TypeId)(f:Nat):Option Nat :=
 match P.underlying T with
 | some (.struct fs)=>match fs[f]? with
  | some g=>match bU P g.type with
   | some (_+1)=>some g.offset
   | _=>none
  | none=>none
 | _=>none
def ke(P:Program)(T:TypeId):Option (Nat×Nat) :=
 match P.underlying T with
 | some (.array n e)=>(bU P e).map (n,·)
 | _=>none
def eI(P:Program)(T:TypeId):Option (TypeId×Nat) :=
 match P.underlying T with
 | some (.slice e)=>(bU P e).map (e,·)
 | _=>none
def GK(P:Program)(T:TypeId):Bool:=match P.underlying T with|some .string=>true|_=>false
def eg(P:Program)(T:TypeId):Option (List AV):=((P.info? T).bind (·.zero)).bind fun z=>j4 z.cells.toList
def B9(P:Program)(T:TypeId):Option (List (Nat×Nat)) :=
 match P.underlying T with
 | some (.struct fs)=>fs.toList.mapM fun f=>(bU P f.type).map (f.offset,·)
 | some (.array n e)=>(bU P e).map fun k=>(List.range n).map fun i=>(i*k,k)
 | _=>none
def AS.mem(s:AS):AV→Option (List AV)
 | .ptr id off=>match look id s.o with|some cs=>some (cs.drop off)|none=>none
 | .pp id _ off=>match look id s.o with|some cs=>some (cs.drop off)|none=>none
 | .cptr cs=>some cs
 | .eptr id sz j off=>match look id s.r with
  | some a=>if a.sz=sz then match a.l[j]? with|some e=>some (if id<TG then e.drop off else (e.drop off).map AV.nt)|none=>none else none
  | none=>none
 | _=>none
theorem Ge{cx:Cx}{s:AS}{a:Act}{w:World}{ι:Env}(h:aN cx s a w ι){p:AV}{x:Value}(hp:Rel (NN cx.M ι) w ι p x){cs:List AV}(hm:s.mem p=some cs):
  ∃(b o:Nat) (val:Nat→Value),x=.pointer (some ⟨b,o,none⟩)∧∀(i:Nat) (c:AV),cs[i]?=some c→w.cell? ⟨b,o+i,none⟩=some (val i)∧(val i).oneCell'=true∧Rel (NN cx.M ι) w ι c (val i):=by
 cases hp with
 | ptr _ id off g hι =>
  simp only[AS.mem]at hm;cases e:look id s.o with
  | none=>rw[e]at hm;cases hm
  | some cs0 =>
   rw[e]at hm;injection hm with hm;subst hm
   obtain⟨g',T,vs,h1,h2,h3⟩:=h.hs.objs id cs0 e (by rw[hι];rfl);rw[hι]at h1;injection h1 with h1;injection h1 with h1;injection h1 with h1;injection h1 with h1;subst h1
   refine⟨g,off,fun i=>(vs[off+i]?).getD (.bool true),rfl,fun i c hc=>?_⟩;rw[List.getElem?_drop]at hc;have hlt:off+i<vs.size:=by have:=(List.getElem?_eq_some_iff.1 hc).1;rw[h3.len]at this;simpa using this
   have hv:vs[off+i]?=some vs[off+i]:=Array.getElem?_eq_getElem hlt;have hv':vs.toList[off+i]?=some vs[off+i]:=by simp
   rw[cell_of_row w g _ vs T (0,0) h2];simp only[hv,Option.getD_some];exact⟨trivial,h3.one _ (by simp),h3.rel _ _ _ hc hv'⟩
 | pp _ id g off hι =>
  simp only[AS.mem]at hm;cases e:look id s.o with
  | none=>rw[e]at hm;cases hm
  | some cs0 =>
   rw[e]at hm;injection hm with hm;subst hm
   obtain⟨g',T,vs,h1,h2,h3⟩:=h.hs.objs id cs0 e (by rw[hι];rfl);rw[hι]at h1;injection h1 with h1;injection h1 with h1;injection h1 with h1;injection h1 with h1;subst h1
   refine⟨g,off,fun i=>(vs[off+i]?).getD (.bool true),rfl,fun i c hc=>?_⟩;rw[List.getElem?_drop]at hc;have hlt:off+i<vs.size:=by have:=(List.getElem?_eq_some_iff.1 hc).1;rw[h3.len]at this;simpa using this
   have hv:vs[off+i]?=some vs[off+i]:=Array.getElem?_eq_getElem hlt;have hv':vs.toList[off+i]?=some vs[off+i]:=by simp
   rw[cell_of_row w g _ vs T (0,0) h2];simp only[hv,Option.getD_some];exact⟨trivial,h3.one _ (by simp),h3.rel _ _ _ hc hv'⟩
 | eptr _ id sz j off g n c hι =>
  simp only[AS.mem]at hm;cases e:look id s.r with
  | none=>rw[e]at hm;cases hm
  | some ar =>
   simp only[e]at hm;split at hm
   ·rename_i hsz;cases e2:ar.l[j]? with
    | none=>rw[e2]at hm;cases hm
    | some el =>
     rw[e2]at hm;injection hm with hm
     obtain⟨v,xs,h1,h2,h3,h4,h5⟩:=h.hs.arrs id ar e (by rw[hι];rfl);rw[hι]at h1;injection h1 with h1;subst h1
     obtain⟨hv,_⟩|⟨g',cap,cur,hv,hb,hg,hle,hcap,hsize,htake⟩:=h2.2
     ·cases hv
     ·injection hv with hA hn hc'
      injection hA with hA;injection hA with hA;subst hA
      refine⟨g,j*sz+off,fun i=>(xs[j*sz+off+i]?).getD (.bool true),rfl,fun i c hc=>?_⟩;have hc0:∃c0,el[off+i]?=some c0∧(c=c0∧id<TG∨c=c0.nt):=by
       subst hm;split at hc
       ·rename_i ht;rw[List.getElem?_drop]at hc;exact⟨c,hc,.inl ⟨rfl,ht⟩⟩
       ·rw[List.getElem?_map,List.getElem?_drop]at hc;cases h0:el[off+i]? with
        | none=>rw[h0]at hc;cases hc
        | some c0=>rw[h0]at hc;injection hc with hc;exact⟨c0,rfl,.inr hc.symm⟩
      obtain⟨c0,hc0,hcc⟩:=hc0;obtain⟨x,hx,hr⟩:=h5 j el e2 _ c0 hc0;rw[hsz]at hx;have hx':xs[j*sz+off+i]?=some x:=by rw[Nat.add_assoc];exact hx
      have hone:=h4 _ (List.mem_of_getElem? hx);have hrel:Rel (NN cx.M ι) w bn c x:=by
       rcases hcc with⟨rfl,ht⟩|rfl
       ·exact hr.flat (by omega)
       ·exact hr.nt hone
      rw[Nat.add_assoc];simp only[hx',Option.getD_some];refine⟨?_,hone,hrel.mono (Nat.le_refl _) (fun _ _ h=>h) (fun _ _ _=>rfl) (fun _ _ h=>by cases h)⟩;rw[cell_of_row w g _ cur _ (0,0) hg];rw[←htake,List.getElem?_take]at hx;split at hx
      ·simpa using hx
      ·cases hx
   ·cases hm
 | cptr _ cs0 b o val hb hn h1 hc hr =>
  injection hm with hm;subst hm
  exact⟨b,o,val,rfl,fun i c hc'=>⟨hc i c hc',h1 i,(hr i c hc').mono (Nat.le_refl _) (fun _ _ h=>h) (fun _ _ _=>rfl) (fun _ _ h=>by cases h)⟩⟩
 | _=>cases hm
def fy(P:Program)(T:TypeId)(cs:List AV):Option AV :=
 match lG P T with
 | some true=>match bU P T with
  | some n=>if n≤cs.length then some (.agg (cs.take n)) else none
  | none=>none
 | some false=>cs.head?
 | none=>none
theorem Es{P:Program}{w:World}{N:Nat→Prop}{ι:Env}{T:TypeId}{cs:List AV}{v:AV}(h:fy P T cs=some v){b o:Nat}{val:Nat→Value}
  (hv:∀(i:Nat) (c:AV),cs[i]?=some c→w.cell? ⟨b,o+i,none⟩=some (val i)∧(val i).oneCell'=true∧Rel N w ι c (val i)) :
  ∃x,(Instr.loadAt T (.pointer (some ⟨b,o,none⟩))).run P w=.ok x w∧Rel N w ι v x:=by
 unfold fy at h;cases hu:P.underlying T with
 | none=>simp[lG,hu]at h
 | some d =>
  cases hd:d.isRow with
  | true =>
   simp only[lG,hu,Option.map_some,hd]at h;cases hz:bU P T with
   | none=>simp[hz]at h
   | some n =>
    simp only[hz]at h;split at h
    ·rename_i hle;injection h with h;subst h
     have hget:∀i,((List.range n).map val)[i]?=if i<n then some (val i) else none:=fun i=>by
      by_cases hi:i<n<;>simp[hi]
     have hr:w.rangeAt b o ((List.range n).map val):=fun j y hy=>by
      rw[hget]at hy;split at hy
      ·rename_i hj;injection hy with hy;subst hy
       have hj':j<cs.length:=by omega
       exact(hv j cs[j] (List.getElem?_eq_getElem hj')).1
      ·cases hy
     refine⟨_,run_loadAt_mid w b o T _ d hr hu hd (by rw[List.length_map,List.length_range];exact hz),.agg _ _ _ (by simp;omega) (fun y hy=>?_) (fun i c y hc hy=>?_)⟩
     ·obtain⟨i,hi,rfl⟩:=List.mem_map.1 hy;have hi':i<cs.length:=by have:=List.mem_range.1 hi;omega
      exact(hv i cs[i] (List.getElem?_eq_getElem hi')).2.1
     ·rw[hget]at hy;rw[List.getElem?_take]at hc;split at hy
      ·rename_i hi;rw[if_pos hi]at hc;injection hy with hy;subst hy
       exact(hv i c hc).2.2
      ·cases hy
    ·cases h
  | false =>
   simp only[lG,hu,Option.map_some,hd]at h;have h0:cs[0]?=some v:=by simpa[List.head?_eq_getElem?]using h
   obtain⟨e1,e2,e3⟩:=hv 0 v h0;refine⟨val 0,?_,e3⟩;have hagg:(isAgg T).run P w=.ok false w:=by
    unfold isAgg;rw[Sem.run_bind,run_underlying hu w];cases d<;>simp_all[TypeDesc.isRow]
   simp only[Nat.add_zero]at e1;simp[Instr.loadAt,Instr.sureAddr,loadVar,hagg,run_load,e1]
def Good(cx:Cx)(ι:Env)(s':AS)(a:Act)(o:Oper)(r:Result Next):Prop :=
 ∃ι',(∀i,some i≠o.dst→ι i=none→ι' i=none)∧((∃x w',r=.ok (.value x) w'∧aN cx s' (a.put o.dst x) w' ι')∨(∃w',r=.ok .skip w'∧aN cx s' (a.put o.dst undef) w' ι'))
def fb(k:IntKind)(x y:Int):Int:=k.wrap ((BitVec.ofInt k.bits x &&& BitVec.ofInt k.bits y).toNat:Int)
def dH(k:IntKind)(x y:Int):Int:=k.wrap ((BitVec.ofInt k.bits x ||| BitVec.ofInt k.bits y).toNat:Int)
def tJ:BinOp→AV→AV→Option AV
 | .add,.int k x,.int k' y=>if k=k' then some (.int k (k.wrap (x+y))) else none
 | .sub,.int k x,.int k' y=>if k=k' then some (.int k (k.wrap (x-y))) else none
 | .mul,.int k x,.int k' y=>if k=k' then some (.int k (k.wrap (x*y))) else none
 | .quo,.int k x,.int k' y=>if k=k'∧¬ y=0 then some (.int k (k.wrap (x.tdiv y))) else none
 | .rem,.int k x,.int k' y=>if k=k'∧¬ y=0 then some (.int k (x.tmod y)) else none
 | .shr,.int k x,.int _ y=>if 0≤y then some (.int k (x / 2 ^ min y.toNat k.bits)) else none
 | .and,.int k x,.int k' y=>if k=k' then some (.int k (fb k x y)) else none
 | .or,.int k x,.int k' y=>if k=k' then some (.int k (dH k x y)) else none
 | .shl,.int k x,.int _ y=>if 0≤y then some (.int k (k.wrap (x*2 ^ min y.toNat k.bits))) else none
 | .eql,.int k x,.int k' y=>if k=k' then some (.bool (x == y)) else none
 | .neq,.int k x,.int k' y=>if k=k' then some (.bool (x != y)) else none
 | .lss,.int k x,.int k' y=>if k=k' then some (.bool (decide (x<y))) else none
 | .leq,.int k x,.int k' y=>if k=k' then some (.bool (decide (x≤y))) else none
 | .gtr,.int k x,.int k' y=>if k=k' then some (.bool (decide (x>y))) else none
 | .geq,.int k x,.int k' y=>if k=k' then some (.bool (decide (x≥y))) else none
 | .eql,.str x,.str y=>some (.bool (x.toList == y.toList))
 | .neq,.str x,.str y=>some (.bool (!(x.toList == y.toList)))
 | _,_,_=>none
theorem QW {P:Program} {w:World} {N:Nat→Prop} {ι:Env} {op:BinOp} {u v r:AV} (h:tJ op u v=some r) {x y:Value} (hu:Rel N w ι u x) (hv:Rel N w ι v y) (T:TypeId) (a b:Operand) :
    ∃z,(do eqGuard op T a b x y;binOp op T x y).run P w=.ok z w∧Rel N w ι r z:=by
  unfold tJ at h;split at h<;>first
    | (cases h;done)
    | (cases hu;cases hv
       split at h
       · rename_i hk
         first
          | (obtain⟨rfl,hy⟩:=hk;injection h with h;subst h
             refine⟨_,?_,.int _ _ _⟩;simp[eqGuard,binOp,Op.intDiv,hy])
          | (injection h with h;subst h
             refine⟨_,?_,.int _ _ _⟩;simp[eqGuard,binOp,Op.shift,Int.not_lt.mpr hk]
             done)
          | (have hs:=fun k yk x=>shift_shr_any k yk x _ hk
             injection h with h;subst h
             refine⟨_,?_,.int _ _ _⟩;simp[eqGuard,binOp,hs]
             done)
          | (subst hk;injection h with h;subst h
             first
              | (refine⟨_,?_,.int _ _ _⟩;simp[eqGuard,binOp,Op.intArith];done)
              | (refine⟨_,?_,.int _ _ _⟩;simp[eqGuard,binOp,Op.intBits,fb,dH];done)
              | (refine⟨_,?_,.bool _ _⟩;simp[eqGuard,binOp,Op.intCmp];done))
       · cases h)
    | (cases hu;cases hv
       injection h with h;subst h
       refine⟨_,?_,.bool _ _⟩;simp[eqGuard,binOp,Op.stringOp])
def zt:UnOp→AV→Option AV
 | .not,.bool b=>some (.bool (!b))
 | .neg,.int k x=>some (.int k (k.wrap (0-x)))
 | _,_=>none
theorem Ry{P:Program}{w:World}{N:Nat→Prop}{ι:Env}{op:UnOp}{u r:AV}(h:zt op u=some r){x:Value}(hu:Rel N w ι u x):
  ∃z,(Op.unary op x).run P w=.ok z w∧Rel N w ι r z:=by
 unfold zt at h;split at h<;>first|(cases h;done)|(cases hu;injection h with h;subst h;first|exact⟨_,rfl,.bool _ _⟩|exact⟨_,rfl,.int _ _ _⟩)
def IW(b:Bool)(x y:Option AV):Option AV :=
 match x,y with
 | some (.bool p),some (.bool q)=>some (.bool (bif b then p else q))
 | x,y=>if b=true then x else y
end Go.Proofs.YtocgkfoifehcbaaGreat
