/- More operations that yield a value and turn nothing: comparing structs, fields of values, conversions, parts of slices. No program in sight. -/
import Derived.Test.YtocgkfoifehcbaaGreatRdAop3
import Derived.Laws.StructEq
import Derived.Laws.Concat
import Derived.Laws.Cover4
import Derived.Laws.Runes
namespace Go.Proofs.YtocgkfoifehcbaaGreat
set_option linter.all false
open Go.RowKit
abbrev ck:=List Int
abbrev eq:=Int×Int
def jf:=@Bool.false_eq_true
def lc:=@of_decide_eq_true
def n3:=@List.all_eq_true
def pt:=@if_false
def qk:=@List.eq_nil_of_length_eq_zero
def qv:=@List.getElem_mem
def rl:=@List.map_cons
def ti:=@List.length_nil
def u5:=@Result.andThen_ok
def Qf:=@Sem.run_pure
def abM:=@Bool.not_true
def aiw:=@Nat.add_sub_cancel
def aiU:=@Array.toArray_toList
def ajC:=@beq_iff_eq
def akO:=@List.take_length
def ale:=@Nat.sub_zero
def alw:=@Bool.true_and
def al0:=@Array.map_empty
def amj:=@run_equalIn_bool'
theorem tX{P:Program}{N:Nat→Prop}{w:World}{ι:Env}{cs:c6}{vs:eg}(e:Cells N w ι cs vs){T:TypeId}{off:Nat}{v:AV}(h:iV P T (cs.drop off)=some v):
  ∃x,(part T vs.toArray off).run P w=.ok x w∧Rel N w ι v x:=by
 unfold iV at h;cases f:P.underlying T with
 | none=>simp[qz,f]at h
 | some d =>
  cases k:d.isRow with
  | true =>
   simp only[qz,f,aa3,k]at h;cases j:cr P T with
   | none=>simp[j]at h
   | some n =>
    simp only[j]at h;split at h
    ·rename_i p;injection h with h;subst h
     have a:(isAgg T).run P w=.ok true w:=by
      unfold isAgg;rw[sj,ob f w];cases d<;>simp_all[TypeDesc.isRow]
     cases hi:P.info? T with
     | none=>simp[cr,hi]at j
     | some r =>
      have q:r.size=n:=by simpa[cr,hi]using j
      refine⟨.agg ((vs.drop off).take n).toArray,?_,.agg _ _ _ (by simp[e.len]) (fun y c=>e.one y (OR (u6 c))) (fun i x y g c=>?_)⟩
      ·simp[part,a,sizeOf,typeInfo,hi,q,List.extract_eq_take_drop]
      ·rw[By]at g c;split at g
       ·rename_i b;rw[lp b]at c;rw[ahn]at g c;exact e.rel _ x y g c
       ·cases g
    ·cases h
  | false =>
   simp only[qz,f,aa3,k]at h;have o:cs[off]?=some v:=by simpa[amv]using h
   have b:off<vs.length:=by rw[←e.len];grind
   have m:=j3 (l:=vs) b;have a:(isAgg T).run P w=.ok false w:=by
    unfold isAgg;rw[sj,ob f w];cases d<;>simp_all
   refine⟨vs[off],?_,e.rel off v _ o m⟩;simp[part,a,m]
def yG(c:TypeId→AV→AV→Option Bool)(P:Program)(xs d:c6):List Field→Option Bool
 | []=>some true
 | f::e=>if f.name ≠ "_" then
   match iV P f.type (xs.drop f.offset),iV P f.type (d.drop f.offset) with
   | some a,some b=>match c f.type a b,yG c P xs d e with
    | some r,some q=>some (r&&q)
    | _,_=>none
   | _,_=>none
  else yG c P xs d e
def yR(c:AV→AV→Option Bool)(P:Program)(e:TypeId)(sz:Nat)(xs d:c6):Nat→Nat→Option Bool
 | _,0=>some true
 | i,k+1 =>
  match iV P e (xs.drop (i*sz)),iV P e (d.drop (i*sz)) with
  | some a,some b=>match c a b,yR c P e sz xs d (i+1) k with
   | some r,some q=>some (r&&q)
   | _,_=>none
  | _,_=>none
def j0(P:Program):Nat→TypeId→AV→AV→Option Bool
 | 0,_,_,_=>none
 | d+1,T,u,v=>match P.underlying T,u,v with
  | some .bool,.bool a,.bool b=>some (a == b)
  | some (.int _),.int k a,.int g b=>if k=g then some (a == b) else none
  | some .string,.str a,.str b=>some (a.toList == b.toList)
  | some (.struct f),.agg xs,.agg c=>if P.stoodInHeld T=true then none else yG (j0 P d) P xs c f.toList
  | some (.array n e),.agg xs,.agg c=>match cr P e with
   | some sz=>yR (j0 P d e) P e sz xs c 0 n
   | none=>none
  | _,_,_=>none
theorem FD{P:Program}{N:Nat→Prop}{w:World}{ι:Env}{d:Nat}(j:∀T u v r x y,j0 P d T u v=some r→Rel N w ι u x→Rel N w ι v y→(Op.equalIn d T x y).run P w=.ok r w)
  {xs m:c6} {as k:eg} (e:Cells N w ι xs as) (g:Cells N w ι m k):∀(c:List Field) (r:Bool),yG (j0 P d) P xs m c=some r→(Op.eqFields d as.toArray k.toArray c).run P w=.ok r w
 | [],r,h=>by injection h with h;subst h;simp[Op.eqFields]
 | f::c,r,h=>by
  unfold yG at h;unfold Op.eqFields;split at h
  ·rename_i i;rw[lp i];split at h
   ·rename_i a b A B;split at h
    ·rename_i l q C D;injection h with h;subst h
     obtain⟨x,n,o⟩:=tX e A;obtain⟨y,p,s⟩:=tX g B;have t:=j f.type a b l x y C o s;have z:=FD j e g c q D;simp only[sj,n,u5,p,t,Sem.run_ite,Qf,z];cases l<;>simp
    ·cases h
   grind
  ·rename_i i;rw[kc i];exact FD j e g c r h
theorem Ss{P:Program}{N:Nat→Prop}{w:World}{ι:Env}{d:Nat}{e:TypeId}{sz:Nat}(l:∀u v r x y,j0 P d e u v=some r→Rel N w ι u x→Rel N w ι v y→(Op.equalIn d e x y).run P w=.ok r w)
  {xs n:c6} {as c:eg} (f:Cells N w ι xs as) (g:Cells N w ι n c):∀(k i:Nat) (r:Bool),yR (j0 P d e) P e sz xs n i k=some r →
  (forIn (List.range' i k) ((none,()):Option Bool×Unit) (fun (j:Nat) (_:Option Bool×Unit)=>(do
    let a ← part e as.toArray (j*sz)
    let b ← part e c.toArray (j*sz)
    let q ← Op.equalIn d e a b
    if (!q)=true then pure (ForInStep.done (some false,())) else pure (ForInStep.yield (none,())):Sem (ForInStep (Option Bool×Unit)))):Sem (Option Bool×Unit)).run P w=.ok (if r=true then none else some false,()) w
 | 0,i,r,h=>by injection h with h;subst h;simp
 | k+1,i,r,h=>by
  unfold yR at h;split at h
  ·rename_i a b B C;split at h
   ·rename_i m q D E;injection h with h;subst h
    obtain⟨x,o,p⟩:=tX f B;obtain⟨y,s,t⟩:=tX g C;have z:=l a b m x y D p t;have A:=Ss l f g k (i+1) q E;rw[List.range'_succ,List.forIn_cons];simp only[sj,o,u5,s,z,Sem.run_ite,Qf];cases m
    ·simp
    ·simp only[abM,jf,pt,u5,alw];exact A
   grind
  grind
theorem agm{P}{N}{w}{ι}{d}{t e}{n sz}(j:P.underlying t=some (.array n e))(m:cr P e=some sz)
  (k:∀u v r x y,j0 P d e u v=some r→Rel N w ι u x→Rel N w ι v y→(Op.equalIn d e x y).run P w=.ok r w) {xs b} {as a} (c:Cells N w ι xs as) (f:Cells N w ι b a) {r} (h:yR (j0 P d e) P e sz xs b 0 n=some r) :
  (Op.equalIn (d+1) t (.agg as.toArray) (.agg a.toArray)).run P w=.ok r w:=by
 have i:(sizeOf e).run P w=.ok sz w:=by
  cases hi:P.info? e with
  | none=>grind[cr]
  | some l =>
   have : l.size=sz:=by grind[cr]
   simp[sizeOf,typeInfo,hi,this]
 simp only[Op.equalIn,sj,ob j,u5,i];rw[Std.Legacy.Range.forIn_eq_forIn_range'];have g:=Ss k c f n 0 r h;simp only[Std.Legacy.Range.size,ale,aiw,Nat.div_one];rw[g];cases r<;>simp
theorem Fe{P:Program}{N:Nat→Prop}{w:World}{ι:Env}:∀(d:Nat) (T:TypeId) (u v:AV) (r:Bool) (x y:Value),j0 P d T u v=some r→Rel N w ι u x→Rel N w ι v y→(Op.equalIn d T x y).run P w=.ok r w
 | 0,_,_,_,_,_,_,h,_,_=>by cases h
 | d+1,T,u,v,r,x,y,h,g,i=>by
  unfold j0 at h;split at h
  ·rename_i a;injection h with h;subst h;cases g;cases i;exact amj w d T _ _ a
  ·rename_i a;split at h
   ·rename_i q;subst q;injection h with h;subst h;cases g;cases i;exact run_equalIn_int w d T _ _ _ _ a
   ·cases h
  ·rename_i a;injection h with h;subst h;cases g;cases i;exact run_equalIn_string w d T _ _ a
  ·rename_i m xs z a;split at h
   ·cases h
   ·rename_i s;cases g with
    | agg _ _ as k j l =>
     cases i with
     | agg _ _ p c b f =>
      have o:P.fieldsOf T=m:=by unfold Program.fieldsOf;rw[a]
      rw[run_equalIn_struct w d T _ _ (by rw[o];exact a) (by simpa using s),o];exact FD (fun T u v r x y=>Fe d T u v r x y) ⟨k,j,l⟩ ⟨c,b,f⟩ m.toList r h
  ·rename_i n e xs z a;split at h
   ·rename_i sz t;cases g with
    | agg _ _ as k j l =>
     cases i with
     | agg _ _ p c b f =>
      exact agm a t (fun u v r x y=>Fe d e u v r x y) ⟨k,j,l⟩ ⟨c,b,f⟩ h
   grind
  grind
def Qz:AV→Bool
 | .ptr _ _|.eptr _ _ _ _|.cptr _|.adr _ _|.pp _ _ _=>true
 | _=>false
def jJ(s:AS)(n:Nat):Option Operand→Option Operand→Option eq
 | none,none=>some (0,n)
 | some lo,none=>match s.ev lo with|some (.int _ a)=>some (a,n)|_=>none
 | none,some hi=>match s.ev hi with|some (.int _ b)=>some (0,b)|_=>none
 | some lo,some hi=>match s.ev lo,s.ev hi with|some (.int _ a),some (.int _ b)=>some (a,b)|_,_=>none
def ke(s:AS)(x:AV)(lo hi:Option Operand):Option AV :=
 match x with
 | .sl l=>match jJ s l.length lo hi with
  | some (a,b)=>if 0≤a∧a≤b∧b≤l.length then some (.sl ((l.take b.toNat).drop a.toNat)) else none
  | none=>none
 | .ref id=>match look id s.r with
  | some ar=>(match jJ s ar.l.length lo hi with
   | some (a,b)=>if 0≤a∧a≤b∧b≤ar.l.length then some (.sref id ar.sz a.toNat (b.toNat-a.toNat)) else none
   | none=>none)
  | none=>none
 | .str b=>match jJ s b.size lo hi with
  | some (i,j)=>if 0≤i∧i≤j∧j≤b.size then some (.str (b.extract i.toNat j.toNat)) else none
  | none=>none
 | _=>none
def SE(P:Program)(T:TypeId)(x:AV)(j:Int):Option AV :=
 match P.underlying T,x with
 | some (.array n e),.agg cs=>match cr P e with
  | some k=>if 0≤j∧j<n then iV P e (cs.drop (j.toNat*k)) else none
  | none=>none
 | some .string,.str s=>if 0≤j then (match s[j.toNat]? with|some b=>some (.int .u8 b.toNat)|none=>none) else none
 | _,_=>none
def QO(P:Program)(T:TypeId)(f:Nat):AV→Option AV
 | .agg cs=>match P.underlying T with
  | some (.struct a)=>match a[f]? with|some g=>iV P g.type (cs.drop g.offset)|none=>none
  | _=>none
 | _=>none
def D6:h6→Option ck
 | []=>some []
 | [.int .i32 n]::r=>match D6 r with|some l=>some (n::l)|none=>none
 | _::_=>none
theorem TK:∀{l} {ns},D6 l=some ns→l=ns.map fun n=>[.int .i32 n]
 | [],ns,h=>by injection h with h;grind
 | e::r,ns,h=>by
  unfold D6 at h;split at h
  ·grind
  ·rename_i n d q;injection q with b c;subst b;subst c
   split at h
   ·rename_i l a;injection h with h;subst h;rw[rl,← TK a]
   grind
  grind
def Vt(P:Program)(S D:TypeId):AV→Option AV
 | .int _ n=>match P.underlying S,P.underlying D with|some (.int _),some (.int k)=>some (.int k (k.wrap n))|some (.int _),some .string=>some (.str (Utf8.encode n))|_,_=>none
 | .sl l=>match P.underlying S,P.underlying D with
  | some (.slice e),some .string=>match P.underlying e,D6 l with
   | some (.int .i32),some ns=>some (.str (runesBytes ns))
   | _,_=>none
  | _,_=>none
 | _=>none
def Jl:Option TypeDesc→Bool
 | some (.slice _)=>true
 | _=>false
def aiQ(a b:ByteArray):Bool:=decide (a.size+b.size≤9223372036854775807)
def QX(P:Program)(op:BinOp)(T:TypeId)(u v:AV):Option AV :=
 match op with
 | .add=>match u,v with
  | .str a,.str b=>if aiQ a b=true then some (.str (a++b)) else none
  | _,_=>none
 | .eql|.neq=>match u,v with
  | .agg _,.agg _=>if P.eqGuardType P.depth T=true then none else (match j0 P 10000 T u v with|some r=>some (.bool (match op with|.neq=>!r|_=>r))|none=>none)
  | .bool a,.bool b=>match P.underlying T with|some .bool=>some (.bool (match op with|.neq=>!(a == b)|_=>(a == b)))|_=>none
  | .nils,.nils=>if Jl (P.underlying T)=true then some (.bool (match op with|.neq=>false|_=>true)) else none
  | _,_=>none
 | _=>none
def J3(s:AS)(g:FuncId):List Operand→List Operand→Option AV
 | [x],[]=>match s.ev x with|some (.adr b off)=>some (.vv (.func (.func g) #[.pointer (some ⟨b,off,none⟩)] #[]))|_=>none
 | _,_=>none
def lG(P:Program)(s:AS)(o:Oper):Option AV :=
 match o.op with
 | .makeFunc (.func g) a cs=>J3 s g a.toList cs.toList
 | .nilCheck x=>match s.ev x with|some v=>if Qz v=true then some v else none|none=>none
 | .field T x f=>match s.ev x with|some p=>QO P T f p|none=>none
 | .index T x i=>match s.ev x,s.ev i with|some p,some (.int _ j)=>SE P T p j|_,_=>none
 | .convert S D x=>match s.ev x with|some p=>Vt P S D p|none=>none
 | .binOp op T x y _=>match s.ev x,s.ev y with|some u,some v=>QX P op T u v|_,_=>none
 | .slice T x lo hi none=>match s.ev x with
  | some p=>match P.underlying T with
   | some (.slice e)=>(match p,cr P e with|.sl l,some sz=>if l.all (fun e=>e.length == sz)=true then ke s p lo hi else none|.ref id,some sz=>(match look id s.r with|some ar=>if ar.sz=sz then ke s p lo hi else none|none=>none)|_,_=>none)
   | some .string=>(match p with|.str _=>ke s p lo hi|_=>none)
   | _=>none
  | none=>none
 | _=>none
theorem lV{c}{s}{a}{w}{ι}(b:aV c s a w ι){x}{k}{n}(h:s.ev x=some (.int k n)):a.eval x=.int k n:=by
 have:=b.ev h;cases d:a.eval x<;>rw[d]at this<;>cases this;rfl
theorem CO{l:Cx}{s:AS}{a:Act}{w:World}{ι:Env}(f:aV l s a w ι){n c:Nat}{b:Bool}{lo hi:Option Operand}{i j:Int}(h:jJ s n lo hi=some (i,j))(g:0≤i)(o:i≤j)(q:j≤n)(r:n≤c):
  (Instr.sliceBounds b n c (lo.map a.eval) (hi.map a.eval) none).run l.P w=.ok (i.toNat,j.toNat,c) w:=by
 have sb:∀{x:Operand} {k:IntKind} {z:Int} {y:Nat} {e:BoundsCode},s.ev x=some (.int k z)→0≤z→z≤(y:Int)→(Instr.sliceBound (a.eval x) y e).run l.P w=.ok z.toNat w:=fun d g o=>by
  rw[lV f d];simp[Instr.sliceBound,asIntOf,g,o]
 unfold jJ at h;unfold Instr.sliceBounds;cases lo with
 | none =>
  cases hi with
  | none =>
   simp only[th,BY]at h;obtain⟨rfl,rfl⟩:=h;simp
  | some hi =>
   simp only[]at h;split at h
   ·rename_i k z d;simp only[th,BY]at h;obtain⟨rfl,rfl⟩:=h;simp[sb d (by omega) (by omega:z≤(c:Int))]
   ·cases h
 | some lo =>
  cases hi with
  | none =>
   simp only[]at h;split at h
   ·rename_i k z d;simp only[th,BY]at h;obtain⟨rfl,rfl⟩:=h;simp[sb d g (by omega:z≤(n:Int))]
   ·cases h
  | some hi =>
   simp only[]at h;split at h
   ·rename_i k z t p d m;simp only[th,BY]at h;obtain⟨rfl,rfl⟩:=h;simp[sb m (by omega) (by omega:p≤(c:Int)),sb d g (by omega:z≤((p.toNat:Nat):Int))]
   grind
theorem WS{N:Nat→Prop}{w:World}{ι:Env}{l:h6}{b o c sz:Nat}{a:Nat→Nat→Value}(s:∀e∈l,e.length=sz)(m:b<w.heap.size)(k:¬ N b)(h:∀j i,(a j i).oneCell'=true)
  (t:∀(j:Nat) (e:c6),l[j]?=some e→∀(i:Nat) (x:AV),e[i]?=some x→w.cell? ⟨b,o+j*sz+i,none⟩=some (a j i)) (y:∀(j:Nat) (e:c6),l[j]?=some e→∀(i:Nat) (x:AV),e[i]?=some x→Rel N w bH x (a j i))
  {p q:Nat} (n:p≤q) (v:q≤l.length) (f:l.length≤c):Rel N w ι (.sl ((l.take q).drop p)) (.slice (some ⟨b,o+p*sz,none⟩) (q-p) (c-p)):=by
 have u:∀j,((l.take q).drop p)[j]?=if p+j<q then l[p+j]? else none:=fun j=>by
  rw[ahn,By]
 have d:((l.take q).drop p).length=q-p:=by grind
 rw[←d];refine .sl ι _ b _ _ sz (fun j i=>a (p+j) i) (fun e g=>s e (by grind)) m k (fun j i=>h _ _) (fun j e g i x r=>?_) (fun j e g i x r=>?_) (by omega)
 ·grind
 grind
theorem P6{P}{w}{T e}(a:P.underlying T=some (.slice e)) d:(Op.equalIn (d+1) T (.slice none 0 0) (.slice none 0 0)).run P w=.ok true w:=by
 unfold Op.equalIn;rw[sj,ob a w];rfl
theorem afU{P}{w}{T e}(a:P.underlying T=some (.slice e)):(binOp .eql T (.slice none 0 0) (.slice none 0 0)).run P w=.ok (.bool true) w:=by
 have e:binOp .eql T (.slice none 0 0) (.slice none 0 0)=(do pure (.bool (← Op.equalIn 10000 T (.slice none 0 0) (.slice none 0 0)))):=rfl;rw[e,sj,P6 a 9999];rfl
theorem acA{P}{w}{T e}(a:P.underlying T=some (.slice e)):(binOp .neq T (.slice none 0 0) (.slice none 0 0)).run P w=.ok (.bool false) w:=by
 have e:binOp .neq T (.slice none 0 0) (.slice none 0 0)=(do pure (.bool (!(← Op.equalIn 10000 T (.slice none 0 0) (.slice none 0 0))))):=rfl;rw[e,sj,P6 a 9999];rfl
theorem Ul{G:Cx}{s:AS}{a:Act}{w:World}{ι:Env}(d:aV G s a w ι){o:Oper}{v:AV}(h:lG G.P s o=some v):∃x,(execOp a.eval o).run G.P w=.ok (.value x) w∧Rel (NN G.M ι) w ι v x:=by
 unfold lG at h;unfold execOp;cases I:o.op with
 | nilCheck x =>
  simp only[I]at h⊢;split at h
  ·rename_i u K;split at h
   ·rename_i O;injection h with h;subst h
    have t:=d.ev K;generalize hy:a.eval x=y at t;refine⟨y,?_,t⟩;cases t<;>first|(simp[Qz]at O;done)|simp[hy]
   ·cases h
  ·cases h
 | field T x f =>
  simp only[I]at h⊢;split at h
  ·rename_i p O;unfold QO at h;split at h
   ·rename_i cs;split at h
    ·rename_i fs K;split at h
     ·rename_i g hg;have t:=d.ev O;generalize a.eval x=X at t⊢;cases t with
      | agg _ _ vs hl P t =>
       obtain⟨y,V,W⟩:=tX ⟨hl,P,t⟩ h;exact⟨y,by simp[Instr.field,ob K,hg,asAgg,V],W⟩
     ·cases h
    ·cases h
   ·cases h
  ·cases h
 | index T x i =>
  simp only[I]at h⊢;split at h
  ·rename_i p k j O hj;have Y:=lV d hj;unfold SE at h;split at h
   ·rename_i n e cs K;split at h
    ·rename_i sz hz;split at h
     ·rename_i U;have t:=d.ev O;generalize a.eval x=X at t⊢;obtain⟨vs,rfl,y,V,W⟩:∃vs:eg,X=.agg vs.toArray∧∃y,(part e vs.toArray (j.toNat*sz)).run G.P w=.ok y w∧Rel (NN G.M ι) w ι v y:=by
       cases t with
       | agg _ _ vs hl P t=>exact⟨vs,rfl,tX ⟨hl,P,t⟩ h⟩
      have J:(sizeOf e).run G.P w=.ok sz w:=by
       cases hi:G.P.info? e with
       | none=>simp[cr,hi]at hz
       | some it =>
        have : it.size=sz:=by simpa[cr, hi]using hz
        simp[sizeOf,typeInfo,hi,this]
      exact⟨y,by simp[Instr.index,Y,asIntOf,ob K,U,J,V],W⟩
     ·cases h
    ·cases h
   ·rename_i b K;split at h
    ·rename_i h0;split at h
     ·rename_i y hy;injection h with h;subst h
      have t:=d.ev O;cases E:a.eval x<;>rw[E]at t<;>cases t;exact⟨_,by simp[Instr.index,Y,asIntOf,ob K,h0,hy],.int _ _ _⟩
     ·cases h
    ·cases h
   ·cases h
  ·cases h
 | convert S D x =>
  simp only[I]at h⊢;split at h
  ·rename_i p O;unfold Vt at h;split at h
   ·rename_i k n;split at h
    ·rename_i k1 k2 hS hD;injection h with h;subst h
     rw[lV d O];exact⟨_,by simp[convert,ob hS,ob hD,Conv.intToInt],.int _ _ _⟩
    ·rename_i hS hD;injection h with h;subst h
     rw[lV d O];exact⟨_,by simp[convert,ob hS,ob hD,Conv.intToString],.str _ _⟩
    ·cases h
   ·rename_i l;split at h
    ·rename_i e hS hD;split at h
     ·rename_i ns hE o0;injection h with h;subst h
      have hl:=TK o0;have t:=d.ev O;generalize a.eval x=X at t⊢;have Q:l.length=ns.length:=by rw[hl,nw]
      cases t with
      | sl0 _ A c =>
       have:ns=[]:=qk (by simpa using Q.symm);subst this;cases A with
       | none=>exact⟨_,by simp only[sj,run_convert_runes_nil w S D e 0 c hS hE hD,u5,Qf];rfl,.str _ _⟩
       | some a0=>exact⟨_,by simp only[sj,run_convert_runes w S D e a0 0 c [] (la _) hS hE hD (fun j hj=>by simp at hj),u5,Qf];rfl,.str _ _⟩
      | sl _ _ b o c sz d0 hz U hn P E t N =>
       refine⟨.string (runesBytes ns),?_,.str _ _⟩;have b0:∀j,j<ns.length→w.cell? ((⟨b,o,none⟩:Addr).add j)=some (.int .i32 (ns.getD j 0)):=fun j hj=>by
        have Y:j<l.length:=by omega
        have L:sz=1:=by
         have:=hz l[j] (qv Y);simp[hl]at this;omega
        have he:l[j]?=some [.int .i32 ns[j]]:=by rw[hl];simp[hj]
        have q:=E j _ he 0 _ rfl;have q2:=t j _ he 0 _ rfl;rw[L]at q;have e3:d0 j 0=.int .i32 ns[j]:=by
         generalize d0 j 0=z at q2;cases q2;rfl
        rw[e3]at q;have:(⟨b,o,none⟩:Addr).add j=⟨b,o+j*1+0,none⟩:=by simp[akR]
        rw[this,q];simp[List.getD,hj]
       have:=run_convert_runes w S D e ⟨b,o,none⟩ l.length c ns (by omega) hS hE hD b0;rw[Q,akO]at this;rw[Q];simp only[sj,this,u5,Qf]
     ·cases h
    ·cases h
   ·cases h
  ·cases h
 | binOp op T x y Ty =>
  simp only[I]at h⊢;split at h
  ·rename_i u v' K hv;have t:=d.ev K;have C:=d.ev hv;unfold QX at h;have agg:∀{cs ds:c6} {r:Bool},u=.agg cs→v'=.agg ds→G.P.eqGuardType G.P.depth T=false→j0 G.P 10000 T u v'=some r→(∃as Z,a.eval x=.agg as∧a.eval y=.agg Z∧(Op.equalIn 10000 T (.agg as) (.agg Z)).run G.P w=.ok r w∧(eqGuard op T x y (.agg as) (.agg Z)).run G.P w=.ok () w):=by
    intro cs ds r V W hg hq;subst V;subst W;have i0:=Fe 10000 T _ _ _ _ _ hq t C;cases E:a.eval x<;>rw[E]at t<;>cases t;cases B:a.eval y<;>rw[B]at C<;>cases C;rw[E,B]at i0;exact⟨_,_,rfl,rfl,i0,run_eqGuard_agg w op T x y _ _ hg⟩
   split at h
   ·split at h
    ·split at h
     ·rename_i J;injection h with h;subst h
      cases E:a.eval x<;>rw[E]at t<;>cases t;cases B:a.eval y<;>rw[B]at C<;>cases C;exact⟨_,by simp[eqGuard,binOp,run_string_add_sum w _ _ (lc J)],.str _ _⟩
     ·cases h
    ·cases h
   ·split at h
    ·split at h
     ·cases h
     ·rename_i hg;split at h
      ·rename_i r hq;injection h with h;subst h
       obtain⟨as,Z,V,W,e3,e4⟩:=agg rfl rfl (by simpa using hg) hq;exact⟨.bool r,by simp only[sj,V,W,e4,u5,run_eql_struct,e3,Qf],.bool _ _⟩
      ·cases h
    ·split at h
     ·rename_i M;injection h with h;subst h
      cases E:a.eval x<;>rw[E]at t<;>cases t;cases B:a.eval y<;>rw[B]at C<;>cases C;exact⟨_,by simp[eqGuard,binOp,Op.equal,Op.maxDepth,amj w 9999 T _ _ M],.bool _ _⟩
     ·cases h
    ·split at h
     ·rename_i J;injection h with h;subst h
      cases E:a.eval x<;>rw[E]at t<;>cases t;cases B:a.eval y<;>rw[B]at C<;>cases C;unfold Jl at J;split at J
      ·rename_i e M;exact⟨_,by simp only[sj,afU M];simp[eqGuard],.bool _ _⟩
      ·cases J
     ·cases h
    ·cases h
   ·split at h
    ·split at h
     ·cases h
     ·rename_i hg;split at h
      ·rename_i r hq;injection h with h;subst h
       obtain⟨as,Z,V,W,e3,e4⟩:=agg rfl rfl (by simpa using hg) hq;exact⟨.bool (!r),by simp only[sj,V,W,e4,u5,run_neq_struct,e3,Qf],.bool _ _⟩
      ·cases h
    ·split at h
     ·rename_i M;injection h with h;subst h
      cases E:a.eval x<;>rw[E]at t<;>cases t;cases B:a.eval y<;>rw[B]at C<;>cases C;exact⟨_,by simp[eqGuard,binOp,Op.equal,Op.maxDepth,amj w 9999 T _ _ M],.bool _ _⟩
     ·cases h
    ·split at h
     ·rename_i J;injection h with h;subst h
      cases E:a.eval x<;>rw[E]at t<;>cases t;cases B:a.eval y<;>rw[B]at C<;>cases C;unfold Jl at J;split at J
      ·rename_i e M;exact⟨_,by simp only[sj,acA M];simp[eqGuard],.bool _ _⟩
      ·cases J
     ·cases h
    ·cases h
   ·cases h
  ·cases h
 | slice T x lo hi mx =>
  cases mx with
  | some m=>simp[I]at h
  | none =>
   simp only[I]at h⊢;split at h
   ·rename_i p O;have t:=d.ev O;split at h
    ·rename_i e K;split at h
     ·rename_i l sz L;split at h
      case isFalse=>cases h
      rename_i f0;unfold ke at h;simp only[]at h;split at h
      ·rename_i i j U;split at h
       ·rename_i F;obtain⟨c0,c1,c2⟩:=F;injection h with h;subst h
        have J:(sizeOf e).run G.P w=.ok sz w:=by
         cases hi:G.P.info? e with
         | none=>simp[cr,hi]at L
         | some it =>
          have : it.size=sz:=by simpa[cr, hi]using L
          simp[sizeOf,typeInfo,hi,this]
        have H:∀c,l.length≤c→(Instr.sliceBounds true l.length c (lo.map a.eval) (hi.map a.eval) none).run G.P w=.ok (i.toNat,j.toNat,c) w:=fun c E=>CO d U c0 c1 c2 E;generalize a.eval x=X at t⊢;cases t with
        | sl0 _ A c =>
         have:=H c (by simp);simp only[ti]at this c2;refine⟨.slice (if c=i.toNat then A else A.map (·.add (i.toNat*sz))) (j.toNat-i.toNat) (c-i.toNat),by simp[Instr.sliceAt,ob K,Instr.slice,this,J],?_⟩;have e0:j.toNat-i.toNat=0:=by omega
         rw[e0];simpa using Rel.sl0 _ _ _
        | sl _ _ b o c r0 d0 hz k0 hn P E t N =>
         have:=H c N;refine⟨.slice (if c=i.toNat then some ⟨b,o,none⟩ else (some ⟨b,o,none⟩:Option Addr).map (·.add (i.toNat*sz))) (j.toNat-i.toNat) (c-i.toNat),by simp[Instr.sliceAt,ob K,Instr.slice,this,J],?_⟩;by_cases h0:i.toNat=j.toNat
         ·have e0:j.toNat-i.toNat=0:=by omega
          rw[e0,show(l.take j.toNat).drop i.toNat=[] from mo (by rw[afN];omega)];exact .sl0 _ _ _
         ·rw[kc (by omega)];have R:r0=sz:=by
           have w0:0<l.length:=by omega
           have h4:=hz l[0] (qv _);have h5:=n3.1 f0 l[0] (qv _);simp only[ajC]at h5;omega
          ·subst R;have:=WS (ι:=ι) hz k0 hn P E t (p:=i.toNat) (q:=j.toNat) (by omega) (by omega) N;simpa[akR]using this
       ·cases h
      ·cases h
     ·rename_i id sz L;split at h
      case h_2=>cases h
      rename_i ar g0;split at h
      case isFalse=>cases h
      rename_i R;unfold ke at h;simp only[g0]at h;split at h
      case h_2=>cases h
      rename_i i j U;split at h
      case isFalse=>cases h
      rename_i F;obtain⟨c0,c1,c2⟩:=F;injection h with h;subst h
      subst R;have J:(sizeOf e).run G.P w=.ok ar.sz w:=by
       cases hi:G.P.info? e with
       | none=>simp[cr,hi]at L
       | some it =>
        have : it.size=ar.sz:=by simpa[cr, hi]using L
        simp[sizeOf,typeInfo,hi,this]
      have H:∀c,ar.l.length≤c→(Instr.sliceBounds true ar.l.length c (lo.map a.eval) (hi.map a.eval) none).run G.P w=.ok (i.toNat,j.toNat,c) w:=fun c E=>CO d U c0 c1 c2 E;generalize a.eval x=X at t⊢;cases t with
      | ref _ _ A n c hι =>
       obtain⟨v,xs,P,h2,h3,h4,h5⟩:=d.hs.arrs id ar g0 (by rw[hι];rfl);rw[hι]at P;injection P with P;subst P
       obtain⟨hv,h0⟩|⟨g',s0,t0,hv,v0,hg,m0,N,p0,q0⟩:=h2.2
       ·injection hv with hA hn B
        subst hA;subst hn;subst B;have:=H 0 (by omega);rw[h0]at this;have ei:i.toNat=0:=by omega
        have ej:j.toNat=0:=by omega
        refine⟨.slice (if 0=i.toNat then none else (none:Option Addr).map (·.add (i.toNat*ar.sz))) (j.toNat-i.toNat) (0-i.toNat),by simp[Instr.sliceAt,ob K,Instr.slice,this,J],?_⟩;exact .sref _ _ _ _ _ _ _ _ _ _ hι (.inl (by omega))
       ·injection hv with hA hn B
        subst hA;subst hn;subst B;have:=H c m0;refine⟨.slice (if c=i.toNat then some ⟨g',0,none⟩ else (some ⟨g',0,none⟩:Option Addr).map (·.add (i.toNat*ar.sz))) (j.toNat-i.toNat) (c-i.toNat),by simp[Instr.sliceAt,ob K,Instr.slice,this,J],?_⟩;by_cases h0:i.toNat=j.toNat
        ·exact .sref _ _ _ _ _ _ _ _ _ _ hι (.inl (by omega))
        ·rw[kc (by omega)];refine .sref _ _ _ _ _ _ _ _ _ _ hι (.inr ⟨g',rfl,?_,by omega,by omega⟩);simp[akR]
     ·cases h
    ·rename_i K;split at h
     ·rename_i b;unfold ke at h;simp only[]at h;split at h
      ·rename_i i j U;split at h
       ·rename_i F;obtain⟨c0,c1,c2⟩:=F;injection h with h;subst h
        have H:(Instr.sliceBounds false b.size b.size (lo.map a.eval) (hi.map a.eval) none).run G.P w=.ok (i.toNat,j.toNat,b.size) w:=CO d U c0 c1 c2 (la _);generalize a.eval x=X at t⊢;cases t with
        | str _ _=>exact⟨.string (b.extract i.toNat j.toNat),by simp[Instr.sliceAt,ob K,Instr.slice,H],.str _ _⟩
       ·cases h
      ·cases h
     ·cases h
    ·cases h
   ·cases h
 | makeFunc fn Z cs =>
  cases fn with
  | func g =>
   simp only[I]at h⊢;unfold J3 at h;split at h
   case h_2=>cases h
   rename_i x H l0;have U:Z = #[x]:=by rw[←aiU (xs:=Z),H]
   have E:cs = #[]:=by rw[←aiU (xs:=cs),l0]
   subst U;subst E;split at h
   ·rename_i b off hx;injection h with h;subst h
    have t:=d.ev hx;generalize hX:a.eval x=X at t;cases t with
    | adr _ _ _ =>
     refine⟨_,?_,.vv _ _ rfl⟩;simp only[Instr.makeFunc,sj,Qf,u5,al0];simp[hX]
   ·cases h
  | _=>simp[I]at h
 | _=>grind
end Go.Proofs.YtocgkfoifehcbaaGreat
