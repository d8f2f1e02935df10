/- More operations that yield a value and turn nothing: comparing structs, fields of values, conversions, parts of slices. No program in sight. -/
import Derived.Test.YtocgkfoifehcbaaGreatRfAop3
import Derived.Laws.StructEq
import Derived.Laws.Concat
import Derived.Laws.Cover4
import Derived.Laws.Runes
namespace Go.Proofs.YtocgkfoifehcbaaGreat
set_option linter.all false
open Go.RowKit
theorem mZ{P:Program}{N:Nat→Prop}{w:World}{ι:Env}{cs:List AV}{vs:List Value}(hc:Cells N w ι cs vs){T:TypeId}{off:Nat}{v:AV}(h:fy P T (cs.drop off)=some v):
  ∃x,(part T vs.toArray off).run P w=.ok x w∧Rel N w ι v x:=by
 unfold fy at h;cases hu:P.underlying T with
 | none=>simp[lG,hu]at h
 | some d =>
  cases hd:d.isRow with
  | true =>
   simp only[lG,hu,Option.map_some,hd]at h;cases hz:bU P T with
   | none=>simp[hz]at h
   | some n =>
    simp only[hz]at h;split at h
    ·rename_i hle;injection h with h;subst h
     have hagg:(isAgg T).run P w=.ok true w:=by
      unfold isAgg;rw[Sem.run_bind,run_underlying hu w];cases d<;>simp_all[TypeDesc.isRow]
     cases hi:P.info? T with
     | none=>simp[bU,hi]at hz
     | some it =>
      have hs:it.size=n:=by simpa[bU,hi]using hz
      refine⟨.agg ((vs.drop off).take n).toArray,?_,.agg _ _ _ (by simp[hc.len]) (fun y hy=>hc.one y (List.mem_of_mem_drop (List.mem_of_mem_take hy))) (fun i x y hx hy=>?_)⟩
      ·simp[part,hagg,sizeOf,typeInfo,hi,hs,List.extract_eq_take_drop]
      ·rw[List.getElem?_take]at hx hy;split at hx
       ·rename_i hlt;rw[if_pos hlt]at hy;rw[List.getElem?_drop]at hx hy;exact hc.rel _ x y hx hy
       ·cases hx
    ·cases h
  | false =>
   simp only[lG,hu,Option.map_some,hd]at h;have h0:cs[off]?=some v:=by simpa[List.head?_eq_getElem?]using h
   have hlt:off<vs.length:=by rw[←hc.len];exact(List.getElem?_eq_some_iff.1 h0).1
   have hv:=List.getElem?_eq_getElem (l:=vs) hlt;have hagg:(isAgg T).run P w=.ok false w:=by
    unfold isAgg;rw[Sem.run_bind,run_underlying hu w];cases d<;>simp_all[TypeDesc.isRow]
   refine⟨vs[off],?_,hc.rel off v _ h0 hv⟩;simp[part,hagg,List.getElem?_toArray,hv]
def qG(eq:TypeId→AV→AV→Option Bool)(P:Program)(xs ys:List AV):List Field→Option Bool
 | []=>some true
 | f::fs=>if f.name ≠ "_" then
   match fy P f.type (xs.drop f.offset),fy P f.type (ys.drop f.offset) with
   | some a,some b=>match eq f.type a b,qG eq P xs ys fs with
    | some r,some q=>some (r&&q)
    | _,_=>none
   | _,_=>none
  else qG eq P xs ys fs
def pV(eq:AV→AV→Option Bool)(P:Program)(e:TypeId)(sz:Nat)(xs ys:List AV):Nat→Nat→Option Bool
 | _,0=>some true
 | i,k+1 =>
  match fy P e (xs.drop (i*sz)),fy P e (ys.drop (i*sz)) with
  | some a,some b=>match eq a b,pV eq P e sz xs ys (i+1) k with
   | some r,some q=>some (r&&q)
   | _,_=>none
  | _,_=>none
def gx(P:Program):Nat→TypeId→AV→AV→Option Bool
 | 0,_,_,_=>none
 | d+1,T,u,v=>match P.underlying T,u,v with
  | some .bool,.bool a,.bool b=>some (a == b)
  | some (.int _),.int k a,.int k' b=>if k=k' then some (a == b) else none
  | some .string,.str a,.str b=>some (a.toList == b.toList)
  | some (.struct fs),.agg xs,.agg ys=>if P.stoodInHeld T=true then none else qG (gx P d) P xs ys fs.toList
  | some (.array n e),.agg xs,.agg ys=>match bU P e with
   | some sz=>pV (gx P d e) P e sz xs ys 0 n
   | none=>none
  | _,_,_=>none
theorem xQ{P:Program}{N:Nat→Prop}{w:World}{ι:Env}{d:Nat}(ih:∀T u v r x y,gx P d T u v=some r→Rel N w ι u x→Rel N w ι v y→(Op.equalIn d T x y).run P w=.ok r w)
  {xs ys:List AV} {as bs:List Value} (ha:Cells N w ι xs as) (hb:Cells N w ι ys bs):∀(fs:List Field) (r:Bool),qG (gx P d) P xs ys fs=some r→(Op.eqFields d as.toArray bs.toArray fs).run P w=.ok r w
 | [],r,h=>by injection h with h;subst h;simp[Op.eqFields]
 | f::fs,r,h=>by
  unfold qG at h;unfold Op.eqFields;split at h
  ·rename_i hn;rw[if_pos hn];split at h
   ·rename_i a b h1 h2;split at h
    ·rename_i r1 q h3 h4;injection h with h;subst h
     obtain⟨x,e1,e2⟩:=mZ ha h1;obtain⟨y,e3,e4⟩:=mZ hb h2;have e5:=ih f.type a b r1 x y h3 e2 e4;have e6:=xQ ih ha hb fs q h4;simp only[Sem.run_bind,e1,Result.andThen_ok,e3,e5,Sem.run_ite,Sem.run_pure,e6];cases r1<;>simp
    ·cases h
   ·cases h
  ·rename_i hn;rw[if_neg hn];exact xQ ih ha hb fs r h
theorem Cw{P:Program}{N:Nat→Prop}{w:World}{ι:Env}{d:Nat}{e:TypeId}{sz:Nat}(ih:∀u v r x y,gx P d e u v=some r→Rel N w ι u x→Rel N w ι v y→(Op.equalIn d e x y).run P w=.ok r w)
  {xs ys:List AV} {as bs:List Value} (ha:Cells N w ι xs as) (hb:Cells N w ι ys bs):∀(k i:Nat) (r:Bool),pV (gx P d e) P e sz xs ys i k=some r →
  (forIn (List.range' i k) ((none,()):Option Bool×Unit) (fun (j:Nat) (_:Option Bool×Unit)=>(do
    let a ← part e as.toArray (j*sz)
    let b ← part e bs.toArray (j*sz)
    let q ← Op.equalIn d e a b
    if (!q)=true then pure (ForInStep.done (some false,())) else pure (ForInStep.yield (none,())):Sem (ForInStep (Option Bool×Unit)))):Sem (Option Bool×Unit)).run P w=.ok (if r=true then none else some false,()) w
 | 0,i,r,h=>by injection h with h;subst h;simp
 | k+1,i,r,h=>by
  unfold pV at h;split at h
  ·rename_i a b h1 h2;split at h
   ·rename_i r1 q h3 h4;injection h with h;subst h
    obtain⟨x,e1,e2⟩:=mZ ha h1;obtain⟨y,e3,e4⟩:=mZ hb h2;have e5:=ih a b r1 x y h3 e2 e4;have e6:=Cw ih ha hb k (i+1) q h4;rw[List.range'_succ,List.forIn_cons];simp only[Sem.run_bind,e1,Result.andThen_ok,e3,e5,Sem.run_ite,Sem.run_pure];cases r1
    ·simp
    ·simp only[Bool.not_true,Bool.false_eq_true,if_false,Result.andThen_ok,Bool.true_and];exact e6
   ·cases h
  ·cases h
theorem Pt{P:Program}{N:Nat→Prop}{w:World}{ι:Env}{d:Nat}{t e:TypeId}{n sz:Nat}(ht:P.underlying t=some (.array n e))(hz:bU P e=some sz)
  (ih:∀u v r x y,gx P d e u v=some r→Rel N w ι u x→Rel N w ι v y→(Op.equalIn d e x y).run P w=.ok r w) {xs ys:List AV} {as bs:List Value} (ha:Cells N w ι xs as) (hb:Cells N w ι ys bs) {r:Bool} (h:pV (gx P d e) P e sz xs ys 0 n=some r) :
  (Op.equalIn (d+1) t (.agg as.toArray) (.agg bs.toArray)).run P w=.ok r w:=by
 have hs:(sizeOf e).run P w=.ok sz w:=by
  cases hi:P.info? e with
  | none=>simp[bU,hi]at hz
  | some it =>
   have : it.size=sz:=by simpa[bU, hi]using hz
   simp[sizeOf,typeInfo,hi,this]
 simp only[Op.equalIn,Sem.run_bind,run_underlying ht,Result.andThen_ok,hs];rw[Std.Legacy.Range.forIn_eq_forIn_range'];have hl:=Cw ih ha hb n 0 r h;simp only[Std.Legacy.Range.size,Nat.sub_zero,Nat.add_sub_cancel,Nat.div_one];rw[hl];cases r<;>simp
theorem B7{P:Program}{N:Nat→Prop}{w:World}{ι:Env}:∀(d:Nat) (T:TypeId) (u v:AV) (r:Bool) (x y:Value),gx P d T u v=some r→Rel N w ι u x→Rel N w ι v y→(Op.equalIn d T x y).run P w=.ok r w
 | 0,_,_,_,_,_,_,h,_,_=>by cases h
 | d+1,T,u,v,r,x,y,h,hx,hy=>by
  unfold gx at h;split at h
  ·rename_i hu;injection h with h;subst h;cases hx;cases hy;exact run_equalIn_bool' w d T _ _ hu
  ·rename_i hu;split at h
   ·rename_i hk;subst hk;injection h with h;subst h;cases hx;cases hy;exact run_equalIn_int w d T _ _ _ _ hu
   ·cases h
  ·rename_i hu;injection h with h;subst h;cases hx;cases hy;exact run_equalIn_string w d T _ _ hu
  ·rename_i fs xs ys hu;split at h
   ·cases h
   ·rename_i hp;cases hx with
    | agg _ _ as hl h1 hr =>
     cases hy with
     | agg _ _ bs hl' h1' hr' =>
      have hf:P.fieldsOf T=fs:=by unfold Program.fieldsOf;rw[hu]
      rw[run_equalIn_struct w d T _ _ (by rw[hf];exact hu) (by simpa using hp),hf];exact xQ (fun T u v r x y=>B7 d T u v r x y) ⟨hl,h1,hr⟩ ⟨hl',h1',hr'⟩ fs.toList r h
  ·rename_i n e xs ys hu;split at h
   ·rename_i sz hz;cases hx with
    | agg _ _ as hl h1 hr =>
     cases hy with
     | agg _ _ bs hl' h1' hr' =>
      exact Pt hu hz (fun u v r x y=>B7 d e u v r x y) ⟨hl,h1,hr⟩ ⟨hl',h1',hr'⟩ h
   ·cases h
  ·cases h
def GR:AV→Bool
 | .ptr _ _|.eptr _ _ _ _|.cptr _|.adr _ _|.pp _ _ _=>true
 | _=>false
def gO(s:AS)(n:Nat):Option Operand→Option Operand→Option (Int×Int)
 | none,none=>some (0,n)
 | some lo,none=>match s.ev lo with|some (.int _ a)=>some (a,n)|_=>none
 | none,some hi=>match s.ev hi with|some (.int _ b)=>some (0,b)|_=>none
 | some lo,some hi=>match s.ev lo,s.ev hi with|some (.int _ a),some (.int _ b)=>some (a,b)|_,_=>none
def gw(s:AS)(x:AV)(lo hi:Option Operand):Option AV :=
 match x with
 | .sl l=>match gO s l.length lo hi with
  | some (a,b)=>if 0≤a∧a≤b∧b≤l.length then some (.sl ((l.take b.toNat).drop a.toNat)) else none
  | none=>none
 | .ref id=>match look id s.r with
  | some ar=>(match gO s ar.l.length lo hi with
   | some (a,b)=>if 0≤a∧a≤b∧b≤ar.l.length then some (.sref id ar.sz a.toNat (b.toNat-a.toNat)) else none
   | none=>none)
  | none=>none
 | .str b=>match gO s b.size lo hi with
  | some (i,j)=>if 0≤i∧i≤j∧j≤b.size then some (.str (b.extract i.toNat j.toNat)) else none
  | none=>none
 | _=>none
def H9(P:Program)(T:TypeId)(x:AV)(j:Int):Option AV :=
 match P.underlying T,x with
 | some (.array n e),.agg cs=>match bU P e with
  | some k=>if 0≤j∧j<n then fy P e (cs.drop (j.toNat*k)) else none
  | none=>none
 | some .string,.str s=>if 0≤j then (match s[j.toNat]? with|some b=>some (.int .u8 b.toNat)|none=>none) else none
 | _,_=>none
def HW(P:Program)(T:TypeId)(f:Nat):AV→Option AV
 | .agg cs=>match P.underlying T with
  | some (.struct fs)=>match fs[f]? with|some g=>fy P g.type (cs.drop g.offset)|none=>none
  | _=>none
 | _=>none
def va:List (List AV)→Option (List Int)
 | []=>some []
 | [.int .i32 n]::r=>match va r with|some l=>some (n::l)|none=>none
 | _::_=>none
theorem EY:∀{l:List (List AV)} {ns:List Int},va l=some ns→l=ns.map fun n=>[.int .i32 n]
 | [],ns,h=>by injection h with h;subst h;rfl
 | e::r,ns,h=>by
  unfold va at h;split at h
  ·cases ‹_=[]›
  ·rename_i n r' q;injection q with q1 q2;subst q1;subst q2
   split at h
   ·rename_i l hl;injection h with h;subst h;rw[List.map_cons,← EY hl]
   ·cases h
  ·cases h
def Eg(P:Program)(S D:TypeId):AV→Option AV
 | .int _ n=>match P.underlying S,P.underlying D with|some (.int _),some (.int k)=>some (.int k (k.wrap n))|some (.int _),some .string=>some (.str (Utf8.encode n))|_,_=>none
 | .sl l=>match P.underlying S,P.underlying D with
  | some (.slice e),some .string=>match P.underlying e,va l with
   | some (.int .i32),some ns=>some (.str (runesBytes ns))
   | _,_=>none
  | _,_=>none
 | _=>none
def zJ:Option TypeDesc→Bool
 | some (.slice _)=>true
 | _=>false
def pQ(a b:ByteArray):Bool:=decide (a.size+b.size≤9223372036854775807)
def xv(P:Program)(op:BinOp)(T:TypeId)(u v:AV):Option AV :=
 match op with
 | .add=>match u,v with
  | .str a,.str b=>if pQ a b=true then some (.str (a++b)) else none
  | _,_=>none
 | .eql|.neq=>match u,v with
  | .agg _,.agg _=>if P.eqGuardType P.depth T=true then none else (match gx P 10000 T u v with|some r=>some (.bool (match op with|.neq=>!r|_=>r))|none=>none)
  | .bool a,.bool b=>match P.underlying T with|some .bool=>some (.bool (match op with|.neq=>!(a == b)|_=>(a == b)))|_=>none
  | .nils,.nils=>if zJ (P.underlying T)=true then some (.bool (match op with|.neq=>false|_=>true)) else none
  | _,_=>none
 | _=>none
def zr(s:AS)(g:FuncId):List Operand→List Operand→Option AV
 | [x],[]=>match s.ev x with|some (.adr b off)=>some (.vv (.func (.func g) #[.pointer (some ⟨b,off,none⟩)] #[]))|_=>none
 | _,_=>none
def hI(P:Program)(s:AS)(o:Oper):Option AV :=
 match o.op with
 | .makeFunc (.func g) bs cs=>zr s g bs.toList cs.toList
 | .nilCheck x=>match s.ev x with|some v=>if GR v=true then some v else none|none=>none
 | .field T x f=>match s.ev x with|some p=>HW P T f p|none=>none
 | .index T x i=>match s.ev x,s.ev i with|some p,some (.int _ j)=>H9 P T p j|_,_=>none
 | .convert S D x=>match s.ev x with|some p=>Eg P S D p|none=>none
 | .binOp op T x y _=>match s.ev x,s.ev y with|some u,some v=>xv P op T u v|_,_=>none
 | .slice T x lo hi none=>match s.ev x with
  | some p=>match P.underlying T with
   | some (.slice e)=>(match p,bU P e with|.sl l,some sz=>if l.all (fun e=>e.length == sz)=true then gw s p lo hi else none|.ref id,some sz=>(match look id s.r with|some ar=>if ar.sz=sz then gw s p lo hi else none|none=>none)|_,_=>none)
   | some .string=>(match p with|.str _=>gw s p lo hi|_=>none)
   | _=>none
  | none=>none
 | _=>none
theorem j9{cx:Cx}{s:AS}{a:Act}{w:World}{ι:Env}(hsim:aN cx s a w ι){x:Operand}{k:IntKind}{n:Int}(h:s.ev x=some (.int k n)):a.eval x=.int k n:=by
 have:=hsim.ev h;cases h':a.eval x<;>rw[h']at this<;>cases this;rfl
theorem AF{cx:Cx}{s:AS}{a:Act}{w:World}{ι:Env}(hsim:aN cx s a w ι){n c:Nat}{b:Bool}{lo hi:Option Operand}{i j:Int}(h:gO s n lo hi=some (i,j))(h0:0≤i)(h1:i≤j)(h2:j≤n)(hc:n≤c):
  (Instr.sliceBounds b n c (lo.map a.eval) (hi.map a.eval) none).run cx.P w=.ok (i.toNat,j.toNat,c) w:=by
 have sb:∀{x:Operand} {k:IntKind} {z:Int} {y:Nat} {code:BoundsCode},s.ev x=some (.int k z)→0≤z→z≤(y:Int)→(Instr.sliceBound (a.eval x) y code).run cx.P w=.ok z.toNat w:=fun he h0 h1=>by
  rw[j9 hsim he];simp[Instr.sliceBound,asIntOf,h0,h1]
 unfold gO at h;unfold Instr.sliceBounds;cases lo with
 | none =>
  cases hi with
  | none =>
   simp only[Option.some.injEq,Prod.mk.injEq]at h;obtain⟨rfl,rfl⟩:=h;simp
  | some hi =>
   simp only[]at h;split at h
   ·rename_i k z he;simp only[Option.some.injEq,Prod.mk.injEq]at h;obtain⟨rfl,rfl⟩:=h;simp[sb he (by omega) (by omega:z≤(c:Int))]
   ·cases h
 | some lo =>
  cases hi with
  | none =>
   simp only[]at h;split at h
   ·rename_i k z he;simp only[Option.some.injEq,Prod.mk.injEq]at h;obtain⟨rfl,rfl⟩:=h;simp[sb he h0 (by omega:z≤(n:Int))]
   ·cases h
  | some hi =>
   simp only[]at h;split at h
   ·rename_i k z k' z' he he';simp only[Option.some.injEq,Prod.mk.injEq]at h;obtain⟨rfl,rfl⟩:=h;simp[sb he' (by omega) (by omega:z'≤(c:Int)),sb he h0 (by omega:z≤((z'.toNat:Nat):Int))]
   ·cases h
theorem Ra{N:Nat→Prop}{w:World}{ι:Env}{l:List (List AV)}{b o c sz:Nat}{val:Nat→Nat→Value}(hz:∀e∈l,e.length=sz)(hb:b<w.heap.size)(hN:¬ N b)(h1:∀j i,(val j i).oneCell'=true)
  (hc:∀(j:Nat) (e:List AV),l[j]?=some e→∀(i:Nat) (x:AV),e[i]?=some x→w.cell? ⟨b,o+j*sz+i,none⟩=some (val j i)) (hr:∀(j:Nat) (e:List AV),l[j]?=some e→∀(i:Nat) (x:AV),e[i]?=some x→Rel N w bn x (val j i))
  {p q:Nat} (hpq:p≤q) (hq:q≤l.length) (hcap:l.length≤c):Rel N w ι (.sl ((l.take q).drop p)) (.slice (some ⟨b,o+p*sz,none⟩) (q-p) (c-p)):=by
 have hg:∀j,((l.take q).drop p)[j]?=if p+j<q then l[p+j]? else none:=fun j=>by
  rw[List.getElem?_drop,List.getElem?_take]
 have hlen:((l.take q).drop p).length=q-p:=by simp;omega
 rw[←hlen];refine .sl ι _ b _ _ sz (fun j i=>val (p+j) i) (fun e he=>hz e (List.mem_of_mem_take (List.mem_of_mem_drop he))) hb hN (fun j i=>h1 _ _) (fun j e he i x hx=>?_) (fun j e he i x hx=>?_) (by rw[hlen];omega)
 ·rw[hg]at he;split at he
  ·have:=hc (p+j) e he i x hx;rw[show o+p*sz+j*sz+i=o+(p+j)*sz+i by rw[Nat.add_mul];omega];exact this
  ·cases he
 ·rw[hg]at he;split at he
  ·exact hr (p+j) e he i x hx
  ·cases he
theorem IY{P:Program}{w:World}{T e:TypeId}(hu:P.underlying T=some (.slice e))(d:Nat):(Op.equalIn (d+1) T (.slice none 0 0) (.slice none 0 0)).run P w=.ok true w:=by
 unfold Op.equalIn;rw[Sem.run_bind,run_underlying hu w];rfl
theorem Sn{P:Program}{w:World}{T e:TypeId}(hu:P.underlying T=some (.slice e)):(binOp .eql T (.slice none 0 0) (.slice none 0 0)).run P w=.ok (.bool true) w:=by
 have e:binOp .eql T (.slice none 0 0) (.slice none 0 0)=(do pure (.bool (← Op.equalIn 10000 T (.slice none 0 0) (.slice none 0 0)))):=rfl;rw[e,Sem.run_bind,IY hu 9999];rfl
theorem UP{P:Program}{w:World}{T e:TypeId}(hu:P.underlying T=some (.slice e)):(binOp .neq T (.slice none 0 0) (.slice none 0 0)).run P w=.ok (.bool false) w:=by
 have e:binOp .neq T (.slice none 0 0) (.slice none 0 0)=(do pure (.bool (!(← Op.equalIn 10000 T (.slice none 0 0) (.slice none 0 0))))):=rfl;rw[e,Sem.run_bind,IY hu 9999];rfl
theorem DP{cx:Cx}{s:AS}{a:Act}{w:World}{ι:Env}(hsim:aN cx s a w ι){o:Oper}{v:AV}(h:hI cx.P s o=some v):∃x,(execOp a.eval o).run cx.P w=.ok (.value x) w∧Rel (NN cx.M ι) w ι v x:=by
 unfold hI at h;unfold execOp;cases hop:o.op with
 | nilCheck x =>
  simp only[hop]at h⊢;split at h
  ·rename_i u hu;split at h
   ·rename_i hp;injection h with h;subst h
    have hr:=hsim.ev hu;generalize hy:a.eval x=y at hr;refine⟨y,?_,hr⟩;cases hr<;>first|(simp[GR]at hp;done)|simp[hy]
   ·cases h
  ·cases h
 | field T x f =>
  simp only[hop]at h⊢;split at h
  ·rename_i p hp;unfold HW at h;split at h
   ·rename_i cs;split at h
    ·rename_i fs hu;split at h
     ·rename_i g hg;have hr:=hsim.ev hp;generalize a.eval x=X at hr⊢;cases hr with
      | agg _ _ vs hl h1 hr =>
       obtain⟨y,e1,e2⟩:=mZ ⟨hl,h1,hr⟩ h;exact⟨y,by simp[Instr.field,run_underlying hu,hg,asAgg,e1],e2⟩
     ·cases h
    ·cases h
   ·cases h
  ·cases h
 | index T x i =>
  simp only[hop]at h⊢;split at h
  ·rename_i p k j hp hj;have hj':=j9 hsim hj;unfold H9 at h;split at h
   ·rename_i n e cs hu;split at h
    ·rename_i sz hz;split at h
     ·rename_i hb;have hr:=hsim.ev hp;generalize a.eval x=X at hr⊢;obtain⟨vs,rfl,y,e1,e2⟩:∃vs:List Value,X=.agg vs.toArray∧∃y,(part e vs.toArray (j.toNat*sz)).run cx.P w=.ok y w∧Rel (NN cx.M ι) w ι v y:=by
       cases hr with
       | agg _ _ vs hl h1 hr=>exact⟨vs,rfl,mZ ⟨hl,h1,hr⟩ h⟩
      have hs:(sizeOf e).run cx.P w=.ok sz w:=by
       cases hi:cx.P.info? e with
       | none=>simp[bU,hi]at hz
       | some it =>
        have : it.size=sz:=by simpa[bU, hi]using hz
        simp[sizeOf,typeInfo,hi,this]
      exact⟨y,by simp[Instr.index,hj',asIntOf,run_underlying hu,hb,hs,e1],e2⟩
     ·cases h
    ·cases h
   ·rename_i b hu;split at h
    ·rename_i h0;split at h
     ·rename_i y hy;injection h with h;subst h
      have hr:=hsim.ev hp;cases hc:a.eval x<;>rw[hc]at hr<;>cases hr;exact⟨_,by simp[Instr.index,hj',asIntOf,run_underlying hu,h0,hy],.int _ _ _⟩
     ·cases h
    ·cases h
   ·cases h
  ·cases h
 | convert S D x =>
  simp only[hop]at h⊢;split at h
  ·rename_i p hp;unfold Eg at h;split at h
   ·rename_i k n;split at h
    ·rename_i k1 k2 hS hD;injection h with h;subst h
     rw[j9 hsim hp];exact⟨_,by simp[convert,run_underlying hS,run_underlying hD,Conv.intToInt],.int _ _ _⟩
    ·rename_i hS hD;injection h with h;subst h
     rw[j9 hsim hp];exact⟨_,by simp[convert,run_underlying hS,run_underlying hD,Conv.intToString],.str _ _⟩
    ·cases h
   ·rename_i l;split at h
    ·rename_i e hS hD;split at h
     ·rename_i ns hE hns;injection h with h;subst h
      have hl:=EY hns;have hr:=hsim.ev hp;generalize a.eval x=X at hr⊢;have hlen:l.length=ns.length:=by rw[hl,List.length_map]
      cases hr with
      | sl0 _ A c =>
       have:ns=[]:=List.eq_nil_of_length_eq_zero (by simpa using hlen.symm);subst this;cases A with
       | none=>exact⟨_,by simp only[Sem.run_bind,run_convert_runes_nil w S D e 0 c hS hE hD,Result.andThen_ok,Sem.run_pure];rfl,.str _ _⟩
       | some a0=>exact⟨_,by simp only[Sem.run_bind,run_convert_runes w S D e a0 0 c [] (Nat.le_refl _) hS hE hD (fun j hj=>by simp at hj),Result.andThen_ok,Sem.run_pure];rfl,.str _ _⟩
      | sl _ _ b o c sz val hz hb hn h1 hc hr hcap =>
       refine⟨.string (runesBytes ns),?_,.str _ _⟩;have hcell:∀j,j<ns.length→w.cell? ((⟨b,o,none⟩:Addr).add j)=some (.int .i32 (ns.getD j 0)):=fun j hj=>by
        have hj':j<l.length:=by omega
        have hsz:sz=1:=by
         have:=hz l[j] (List.getElem_mem hj');simp[hl]at this;omega
        have he:l[j]?=some [.int .i32 ns[j]]:=by rw[hl];simp[hj]
        have q:=hc j _ he 0 _ rfl;have q2:=hr j _ he 0 _ rfl;rw[hsz]at q;have e3:val j 0=.int .i32 ns[j]:=by
         generalize val j 0=z at q2;cases q2;rfl
        rw[e3]at q;have:(⟨b,o,none⟩:Addr).add j=⟨b,o+j*1+0,none⟩:=by simp[Addr.add_mid]
        rw[this,q];simp[List.getD,hj]
       have:=run_convert_runes w S D e ⟨b,o,none⟩ l.length c ns (by omega) hS hE hD hcell;rw[hlen,List.take_length]at this;rw[hlen];simp only[Sem.run_bind,this,Result.andThen_ok,Sem.run_pure]
     ·cases h
    ·cases h
   ·cases h
  ·cases h
 | binOp op T x y Ty =>
  simp only[hop]at h⊢;split at h
  ·rename_i u v' hu hv;have hr:=hsim.ev hu;have hr':=hsim.ev hv;unfold xv at h;have agg:∀{cs ds:List AV} {r:Bool},u=.agg cs→v'=.agg ds→cx.P.eqGuardType cx.P.depth T=false→gx cx.P 10000 T u v'=some r→(∃as bs,a.eval x=.agg as∧a.eval y=.agg bs∧(Op.equalIn 10000 T (.agg as) (.agg bs)).run cx.P w=.ok r w∧(eqGuard op T x y (.agg as) (.agg bs)).run cx.P w=.ok () w):=by
    intro cs ds r e1 e2 hg hq;subst e1;subst e2;have hq':=B7 10000 T _ _ _ _ _ hq hr hr';cases hc:a.eval x<;>rw[hc]at hr<;>cases hr;cases hc':a.eval y<;>rw[hc']at hr'<;>cases hr';rw[hc,hc']at hq';exact⟨_,_,rfl,rfl,hq',run_eqGuard_agg w op T x y _ _ hg⟩
   split at h
   ·split at h
    ·split at h
     ·rename_i hs;injection h with h;subst h
      cases hc:a.eval x<;>rw[hc]at hr<;>cases hr;cases hc':a.eval y<;>rw[hc']at hr'<;>cases hr';exact⟨_,by simp[eqGuard,binOp,run_string_add_sum w _ _ (of_decide_eq_true hs)],.str _ _⟩
     ·cases h
    ·cases h
   ·split at h
    ·split at h
     ·cases h
     ·rename_i hg;split at h
      ·rename_i r hq;injection h with h;subst h
       obtain⟨as,bs,e1,e2,e3,e4⟩:=agg rfl rfl (by simpa using hg) hq;exact⟨.bool r,by simp only[Sem.run_bind,e1,e2,e4,Result.andThen_ok,run_eql_struct,e3,Sem.run_pure],.bool _ _⟩
      ·cases h
    ·split at h
     ·rename_i hu';injection h with h;subst h
      cases hc:a.eval x<;>rw[hc]at hr<;>cases hr;cases hc':a.eval y<;>rw[hc']at hr'<;>cases hr';exact⟨_,by simp[eqGuard,binOp,Op.equal,Op.maxDepth,run_equalIn_bool' w 9999 T _ _ hu'],.bool _ _⟩
     ·cases h
    ·split at h
     ·rename_i hs;injection h with h;subst h
      cases hc:a.eval x<;>rw[hc]at hr<;>cases hr;cases hc':a.eval y<;>rw[hc']at hr'<;>cases hr';unfold zJ at hs;split at hs
      ·rename_i e hu';exact⟨_,by simp only[Sem.run_bind,Sn hu'];simp[eqGuard],.bool _ _⟩
      ·cases hs
     ·cases h
    ·cases h
   ·split at h
    ·split at h
     ·cases h
     ·rename_i hg;split at h
      ·rename_i r hq;injection h with h;subst h
       obtain⟨as,bs,e1,e2,e3,e4⟩:=agg rfl rfl (by simpa using hg) hq;exact⟨.bool (!r),by simp only[Sem.run_bind,e1,e2,e4,Result.andThen_ok,run_neq_struct,e3,Sem.run_pure],.bool _ _⟩
      ·cases h
    ·split at h
     ·rename_i hu';injection h with h;subst h
      cases hc:a.eval x<;>rw[hc]at hr<;>cases hr;cases hc':a.eval y<;>rw[hc']at hr'<;>cases hr';exact⟨_,by simp[eqGuard,binOp,Op.equal,Op.maxDepth,run_equalIn_bool' w 9999 T _ _ hu'],.bool _ _⟩
     ·cases h
    ·split at h
     ·rename_i hs;injection h with h;subst h
      cases hc:a.eval x<;>rw[hc]at hr<;>cases hr;cases hc':a.eval y<;>rw[hc']at hr'<;>cases hr';unfold zJ at hs;split at hs
      ·rename_i e hu';exact⟨_,by simp only[Sem.run_bind,UP hu'];simp[eqGuard],.bool _ _⟩
      ·cases hs
     ·cases h
    ·cases h
   ·cases h
  ·cases h
 | slice T x lo hi mx =>
  cases mx with
  | some m=>simp[hop]at h
  | none =>
   simp only[hop]at h⊢;split at h
   ·rename_i p hp;have hr:=hsim.ev hp;split at h
    ·rename_i e hu;split at h
     ·rename_i l sz hsz;split at h
      case isFalse=>cases h
      rename_i hall;unfold gw at h;simp only[]at h;split at h
      ·rename_i i j hb;split at h
       ·rename_i hcond;obtain⟨c0,c1,c2⟩:=hcond;injection h with h;subst h
        have hs:(sizeOf e).run cx.P w=.ok sz w:=by
         cases hi:cx.P.info? e with
         | none=>simp[bU,hi]at hsz
         | some it =>
          have : it.size=sz:=by simpa[bU, hi]using hsz
          simp[sizeOf,typeInfo,hi,this]
        have hbs:∀c,l.length≤c→(Instr.sliceBounds true l.length c (lo.map a.eval) (hi.map a.eval) none).run cx.P w=.ok (i.toNat,j.toNat,c) w:=fun c hc=>AF hsim hb c0 c1 c2 hc;generalize a.eval x=X at hr⊢;cases hr with
        | sl0 _ A c =>
         have:=hbs c (by simp);simp only[List.length_nil]at this c2;refine⟨.slice (if c=i.toNat then A else A.map (·.add (i.toNat*sz))) (j.toNat-i.toNat) (c-i.toNat),by simp[Instr.sliceAt,run_underlying hu,Instr.slice,this,hs],?_⟩;have e0:j.toNat-i.toNat=0:=by omega
         rw[e0];simpa using Rel.sl0 _ _ _
        | sl _ _ b o c sz0 val hz hb' hn h1 hc hr hcap =>
         have:=hbs c hcap;refine⟨.slice (if c=i.toNat then some ⟨b,o,none⟩ else (some ⟨b,o,none⟩:Option Addr).map (·.add (i.toNat*sz))) (j.toNat-i.toNat) (c-i.toNat),by simp[Instr.sliceAt,run_underlying hu,Instr.slice,this,hs],?_⟩;by_cases h0:i.toNat=j.toNat
         ·have e0:j.toNat-i.toNat=0:=by omega
          rw[e0,show(l.take j.toNat).drop i.toNat=[] from List.drop_eq_nil_of_le (by rw[List.length_take];omega)];exact .sl0 _ _ _
         ·rw[if_neg (by omega)];have hsz0:sz0=sz:=by
           have hlt:0<l.length:=by omega
           have h4:=hz l[0] (List.getElem_mem _);have h5:=List.all_eq_true.1 hall l[0] (List.getElem_mem _);simp only[beq_iff_eq]at h5;omega
          ·subst hsz0;have:=Ra (ι:=ι) hz hb' hn h1 hc hr (p:=i.toNat) (q:=j.toNat) (by omega) (by omega) hcap;simpa[Addr.add_mid]using this
       ·cases h
      ·cases h
     ·rename_i id sz hsz;split at h
      case h_2=>cases h
      rename_i ar har;split at h
      case isFalse=>cases h
      rename_i hsz0;unfold gw at h;simp only[har]at h;split at h
      case h_2=>cases h
      rename_i i j hb;split at h
      case isFalse=>cases h
      rename_i hcond;obtain⟨c0,c1,c2⟩:=hcond;injection h with h;subst h
      subst hsz0;have hs:(sizeOf e).run cx.P w=.ok ar.sz w:=by
       cases hi:cx.P.info? e with
       | none=>simp[bU,hi]at hsz
       | some it =>
        have : it.size=ar.sz:=by simpa[bU, hi]using hsz
        simp[sizeOf,typeInfo,hi,this]
      have hbs:∀c,ar.l.length≤c→(Instr.sliceBounds true ar.l.length c (lo.map a.eval) (hi.map a.eval) none).run cx.P w=.ok (i.toNat,j.toNat,c) w:=fun c hc=>AF hsim hb c0 c1 c2 hc;generalize a.eval x=X at hr⊢;cases hr with
      | ref _ _ A n c hι =>
       obtain⟨v,xs,h1,h2,h3,h4,h5⟩:=hsim.hs.arrs id ar har (by rw[hι];rfl);rw[hι]at h1;injection h1 with h1;subst h1
       obtain⟨hv,h0⟩|⟨g',cap,cur,hv,hb1,hg,hle,hcap,hsize,htake⟩:=h2.2
       ·injection hv with hA hn hc'
        subst hA;subst hn;subst hc';have:=hbs 0 (by omega);rw[h0]at this;have ei:i.toNat=0:=by omega
        have ej:j.toNat=0:=by omega
        refine⟨.slice (if 0=i.toNat then none else (none:Option Addr).map (·.add (i.toNat*ar.sz))) (j.toNat-i.toNat) (0-i.toNat),by simp[Instr.sliceAt,run_underlying hu,Instr.slice,this,hs],?_⟩;exact .sref _ _ _ _ _ _ _ _ _ _ hι (.inl (by omega))
       ·injection hv with hA hn hc'
        subst hA;subst hn;subst hc';have:=hbs c hle;refine⟨.slice (if c=i.toNat then some ⟨g',0,none⟩ else (some ⟨g',0,none⟩:Option Addr).map (·.add (i.toNat*ar.sz))) (j.toNat-i.toNat) (c-i.toNat),by simp[Instr.sliceAt,run_underlying hu,Instr.slice,this,hs],?_⟩;by_cases h0:i.toNat=j.toNat
        ·exact .sref _ _ _ _ _ _ _ _ _ _ hι (.inl (by omega))
        ·rw[if_neg (by omega)];refine .sref _ _ _ _ _ _ _ _ _ _ hι (.inr ⟨g',rfl,?_,by omega,by omega⟩);simp[Addr.add_mid]
     ·cases h
    ·rename_i hu;split at h
     ·rename_i b;unfold gw at h;simp only[]at h;split at h
      ·rename_i i j hb;split at h
       ·rename_i hcond;obtain⟨c0,c1,c2⟩:=hcond;injection h with h;subst h
        have hbs:(Instr.sliceBounds false b.size b.size (lo.map a.eval) (hi.map a.eval) none).run cx.P w=.ok (i.toNat,j.toNat,b.size) w:=AF hsim hb c0 c1 c2 (Nat.le_refl _);generalize a.eval x=X at hr⊢;cases hr with
        | str _ _=>exact⟨.string (b.extract i.toNat j.toNat),by simp[Instr.sliceAt,run_underlying hu,Instr.slice,hbs],.str _ _⟩
       ·cases h
      ·cases h
     ·cases h
    ·cases h
   ·cases h
 | makeFunc fn bs cs =>
  cases fn with
  | func g =>
   simp only[hop]at h⊢;unfold zr at h;split at h
   case h_2=>cases h
   rename_i x hbs hcs;have hb:bs = #[x]:=by rw[←Array.toArray_toList (xs:=bs),hbs]
   have hc:cs = #[]:=by rw[←Array.toArray_toList (xs:=cs),hcs]
   subst hb;subst hc;split at h
   ·rename_i b off hx;injection h with h;subst h
    have hr:=hsim.ev hx;generalize hX:a.eval x=X at hr;cases hr with
    | adr _ _ _ =>
     refine⟨_,?_,.vv _ _ rfl⟩;simp only[Instr.makeFunc,Sem.run_bind,Sem.run_pure,Result.andThen_ok,Array.map_empty];simp[hX]
   ·cases h
  | _=>simp[hop]at h
 | _=>simp[hop]at h
end Go.Proofs.YtocgkfoifehcbaaGreat
