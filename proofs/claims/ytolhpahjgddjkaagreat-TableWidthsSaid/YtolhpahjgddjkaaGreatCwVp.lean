/- Own slices whose cells hold maps that nobody else knows. No program in sight. -/
import Derived.Test.YtolhpahjgddjkaaGreatCwVw
import Derived.MapKept
namespace Go.Proofs.YtolhpahjgddjkaaGreat
set_option linter.all false
open Go.RowKit
abbrev bH:=Option (List (Int×Bool))
def zz(_:bH):List AV:=[.nilm]
def cU(m:bH):List AV:=[.omp m]
def g8(k:Int):List (Int×Bool)→Option Bool
 | []=>none
 | p::r=>match decide (p.1=k) with|true=>some p.2|false=>g8 k r
def iU(m:bH)(k:Int):Bool:=match m with
 | none=>false
 | some l=>match g8 k l with|some b=>b|none=>false
def jp(k:Int)(b:Bool):List (Int×Bool)→List (Int×Bool)
 | []=>[(k,b)]
 | p::r=>match decide (p.1=k) with|true=>(k,b)::r|false=>p::jp k b r
def nX(m:bH)(k:Int)(b:Bool):bH:=match m with|none=>none|some l=>some (jp k b l)
abbrev DP(p:Int×Bool):Value×Value:=(.int .i64 p.1,.bool p.2)
theorem DU{k:Int}:∀{l:List (Int×Bool)} {es:List MapEntry} {i:Nat},es.map (fun e=>(e.key,e.val))=l.map DP →
  (g8 k l=none→Instr.findNow (.int .i64) (.int .i64 k) es i=some none)∧(∀b,g8 k l=some b→∃j,Instr.findNow (.int .i64) (.int .i64 k) es i=some (some (i+j,.bool b))∧∃e,es[j]?=some e∧e.key=.int .i64 k ∧
   ∀v:Bool,(es.modify j fun e=>{ e with key:=.int .i64 k,val:=.bool v }).map (fun e=>(e.key,e.val))=(jp k v l).map DP)
 | [],[],i,_=>And.intro (fun _=>rfl) (fun b h=>by cases h)
 | [],_::_,_,h=>by simp at h
 | _::_,[],_,h=>by simp at h
 | p::l,e::es,i,h=>by
  simp only[List.map_cons,List.cons.injEq,Prod.mk.injEq]at h;obtain⟨⟨h1,h2⟩,h3⟩:=h;have hs:Instr.sameNow (.int .i64) (.int .i64 k) e.key=some (decide (p.1=k)):=by
   rw[h1];simp only[Instr.sameNow,if_true];congr 1;by_cases hk:p.1=k
   ·subst hk;simp
   ·have:¬ k=p.1:=fun h=>hk h.symm;simp[hk,this]
  unfold g8 jp Instr.findNow;rw[hs];cases hd:decide (p.1=k) with
  | true =>
   have hk:=of_decide_eq_true hd;refine⟨fun h=>(by cases h),fun b hb=>?_⟩;injection hb with hb
   refine⟨0,by rw[h2,hb];rfl,e,rfl,by rw[h1,hk],fun v=>?_⟩;show(Value.int IntKind.i64 k,Value.bool v)::es.map (fun e=>(e.key,e.val))=_;rw[h3];rfl
  | false =>
   obtain⟨a1,a2⟩:=DU (k:=k) (i:=i+1) h3;refine⟨a1,fun b hb=>?_⟩;obtain⟨j,b1,e',b2,b3,b4⟩:=a2 b hb;refine⟨j+1,by simp only[];rw[b1];congr 3;omega,e',by simpa using b2,b3,fun v=>?_⟩;have:=b4 v;simp only[List.modify_succ_cons,List.map_cons,this,h1,h2,DP]
theorem H7{k:Int}{v:Bool}:∀{l:List (Int×Bool)},g8 k l=none→jp k v l=l++[(k,v)]
 | [],_=>rfl
 | p::r,h=>by
  unfold g8 at h;unfold jp;cases hd:decide (p.1=k) with
  | true=>rw[hd]at h;cases h
  | false=>rw[hd]at h;simp only[]at h⊢;rw[H7 h];rfl
def nU(P:Program)(T:TypeId):Bool:=match P.underlying T with
 | some (.map k e)=>match P.underlying k,(P.info? e).bind (·.zero) with|some (.int .i64),some (.bool false)=>true|_,_=>false
 | _=>false
theorem zy{P:Program}{T:TypeId}(h:nU P T=true):∃k e i,P.underlying T=some (.map k e)∧P.underlying k=some (.int .i64)∧P.info? e=some i∧i.zero=some (.bool false):=by
 unfold nU at h;split at h
 ·rename_i k e hu;split at h
  ·rename_i hk hz;cases hi:P.info? e with
   | none=>rw[hi]at hz;cases hz
   | some i=>rw[hi]at hz;exact⟨k,e,i,hu,hk,hi,hz⟩
  ·cases h
 ·cases h
def gt(w:World)(r:Nat)(o:Obj):World:={ w with heap:=w.heap.setIfInBounds r o }
theorem ye{w:World}{r b:Nat}{o:Obj}(h:b≠r):(gt w r o).heap[b]?=w.heap[b]?:=by
 simp only[gt];rw[Array.getElem?_setIfInBounds_ne (fun e=>h e.symm)]
theorem adk{w:World}{r:Nat}{o:Obj}(h:r<w.heap.size):(gt w r o).heap[r]?=some o:=by
 simp[gt,h]
theorem uH(w:World)(r:Nat)(o:Obj):(gt w r o).heap.size=w.heap.size:=by simp[gt]
theorem HS.gt{M:Nat→Prop}{w0:aJ}{w:World}{ι:Env}{s:AS}(h:HS M w0 w ι s){id q r:Nat}{et:TypeId}{L:List bH}{m':bH}{o:Obj}(htg:TG≤id)
  (har:look id s.r=some ⟨et,1,L.map cU⟩) (hr:ι (nm id q)=some (.map (some r))) (hm:∀w',w'.heap[r]?=some o→qn w' m' (.map (some r))) :
  HS M w0 (Proofs.YtolhpahjgddjkaaGreat.gt w r o) ι (cD id ⟨et,1,(L.set q m').map cU⟩ s):=by
 have hlt:=h.ig hr;have hne:∀{k g v},ι k=some v→bV (some v)=some g→(∀r,v ≠ .map r)→(Proofs.YtolhpahjgddjkaaGreat.gt w r o).heap[g]?=w.heap[g]?:=fun {k g v} hk hg hv=>ye (fun e=>h.km hr hk hv (by rw[hg,e]));have keep:∀b,b<w.heap.size→¬ NN M ι b→(Proofs.YtolhpahjgddjkaaGreat.gt w r o).heap[b]?=w.heap[b]?:=fun b _ hb=>ye (fun e=>hb (.inr ⟨nm id q,by rw[hr,e];rfl⟩));have hown:=(h.own (nm id q) r (by rw[hr];rfl)).1;refine⟨?_,h.old,h.use,fun i k hk=>?_,h.inj,h.ko,fun i a hi=>?_,fun i cs hi hp=>?_,fun i a hi hp=>?_,h.pin⟩
 ·exact h.below.trans ⟨rfl,rfl,rfl,by rw[uH];exact Nat.le_refl _,fun k hk hG=>ye (fun e=>by subst e;rcases hown with ho|ho;exact Nat.lt_irrefl _ (Nat.lt_of_lt_of_le hk ho);exact hG ho)⟩
 ·have:=h.own i k hk;rw[uH];exact this
 ·simp only[cD,cu]at hi;by_cases ei:i=id
  ·subst ei;exact h.kr i _ har
  ·rw[if_neg ei]at hi;exact h.kr i a hi
 ·obtain⟨g,T,vs,e1,e2,e3⟩:=h.objs i cs hi hp;exact⟨g,T,vs,e1,(hne e1 rfl (fun r e=>by cases e)).trans e2,e3.mono (by rw[uH];exact Nat.le_refl _) (fun b _ hb=>hb) keep (fun _ _ h=>h)⟩
 ·have cells:∀{i:Nat} {a:bD},(i=id→False)∨(a=⟨et,1,L.map cU⟩∧i=id)→∀{c:AV} {x:Value} {k:Nat},(i=id→k≠q)→fL (NN M ι) w (TG≤i) (ι (nm i k)) c x→fL (NN M ι) (Proofs.YtolhpahjgddjkaaGreat.gt w r o) (TG≤i) (ι (nm i k)) c x:=fun {i a} _ {c x k} hkq hr' =>
   hr'.mono (by rw[uH];exact Nat.le_refl _) (fun b _ hb=>hb) keep (fun _ h=>h) (fun r' h'=>ye (fun e=>by
    subst e;obtain⟨e1,e2⟩:=jE (h.inj _ _ r' (by rw[h'];rfl) (by rw[hr];rfl));exact hkq e1 e2)) (fun h=>h)
  simp only[cD,cu]at hi;by_cases ei:i=id
  ·subst ei;rw[if_pos rfl]at hi;injection hi with hi;subst hi
   obtain⟨v,xs,e1,e2,e3,e4,e5⟩:=h.arrs i _ har hp;have hv:∀r,v ≠ .map r:=fun r e=>by subst e;rcases e2.2 with⟨hv,_⟩|⟨_,_,_,hv,_⟩<;>cases hv
   refine⟨v,xs,e1,gc (by simpa using e2) (fun g hg=>hne e1 hg hv),fun e he=>by obtain⟨q,_,rfl⟩:=List.mem_map.1 he;rfl,e4,fun j e hj k c hk=>?_⟩;have hk0:k=0:=by
    have h2:=(List.getElem?_eq_some_iff.1 hk).1;obtain⟨q,_,rfl⟩:=List.mem_map.1 (List.mem_of_getElem? hj);simp only[cU,List.length_cons,List.length_nil]at h2;omega
   subst hk0;simp only[List.getElem?_map]at hj;by_cases hjq:j=q
   ·subst hjq;rw[List.getElem?_set]at hj;rw[if_pos rfl]at hj;split at hj
    ·rename_i hjl;injection hj with hj;subst hj
     simp only[cU,List.getElem?_cons_zero,Option.some.injEq]at hk;subst hk;obtain⟨x,hx,hr'⟩:=e5 j (cU L[j]) (by simp[List.getElem?_eq_getElem hjl]) 0 (.omp L[j]) rfl;rcases hr' with hr'|⟨_,m,r',_,hxr,ho,_⟩|⟨_,_,_,_,_,e00,_⟩
     ·cases hr'
     ·subst hxr;simp only[Nat.mul_one,Nat.add_zero]at ho hx⊢;rw[hr]at ho;injection ho with ho;injection ho with ho;subst ho
      exact⟨_,hx,.inr (.inl ⟨htg,_,some r,rfl,rfl,hr,hm _ (adk hlt)⟩)⟩
     ·cases e00
    ·cases hj
   ·rw[List.getElem?_set_ne (fun e=>hjq e.symm)]at hj;obtain⟨x,hx,hr'⟩:=e5 j e (by simp only[List.getElem?_map];exact hj) 0 c hk;refine⟨x,hx,cells (a:=⟨et,1,L.map cU⟩) (.inr ⟨rfl,rfl⟩) (fun _=>?_) hr'⟩;simpa using hjq
  ·rw[if_neg ei]at hi;obtain⟨v,xs,e1,e2,e3,e4,e5⟩:=h.arrs i a hi hp;have hv:∀r,v ≠ .map r:=fun r e=>by subst e;rcases e2.2 with⟨hv,_⟩|⟨_,_,_,hv,_⟩<;>cases hv
   refine⟨v,xs,e1,gc e2 (fun g hg=>hne e1 hg hv),e3,e4,fun j e hj k c hk=>?_⟩;obtain⟨x,hx,hr'⟩:=e5 j e hj k c hk;exact⟨x,hx,cells (a:=a) (.inl ei) (fun e=>absurd e ei) hr'⟩
theorem HS.mX{M:Nat→Prop}{w0:aJ}{w:World}{ι:Env}{s:AS}(h:HS M w0 w ι s){id q:Nat}{r:Option Nat}{et:TypeId}{L:List bH}(har:look id s.r=some ⟨et,1,L.map cU⟩)(hq:q<L.length)(hr:ι (nm id q)=some (.map r))(hp:(ι id).isSome=true):
  qn w (L.getD q none) (.map r):=by
 obtain⟨v,xs,e1,e2,e3,e4,e5⟩:=h.arrs id _ har hp;obtain⟨x,hx,hr'⟩:=e5 q (cU L[q]) (by simp[List.getElem?_eq_getElem hq]) 0 (.omp L[q]) rfl;rcases hr' with hr'|⟨_,m,r',e,hxr,ho,hm⟩|⟨_,_,_,_,_,e00,_⟩
 ·cases hr'
 ·injection e with e;subst e;subst hxr
  simp only[Nat.mul_one,Nat.add_zero]at ho;rw[hr]at ho;injection ho with ho
  rw[List.getD_eq_getElem?_getD,List.getElem?_eq_getElem hq,Option.getD_some,ho];exact hm
 ·cases e00
section
variable{cx:Cx}{Q:Exit→Act→World→Prop}{ks:List ao}{s:AS}{all:Array Oper}{f:Func}{p:List Nat}{i:Nat}
theorem Wn{P:Program}{w:World}{T:TypeId}{r:Option Nat}{m:bH}{n:Int}(ht:nU P T=true)(hm:qn w m (.map r)):(Instr.lookup T (.map r) (.int .i64 n) false).run P w=.ok (.bool (iU m n)) w:=by
 obtain⟨k,e,ie,hu,hk,hi,hz⟩:=zy ht;have hck:∀b,(Instr.checkKey b 10000 k (.int .i64 n)).run P w=.ok () w:=fun b=>MapKept.run_checkKey hk (by simp[MapKept.IsKey]) b 9999;have hzv:(zeroValue e).run P w=.ok (.bool false) w:=by simp[zeroValue,typeInfo,hi,hz]
 cases m with
 | none =>
  have hm':Value.map r=.map none:=hm;injection hm' with hm';subst hm'
  have hf:(Instr.findKey k (.int .i64 n) []).run P w=.ok none w:=MapKept.run_findKey hk rfl;simp[Instr.lookup,run_underlying hu,hck,hf,hzv,iU]
 | some l =>
  obtain⟨r',es,ck,e1,e2,e3⟩:=hm;injection e1 with e1;subst e1
  obtain⟨a1,a2⟩:=DU (k:=n) (i:=0) e3;cases hf:g8 n l with
  | none =>
   have hf2:(Instr.findKey k (.int .i64 n) es.toList).run P w=.ok none w:=MapKept.run_findKey hk (a1 hf);simp[Instr.lookup,run_underlying hu,MapKept.run_getObj_map e2,hck,hf2,hzv,iU,hf]
  | some b =>
   obtain⟨j,b1,_⟩:=a2 b hf;have hf2:(Instr.findKey k (.int .i64 n) es.toList).run P w=.ok (some (0+j,.bool b)) w:=MapKept.run_findKey hk b1;simp[Instr.lookup,run_underlying hu,MapKept.run_getObj_map e2,hck,hf2,hzv,iU,hf]
theorem TA{L:List bH}{id q:Nat}{et T:TypeId}{x y:Operand}{n:Int}(hq:decide (q<L.length)=true)(k:OT cx Q ks all (bk f p (i+1)) (s.put (bC f p i).dst (.bool (iU (L.getD q none) n))))
  (hl:bk f p i=bC f p i::bk f p (i+1):=by kernel_rfl) (hg:cN all s (bC f p i)=true:=by kernel_rfl) (hop:(bC f p i).op=.lookup T x y false:=by kernel_rfl) (hd:dq cx.n (bC f p i).dst=true:=by kernel_rfl)
  (hx:s.ev x=some (.mref id q):=by kernel_rfl) (hy:s.ev y=some (.int .i64 n):=by kernel_rfl) (hr:look id s.r=some ⟨et,1,L.map cU⟩:=by kernel_rfl) (ht:nU cx.P T=true:=by kernel_rfl):OT cx Q ks all (bk f p i) s:=by
 rw[hl];refine iK _ hg fun a w ι hs=>?_;refine wpList_plain rfl fun K hK=>?_;have hx':=hs.ev hx;have hy':=jc hs hy;generalize hX:a.eval x=X at hx';cases hx' with
 | mref _ _ _ r v0 hι h2 =>
  have hm:=hs.hs.mX hr (of_decide_eq_true hq) hι (by rw[h2];rfl);have hrun:=Wn (n:=n) ht hm;unfold Oper.wp execOp;simp only[hop,hX,hy',hrun,Sem.run_bind,Sem.run_pure,Result.andThen_ok];exact hK _ _ (k _ _ _ (hs.put (iV hd) (.bool _ _)))
theorem ach{P:Program}{w:World}{T:TypeId}{d:TypeDesc}{b o:Nat}{x:Value}(hu:P.underlying T=some d)(hr:d.isRow=false)(hc:w.cell? ⟨b,o,none⟩=some x):(Instr.loadAt T (.pointer (some ⟨b,o,none⟩))).run P w=.ok x w:=by
 have hagg:(isAgg T).run P w=.ok false w:=by
  unfold isAgg;rw[Sem.run_bind,run_underlying hu w];cases d<;>simp_all[TypeDesc.isRow]
 simp[Instr.loadAt,Instr.sureAddr,loadVar,hagg,run_load,hc]
theorem Cg{L:List bH}{id j:Nat}{et T:TypeId}{x:Operand}(hj:decide (j<L.length)=true)(k:OT cx Q ks all (bk f p (i+1)) (s.put (bC f p i).dst (.mref id j)))
  (hl:bk f p i=bC f p i::bk f p (i+1):=by kernel_rfl) (hg:cN all s (bC f p i)=true:=by kernel_rfl) (hop:(bC f p i).op=.load T x:=by kernel_rfl) (hd:dq cx.n (bC f p i).dst=true:=by kernel_rfl)
  (hx:s.ev x=some (.eptr id 1 j 0):=by kernel_rfl) (hr:look id s.r=some ⟨et,1,L.map cU⟩:=by kernel_rfl) (ht:nU cx.P T=true:=by kernel_rfl):OT cx Q ks all (bk f p i) s:=by
 rw[hl];refine iK _ hg fun a w ι hs=>?_;refine wpList_plain rfl fun K hK=>?_;have hq:=of_decide_eq_true hj;have hx':=hs.ev hx;generalize hX:a.eval x=X at hx';cases hx' with
 | eptr _ _ _ _ _ g n c hι =>
  obtain⟨v,xs,e1,e2,e3,e4,e5⟩:=hs.hs.arrs id _ hr (by rw[hι];rfl);rw[hι]at e1;injection e1 with e1;subst e1
  obtain⟨y,hy,hr'⟩:=e5 j (cU L[j]) (by simp[List.getElem?_eq_getElem hq]) 0 (.omp L[j]) rfl;rcases hr' with hr'|⟨_,m,r',e,hxr,ho,hm⟩|⟨_,_,_,_,_,e00,_⟩
  ·cases hr'
  ·subst hxr;simp only[Nat.mul_one,Nat.add_zero]at ho hy;have hc:=e2.cells (g:=g) rfl j _ hy;rw[Addr.add_mid,Nat.zero_add]at hc;obtain⟨k',e',ie,hu,_,_,_⟩:=zy ht;have hrun:=ach (P:=cx.P) hu rfl hc;unfold Oper.wp execOp;simp only[Nat.mul_one,Nat.add_zero]at hX;simp only[hop,hX,hrun,Sem.run_bind,Sem.run_pure,Result.andThen_ok];exact hK _ _ (k _ _ _ (hs.put (iV hd) (.mref _ _ _ _ _ ho hι)))
  ·cases e00
theorem QF{P:Program}{w:World}{T k e:TypeId}(hu:P.underlying T=some (.map k e))(d:Nat)(r:Option Nat):(Op.equalIn (d+1) T (.map r) (.map none)).run P w=.ok r.isNone w:=by
 unfold Op.equalIn;rw[Sem.run_bind,run_underlying hu w];cases r<;>rfl
def Ol:BinOp→Option Bool
 | .eql=>some true
 | .neq=>some false
 | _=>none
theorem UB (eq:Bool) {L:List bH} {id q:Nat} {op:BinOp} {et T T':TypeId} {x y:Operand} (hq:decide (q<L.length)=true) (k:OT cx Q ks all (bk f p (i+1)) (s.put (bC f p i).dst (.bool (cond eq (L.getD q none).isNone (!(L.getD q none).isNone)))))
    (hl:bk f p i=bC f p i::bk f p (i+1):=by kernel_rfl) (hg:cN all s (bC f p i)=true:=by kernel_rfl) (hop:(bC f p i).op=.binOp op T x y T':=by kernel_rfl) (he:Ol op=some eq:=by kernel_rfl) (hd:dq cx.n (bC f p i).dst=true:=by kernel_rfl)
    (hx:s.ev x=some (.mref id q):=by kernel_rfl) (hy:s.ev y=some .nilm:=by kernel_rfl) (hr:look id s.r=some ⟨et,1,L.map cU⟩:=by kernel_rfl) (ht:nU cx.P T=true:=by kernel_rfl):OT cx Q ks all (bk f p i) s:=by
  rw[hl];refine iK _ hg fun a w ι hs=>?_;refine wpList_plain rfl fun K hK=>?_;have hx':=hs.ev hx;have hy':=hs.ev hy;generalize hX:a.eval x=X at hx';generalize hY:a.eval y=Y at hy';cases hy';cases hx' with
  | mref _ _ _ r v0 hι h2 =>
    have hm:=hs.hs.mX hr (of_decide_eq_true hq) hι (by rw[h2];rfl);have hn:(L.getD q none).isNone=r.isNone:=by
      generalize L.getD q none=m at hm;cases m with
      | none=>have hm':Value.map r=.map none:=hm;injection hm' with hm';subst hm';rfl
      | some l=>obtain⟨r',es,ck,e1,_⟩:=hm;injection e1 with e1;subst e1;rfl
    rw[hn]at k;obtain⟨k',e',ie,hu,_,_,_⟩:=zy ht;have hrun:=QF (w:=w) hu 9999 r;have heq:(binOp .eql T (.map r) (.map none)).run cx.P w=.ok (.bool r.isNone) w:=by
      have e:binOp .eql T (.map r) (.map none)=(do pure (.bool (← Op.equalIn 10000 T (.map r) (.map none)))):=rfl;rw[e,Sem.run_bind,hrun];rfl
    have hne:(binOp .neq T (.map r) (.map none)).run cx.P w=.ok (.bool (!r.isNone)) w:=by
      have e:binOp .neq T (.map r) (.map none)=(do pure (.bool (!(← Op.equalIn 10000 T (.map r) (.map none))))):=rfl;rw[e,Sem.run_bind,hrun];rfl
    unfold Oper.wp execOp;cases op<;>simp only[Ol]at he<;>first
      | (cases he;done)
      | (injection he with he;subst he
         simp only[hop,hX,hY,Sem.run_bind,heq,hne];have hif:(if (!true)=true then (pure ():Sem Unit) else pure ()).run cx.P w=.ok () w:=rfl;simp only[eqGuard,Sem.run_pure,Result.andThen_ok]
         first|rw[hif]|skip
         simp only[Result.andThen_ok,heq,hne];refine hK _ _ (k _ _ _ (hs.put (iV hd) ?_));cases r<;>exact .bool _ _)
theorem Y9{L:List bH}{id q:Nat}{et T:TypeId}{x y z:Operand}{n:Int}{b:Bool}(hq:decide (q<L.length)=true)(sh:(L.getD q none).isSome=true)(k:OT cx Q ks all (bk f p (i+1)) (cD id ⟨et,1,(L.set q (nX (L.getD q none) n b)).map cU⟩ s))
  (hl:bk f p i=bC f p i::bk f p (i+1):=by kernel_rfl) (hg:cN all s (bC f p i)=true:=by kernel_rfl) (hop:(bC f p i).op=.mapUpdate T x y z:=by kernel_rfl) (hd:(bC f p i).dst=none:=by kernel_rfl)
  (hx:s.ev x=some (.mref id q):=by kernel_rfl) (hy:s.ev y=some (.int .i64 n):=by kernel_rfl) (hz:s.ev z=some (.bool b):=by kernel_rfl) (hr:look id s.r=some ⟨et,1,L.map cU⟩:=by kernel_rfl) (ht:nU cx.P T=true:=by kernel_rfl) (htg:Nat.ble TG id=true:=by kernel_rfl):OT cx Q ks all (bk f p i) s:=by
 rw[hl];refine iK _ hg fun a w ι hs=>?_;refine wpList_plain rfl fun K hK=>?_;have hx':=hs.ev hx;have hy':=jc hs hy;have hz':=hs.ev hz;generalize hX:a.eval x=X at hx';generalize hZ:a.eval z=Z at hz';cases hz';cases hx' with
 | mref _ _ _ r v0 hι h2 =>
  have hm:=hs.hs.mX hr (of_decide_eq_true hq) hι (by rw[h2];rfl);cases hmq:L.getD q none with
  | none=>rw[hmq]at sh;cases sh
  | some l =>
   rw[hmq]at hm k;obtain⟨r',es,ck,e1,e2,e3⟩:=hm;injection e1 with e1;subst e1
   obtain⟨kt,e,ie,hu,hk,hi,hz0⟩:=zy ht;have hck:(Instr.checkKey false 10000 kt (.int .i64 n)).run cx.P w=.ok () w:=MapKept.run_checkKey hk (by simp[MapKept.IsKey]) false 9999;obtain⟨a1,a2⟩:=DU (k:=n) (i:=0) e3;have hlt:=hs.hs.ig hι;have fin:∀{o:Obj},(Instr.mapUpdate T (.map (some r')) (.int .i64 n) (.bool b)).run cx.P w=.ok () (gt w r' o)→(∀w':World,w'.heap[r']?=some o→qn w' (some (jp n b l)) (.map (some r')))→({ bC f p i with guard:=none }:Oper).wp cx.P a w K (Kw cx.P Q ks):=fun {o} hrun hmi=>by
    have h3:=hs.hs.gt (m':=some (jp n b l)) (o:=o) (Nat.le_of_ble_eq_true htg) hr hι hmi;have hs2:aX cx (cD id ⟨et,1,(L.set q (some (jp n b l))).map cU⟩ s) a (gt w r' o) ι :=
     hs.world h3 rfl (by rw[uH];exact Nat.le_refl _) (fun b _ hb=>hb) (fun b _ hb=>ye (fun e=>hb (.inr ⟨nm id q,by rw[hι,e];rfl⟩))) (fun _ _ h=>h)
    unfold Oper.wp execOp;simp only[hop,hX,hy',hZ,hrun,Sem.run_bind,Sem.run_pure,Result.andThen_ok];exact hK _ _ (by rw[hd];exact k _ _ _ hs2)
   cases hf:g8 n l with
   | none =>
    have hf2:(Instr.findKey kt (.int .i64 n) es.toList).run cx.P w=.ok none w:=MapKept.run_findKey hk (a1 hf);refine fin (o:=.map (es.push { key:=.int .i64 n,val:=.bool b,born:=ck }) (ck+1)) ?_ (fun w' hw'=>⟨r',_,_,rfl,hw',?_⟩)
    ·simp[Instr.mapUpdate,run_underlying hu,MapKept.run_getObj_map e2,hck,hf2,MapKept.run_setObj_map _ e2,gt]
    ·rw[H7 hf];simp[e3]
   | some bb =>
    obtain⟨j,b1,em,b2,b3,b4⟩:=a2 bb hf;have hf2:(Instr.findKey kt (.int .i64 n) es.toList).run cx.P w=.ok (some (0+j,.bool bb)) w:=MapKept.run_findKey hk b1;have hej:es[j]?=some em:=by rw[←Array.getElem?_toList];exact b2
    have hks:(Instr.keyThatStays (.int .i64 n) (.int .i64 n)).run cx.P w=.ok (.int .i64 n) w:=by
     simp[Instr.keyThatStays,Instr.sameBits]
    refine fin (o:=.map (es.modify (0+j) fun e=>{ e with key:=.int .i64 n,val:=.bool b }) ck) ?_ (fun w' hw'=>⟨r',_,_,rfl,hw',?_⟩)
    ·simp[Instr.mapUpdate,run_underlying hu,MapKept.run_getObj_map e2,hck,hf2,MapKept.run_setObj_map _ e2,gt,hej,b3,hks]
    ·have:=b4 b;rw[Nat.zero_add,Array.toList_modify];exact this
def dT(s:AS):Bool:=(s.u.all fun k=>Nat.ble (k+1) 1000000)&&((s.o.all fun q=>Nat.ble (q.1+1) dp)&&(s.r.all fun q=>Nat.ble (q.1+1) dp))
theorem jd{α:Type}:∀{l:List (Nat×α)} {k:Nat} {v:α},look k l=some v→(k,v)∈l
 | [],k,v,h=>by cases h
 | (j,x)::r,k,v,h=>by
  simp only[look]at h;split at h
  ·rename_i e;subst e;injection h with h;subst h;exact List.mem_cons_self
  ·exact List.mem_cons_of_mem _ (jd h)
theorem qG{s:AS}(h:dT s=true){i:Nat}{cs:List AV}(hi:look i s.o=some cs):i<dp:=by
 simp only[dT,Bool.and_eq_true,List.all_eq_true]at h;exact Nat.le_of_ble_eq_true (h.2.1 _ (jd hi))
theorem iA{s:AS}(h:dT s=true){i:Nat}{a:bD}(hi:look i s.r=some a):i<dp:=by
 simp only[dT,Bool.and_eq_true,List.all_eq_true]at h;exact Nat.le_of_ble_eq_true (h.2.2 _ (jd hi))
theorem rA{M:Nat→Prop}{w0:aJ}{w:World}{ι:Env}{s:AS}(hs:HS M w0 w ι s)(h:dT s=true){i:Nat}{v:Value}(hp:w0.pv i=some v):False:=by
 have h2:=(hs.pin i v hp).2;simp only[dT,Bool.and_eq_true,List.all_eq_true]at h;have:=Nat.le_of_ble_eq_true (h.1 _ (by simpa using h2));unfold ey at this;omega
theorem ic(id q:Nat):dp≤nm id q:=Nat.le_add_right _ _
mutual
/-- Names no map in a cell. -/
def AV.eE:AV→Bool
 | .mref _ _=>false
 | .ptr i _=>Nat.ble (i+1) dp
 | .eptr i _ _ _=>Nat.ble (i+1) dp
 | .sref i _ _ _=>Nat.ble (i+1) dp
 | .pp i _ _=>Nat.ble (i+1) dp
 | .ref i=>Nat.ble (i+1) dp
 | .lk i _=>Nat.ble (i+1) dp
 | .agg cs=>gT cs
 | .tup cs=>gT cs
 | _=>true
def gT:List AV→Bool
 | []=>true
 | c::r=>c.eE&&gT r
end
theorem jS:∀{l:List AV},gT l=true→∀(i:Nat) (x:AV),l[i]?=some x→x.eE=true
 | [],_,i,x,hx=>by simp at hx
 | c::r,h,0,x,hx=>by simp only[gT,Bool.and_eq_true]at h;simp at hx;subst hx;exact h.1
 | c::r,h,i+1,x,hx=>by simp only[gT,Bool.and_eq_true]at h;simp at hx;exact jS h.2 i x hx
theorem Rel.eE{N:Nat→Prop}{w:World}{ι:Env}{v:AV}{x:Value}(h:Rel N w ι v x){κ:Nat}(hκ:dp≤κ){r0:Option Nat}{ι':Env}(hm:ι κ=some (.map r0))(hι:∀k,k≠κ→ι' k=ι k):v.eE=true→Rel N w ι' v x:=by
 have ne:∀{i y},ι i=some y→(∀r,y ≠ .map r)→ι' i=some y:=fun {i y} hi hy=>by
  by_cases e:i=κ
  ·subst e;rw[hm]at hi;injection hi with hi;exact absurd hi.symm (hy _)
  ·exact(hι i e).trans hi
 induction h with
 | int ι k n=>intro _;exact .int _ _ _
 | bool ι b=>intro _;exact .bool _ _
 | str ι s=>intro _;exact .str _ _
 | nils ι=>intro _;exact .nils _
 | nilm ι=>intro _;exact .nilm _
 | sl0 ι A c=>intro _;exact .sl0 _ _ _
 | sl ι l b o c sz val hz hb hn h1 hc hr hcap ih=>intro _;exact .sl _ l b o c sz val hz hb hn h1 hc hr hcap
 | fn ι f aN ys hl hr ih=>intro _;exact .fn _ f aN ys hl hr
 | nilf ι=>intro _;exact .nilf _
 | nilp ι=>intro _;exact .nilp _
 | any ι x h=>intro _;exact .any _ _ h
 | ptr ι id off g h=>intro _;exact .ptr _ _ _ _ (ne h (fun r e=>by cases e))
 | eptr ι id sz j off g n c h=>intro _;exact .eptr _ _ _ _ _ _ n c (ne h (fun r e=>by cases e))
 | sref ι id sz off m n c c' A B h hB=>intro _;exact .sref _ _ _ _ _ n c c' A B (ne h (fun r e=>by cases e)) hB
 | cptr ι cs b o val hb hn h1 hc hr ih=>intro _;exact .cptr _ cs b o val hb hn h1 hc hr
 | adr ι g off=>intro _;exact .adr _ _ _
 | vv ι x h=>intro _;exact .vv _ _ h
 | pp ι id g off h=>intro _;exact .pp _ _ _ _ (ne h (fun r e=>by cases e))
 | ref ι id A n c h=>intro _;exact .ref _ _ _ _ _ (ne h (fun r e=>by cases e))
 | lk ι id v x h h1=>intro hn;exact .lk _ _ _ _ ((hι id (fun e=>by have:=Nat.le_of_ble_eq_true (show Nat.ble (id+1) dp=true from hn);omega)).trans h) h1
 | mref ι id q r v h h2=>intro hn;cases hn
 | agg ι cs vs hl h1 hr ih=>intro hn;exact .agg _ cs vs hl h1 (fun i x v hx hv=>ih i x v hx hv hm hι ne (jS (by simpa[AV.eE]using hn) i x hx))
 | tup ι cs vs hl hr ih=>intro hn;exact .tup _ cs vs hl (fun i x v hx hv=>ih i x v hx hv hm hι ne (jS (by simpa[AV.eE]using hn) i x hx))
theorem Rel.low{N:Nat→Prop}{w:World}{ι:Env}{v:AV}{x:Value}(h:Rel N w ι v x){ι':Env}(hι:∀k,k<dp→ι' k=ι k):v.eE=true→Rel N w ι' v x:=by
 have lt:∀{i},Nat.ble (i+1) dp=true→i<dp:=fun h=>Nat.le_of_ble_eq_true h
 induction h with
 | int ι k n=>intro _;exact .int _ _ _
 | bool ι b=>intro _;exact .bool _ _
 | str ι s=>intro _;exact .str _ _
 | nils ι=>intro _;exact .nils _
 | nilm ι=>intro _;exact .nilm _
 | sl0 ι A c=>intro _;exact .sl0 _ _ _
 | sl ι l b o c sz val hz hb hn h1 hc hr hcap ih=>intro _;exact .sl _ l b o c sz val hz hb hn h1 hc hr hcap
 | fn ι f aN ys hl hr ih=>intro _;exact .fn _ f aN ys hl hr
 | nilf ι=>intro _;exact .nilf _
 | nilp ι=>intro _;exact .nilp _
 | any ι x h=>intro _;exact .any _ _ h
 | ptr ι id off g h=>intro q;exact .ptr _ _ _ _ ((hι _ (lt q)).trans h)
 | eptr ι id sz j off g n c h=>intro q;exact .eptr _ _ _ _ _ _ n c ((hι _ (lt q)).trans h)
 | sref ι id sz off m n c c' A B h hB=>intro q;exact .sref _ _ _ _ _ n c c' A B ((hι _ (lt q)).trans h) hB
 | cptr ι cs b o val hb hn h1 hc hr ih=>intro _;exact .cptr _ cs b o val hb hn h1 hc hr
 | adr ι g off=>intro _;exact .adr _ _ _
 | vv ι x h=>intro _;exact .vv _ _ h
 | pp ι id g off h=>intro q;exact .pp _ _ _ _ ((hι _ (lt q)).trans h)
 | ref ι id A n c h=>intro q;exact .ref _ _ _ _ _ ((hι _ (lt q)).trans h)
 | lk ι id v x h h1=>intro q;exact .lk _ _ _ _ ((hι _ (lt q)).trans h) h1
 | mref ι id q r v h h2=>intro hn;cases hn
 | agg ι cs vs hl h1 hr ih=>intro hn;exact .agg _ cs vs hl h1 (fun i x v hx hv=>ih i x v hx hv hι (jS (by simpa[AV.eE]using hn) i x hx))
 | tup ι cs vs hl hr ih=>intro hn;exact .tup _ cs vs hl (fun i x v hx hv=>ih i x v hx hv hι (jS (by simpa[AV.eE]using hn) i x hx))
def dH(s:AS):Bool:=(s.t.all fun q=>q.2.eE)&&(s.o.all fun q=>gT q.2)
theorem HS.Uv{M:Nat→Prop}{w0:aJ}{w:World}{ι:Env}{s:AS}(h:HS M w0 w ι s){id q g n c:Nat}{et:TypeId}{L:List bH}(htg:TG≤id)(hpl:dT s=true)(hnm:dH s=true)
  (har:look id s.r=some ⟨et,1,L.map cU⟩) (hq:q<L.length) (hι:ι id=some (.slice (some ⟨g,0,none⟩) n c)):∃cur T,w.heap[g]?=some (.cells cur T (0,0))∧q<cur.size∧g<w.heap.size ∧
  HS M w0 ((w.alloc (.map #[] 0)).setRow g (cur.setIfInBounds q (.map (some w.heap.size)))) (fun k=>if k=nm id q then some (.map (some w.heap.size)) else ι k) (cD id ⟨et,1,(L.set q (some [])).map cU⟩ s) ∧
  (∀b,b<w.heap.size→NN M (fun k=>if k=nm id q then some (.map (some w.heap.size)) else ι k) b→NN M ι b)∧(∀b,b<w.heap.size→¬ NN M ι b→((w.alloc (.map #[] 0)).setRow g (cur.setIfInBounds q (.map (some w.heap.size)))).heap[b]?=w.heap[b]?):=by
 obtain⟨v,xs,e1,e2,e3,e4,e5⟩:=h.arrs id _ har (by rw[hι];rfl);rw[hι]at e1;injection e1 with e1;subst e1
 have hbg:bV (ι id)=some g:=by rw[hι];rfl
 obtain⟨hv,_⟩|⟨g',cap,cur,hv,hb,hg,hle,hcap,hsize,htake⟩:=e2.2
 ·cases hv
 injection hv with hA hn hcc
 injection hA with hA;injection hA with hA;subst hA;subst hcc
 obtain⟨ho,hlt⟩:=h.own id g hbg;simp only[Nat.mul_one,List.length_map]at hsize htake hle hn;have hxl:xs.length=L.length:=by simpa using e2.1
 have hcl:q<cur.size:=by omega
 obtain⟨y,hy,hry⟩:=e5 q (cU L[q]) (by simp[List.getElem?_eq_getElem hq]) 0 (.omp L[q]) rfl;obtain⟨r0,ho0⟩:∃r0,ι (nm id q)=some (.map r0):=by
  rcases hry with hry|⟨_,m,r',_,hxr,ho',_⟩|⟨_,_,_,_,_,e00,_⟩
  ·cases hry
  ·simp only[Nat.mul_one,Nat.add_zero]at ho';exact⟨r',by rw[ho',hxr]⟩
  ·cases e00
 refine⟨cur,et,hg,hcl,hlt,?_⟩;generalize hw2:(w.alloc (.map #[] 0)).setRow g (cur.setIfInBounds q (.map (some w.heap.size)))=w2;generalize hι2:(fun k=>if k=nm id q then some (.map (some w.heap.size)) else ι k:Env)=ι2;have i1:ι2 (nm id q)=some (.map (some w.heap.size)):=by rw[←hι2];simp
 have i2:∀k,k≠nm id q→ι2 k=ι k:=fun k hk=>by rw[←hι2];simp[hk]
 have hsz:w2.heap.size=w.heap.size+1:=by rw[←hw2];simp
 have hold:∀b,b<w.heap.size→b≠g→w2.heap[b]?=w.heap[b]?:=fun b hb hne=>by
  rw[←hw2,eK hne];exact Below.heap_alloc _ _ _ hb
 have hnew:w2.heap[w.heap.size]?=some (.map #[] 0):=by
  rw[←hw2,eK (by omega)];exact heap_alloc_new w _
 have hgn:w2.heap[g]?=some (.cells (cur.setIfInBounds q (.map (some w.heap.size))) et (0,0)):=by
  rw[←hw2];exact setRow_heap _ g cur _ _ _ ((Below.heap_alloc _ _ _ hlt).trans hg)
 have keep:∀b,b<w.heap.size→¬ NN M ι b→w2.heap[b]?=w.heap[b]?:=fun b hb hN=>hold b hb (fun e=>hN (.inr ⟨id,by rw[e];exact hbg⟩));have hN:∀b,b<w.heap.size→NN M ι2 b→NN M ι b:=fun b hb hh=>by
  rcases hh with hh|⟨k,hh⟩
  ·exact .inl hh
  ·by_cases e:k=nm id q
   ·subst e;rw[i1]at hh;injection hh with hh;omega
   ·rw[i2 k e]at hh;exact .inr ⟨k,hh⟩
 have ki:∀{i:Nat},i<dp→i≠nm id q:=fun {i} hi e=>by have:=ic id q;omega
 refine⟨⟨?_,h.old,fun k y hy=>?_,fun k b hk=>?_,fun k k' b hk hk'=>?_,h.ko,fun i a hi=>?_,fun i cs hi hp=>?_,fun i a hi hp=>?_,fun i v hp=>(rA h hpl hp).elim⟩,hN,keep⟩
 ·refine (h.below.alloc h.below.size (.map #[] 0)).trans ⟨?_,?_,?_,?_,fun k hk hG=>?_⟩
  ·rw[←hw2];rfl
  ·rw[←hw2];rfl
  ·rw[←hw2];rfl
  ·rw[hsz];simp
  ·rw[←hw2];exact eK (fun e=>by subst e;rcases ho with ho|ho;exact Nat.lt_irrefl _ (Nat.lt_of_lt_of_le hk ho);exact hG ho)
 ·by_cases e:k=nm id q
  ·subst e;exact BF _ _ _
  ·rw[i2 k e]at hy;exact h.use k y hy
 ·by_cases e:k=nm id q
  ·subst e;rw[i1]at hk;injection hk with hk;subst hk;exact⟨.inl h.below.size,by omega⟩
  ·rw[i2 k e]at hk;exact⟨(h.own k b hk).1,by have:=(h.own k b hk).2;omega⟩
 ·by_cases e:k=nm id q
  ·by_cases e':k'=nm id q
   ·exact e.trans e'.symm
   ·subst e;rw[i1]at hk;rw[i2 k' e']at hk';injection hk with hk;have:=(h.own k' b hk').2;omega
  ·by_cases e':k'=nm id q
   ·subst e';rw[i1]at hk';rw[i2 k e]at hk;injection hk' with hk';have:=(h.own k b hk).2;omega
   ·rw[i2 k e]at hk;rw[i2 k' e']at hk';exact h.inj k k' b hk hk'
 ·simp only[cD,cu]at hi;by_cases ei:i=id
  ·subst ei;exact h.kr i _ har
  ·rw[if_neg ei]at hi;exact h.kr i a hi
 ·have ei:=ki (qG hpl hi);rw[i2 i ei]at hp⊢;obtain⟨g1,T,vs,c1,c2,c3⟩:=h.objs i cs hi hp;have hne:g1≠g:=fun e=>by
   have:=h.inj i id g (by rw[c1,e];rfl) hbg;subst this;rw[c1]at hι;cases hι
  have hno:gT cs=true:=by
   simp only[dH,Bool.and_eq_true,List.all_eq_true]at hnm;exact hnm.2 _ (jd hi)
  refine⟨g1,T,vs,c1,(hold g1 (h.own i g1 (by rw[c1];rfl)).2 hne).trans c2,c3.len,c3.one,fun j x y hx hy=>?_⟩;exact((c3.rel j x y hx hy).eE (ic _ _) ho0 i2 (jS hno j x hx)).mono (by omega) hN keep (fun _ _ h=>h)
 ·have hor:∀{k r},k≠nm id q→ι k=some (.map r)→ι2 k=some (.map r):=fun {k r} hk hr=>(i2 k hk).trans hr;have hmb:∀{k r},ι k=some (.map (some r))→w2.heap[r]?=w.heap[r]?:=fun {k r} hk=>hold r (h.ig hk) (fun e=>h.km hk hι (fun r e=>by cases e) (by rw[e];rfl));simp only[cD,cu]at hi;by_cases ei:i=id
  ·subst ei;rw[if_pos rfl]at hi;injection hi with hi;subst hi
   have hid:ι2 i=some (.slice (some ⟨g,0,none⟩) n c):=(i2 i (ki (iA hpl har))).trans hι;refine⟨_,xs.set q (.map (some w.heap.size)),hid,⟨by simp[hxl],.inr ⟨g,c,cur.setIfInBounds q (.map (some w.heap.size)),by simp[hn],Nat.zero_le _,hgn,by simpa using hle,hcap,by simpa using hsize,?_⟩⟩,fun e he=>by obtain⟨q,_,rfl⟩:=List.mem_map.1 he;rfl,fun x hx=>?_,fun j e hj k c' hk=>?_⟩
   ·simp only[Array.toList_setIfInBounds,List.length_map,List.length_set,Nat.mul_one];rw[List.take_set,htake]
   ·rcases List.mem_or_eq_of_mem_set hx with hx|rfl
    ·exact e4 x hx
    ·rfl
   ·have hk0:k=0:=by
     have h2:=(List.getElem?_eq_some_iff.1 hk).1;obtain⟨q,_,rfl⟩:=List.mem_map.1 (List.mem_of_getElem? hj);simp only[cU,List.length_cons,List.length_nil]at h2;omega
    subst hk0;simp only[List.getElem?_map]at hj;simp only[Nat.mul_one,Nat.add_zero];by_cases hjq:j=q
    ·subst hjq;rw[List.getElem?_set,if_pos rfl,if_pos hq]at hj;injection hj with hj;subst hj
     simp only[cU,List.getElem?_cons_zero,Option.some.injEq]at hk;subst hk;exact⟨_,by rw[List.getElem?_set,if_pos rfl,if_pos (by omega)],.inr (.inl ⟨htg,some [],some w.heap.size,rfl,rfl,i1,w.heap.size,#[],0,rfl,hnew,rfl⟩)⟩
    ·rw[List.getElem?_set_ne (fun e=>hjq e.symm)]at hj;obtain⟨x,hx,hr'⟩:=e5 j e (by simp only[List.getElem?_map];exact hj) 0 c' hk;simp only[Nat.mul_one,Nat.add_zero]at hx hr';exact⟨x,by rw[List.getElem?_set_ne (fun e=>hjq e.symm)];exact hx,hr'.mono (by omega) hN keep (fun r h'=>hor (fun e=>hjq (jE e).2) h') (fun r h'=>hmb h') (fun h=>h)⟩
  ·rw[if_neg ei]at hi;have ei2:=ki (iA hpl hi);rw[i2 i ei2]at hp⊢;obtain⟨v1,xs1,c1,c2,c3,c4,c5⟩:=h.arrs i a hi hp;refine⟨v1,xs1,c1,gc c2 (fun g1 hg1=>hold g1 (h.own i g1 (by rw[c1];exact hg1)).2 (fun e=>ei (h.inj i id g (by rw[c1,← e];exact hg1) hbg))),c3,c4,fun j e hj k c' hk=>?_⟩;obtain⟨x,hx,hr'⟩:=c5 j e hj k c' hk;exact⟨x,hx,hr'.mono (by omega) hN keep (fun r h'=>hor (fun e=>ei (jE e).1) h') (fun r h'=>hmb h') (fun h=>h)⟩
theorem U0{L:List bH}{id d1 d2:Nat}{et T T1 T2:TypeId}{x y:Operand}{j:Int}(hj:aB j L.length=true)
  (k:OT cx Q ks all (bk f p (i+3)) (((cD id ⟨et,1,(L.set j.toNat (some [])).map cU⟩ s).put (some d1) .any).put (some d2) .any))
  (hl:bk f p i=bC f p i::bC f p (i+1)::bC f p (i+2)::bk f p (i+3):=by kernel_rfl) (hg:((bC f p i).guard.isNone&&((bC f p (i+1)).guard.isNone&&(bC f p (i+2)).guard.isNone))=true:=by kernel_rfl)
  (hop:(bC f p i).op=.makeMap T none:=by kernel_rfl) (hd:(bC f p i).dst=some d1:=by kernel_rfl) (hn:Nat.ble (d1+1) cx.n=true:=by kernel_rfl)
  (hop1:(bC f p (i+1)).op=.indexAddr T1 x y:=by kernel_rfl) (hd1:(bC f p (i+1)).dst=some d2:=by kernel_rfl) (hn1:Nat.ble (d2+1) cx.n=true:=by kernel_rfl)
  (hop2:(bC f p (i+2)).op=.store T2 (.tmp d2) (.tmp d1):=by kernel_rfl) (hd2:(bC f p (i+2)).dst=none:=by kernel_rfl) (hne:Nat.beq d1 d2=false:=by kernel_rfl)
  (hx:(s.put (some d1) .any).ev x=some (.ref id):=by kernel_rfl) (hy:(s.put (some d1) .any).ev y=some (.int .i64 j):=by kernel_rfl) (hr:look id s.r=some ⟨et,1,L.map cU⟩:=by kernel_rfl)
  (ht1:eV cx.P T1=some (et,1):=by kernel_rfl) (ht0:jH cx.P T1=none:=by kernel_rfl) (ht2:cq cx.P T2=some 1:=by kernel_rfl) (htg:Nat.ble TG id=true:=by kernel_rfl) (hpl:(dT s&&dH s)=true:=by kernel_rfl):OT cx Q ks all (bk f p i) s:=by
 rw[hl];intro a w ι hs;simp only[Bool.and_eq_true,Option.isNone_iff_eq_none]at hg hpl;have hd1':d1<cx.n:=Nat.le_of_ble_eq_true hn;have hd2':d2<cx.n:=Nat.le_of_ble_eq_true hn1;have hsim1:aX cx (s.put (some d1) .any) (a.put (some d1) (.map (some w.heap.size))) w ι:=hs.put (d:=some d1) (fun k hk=>by injection hk with hk;subst hk;exact hd1') (.any _ _ rfl);have hx':=hsim1.ev hx;have hy':=jc hsim1 hy;generalize hX:(a.put (some d1) (.map (some w.heap.size))).eval x=X at hx';obtain⟨hj0,hjl⟩:=aR hj;cases hx' with
 | ref _ _ A n0 c hι =>
  obtain⟨v,xs,e1,e2,e3,e4,e5⟩:=hs.hs.arrs id _ hr (by rw[hι];rfl);rw[hι]at e1;injection e1 with e1;subst e1
  obtain⟨hv,h0⟩|⟨g,cap,cur0,hv,_⟩:=e2.2
  ·simp only[List.length_map]at h0;omega
  injection hv with hA hn0 hcc
  subst hA;subst hn0;subst hcc;obtain⟨cur,T0,hg0,hcl,hglt,hhs,hN,hkeep⟩:=hs.hs.Uv (Nat.le_of_ble_eq_true htg) hpl.1 hpl.2 hr hjl hι
  -- makeMap
  refine wpList_plain hg.1 fun K hK=>?_;unfold Oper.wp execOp;simp only[hop,Option.map_none,run_makeMap,Sem.run_bind,Sem.run_pure,Result.andThen_ok];refine hK _ _ ?_;rw[hd]
  -- indexAddr
  refine wpList_plain hg.2.1 fun K1 hK1=>?_;have hix:(Instr.indexAt T1 (.slice (some ⟨g,0,none⟩) (L.map cU).length c) (.int .i64 j)).run cx.P (w.alloc (.map #[] 0))=.ok (.pointer (some ⟨g,j.toNat,none⟩)) (w.alloc (.map #[] 0)):=by
   unfold eV at ht1;split at ht1
   case h_2=>cases ht1
   rename_i e' hu;cases hin:cx.P.info? e' with
   | none=>simp[cq,hin]at ht1
   | some ie =>
    simp only[cq,hin,Option.map_some,Option.some.injEq,Prod.mk.injEq]at ht1;have hlt':j<(L.length:Int):=by omega
    simp[Instr.indexAt,asIntOf,run_underlying hu,hj0,hlt',sizeOf,typeInfo,hin,ht1.2,Addr.add_mid]
  unfold Oper.wp execOp;simp only[hop1,hX,hy',hix,Sem.run_bind,Sem.run_pure,Result.andThen_ok];refine hK1 _ _ ?_;rw[hd1]
  -- store
  refine wpList_plain hg.2.2 fun K2 hK2=>?_;have hne':d2≠d1:=fun e=>by subst e;simp at hne
  have ev2:((a.put (some d1) (.map (some w.heap.size))).put (some d2) (.pointer (some ⟨g,j.toNat,none⟩))).eval (.tmp d2)=.pointer (some ⟨g,j.toNat,none⟩):=by
   simp[Act.eval,Act.put,hs.n,hd1',hd2',Array.getD_eq_getD_getElem?]
  have ev1:((a.put (some d1) (.map (some w.heap.size))).put (some d2) (.pointer (some ⟨g,j.toNat,none⟩))).eval (.tmp d1)=.map (some w.heap.size):=by
   simp[Act.eval,Act.put,hs.n,hd1',hd2',Array.getD_eq_getD_getElem?,Array.getElem?_setIfInBounds,hne']
  have hgA:(w.alloc (.map #[] 0)).heap[g]?=some (.cells cur T0 (0,0)):=(Below.heap_alloc _ _ _ hglt).trans hg0;have hst:=FI (P:=cx.P) (T:=T2) (x:=.map (some w.heap.size)) (off:=j.toNat) hgA (by simpa[Value.cells]using ht2) (by simp[Value.cells];omega) (fun v hv=>by simp[Value.cells]at hv;subst hv;rfl);have hset:(cur.toList.take j.toNat++(Value.map (some w.heap.size)).cells.toList++cur.toList.drop (j.toNat+(Value.map (some w.heap.size)).cells.toList.length)).toArray=cur.setIfInBounds j.toNat (.map (some w.heap.size)):=by
   apply Array.toList_inj.1;simp only[Value.cells,Array.toList_setIfInBounds,List.length_cons,List.length_nil,Nat.zero_add];rw[List.set_eq_take_append_cons_drop,if_pos (by rw[Array.length_toList];exact hcl)];simp
  rw[hset]at hst;unfold Oper.wp execOp;simp only[hop2,ev1,ev2,hst,Sem.run_bind,Sem.run_pure,Result.andThen_ok];refine hK2 _ _ ?_;rw[hd2];have hnt:∀k' v,look k' s.t=some v→v.eE=true:=fun k' v hk=>by
   have:=hpl.2;simp only[dH,Bool.and_eq_true,List.all_eq_true]at this;exact this.1 _ (jd hk)
  obtain⟨r0,ho0⟩:∃r0,ι (nm id j.toNat)=some (.map r0):=by
   obtain⟨y,hy,hry⟩:=e5 j.toNat (cU L[j.toNat]) (by simp[List.getElem?_eq_getElem hjl]) 0 (.omp L[j.toNat]) rfl;rcases hry with hry|⟨_,m,r',_,hxr,ho',_⟩|⟨_,_,_,_,_,e00,_⟩
   ·cases hry
   ·simp only[Nat.mul_one,Nat.add_zero]at ho';exact⟨r',by rw[ho',hxr]⟩
   ·cases e00
  have hs3:aX cx (cD id ⟨et,1,(L.set j.toNat (some [])).map cU⟩ s) a ((w.alloc (.map #[] 0)).setRow g (cur.setIfInBounds j.toNat (.map (some w.heap.size)))) (fun k=>if k=nm id j.toNat then some (.map (some w.heap.size)) else ι k) :=
   ⟨hhs,hs.dfr,hs.n,fun k' v hk=>by
    obtain⟨z,hz,hrz⟩:=hs.tmp k' v hk;exact⟨z,hz,(hrz.eE (ic _ _) ho0 (fun k hk=>by simp[hk]) (hnt k' v hk)).mono (by simp) hN hkeep (fun _ _ h=>h)⟩⟩
  exact k _ _ _ ((hs3.put (d:=some d1) (fun k hk=>by injection hk with hk;subst hk;exact hd1') (.any _ _ rfl)).put (d:=some d2) (fun k hk=>by injection hk with hk;subst hk;exact hd2') (.any _ _ rfl))
theorem Zz{a:Act}{w:World}{ι:Env}(hs:aX cx s a w ι){id n:Nat}{et:TypeId}(htg:TG≤id)(hpl:dT s=true)(hnm:dH s=true)(hr:look id s.r=some ⟨et,1,(List.replicate n (none:bH)).map zz⟩):
  ∃ι',aX cx (cD id ⟨et,1,(List.replicate n (none:bH)).map cU⟩ s) a w ι':=by
 classical
 let ι2:Env:=fun k=>if k<dp then ι k else if ∃q,k=nm id q then some (.map none) else ι k
 have i0:∀k,k<dp→ι2 k=ι k:=fun k hk=>by simp[ι2,hk]
 have i1:∀q,ι2 (nm id q)=some (.map none):=fun q=>by
  have:¬ nm id q<dp:=by have:=ic id q;omega
  simp only[ι2,this,if_false];rw[if_pos ⟨q,rfl⟩]
 have i4:∀i q,i≠id→ι2 (nm i q)=ι (nm i q):=fun i q hi=>by
  have:¬ nm i q<dp:=by have:=ic i q;omega
  simp only[ι2,this,if_false];rw[if_neg (fun⟨q',e⟩=>hi (jE e).1)]
 have i3:∀k g,bV (ι2 k)=some g→bV (ι k)=some g:=fun k g hk=>by
  by_cases e:k<dp
  ·rw[i0 k e]at hk;exact hk
  ·simp only[ι2,e,if_false]at hk;split at hk
   ·cases hk
   ·exact hk
 have hN:∀b,NN cx.M ι2 b→NN cx.M ι b:=fun b hb=>by
  rcases hb with hb|⟨k,hb⟩
  ·exact .inl hb
  ·exact .inr ⟨k,(i3 k b hb)⟩
 have h:=hs.hs;simp only[dH,Bool.and_eq_true,List.all_eq_true]at hnm;refine⟨ι2,⟨h.below,h.old,fun k y hy=>?_,fun k g hk=>h.own k g (i3 k g hk),fun k k' g hk hk'=>h.inj k k' g (i3 k g hk) (i3 k' g hk'),h.ko,fun i a hi=>?_,fun i cs hi hp=>?_,fun i a hi hp=>?_,fun i v hp=>(rA h hpl hp).elim⟩,hs.dfr,hs.n,fun k v hk=>?_⟩
 ·by_cases e:k<dp
  ·rw[i0 k e]at hy;exact h.use k y hy
  ·unfold has;rw[Nat.ble_eq_true_of_le (by omega),Bool.or_true]
 ·simp only[cD,cu]at hi;by_cases ei:i=id
  ·subst ei;exact h.kr i _ hr
  ·rw[if_neg ei]at hi;exact h.kr i a hi
 ·rw[i0 i (qG hpl hi)]at hp⊢;obtain⟨g,T,vs,e1,e2,e3⟩:=h.objs i cs hi hp;exact⟨g,T,vs,e1,e2,e3.len,e3.one,fun j x y hx hy=>((e3.rel j x y hx hy).low i0 (jS (hnm.2 _ (jd hi)) j x hx)).mono (Nat.le_refl _) (fun b _ hb=>hN b hb) (fun _ _ _=>rfl) (fun _ _ h=>h)⟩
 ·simp only[cD,cu]at hi;by_cases ei:i=id
  ·subst ei;rw[if_pos rfl]at hi;injection hi with hi;subst hi
   rw[i0 i (iA hpl hr)]at hp⊢;obtain⟨v,xs,e1,e2,e3,e4,e5⟩:=h.arrs i _ hr hp;refine⟨v,xs,e1,by simpa using e2,fun e he=>by obtain⟨q,_,rfl⟩:=List.mem_map.1 he;rfl,e4,fun j e hj k c hk=>?_⟩;have hj':=hj;simp only[List.getElem?_map]at hj';cases hjr:(List.replicate n (none:bH))[j]? with
   | none=>rw[hjr]at hj';cases hj'
   | some m =>
    rw[hjr]at hj';injection hj' with hj';subst hj'
    have hmn:m=none:=List.eq_of_mem_replicate (List.mem_of_getElem? hjr);subst hmn;have hk0:k=0:=by
     have h2:=(List.getElem?_eq_some_iff.1 hk).1;simp only[cU,List.length_cons,List.length_nil]at h2;omega
    subst hk0;simp only[cU,List.getElem?_cons_zero,Option.some.injEq]at hk;subst hk;obtain⟨x,hx,hr'⟩:=e5 j (zz none) (by simp only[List.getElem?_map,hjr];rfl) 0 .nilm rfl;have hxn:x=.map none:=by
     rcases hr' with hr'|⟨_,m,r,hm,_⟩|⟨_,_,_,_,_,e00,_⟩
     ·cases hr';rfl
     ·cases hm
     ·cases e00
    subst hxn;exact⟨_,hx,.inr (.inl ⟨htg,none,none,rfl,rfl,i1 _,rfl⟩)⟩
  ·rw[if_neg ei]at hi;rw[i0 i (iA hpl hi)]at hp⊢;obtain⟨v,xs,e1,e2,e3,e4,e5⟩:=h.arrs i a hi hp;refine⟨v,xs,e1,e2,e3,e4,fun j e hj k c hk=>?_⟩;obtain⟨x,hx,hr'⟩:=e5 j e hj k c hk;exact⟨x,hx,hr'.mono (Nat.le_refl _) (fun b _ hb=>hN b hb) (fun _ _ _=>rfl) (fun r h'=>(i4 i _ ei).trans h') (fun _ _=>rfl) (fun h=>h)⟩
 ·obtain⟨z,hz,hrz⟩:=hs.tmp k v hk;exact⟨z,hz,(hrz.low i0 (hnm.1 _ (jd hk))).mono (Nat.le_refl _) (fun b _ hb=>hN b hb) (fun _ _ _=>rfl) (fun _ _ h=>h)⟩
def Uk(id n:Nat)(et:TypeId)(s:AS):AS:=cD id ⟨et,1,(List.replicate n (none:bH)).map cU⟩ s
theorem ZX(id n:Nat)(et:TypeId){l:List Oper}(h:OT cx Q ks all l (Uk id n et s))(hr:look id s.r=some ⟨et,1,(List.replicate n (none:bH)).map zz⟩:=by kernel_rfl)(hc:(Nat.ble TG id&&(dT s&&dH s))=true:=by kernel_rfl):OT cx Q ks all l s:=fun a w ι hs=>by
 simp only[Bool.and_eq_true]at hc;obtain⟨ι',hs'⟩:=Zz hs (Nat.le_of_ble_eq_true hc.1) hc.2.1 hc.2.2 hr;exact h a w ι' hs'
end
end Go.Proofs.YtolhpahjgddjkaaGreat
