/- Closures that capture the variable in which they lie: once it is written no more, its value is known to every depth. Bound methods. No program in sight. -/
import Derived.Test.YtocgkfoifehcbaaGreatRfVk
namespace Go.Proofs.YtocgkfoifehcbaaGreat
set_option linter.all false
open Go.RowKit
def J9(o:List (Nat×List AV))(e:Nat)(t:List AV):AV→AV
 | .ptr id _=>match Nat.beq id e with|true=>.cptr t|false=>match look id o with|some cs=>.cptr cs|none=>.any
 | _=>.any
def stepT(o:List (Nat×List AV))(e:Nat)(t:List AV):AV→AV
 | .fno f cs=>.fn f (cs.map (J9 o e t))
 | v=>v
def PP:AV→AV:=fun _=>.any
def KU:AV→AV
 | .fno f cs=>.fn f (cs.map PP)
 | v=>v
def jw(o:List (Nat×List AV))(e:Nat)(cs:List AV):Nat→List AV
 | 0=>cs.map KU
 | d+1=>cs.map (stepT o e (jw o e cs d))
def qB(o:List (Nat×List AV))(e r:Nat):AV→Bool
 | .ptr id off=>Nat.beq off 0&&((match Nat.beq id r with|true=>false|false=>true)&&(Nat.beq id e||match look id o with|some cs=>db [] cs|none=>false))
 | _=>false
def vR(o:List (Nat×List AV))(e r:Nat):AV→Bool
 | .fno _ cs=>cs.all (qB o e r)
 | _=>false
theorem E2{o:List (Nat×List AV)}{e r:Nat}{v:AV}(h:vR o e r v=true):∃f cs,v=.fno f cs∧cs.all (qB o e r)=true:=by
 cases v<;>first|(exact⟨_,_,rfl,h⟩)|cases h
theorem HG{o:List (Nat×List AV)}{e r:Nat}{v:AV}(h:qB o e r v=true):∃id,v=.ptr id 0∧id≠r∧(id=e∨∃cs,look id o=some cs∧db [] cs=true):=by
 cases v<;>first|(simp[qB]at h;done)|skip
 rename_i id off;simp only[qB,Bool.and_eq_true,Bool.or_eq_true]at h;obtain⟨h1,h2,h3⟩:=h;have:=Nat.eq_of_beq_eq_true h1;subst this;refine⟨id,rfl,(fun e=>by subst e;rw[Nat.beq_refl]at h2;cases h2),?_⟩;rcases h3 with h3|h3
 ·exact .inl (Nat.eq_of_beq_eq_true h3)
 ·right;cases hq:look id o with
  | none=>rw[hq]at h3;cases h3
  | some cs=>rw[hq]at h3;exact⟨cs,rfl,h3⟩
theorem CX{M:Nat→Prop}{w0:aE}{w:World}{ι:Env}{s:AS}(h:HS M w0 w ι s){N':Nat→Prop}{id g:Nat}{cs0 cs:List AV}(hg:ι id=some (.pointer (some ⟨g,0,none⟩)))(ho:look id s.o=some cs0)(hN:¬ N' g)(hl:cs.length=cs0.length)
  (hr:∀vs:List Value,(∀(i:Nat) (x:AV) (v:Value),cs0[i]?=some x→vs[i]?=some v→Rel (NN M ι) w ι x v)→∀(i:Nat) (c:AV) (v:Value),cs[i]?=some c→vs[i]?=some v→Rel N' w bn c v) (ι':Env):Rel N' w ι' (.cptr cs) (.pointer (some ⟨g,0,none⟩)):=by
 obtain⟨g',T,vs,e1,e2,e3⟩:=h.objs id cs0 ho (by rw[hg];rfl);rw[hg]at e1;injection e1 with e1;injection e1 with e1;injection e1 with e1;injection e1 with e1;subst e1
 have e3l:=e3.len;refine .cptr _ cs g 0 (fun i=>(vs[i]?).getD (.bool true)) (h.own id g (by rw[hg];rfl)).2 hN (fun i=>?_) (fun i c hc=>?_) (fun i c hc=>?_)
 ·cases e:vs[i]? with
  | none=>rfl
  | some v=>exact e3.one v (by rw[←Array.getElem?_toList]at e;exact List.mem_of_getElem? e)
 ·have hlt:i<vs.size:=by have:=(List.getElem?_eq_some_iff.1 hc).1;rw[hl,e3l]at this;simpa using this
  rw[cell_of_row w g _ vs T (0,0) e2,Nat.zero_add];simp[Array.getElem?_eq_getElem hlt]
 ·have hlt:i<vs.size:=by have:=(List.getElem?_eq_some_iff.1 hc).1;rw[hl,e3l]at this;simpa using this
  have hv':vs.toList[i]?=some vs[i]:=by simp
  have:=hr vs.toList e3.rel i c _ hc hv';simpa[Array.getElem?_eq_getElem hlt]using this
theorem FP{M:Nat→Prop}{w0:aE}{w:World}{ι:Env}{s:AS}(h:HS M w0 w ι s){N':Nat→Prop}{r e:Nat}{cs:List AV}(hN:∀b,N' b→NN M ι b)(hr':∀b,N' b→M b∨bm (ι r)=some b)(he:look e s.o=some cs)(her:e≠r)(ho:cs.all (vR s.o e r)=true):
  ∀(d:Nat) (vs:List Value),(∀(i:Nat) (x:AV) (v:Value),cs[i]?=some x→vs[i]?=some v→Rel (NN M ι) w ι x v)→∀(i:Nat) (c:AV) (v:Value),(jw s.o e cs d)[i]?=some c→vs[i]?=some v→Rel N' w bn c v
 | 0,vs,hvs,i,c,v,hc,hv=>by
  simp only[jw,List.getElem?_map]at hc;cases hx:cs[i]? with
  | none=>rw[hx]at hc;cases hc
  | some x =>
   rw[hx]at hc;injection hc with hc;subst hc
   obtain⟨f,aP,rfl,hcaps⟩:=E2 (List.all_eq_true.1 ho x (List.mem_of_getElem? hx));have hr:=hvs i _ v hx hv;cases hr with
   | fno _ _ _ ys hl hr =>
    refine .fn _ f _ ys (by simpa using hl) (fun j c y hj hy=>?_);rw[List.getElem?_map]at hj;cases hq:aP[j]? with
    | none=>rw[hq]at hj;cases hj
    | some q =>
     rw[hq]at hj;injection hj with hj;subst hj
     obtain⟨id,rfl,_,_⟩:=HG (List.all_eq_true.1 hcaps q (List.mem_of_getElem? hq));have h3:=hr j _ y hq hy;cases h3 with
     | ptr _ _ _ g hg=>exact .any _ _ rfl
 | d+1,vs,hvs,i,c,v,hc,hv=>by
  simp only[jw,List.getElem?_map]at hc;cases hx:cs[i]? with
  | none=>rw[hx]at hc;cases hc
  | some x =>
   rw[hx]at hc;injection hc with hc;subst hc
   obtain⟨f,aP,rfl,hcaps⟩:=E2 (List.all_eq_true.1 ho x (List.mem_of_getElem? hx));have hr:=hvs i _ v hx hv;cases hr with
   | fno _ _ _ ys hl hr =>
    refine .fn _ f _ ys (by simpa using hl) (fun j c y hj hy=>?_);rw[List.getElem?_map]at hj;cases hq:aP[j]? with
    | none=>rw[hq]at hj;cases hj
    | some q =>
     rw[hq]at hj;injection hj with hj;subst hj
     obtain⟨id,rfl,hir,hid⟩:=HG (List.all_eq_true.1 hcaps q (List.mem_of_getElem? hq));have h3:=hr j _ y hq hy;cases h3 with
     | ptr _ _ _ g hg =>
      have hNg:¬ N' g:=fun hb=>by
       rcases hr' g hb with hb|hb
       ·exact h.sep hb (by rw[hg];rfl)
       ·exact hir (h.inj id r g (by rw[hg];rfl) hb)
      simp only[J9];cases hie:Nat.beq id e with
      | true =>
       have:=Nat.eq_of_beq_eq_true hie;subst this;exact CX h hg he hNg (by cases d<;>simp[jw]) (fun vs' hvs' i c v=>FP h hN hr' he her ho d vs' hvs' i c v) _
      | false =>
       rcases hid with hid|⟨cs1,h1,h2⟩
       ·subst hid;rw[Nat.beq_refl]at hie;cases hie
       ·simp only[h1];exact CX h hg h1 hNg rfl (fun vs' hvs' i c v hc hv=>(((hvs' i c v hc hv).pure (iE h2 i c hc) bn).mono (Nat.le_refl _) (fun b _ hb=>hN b hb) (fun _ _ _=>rfl) (fun _ _ h=>h))) _
def Hx(k r e:Nat)(d:Nat)(s:AS):AS:=match look e s.o with
 | some cs=>⟨[(k,.ptr r 0)],[(r,jw s.o e cs d)],[],[r]⟩
 | none=>s
def HN(k r e:Nat)(s:AS):Bool:=match look e s.o,look r s.o with
 | some cs,some cs'=>cs.all (vR s.o e r)&&(cs'.all (vR s.o e r)&&(s.u.all (fun n=>Nat.ble (n+1) 1000000)&&((match Nat.beq e r with|true=>false|false=>true)&&match look k s.t with|some (.ptr i 0)=>Nat.beq i r|_=>false)))
 | _,_=>false
theorem Uk{cx:Cx}{Q:Exit→Act→World→Prop}{ks:List aq}{e:Exit}{s:AS}(k r ee d:Nat)(h:VE cx Q ks e (Hx k r ee d s))(hb:HN k r ee s=true:=by kernel_rfl)(hre:look r s.o=look ee s.o:=by kernel_rfl):VE cx Q ks e s:=fun a w ι hs=>by
 unfold HN at hb;split at hb
 case h_2=>cases hb
 rename_i cs cs' h1 h2;simp only[Bool.and_eq_true]at hb;obtain⟨b1,b2,b3,b4,b5⟩:=hb;have hne:ee≠r:=fun e=>by subst e;rw[Nat.beq_refl]at b4;cases b4
 have hcs:cs'=cs:=by rw[h1,h2]at hre;injection hre
 subst hcs;unfold Hx at h;rw[h1]at h;have hk:look k s.t=some (.ptr r 0):=by
  split at b5
  ·rename_i i hi;rw[hi,Nat.eq_of_beq_eq_true b5]
  ·cases b5
 obtain⟨x,hx,hrx⟩:=hs.tmp k _ hk;have np:∀id,cx.w0.pv id=none:=fun id=>by
  cases hp:cx.w0.pv id with
  | none=>rfl
  | some v =>
   have:=(hs.hs.pin id v hp).2;have:=List.all_eq_true.1 b3 (cK id) (by simpa using this);have:=Nat.le_of_ble_eq_true this;unfold cK at this;omega
 let ι':Env:=fun i=>if i=r then ι r else none
 have i1:∀{i y},ι' i=some y→i=r∧ι r=some y:=fun {i y} hy=>by
  by_cases e:i=r
  ·exact⟨e,by simpa[ι',e]using hy⟩
  ·simp[ι',e]at hy
 have i2:∀{i g},bm (ι' i)=some g→i=r∧bm (ι r)=some g:=fun {i g} hg=>by
  cases he:ι' i with
  | none=>rw[he]at hg;cases hg
  | some y=>obtain⟨q1,q2⟩:=i1 he;exact⟨q1,by rw[q2,← he];exact hg⟩
 have hN:∀b,NN cx.M ι' b→NN cx.M ι b:=fun b hb=>by
  rcases hb with hb|⟨i,hb⟩
  ·exact .inl hb
  ·exact .inr ⟨r,(i2 hb).2⟩
 have hr':∀b,NN cx.M ι' b→cx.M b∨bm (ι r)=some b:=fun b hb=>by
  rcases hb with hb|⟨i,hb⟩
  ·exact .inl hb
  ·exact .inr (i2 hb).2
 refine h a w ι' ⟨⟨hs.hs.below,hs.hs.old,fun i y hy=>?_,fun i g hg=>hs.hs.own r g (i2 hg).2,fun i i' g hg hg'=>(i2 hg).1.trans (i2 hg').1.symm,fun i c hi=>?_,fun i c hi=>(by cases hi),fun i c hi hp=>?_,fun i c hi=>(by cases hi),fun i v hp=>by rw[np i]at hp;cases hp⟩,hs.dfr,hs.n,fun j v hj=>?_⟩
 ·rw[(i1 hy).1];exact eB (by simp)
 ·simp only[look]at hi;split at hi
  ·rename_i e;rw[e];exact eB (by simp)
  ·cases hi
 ·simp only[look]at hi;split at hi
  case isFalse=>cases hi
  rename_i e;subst e;injection hi with hi;subst hi
  obtain⟨y,hy⟩:=Option.isSome_iff_exists.1 hp;obtain⟨g,T,vs,e1,e2,e3⟩:=hs.hs.objs i cs' h2 (by rw[(i1 hy).2];rfl);refine⟨g,T,vs,by simp only[ι'];exact e1,e2,⟨?_,e3.one,fun j c v hc hv=>?_⟩⟩
  ·have:=e3.len;cases d<;>simpa[jw]using this
  ·exact(FP hs.hs hN hr' h1 hne b1 d vs.toList e3.rel j c v hc hv).mono (Nat.le_refl _) (fun _ _ h=>h) (fun _ _ _=>rfl) (fun id y hy=>by cases hy)
 ·simp only[look]at hj;split at hj
  case isFalse=>cases hj
  rename_i e;subst e;injection hj with hj;subst hj
  refine⟨x,hx,?_⟩;cases hrx with
  | ptr _ _ _ g hg=>exact .ptr _ _ _ g (by simp only[ι',if_pos rfl];exact hg)
def Um[GS](f:FuncId)(b:Bool):Value:=match b with|true=>fT f GS.g|false=>.nilFunc
def dq[GS](f:FuncId)(b:Bool):AV:=.vv (Um f b)
def FX(op:BinOp)(b:Bool):Bool:=match op with|.eql=>!b|_=>b
def EC[GS]:Value:=.pointer (some ⟨GS.g,0,none⟩)
def xG(s:AS)(k:Nat):Bool:=match look k s.t with|some v=>v.vo|none=>false
section
variable{cx:Cx}{Q:Exit→Act→World→Prop}{ks:List aq}{s:AS}{all:Array Oper}{f:Func}{p:List Nat}{i:Nat}{e:Exit}{l:List Oper}
theorem Mo[GS][SG cx.w0]{a:Act}{w:World}{ι:Env}(hs:aN cx s a w ι){k off:Nat}(hk:look k s.t=some (.ptr 440001 off)):aN cx (iS k (.adr GS.g off) s) a w ι:=by
 refine hs.jq (fun y hy=>?_) ⟨_,hk⟩;obtain⟨x,hx,hr⟩:=hs.tmp k _ hk;rw[hy]at hx;injection hx with hx;subst hx
 cases hr with
 | ptr _ _ _ g hg =>
  have h9:=(hs.hs.pin _ _ SG.pv).1;rw[h9]at hg;injection hg with hg;injection hg with hg;injection hg with hg;injection hg with hg;subst hg
  exact .adr _ _ _
theorem Uo[GS][SG cx.w0]{a:Act}{w:World}{ι:Env}(hs:aN cx s a w ι){k off:Nat}(hk:look k s.t=some (.adr GS.g off)):aN cx (iS k (.ptr 440001 off) s) a w ι:=by
 refine hs.jq (fun y hy=>?_) ⟨_,hk⟩;obtain⟨x,hx,hr⟩:=hs.tmp k _ hk;rw[hy]at hx;injection hx with hx;subst hx
 cases hr with
 | adr _ _ _=>exact .ptr _ _ _ _ ((hs.hs.pin _ _ SG.pv).1)
theorem Uu[GS][SG cx.w0]{a:Act}{w:World}{ι:Env}(hs:aN cx s a w ι){k:Nat}(hk:xG s k=true):aN cx (iS k (.lk 440001 EC) s) a w ι:=by
 unfold xG at hk;split at hk
 ·rename_i v hv;refine hs.jq (fun y hy=>?_) ⟨_,hv⟩;obtain⟨x,hx,hr⟩:=hs.tmp k _ hv;rw[hy]at hx;injection hx with hx;subst hx
  exact .lk _ _ _ _ ((hs.hs.pin _ _ SG.pv).1) (hr.one hk)
 ·cases hk
theorem Tn[GS][SG cx.w0](k off:Nat)(h:VE cx Q ks e (iS k (.adr GS.g off) s))(hk:look k s.t=some (.ptr 440001 off):=by kernel_rfl):VE cx Q ks e s:=fun a w ι hs=>h a w ι (Mo hs hk)
theorem Eu[GS][SG cx.w0](k off:Nat)(h:OT cx Q ks all l (iS k (.ptr 440001 off) s))(hk:look k s.t=some (.adr GS.g off):=by kernel_rfl):OT cx Q ks all l s:=fun a w ι hs=>h a w ι (Uo hs hk)
theorem F5[GS][SG cx.w0](k:Nat)(h:VE cx Q ks e (iS k (.lk 440001 EC) s))(hk:xG s k=true:=by kernel_rfl):VE cx Q ks e s:=fun a w ι hs=>h a w ι (Uu hs hk)
theorem FS[GS](g:FuncId)(b:Bool)(op:BinOp)(T T':TypeId)(x y:Operand)(d:Nat)(k:OT cx Q ks all (aK f p (i+1)) (s.put (some d) (.bool (FX op b))))
  (hl:aK f p i=aQ f p i::aK f p (i+1):=by kernel_rfl) (hg:cd all s (aQ f p i)=true:=by kernel_rfl) (hop:(aQ f p i).op=.binOp op T x y T':=by kernel_rfl) (hd:(aQ f p i).dst=some d:=by kernel_rfl) (hn:Nat.ble (d+1) cx.n=true:=by kernel_rfl)
  (hx:s.ev x=some (dq g b):=by kernel_rfl) (hy:s.ev y=some .nilf:=by kernel_rfl) (hu:(qy op&&(match cx.P.underlying T with|some (.func _ _ _)=>true|_=>false))=true:=by kernel_rfl):OT cx Q ks all (aK f p i) s:=by
 rw[hl];refine ef _ hg fun a w ι hs=>?_;refine wpList_plain rfl fun K hK=>?_;have hdn:d<cx.n:=Nat.le_of_ble_eq_true hn;simp only[Bool.and_eq_true]at hu;obtain⟨hop2,hu⟩:=hu;split at hu
 case h_2=>cases hu
 rename_i e1 e2 e3 hut;have hxr:=hs.ev hx;have hyr:=hs.ev hy;have hye:a.eval y=.nilFunc:=by
  generalize a.eval y=Y at hyr;cases hyr with
  | nilf _=>rfl
 have run:(execOp a.eval { aQ f p i with guard:=none }).run cx.P w=.ok (.value (.bool (FX op b))) w:=by
  cases b with
  | true =>
   have hxe:a.eval x=fT g GS.g:=by
    generalize a.eval x=X at hxr;cases hxr with
    | vv _ _ _=>rfl
   have q1:∀{q:BinOp},q=.eql∨q=.neq→(eqGuard q T x y (fT g GS.g) .nilFunc).run cx.P w=.ok () w:=by
    intro q hq;rcases hq with rfl|rfl<;>simp[eqGuard,fT]
   have q2:(Op.equalIn 10000 T (fT g GS.g) .nilFunc).run cx.P w=.ok false w:=by
    unfold Op.equalIn;rw[Sem.run_bind,run_underlying hut w];rfl
   unfold execOp;simp only[hop,hxe,hye,Sem.run_bind];cases op<;>simp[qy]at hop2
   ·have q3:binOp .eql T (fT g GS.g) .nilFunc=(do pure (.bool (← Op.equalIn 10000 T (fT g GS.g) .nilFunc))):=rfl;rw[q1 (.inl rfl),q3];simp only[Result.andThen_ok,Sem.run_bind,q2,Sem.run_pure];rfl
   ·have q3:binOp .neq T (fT g GS.g) .nilFunc=(do pure (.bool (!(← Op.equalIn 10000 T (fT g GS.g) .nilFunc)))):=rfl;rw[q1 (.inr rfl),q3];simp only[Result.andThen_ok,Sem.run_bind,q2,Sem.run_pure];rfl
  | false =>
   have hxe:a.eval x=.nilFunc:=by
    generalize a.eval x=X at hxr;cases hxr with
    | vv _ _ _=>rfl
   have q1:∀{q:BinOp},q=.eql∨q=.neq→(eqGuard q T x y .nilFunc .nilFunc).run cx.P w=.ok () w:=by
    intro q hq;rcases hq with rfl|rfl<;>simp[eqGuard]
   have q2:(Op.equalIn 10000 T .nilFunc .nilFunc).run cx.P w=.ok true w:=by
    unfold Op.equalIn;rw[Sem.run_bind,run_underlying hut w];rfl
   unfold execOp;simp only[hop,hxe,hye,Sem.run_bind];cases op<;>simp[qy]at hop2
   ·have q3:binOp .eql T .nilFunc .nilFunc=(do pure (.bool (← Op.equalIn 10000 T .nilFunc .nilFunc))):=rfl;rw[q1 (.inl rfl),q3];simp only[Result.andThen_ok,Sem.run_bind,q2,Sem.run_pure];rfl
   ·have q3:binOp .neq T .nilFunc .nilFunc=(do pure (.bool (!(← Op.equalIn 10000 T .nilFunc .nilFunc)))):=rfl;rw[q1 (.inr rfl),q3];simp only[Result.andThen_ok,Sem.run_bind,q2,Sem.run_pure];rfl
 unfold Oper.wp;rw[run];refine hK _ _ ?_;show wpList _ _ _ _ (a.put (aQ f p i).dst _) _;rw[hd];exact k _ _ _ (hs.put (fun k hk=>by injection hk with hk;subst hk;exact hdn) (.bool _ _))
end
def Bk{α:Type}(_:α):AV:=.tup []
def anyS(k j:Nat)(s:AS):AS:=match look k s.t with|some (.agg cs)=>iS k (.agg (cs.set j .any)) s|_=>s
section
variable{cx:Cx}{Q:Exit→Act→World→Prop}{ks:List aq}{s:AS}{all:Array Oper}{l:List Oper}
theorem QH(k j:Nat)(h:OT cx Q ks all l (anyS k j s)):OT cx Q ks all l s:=fun a w ι hs=>by
 unfold anyS at h;split at h
 ·rename_i cs hk;refine h a w ι (hs.jq (fun y hy=>?_) ⟨_,hk⟩);obtain⟨x,hx,hr⟩:=hs.tmp k _ hk;rw[hy]at hx;injection hx with hx;subst hx
  cases hr with
  | agg _ _ vs hl h1 hr =>
   refine .agg _ _ vs (by simpa using hl) h1 (fun i c v hc hv=>?_);rw[List.getElem?_set]at hc;split at hc
   ·split at hc
    ·injection hc with hc;subst hc;exact .any _ _ (h1 v (List.mem_of_getElem? hv))
    ·cases hc
   ·exact hr i c v hc hv
 ·exact h a w ι hs
end
def j8{α:Type}(c:Bool)(B:Option (List α)):Option (List α):=match c with
 | true=>(match B with|some []=>some []|_=>none)
 | false=>B
theorem Eb{α:Type}{c:Bool}{B:Option (List α)}{r:List α}(hc:c=true)(h:j8 c B=some r):(some []:Option (List α))=some r:=by
 subst hc;unfold j8 at h;split at h
 ·rename_i h2;split at h
  ·exact h
  ·cases h
 ·rename_i h2;cases h2
theorem DD{α:Type}{c:Bool}{B:Option (List α)}{r:List α}(h:j8 c B=some r):B=some r:=by
 unfold j8 at h;split at h
 ·split at h
  ·exact h
  ·cases h
 ·exact h
end Go.Proofs.YtocgkfoifehcbaaGreat
