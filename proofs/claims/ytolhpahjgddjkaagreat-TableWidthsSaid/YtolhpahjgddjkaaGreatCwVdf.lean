/- A region that draws its order and whose result the order decides: step by step. No program in sight. -/
import Derived.Test.YtolhpahjgddjkaaGreatCwVdt
namespace Go.Proofs.YtolhpahjgddjkaaGreat
set_option linter.all false
open Go.RowKit
section
variable{cx:Cx}{Q:Exit→Act→World→Prop}{ks:List ao}{ops:Array Oper}
def AN(cx:Cx)(Q:Exit→Act→World→Prop)(ks:List ao)(ops:Array Oper)(fuel:Nat)(listed:Array Bool)(s:AS):Prop:=∀a w ι,aX cx s a w ι→wpAny cx.P .any ops (Kw cx.P Q ks) fuel listed a w
theorem O2{fuel:Nat}{listed:Array Bool}{s:AS}(hr:Region.ready .any ops listed=[])(h:VE cx Q ks .normal s):AN cx Q ks ops fuel listed s:=fun a w ι hs=>by
 cases fuel with
 | zero=>exact⟨hr,h a w ι hs⟩
 | succ f=>exact⟨fun _=>h a w ι hs,fun j hj=>by rw[hr]at hj;cases hj⟩
theorem qc{fuel:Nat}{listed:Array Bool}{s:AS}{l:List Nat}(hr:Region.ready .any ops listed=l)(hne:l≠[])(h:∀i∈l,∃o s',ops[i]?=some o∧fE cx.P cx.n ops s o=some s'∧AN cx Q ks ops fuel (listed.setIfInBounds i true) s'):AN cx Q ks ops (fuel+1) listed s:=by
 intro a w ι hs;refine⟨fun h0=>absurd (hr.symm.trans h0) hne,fun i hi=>?_⟩;rw[hr]at hi;obtain⟨o,s',ho,h1,h2⟩:=h i hi
 let Q2:Exit→Act→World→Prop:=fun e a w=>match e with
  | .normal=>wpAny cx.P .any ops (Kw cx.P Q ks) fuel (listed.setIfInBounds i true) a w
  | e=>Kw cx.P Q ks e a w
 have k:OT cx Q2 [] ops [o] s:=F7 h1 (fun a w ι hs=>h2 a w ι hs);have hq:=k a w ι hs;have hx:∀e a w,e ≠ .normal→Q2 e a w→Kw cx.P Q ks e a w:=fun e a w he hh=>by
  cases e<;>first|exact absurd rfl he|exact hh
 unfold wpOp;simp only[ho];unfold wpList at hq;split at hq
 ·rename_i hw;rw[if_pos hw];refine hq.imp (DE (fun a w hh=>hh) hx) (fun⟨g1,a1,w1,g2⟩=>⟨g1,a1,w1,hx _ _ _ (by simp) g2⟩)
 ·rename_i hw;rw[if_neg hw];exact hq
end
def yJ(P:Program)(n:Nat)(ops:Array Oper):List Nat→AS→Option AS
 | [],s=>some s
 | i::r,s=>match ops[i]? with
  | some o=>match fE P n ops s o with
   | some s'=>yJ P n ops r s'
   | none=>none
  | none=>none
def Fp(P:Program)(n:Nat)(ops:Array Oper)(l:List Nat)(s:AS):AS:=match yJ P n ops l s with|some s'=>s'|none=>s
def Fj(P:Program)(n:Nat)(ops:Array Oper)(l:List Nat)(s:AS):Bool:=match yJ P n ops l s with|some _=>true|none=>false
def bg(n:Nat)(l:List Nat):Array Bool:=l.foldl (fun a i=>a.setIfInBounds i true) (Array.replicate n false)
theorem MQ{cx:Cx}{Q:Exit→Act→World→Prop}{ks:List ao}{f:Func}{p:List Nat}{s:AS}
  (h1:VE cx Q ks .normal (Fp cx.P cx.n (cW f p) [0,2,1,3] s)) (h2:VE cx Q ks .normal (Fp cx.P cx.n (cW f p) [0,1,2,3] s))
  (hc:jr f p=true:=by kernel_rfl) (hm:cx.P.follows .mixedOrders=true:=by kernel_rfl) (hsz:(cW f p).size=4:=by kernel_rfl)
  (b1:Fj cx.P cx.n (cW f p) [0,2,1,3] s=true:=by kernel_rfl) (b2:Fj cx.P cx.n (cW f p) [0,1,2,3] s=true:=by kernel_rfl)
  (r0:Region.ready .any (cW f p) (bg 4 [])=[0]:=by kernel_rfl) (r1:Region.ready .any (cW f p) (bg 4 [0])=[1,2]:=by kernel_rfl) (r2:Region.ready .any (cW f p) (bg 4 [0,1])=[2]:=by kernel_rfl) (r3:Region.ready .any (cW f p) (bg 4 [0,2])=[1]:=by kernel_rfl)
  (r4:Region.ready .any (cW f p) (bg 4 [0,1,2])=[3]:=by kernel_rfl) (r5:Region.ready .any (cW f p) (bg 4 [0,2,1])=[3]:=by kernel_rfl) (r6:Region.ready .any (cW f p) (bg 4 [0,1,2,3])=[]:=by kernel_rfl) (r7:Region.ready .any (cW f p) (bg 4 [0,2,1,3])=[]:=by kernel_rfl):VE cx Q (.c (cat f p)::ks) .normal s:=by
 generalize hops:cW f p=ops at *;have key:AN cx Q ks ops 4 (bg 4 []) s:=by
  unfold Fp at h1 h2;unfold Fj at b1 b2;simp only[yJ]at h1 h2 b1 b2;cases e0:ops[0]? with
  | none=>rw[e0]at b1;cases b1
  | some o0 =>
  simp only[e0]at h1 h2 b1 b2;cases s0e:fE cx.P cx.n ops s o0 with
  | none=>rw[s0e]at b1;cases b1
  | some s0 =>
  simp only[s0e]at h1 h2 b1 b2;cases e1:ops[1]? with
  | none=>rw[e1]at b2;cases b2
  | some o1 =>
  cases e2:ops[2]? with
  | none=>rw[e2]at b1;cases b1
  | some o2 =>
  cases e3:ops[3]? with
  | none =>
   simp only[e1,e2,e3]at b1;cases x:fE cx.P cx.n ops s0 o2 with
   | none=>rw[x]at b1;cases b1
   | some y =>
    rw[x]at b1;simp only[]at b1;cases x2:fE cx.P cx.n ops y o1 with
    | none=>rw[x2]at b1;cases b1
    | some _=>rw[x2]at b1;cases b1
  | some o3 =>
  simp only[e1,e2,e3]at h1 h2 b1 b2;refine qc r0 (by simp) (fun i hi=>?_);simp only[List.mem_cons,List.not_mem_nil,or_false]at hi;subst hi;refine⟨o0,s0,e0,s0e,qc (listed:=bg 4 [0]) r1 (by simp) (fun i hi=>?_)⟩;simp only[List.mem_cons,List.not_mem_nil,or_false]at hi;rcases hi with rfl|rfl
  ·cases x1:fE cx.P cx.n ops s0 o1 with
   | none=>rw[x1]at b2;cases b2
   | some y1 =>
   simp only[x1]at h2 b2;cases x2:fE cx.P cx.n ops y1 o2 with
   | none=>rw[x2]at b2;cases b2
   | some y2 =>
   simp only[x2]at h2 b2;cases x3:fE cx.P cx.n ops y2 o3 with
   | none=>rw[x3]at b2;cases b2
   | some y3 =>
   simp only[x3]at h2;refine⟨o1,y1,e1,x1,qc (listed:=bg 4 [0,1]) r2 (by simp) (fun i hi=>?_)⟩;simp only[List.mem_cons,List.not_mem_nil,or_false]at hi;subst hi;refine⟨o2,y2,e2,x2,qc (listed:=bg 4 [0,1,2]) r4 (by simp) (fun i hi=>?_)⟩;simp only[List.mem_cons,List.not_mem_nil,or_false]at hi;subst hi;exact⟨o3,y3,e3,x3,O2 (listed:=bg 4 [0,1,2,3]) r6 h2⟩
  ·cases x1:fE cx.P cx.n ops s0 o2 with
   | none=>rw[x1]at b1;cases b1
   | some y1 =>
   simp only[x1]at h1 b1;cases x2:fE cx.P cx.n ops y1 o1 with
   | none=>rw[x2]at b1;cases b1
   | some y2 =>
   simp only[x2]at h1 b1;cases x3:fE cx.P cx.n ops y2 o3 with
   | none=>rw[x3]at b1;cases b1
   | some y3 =>
   simp only[x3]at h1;refine⟨o2,y1,e2,x1,qc (listed:=bg 4 [0,2]) r3 (by simp) (fun i hi=>?_)⟩;simp only[List.mem_cons,List.not_mem_nil,or_false]at hi;subst hi;refine⟨o1,y2,e1,x2,qc (listed:=bg 4 [0,2,1]) r5 (by simp) (fun i hi=>?_)⟩;simp only[List.mem_cons,List.not_mem_nil,or_false]at hi;subst hi;exact⟨o3,y3,e3,x3,O2 (listed:=bg 4 [0,2,1,3]) r7 h1⟩
 cases hcc:cat f p with
 | region id ops' b =>
  cases b with
  | false=>unfold jr at hc;rw[hcc]at hc;cases hc
  | true =>
   have ho:cW f p=ops':=by unfold cW;rw[hcc];rfl
   rw[hops]at ho;subst ho;intro a w ι hsim;have hdr:Below w.heap.size w { w with drawn:=w.drawn+1 }:=⟨rfl,rfl,rfl,Nat.le_refl _,fun _ _=>rfl⟩;have:=key a _ ι (hsim.kn hdr);exact wp_region_any hm (by rw[hsz];exact this)
 | _=>unfold jr at hc;rw[hcc]at hc;cases hc
end Go.Proofs.YtolhpahjgddjkaaGreat
