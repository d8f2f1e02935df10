/- A region that draws its order, with one operation behind all others. No program in sight. -/
import Derived.Test.YtocgkfoifehcbaaGreatRfVx
import Derived.Test.YtocgkfoifehcbaaGreatRfCut
namespace Go.Proofs.YtocgkfoifehcbaaGreat
set_option linter.all false
open Go.RowKit
def jA(ops:Array Oper):Nat→List Nat→List Nat
 | 0,S=>S
 | j+1,S=>match S.contains j with
  | true=>jA ops j (S++(match ops[j]? with|some o=>ct o|none=>[]))
  | false=>jA ops j S
def ug(ops:Array Oper)(z:Nat):Bool:=match ops[z]? with
 | some o=>(Nat.beq (z+1) ops.size&&(ct o).all fun j=>decide (j<z))&&(List.range z).all fun i=>(jA ops z (ct o)).contains i
 | none=>false
theorem nY{ops:Array Oper}{listed:Array Bool}(cl:∀(i:Nat) (o:Oper),ops[i]?=some o→listed[i]?=some true→∀j∈ct o,listed[j]?=some true):∀(n:Nat) (S:List Nat),(∀j∈S,listed[j]?=some true)→∀j∈jA ops n S,listed[j]?=some true
 | 0,S,h,j,hj=>h j hj
 | n+1,S,h,j,hj=>by
  unfold jA at hj;split at hj
  ·rename_i hc;have hn:n∈S:=by simpa using hc
   refine nY cl n _ (fun i hi=>?_) j hj;rcases List.mem_append.1 hi with hi|hi
   ·exact h i hi
   ·split at hi
    ·rename_i o ho;exact cl n o ho (h n hn) i hi
    ·cases hi
  ·exact nY cl n S h j hj
section
variable{cx:Cx}{ops:Array Oper}{tags:List Tag}{K:Nat}{σ:Nat→AS}{s0:AS}
theorem cB.PO{Q':Exit→Act→World→Prop}(st:Stat ops tags K)(dy:iH cx.P cx.n s0 ops tags K σ){z:Nat}{oz:Oper}(hz:tags.length=z)(hoz:ops[z]?=some oz)(hlast:ug ops z=true)(hQ:∀a w ι,aN cx (σ K) a w ι→wpList cx.P ops Q' [oz] a w):
  ∀(fuel:Nat) (listed:Array Bool) (a:Act) (w:World) (k:Nat) (ι:Env),fp listed=fuel→listed[z]?≠some true→cB cx ops tags K σ listed a w k ι→wpAny cx.P .any ops Q' fuel listed a w:=by
 unfold ug at hlast;rw[hoz]at hlast;simp only[Bool.and_eq_true,List.all_eq_true,decide_eq_true_eq,List.mem_range]at hlast;obtain⟨⟨hsz,hlt⟩,hclo⟩:=hlast;have hsz:=Nat.eq_of_beq_eq_true hsz;have others:∀{listed:Array Bool},(∀(i:Nat) (o:Oper),ops[i]?=some o→listed[i]?=some true→∀j∈ct o,listed[j]?=some true)→(∀j∈ct oz,listed[j]?=some true)→∀i,i<z→listed[i]?=some true:=fun cl he i hi =>
  nY cl z _ he i (by simpa using hclo i hi)
 have fin:∀(listed:Array Bool) (a:Act) (w:World) (k:Nat) (ι:Env),cB cx ops tags K σ listed a w k ι→(∀i,i<z→listed[i]?=some true)→aN cx (σ K) a w ι:=by
  intro listed a w k ι h hall;have hk:k=K:=by
   have:=h.kK;rcases st.last with h0|⟨i,hi⟩
   ·omega
   ·have hil:i<z:=by rw[←hz];exact(List.getElem?_eq_some_iff.1 hi).1
    have:=(h.wr i K hi).1 (hall i hil);omega
  subst hk;exact⟨h.hs,h.dfr,h.n,fun t v hv=>h.tmp t v hv (fun i o tg _ htg _ _=>hall i (by rw[←hz];exact(List.getElem?_eq_some_iff.1 htg).1))⟩
 intro fuel
 induction fuel with
 | zero =>
  intro listed a w k ι hl hnz h;exact absurd (n9 hl z (by rw[h.sz];omega)) hnz
 | succ fuel ih =>
  intro listed a w k ι hl hnz h;refine⟨fun hr=>?_,fun i hi=>?_⟩
  ·-- nothing is up: all are listed,the last one too
   exfalso;have key:∀i,i<ops.size→listed[i]?=some true:=by
    intro i
    induction i using Nat.strongRecOn with
    | _ i ih2 =>
     intro hi;have ho:=Array.getElem?_eq_getElem (xs:=ops) hi;cases hli:listed[i]? with
     | none=>rw[Array.getElem?_eq_none_iff,h.sz]at hli;omega
     | some b =>
      cases b with
      | true=>rfl
      | false =>
       exfalso;have hm:i∈Region.ready .any ops listed:=by
        unfold Region.ready;simp only[List.mem_filter,List.mem_range,Bool.and_eq_true,Bool.not_eq_true'];refine⟨hi,by rw[Array.getD_eq_getD_getElem?,hli];rfl,?_⟩;rw[ho];simp only[Option.map_some,Option.getD_some,Array.all_eq_true_iff_forall_mem,Bool.or_eq_true,Bool.not_eq_true'];intro e he;by_cases hb:Region.binds .any e=true
        ·right;have hj:e.on∈ct ops[i]:=lJ.2 ⟨e,he,hb,rfl⟩;have hlt':e.on<i:=by
          by_cases hiz:i<z
          ·exact st.lex i _ _ ho (List.getElem?_eq_getElem (by rw[hz];exact hiz)) e.on hj
          ·have:i=z:=by omega
           subst this;rw[hoz]at ho;injection ho with ho
           rw[←ho]at hj;exact hlt _ hj
         rw[Array.getD_eq_getD_getElem?,ih2 e.on hlt' (by omega)];rfl
        ·left;simpa using hb
       rw[hr]at hm;cases hm
   exact hnz (key z (by omega))
  ·obtain⟨hnl,o,ho,hed⟩:=gL hi;have hlt1:i<listed.size:=by rw[h.sz];exact(Array.getElem?_eq_some_iff.1 ho).1
   have hf:listed[i]?=some false:=by
    rw[Array.getElem?_eq_getElem hlt1]at hnl⊢;cases hb:listed[i] with
    | true=>rw[hb]at hnl;exact(hnl rfl).elim
    | false=>rfl
   have hls:=nj hf;by_cases hiz:i=z
   ·subst hiz;rw[hoz]at ho;injection ho with ho;subst ho
    have hall:=others h.cl hed;have hq:=hQ a w ι (fin listed a w k ι h hall);have hdone:∀a' w',Q' .normal a' w'→wpAny cx.P .any ops Q' fuel (listed.setIfInBounds i true) a' w':=fun a' w' hq'=>by
     have hr:Region.ready .any ops (listed.setIfInBounds i true)=[]:=by
      cases hr:Region.ready .any ops (listed.setIfInBounds i true) with
      | nil=>rfl
      | cons j r =>
       exfalso;obtain⟨hnl2,o2,ho2,_⟩:=gL (ops:=ops) (listed:=listed.setIfInBounds i true) (i:=j) (by rw[hr];simp);refine hnl2 ((cV hlt1).2 ?_);have:j<ops.size:=(Array.getElem?_eq_some_iff.1 ho2).1;by_cases e:j=i
       ·exact .inl e
       ·exact .inr (hall j (by omega))
     cases fuel with
     | zero=>exact⟨hr,hq'⟩
     | succ f=>exact⟨fun _=>hq',fun j hj=>by rw[hr]at hj;cases hj⟩
    unfold wpOp;simp only[hoz];unfold wpList at hq;split at hq
    ·rename_i hw;rw[if_pos hw];exact hq.imp (I0 hdone (fun _ _ _ _ h=>h)) (fun h=>h)
    ·rename_i hw;rw[if_neg hw];exact hdone _ _ hq
   ·refine h.one st dy (by rw[hz];have:=(Array.getElem?_eq_some_iff.1 ho).1;omega) hi (fun a' w' k' ι' hm=>ih _ a' w' k' ι' (by omega) (fun hh=>?_) hm);rcases (cV hlt1).1 hh with e|hh
    ·exact hiz e.symm
    ·exact hnz hh
end
theorem Uh{cx:Cx}{Q:Exit→Act→World→Prop}{ks:List aq}{f:Func}{p:List Nat}{s0:AS}{tags:List Tag}(z K:Nat)(rv:List (Nat×AV))(al:List (Nat×List AV))(rl:List (Nat×br))(tl:List (AS→AS))
  (h3:dz cx.P cx.n s0 (cC f p) K (kz s0 rv al rl tl) (aK f p 0) tags) (h:OT cx Q ks (cC f p) (aK f p z) (yC s0 rv al rl tl K))
  (hc:gi f p=true:=by kernel_rfl) (hm:cx.P.follows .mixedOrders=true:=by kernel_rfl) (hs:nZ (cC f p) tags K z=true:=by kernel_rfl) (hl:jp tags K=true:=by kernel_rfl) (hkey:iv (aK f p 0) tags rv=true:=by kernel_rfl) (hfr:fq s0.u al=true:=by kernel_rfl) (hfr2:fq s0.u rl=true:=by kernel_rfl)
  (hz:ug (cC f p) z=true:=by kernel_rfl):VE cx Q (.c (cat f p)::ks) .normal s0:=by
 have e0:aK f p 0=(cC f p).toList:=by simp[aK]
 cases hcc:cat f p with
 | region id ops b =>
  cases b with
  | false=>unfold gi at hc;rw[hcc]at hc;cases hc
  | true =>
   have ho:cC f p=ops:=by unfold cC;rw[hcc];rfl
   rw[e0]at h3 hkey;have hoz:∃oz,ops[z]?=some oz∧aK f p z=[oz]:=by
    unfold ug at hz;rw[ho]at hz;split at hz
    ·rename_i oz hoz;refine⟨oz,hoz,?_⟩;simp only[Bool.and_eq_true]at hz;have hsz:=Nat.eq_of_beq_eq_true hz.1.1;unfold aK;rw[ho];rw[List.drop_eq_getElem_cons (by rw[Array.length_toList];omega),List.drop_eq_nil_of_le (by rw[Array.length_toList];omega)];obtain⟨_,he⟩:=Array.getElem?_eq_some_iff.1 hoz;simp[he]
    ·cases hz
   obtain⟨oz,hoz,hrest⟩:=hoz;rw[hrest]at h;rw[ho]at h3 hkey hs h hz;intro a w ι hsim;obtain⟨st,hlen,_⟩:=rN hs hl;have dy:=sO (P:=cx.P) (n:=cx.n) tags K rv al rl (kz s0 rv al rl tl) hkey hfr hfr2 (by unfold kz;cases tl<;>rfl) h3;refine wp_region_any hm (cB.PO st dy hlen hoz hz (fun a w ι hs=>h a w ι hs) ops.size _ a _ 0 ι (by simp[fp]) (fun hh=>?_) (cB.start st dy hsim));rw[Array.getElem?_replicate]at hh;split at hh<;>cases hh
 | _=>unfold gi at hc;rw[hcc]at hc;cases hc
end Go.Proofs.YtocgkfoifehcbaaGreat
