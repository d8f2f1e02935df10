/- A region that draws its order, with a tail of operations each of which waits for all ahead of it. No program in sight. -/
import Derived.Test.YtocgkfoifehcbaaGreatRfVdz
namespace Go.Proofs.YtocgkfoifehcbaaGreat
set_option linter.all false
open Go.RowKit
def kf(ops:Array Oper)(z:Nat):Bool:=(List.range ops.size).all fun m=>Nat.ble (m+1) z||match ops[m]? with
 | some o=>((ct o).all fun j=>decide (j<m))&&(List.range m).all fun i=>(jA ops m (ct o)).contains i
 | none=>false
theorem nH{ops:Array Oper}{z m:Nat}{o:Oper}(h:kf ops z=true)(hm:z≤m)(ho:ops[m]?=some o):(∀j∈ct o,j<m)∧∀i,i<m→i∈jA ops m (ct o):=by
 unfold kf at h;simp only[List.all_eq_true,List.mem_range,Bool.or_eq_true]at h;have hs:m<ops.size:=(Array.getElem?_eq_some_iff.1 ho).1;rcases h m hs with h|h
 ·have:=Nat.le_of_ble_eq_true h;omega
 ·rw[ho]at h;simp only[Bool.and_eq_true,List.all_eq_true,decide_eq_true_eq,List.mem_range]at h;exact⟨h.1,fun i hi=>by simpa using h.2 i hi⟩
section
variable{cx:Cx}{ops:Array Oper}{tags:List Tag}{K:Nat}{σ:Nat→AS}{s0:AS}
theorem wG{Q':Exit→Act→World→Prop}{z:Nat}(hlast:kf ops z=true)(hlex:∀(n:Nat) (o:Oper),n<z→ops[n]?=some o→∀j∈ct o,j<n):∀(fuel:Nat) (listed:Array Bool) (a:Act) (w:World) (m:Nat),fp listed=fuel→z≤m→m≤ops.size→listed.size=ops.size→(∀i,i<ops.size→(listed[i]?=some true↔i<m))→wpList cx.P ops Q' (ops.toList.drop m) a w→wpAny cx.P .any ops Q' fuel listed a w:=by
 have fin:∀(listed:Array Bool) (a:Act) (w:World),(∀i,i<ops.size→listed[i]?=some true)→Region.ready .any ops listed=[]:=by
  intro listed a w hall;cases hr:Region.ready .any ops listed with
  | nil=>rfl
  | cons j r =>
   exfalso;obtain⟨hnl,o,ho,_⟩:=gL (ops:=ops) (listed:=listed) (i:=j) (by rw[hr];simp);exact hnl (hall j (Array.getElem?_eq_some_iff.1 ho).1)
 intro fuel
 induction fuel with
 | zero =>
  intro listed a w m hl hz hm hsz hiff hq;have hm':m=ops.size:=by
   refine Classical.byContradiction fun hne=>?_;have:=n9 hl m (by omega);have h2:=(hiff m (by omega)).1 this;omega
  subst hm';have hd:ops.toList.drop ops.size=[]:=List.drop_eq_nil_of_le (by simp);rw[hd]at hq;exact⟨fin listed a w (fun i hi=>(hiff i hi).2 hi),hq⟩
 | succ fuel ih =>
  intro listed a w m hl hz hm hsz hiff hq;by_cases hms:m=ops.size
  ·subst hms;have hd:ops.toList.drop ops.size=[]:=List.drop_eq_nil_of_le (by simp);rw[hd]at hq;have hr:=fin listed a w (fun i hi=>(hiff i hi).2 hi);exact⟨fun _=>hq,fun j hj=>by rw[hr]at hj;cases hj⟩
  ·have hlt:m<ops.size:=by omega
   have ho:=Array.getElem?_eq_getElem (xs:=ops) hlt;obtain⟨hlt',hclo⟩:=nH hlast hz ho;have hnl:listed[m]?=some false:=by
    have h1:m<listed.size:=by omega
    rw[Array.getElem?_eq_getElem h1];cases hb:listed[m] with
    | false=>rfl
    | true =>
     have:=(hiff m hlt).1 (by rw[Array.getElem?_eq_getElem h1,hb]);omega
   have hdrop:ops.toList.drop m=ops[m]::ops.toList.drop (m+1):=by
    rw[List.drop_eq_getElem_cons (by rw[Array.length_toList];omega)];simp
   refine⟨fun hr=>?_,fun i hi=>?_⟩
   ·exfalso;have hm2:m∈Region.ready .any ops listed:=by
     unfold Region.ready;simp only[List.mem_filter,List.mem_range,Bool.and_eq_true,Bool.not_eq_true'];refine⟨hlt,by rw[Array.getD_eq_getD_getElem?,hnl];rfl,?_⟩;rw[ho];simp only[Option.map_some,Option.getD_some,Array.all_eq_true_iff_forall_mem,Bool.or_eq_true,Bool.not_eq_true'];intro e he;by_cases hb:Region.binds .any e=true
     ·right;have hj:e.on∈ct ops[m]:=lJ.2 ⟨e,he,hb,rfl⟩;have:=hlt' _ hj;rw[Array.getD_eq_getD_getElem?,(hiff e.on (by omega)).2 this];rfl
     ·left;simpa using hb
    rw[hr]at hm2;cases hm2
   ·obtain⟨hnl2,o,ho2,hed⟩:=gL hi;have his:i<ops.size:=(Array.getElem?_eq_some_iff.1 ho2).1;have him:i=m:=by
     have h1:¬ i<m:=fun h=>hnl2 ((hiff i his).2 h);refine Classical.byContradiction fun hne=>?_;obtain⟨g1,g2⟩:=nH hlast (by omega) ho2
     -- m is among those that i waits for;so m is listed
     have cl:∀(n:Nat) (S:List Nat),(∀j∈S,j<m)→∀j∈jA ops n S,j<m:=by
      intro n
      induction n with
      | zero=>intro S h j hj;exact h j hj
      | succ n ih2 =>
       intro S h j hj;unfold jA at hj;split at hj
       ·rename_i hc;have hn:n∈S:=by simpa using hc
        refine ih2 _ (fun q hq2=>?_) j hj;rcases List.mem_append.1 hq2 with hq2|hq2
        ·exact h q hq2
        ·split at hq2
         ·rename_i o' ho';have hnm:=h n hn
          -- the edges of an operation that is listed: those of n are below n,or listed
          by_cases hzn:z≤n
          ·have:=(nH hlast hzn ho').1 q hq2;omega
          ·have:=hlex n o' (by omega) ho' q hq2;omega
         ·cases hq2
       ·exact ih2 S h j hj
     have:m<m:=cl i _ (fun j hj=>by
      have:=hed j hj;have hji:=g1 j hj;exact(hiff j (by omega)).1 this) m (g2 m (by omega))
     omega
    subst him;have hls:=nj hnl;rw[ho]at ho2;injection ho2 with ho2;subst ho2
    have hdone:∀a' w',wpList cx.P ops Q' (ops.toList.drop (i+1)) a' w'→wpAny cx.P .any ops Q' fuel (listed.setIfInBounds i true) a' w':=fun a' w' hq'=>by
     refine ih _ a' w' (i+1) (by omega) (by omega) (by omega) (by simpa using hsz) (fun j hj=>?_) hq';rw[cV (by omega)];constructor
     ·rintro (e|h)
      ·omega
      ·have:=(hiff j hj).1 h;omega
     ·intro h;by_cases e:j=i
      ·exact .inl e
      ·exact .inr ((hiff j hj).2 (by omega))
    unfold wpOp;simp only[ho];rw[hdrop]at hq;unfold wpList at hq;split at hq
    ·rename_i hw;rw[if_pos hw];exact hq.imp (I0 hdone (fun _ _ _ _ h=>h)) (fun h=>h)
    ·rename_i hw;rw[if_neg hw];exact hdone _ _ hq
theorem cB.NT{Q':Exit→Act→World→Prop}(st:Stat ops tags K)(dy:iH cx.P cx.n s0 ops tags K σ){z:Nat}(hz:tags.length=z)(hzs:z≤ops.size)(hlast:kf ops z=true)(hQ:∀a w ι,aN cx (σ K) a w ι→wpList cx.P ops Q' (ops.toList.drop z) a w):
  ∀(fuel:Nat) (listed:Array Bool) (a:Act) (w:World) (k:Nat) (ι:Env),fp listed=fuel→(∀i,z≤i→listed[i]?≠some true)→cB cx ops tags K σ listed a w k ι→wpAny cx.P .any ops Q' fuel listed a w:=by
 have hlex:∀(n:Nat) (o:Oper),n<z→ops[n]?=some o→∀j∈ct o,j<n:=fun n o hn ho=>st.lex n _ _ ho (List.getElem?_eq_getElem (by rw[hz];exact hn));have fin:∀(listed:Array Bool) (a:Act) (w:World) (k:Nat) (ι:Env),cB cx ops tags K σ listed a w k ι→(∀i,i<z→listed[i]?=some true)→aN cx (σ K) a w ι:=by
  intro listed a w k ι h hall;have hk:k=K:=by
   have:=h.kK;rcases st.last with h0|⟨i,hi⟩
   ·omega
   ·have hil:i<z:=by rw[←hz];exact(List.getElem?_eq_some_iff.1 hi).1
    have:=(h.wr i K hi).1 (hall i hil);omega
  subst hk;exact⟨h.hs,h.dfr,h.n,fun t v hv=>h.tmp t v hv (fun i o tg _ htg _ _=>hall i (by rw[←hz];exact(List.getElem?_eq_some_iff.1 htg).1))⟩
 intro fuel
 induction fuel with
 | zero =>
  intro listed a w k ι hl hnz h;have hall:∀i,i<z→listed[i]?=some true:=fun i hi=>n9 hl i (by rw[h.sz];omega);exact wG hlast hlex 0 listed a w z hl (Nat.le_refl _) hzs h.sz (fun i hi=>⟨fun hh=>Classical.byContradiction fun hge=>hnz i (by omega) hh,hall i⟩) (hQ a w ι (fin listed a w k ι h hall))
 | succ fuel ih =>
  intro listed a w k ι hl hnz h;by_cases hall:∀i,i<z→listed[i]?=some true
  ·exact wG hlast hlex (fuel+1) listed a w z hl (Nat.le_refl _) hzs h.sz (fun i hi=>⟨fun hh=>Classical.byContradiction fun hge=>hnz i (by omega) hh,hall i⟩) (hQ a w ι (fin listed a w k ι h hall))
  ·refine⟨fun hr=>?_,fun i hi=>?_⟩
   ·exfalso;apply hall;intro i
    induction i using Nat.strongRecOn with
    | _ i ih2 =>
     intro hi;have ho:=Array.getElem?_eq_getElem (xs:=ops) (show i<ops.size by omega);cases hli:listed[i]? with
     | none=>rw[Array.getElem?_eq_none_iff,h.sz]at hli;omega
     | some b =>
      cases b with
      | true=>rfl
      | false =>
       exfalso;have hm:i∈Region.ready .any ops listed:=by
        unfold Region.ready;simp only[List.mem_filter,List.mem_range,Bool.and_eq_true,Bool.not_eq_true'];refine⟨by omega,by rw[Array.getD_eq_getD_getElem?,hli];rfl,?_⟩;rw[ho];simp only[Option.map_some,Option.getD_some,Array.all_eq_true_iff_forall_mem,Bool.or_eq_true,Bool.not_eq_true'];intro e he;by_cases hb:Region.binds .any e=true
        ·right;have hj:e.on∈ct ops[i]:=lJ.2 ⟨e,he,hb,rfl⟩;have hlt':=hlex i _ hi ho e.on hj;rw[Array.getD_eq_getD_getElem?,ih2 e.on hlt' (by omega)];rfl
        ·left;simpa using hb
       rw[hr]at hm;cases hm
   ·obtain⟨hnl,o,ho,hed⟩:=gL hi;have his:i<ops.size:=(Array.getElem?_eq_some_iff.1 ho).1;have hlt1:i<listed.size:=by rw[h.sz];exact his
    have hf:listed[i]?=some false:=by
     rw[Array.getElem?_eq_getElem hlt1]at hnl⊢;cases hb:listed[i] with
     | true=>rw[hb]at hnl;exact(hnl rfl).elim
     | false=>rfl
    have hls:=nj hf;have hiz:i<z:=by
     refine Classical.byContradiction fun hge=>hall fun q hq=>?_;obtain⟨_,g2⟩:=nH hlast (by omega) ho;exact nY h.cl i _ (fun j hj=>hed j hj) q (g2 q (by omega))
    refine h.one st dy (by rw[hz];exact hiz) hi (fun a' w' k' ι' hm=>ih _ a' w' k' ι' (by omega) (fun q hq hh=>?_) hm);rcases (cV hlt1).1 hh with e|hh
    ·omega
    ·exact hnz q hq hh
end
theorem Vo{cx:Cx}{Q:Exit→Act→World→Prop}{ks:List aq}{f:Func}{p:List Nat}{s0:AS}{tags:List Tag}(z K:Nat)(rv:List (Nat×AV))(al:List (Nat×List AV))(rl:List (Nat×br))(tl:List (AS→AS))
  (h3:dz cx.P cx.n s0 (cC f p) K (kz s0 rv al rl tl) (aK f p 0) tags) (h:OT cx Q ks (cC f p) (aK f p z) (yC s0 rv al rl tl K))
  (hc:gi f p=true:=by kernel_rfl) (hm:cx.P.follows .mixedOrders=true:=by kernel_rfl) (hs:nZ (cC f p) tags K z=true:=by kernel_rfl) (hl:jp tags K=true:=by kernel_rfl) (hkey:iv (aK f p 0) tags rv=true:=by kernel_rfl) (hfr:fq s0.u al=true:=by kernel_rfl) (hfr2:fq s0.u rl=true:=by kernel_rfl)
  (hz:(Nat.ble z (cC f p).size&&kf (cC f p) z)=true:=by kernel_rfl):VE cx Q (.c (cat f p)::ks) .normal s0:=by
 have e0:aK f p 0=(cC f p).toList:=by simp[aK]
 have ez:aK f p z=(cC f p).toList.drop z:=rfl;rw[ez]at h;cases hcc:cat f p with
 | region id ops b =>
  cases b with
  | false=>unfold gi at hc;rw[hcc]at hc;cases hc
  | true =>
   have ho:cC f p=ops:=by unfold cC;rw[hcc];rfl
   rw[e0]at h3 hkey;rw[ho]at h3 hkey hs h hz;rw[Bool.and_eq_true]at hz;intro a w ι hsim;obtain⟨st,hlen,_⟩:=rN hs hl;have dy:=sO (P:=cx.P) (n:=cx.n) tags K rv al rl (kz s0 rv al rl tl) hkey hfr hfr2 (by unfold kz;cases tl<;>rfl) h3;refine wp_region_any hm (cB.NT st dy hlen (Nat.le_of_ble_eq_true hz.1) hz.2 (fun a w ι hs=>h a w ι hs) ops.size _ a _ 0 ι (by simp[fp]) (fun q _ hh=>?_) (cB.start st dy hsim));rw[Array.getElem?_replicate]at hh;split at hh<;>cases hh
 | _=>unfold gi at hc;rw[hcc]at hc;cases hc
end Go.Proofs.YtocgkfoifehcbaaGreat
