/- Tables, plain: sharing in proportion to weights gives the same when the parts are added to the weights. No program in sight. -/
import Derived.Test.YtolhpahjgddjkaaGreatCwZ42
import Derived.Test.YtolhpahjgddjkaaGreatCwGop
namespace Go.Proofs.YtolhpahjgddjkaaGreat.Tbl
set_option linter.all false
open Go.RowKit
open Tb
open Sh (q r left share eg ss fN yA m8)
set_option maxRecDepth 20000
def d6(ρ:Nat→Int)(i k:Nat):Bool:=(decide (i<k)&&decide (ρ k≤ρ i))||(decide (k<i)&&decide (ρ k<ρ i))
def lN(ρ:Nat→Int)(n k:Nat):Nat:=(List.range n).countP fun i=>d6 ρ i k
theorem Ur{ρ:Nat→Int}{i j k:Nat}(h1:d6 ρ i j=true)(h2:d6 ρ j k=true):d6 ρ i k=true:=by
 simp only[d6,Bool.or_eq_true,Bool.and_eq_true,decide_eq_true_eq]at *;rcases Nat.lt_trichotomy i k with h|h|h
 ·omega
 ·subst h;omega
 ·omega
theorem OM{ρ:Nat→Int}{i k:Nat}(h:i≠k):d6 ρ i k=true∨d6 ρ k i=true:=by
 simp only[d6,Bool.or_eq_true,Bool.and_eq_true,decide_eq_true_eq];omega
theorem zY{ρ:Nat→Int}{i k:Nat}(h:d6 ρ i k=true):ρ k≤ρ i:=by
 simp only[d6,Bool.or_eq_true,Bool.and_eq_true,decide_eq_true_eq]at h;omega
theorem IX{ρ:Nat→Int}{n j k:Nat}(h:d6 ρ j k=true):lN ρ n j≤lN ρ n k:=List.countP_mono_left (fun i _ hi=>Ur hi h)
theorem adp(P:Int→Bool)(L:List Int)(k:Nat)(hk:k≤L.length):(L.take k).countP P=(List.range k).countP fun i=>P (L.getD i default):=by
 have e:L.take k=(List.range k).map fun i=>L.getD i default:=by
  refine List.ext_getElem (by simp;omega) (fun i h1 h2=>?_);simp only[List.getElem_take,List.getElem_map,List.getElem_range];rw[cd (by simp at h2;omega)]
 rw[e,List.countP_map];rfl
theorem QW(P:Int→Bool)(L:List Int)(k:Nat)(hk:k≤L.length):(L.drop k).countP P=(List.range (L.length-k)).countP fun i=>P (L.getD (k+i) default):=by
 have e:L.drop k=(List.range (L.length-k)).map fun i=>L.getD (k+i) default:=by
  refine List.ext_getElem (by simp) (fun i h1 h2=>?_);simp only[List.getElem_drop,List.getElem_map,List.getElem_range];rw[cd (by simp at h2;omega)]
 rw[e,List.countP_map];rfl
def eo(T:Int)(W:List Int)(k:Nat):Int:=r T (sm W) (W.getD k default)
theorem CM(T:Int)(W:List Int){k:Nat}(hk:k<W.length):Sh.bz T W k↔0<eo T W k∧(lN (eo T W) W.length k:Int)<left T W:=by
 unfold Sh.bz;rw[adp _ _ _ (by omega),QW _ _ _ (by omega)];have e:(List.range k).countP (fun i=>decide (r T (sm W) (W.getD k default)≤r T (sm W) (W.getD i default)))+(List.range (W.length-(k+1))).countP (fun i=>decide (r T (sm W) (W.getD k default)<r T (sm W) (W.getD (k+1+i) default)))=lN (eo T W) W.length k:=by
  unfold lN;have hs:W.length=(k+1)+(W.length-(k+1)):=by omega
  conv=>rhs;rw[hs]
  rw[List.range_add,List.countP_append,List.countP_map,List.range_succ,List.countP_append];have z:[k].countP (fun i=>d6 (eo T W) i k)=0:=by
   rw[List.countP_cons,List.countP_nil];simp[d6]
  rw[z,Nat.add_zero];congr 1
  ·refine List.countP_congr (fun i hi=>?_);have:=List.mem_range.1 hi;have hnk:¬ k<i:=by omega
   simp only[d6,eo,this,hnk,decide_true,decide_false,Bool.true_and,Bool.false_and,Bool.or_false];exact Iff.rfl
  ·refine List.countP_congr (fun i hi=>?_);have h1:¬ k+1+i<k:=by omega
   have h2:k<k+1+i:=by omega
   simp only[d6,eo,Function.comp,h1,h2,decide_true,decide_false,Bool.true_and,Bool.false_and,Bool.false_or];exact Iff.rfl
 rw[e];rfl
section
variable{T:Int}{W:List Int}(hT:0<T)(hW:∀w∈W,0≤w)(hS:0<sm W)
def gn(T:Int)(W:List Int)(k:Nat):Int:=if Sh.bz T W k then 1 else 0
include hT hS in
theorem X0{w e:Int}(he:e=0∨e=1)(hw:0≤w):q T (sm W+T) (w+(q T (sm W) w+e))=q T (sm W) w∧r T (sm W+T) (w+(q T (sm W) w+e))=r T (sm W) w+T*e:=by
 unfold q r;have h1:=Int.mul_ediv_add_emod (T*w) (sm W);have h2:=Int.emod_nonneg (T*w) (show sm W≠0 by omega);have h3:=Int.emod_lt_of_pos (T*w) hS;generalize hq:T*w / sm W=Q at *;generalize hr:T*w % sm W=R at *;have key:T*(w+(Q+e))=(R+T*e)+Q*(sm W+T):=by
  rw[Int.mul_add,Int.mul_add,Int.mul_add,← h1,Int.mul_comm Q (sm W),Int.mul_comm Q T];omega
 have hb:0≤R+T*e∧R+T*e<sm W+T:=by rcases he with rfl|rfl<;>simp<;>omega
 rw[key,Int.add_mul_ediv_right _ _ (by omega),Int.add_mul_emod_self_right,Int.ediv_eq_zero_of_lt hb.1 hb.2,Int.emod_eq_of_lt hb.1 hb.2,Int.zero_add];exact⟨rfl,rfl⟩
include hT hW hS in
theorem Wc(hl:W.length≤10000){k:Nat}(hk:k<W.length):Sh.part T (cK W (share T W)) k=Sh.part T W k:=by
 have hsum:sm (cK W (share T W))=sm W+T:=by rw[yy (by rw[fN]),m8 hW (by omega) hl]
 have hlen:(cK W (share T W)).length=W.length:=fG _ _;have hp:∀j,j<W.length→(share T W).getD j default=q T (sm W) (W.getD j default)+gn T W j:=fun j hj=>by
  unfold share;rw[if_neg (by omega)];exact hH (f:=Sh.part T W) hj
 have hA:∀j,j<W.length→(cK W (share T W)).getD j default=W.getD j default+(q T (sm W) (W.getD j default)+gn T W j):=fun j hj=>by rw[jm hj,hp j hj]
 have h01:∀j,gn T W j=0∨gn T W j=1:=fun j=>by unfold gn;split<;>omega
 have hnn:∀j,j<W.length→0≤W.getD j default:=fun j hj=>hW _ (i8 hj);have hQ:∀j,j<W.length→q T (sm (cK W (share T W))) ((cK W (share T W)).getD j default)=q T (sm W) (W.getD j default)∧eo T (cK W (share T W)) j=eo T W j+T*gn T W j:=fun j hj=>by
  unfold eo;rw[hsum,hA j hj];exact X0 hT hS (h01 j) (hnn j hj)
 have hleft:left T (cK W (share T W))=left T W:=by
  unfold left;congr 2;refine gP (by simp[hlen]) (fun j hj=>?_);have hj':j<W.length:=by simpa using hj
  have m1:((cK W (share T W)).map (q T (sm (cK W (share T W))))).getD j default=q T (sm (cK W (share T W))) ((cK W (share T W)).getD j default):=by
   rw[cd (by simp[hlen];exact hj'),cd (by rw[hlen];exact hj')];simp
  have m2:(W.map (q T (sm W))).getD j default=q T (sm W) (W.getD j default):=by
   rw[cd (by simpa using hj'),cd hj'];simp
  rw[m1,m2];exact(hQ j hj').1
 have hw1:∀j,j<W.length→(gn T W j=1↔0<eo T W j∧(lN (eo T W) W.length j:Int)<left T W):=fun j hj=>by
  rw[←CM T W hj];unfold gn;split<;>simp[*]
 have hr0:∀j,j<W.length→0≤eo T W j:=fun j hj=>Int.emod_nonneg _ (by omega);have hwin:Sh.bz T (cK W (share T W)) k↔Sh.bz T W k:=by
  rw[CM T _ (by rw[hlen];exact hk),CM T W hk,hleft,hlen,(hQ k hk).2];by_cases hz:eo T W k=0
  ·have:gn T W k=0:=by
    rcases h01 k with h|h
    ·exact h
    ·have:=((hw1 k hk).1 h).1;omega
   rw[this,hz];simp
  ·have hpos:0<eo T W k:=by have:=hr0 k hk;omega
   have hpos':0<eo T W k+T*gn T W k:=by rcases h01 k with h|h<;>rw[h]<;>simp<;>omega
   have hcnt:lN (eo T (cK W (share T W))) W.length k=lN (eo T W) W.length k:=by
    unfold lN;refine List.countP_congr (fun i hi=>?_);have hi':=List.mem_range.1 hi;by_cases hik:i=k
    ·subst hik;simp[d6]
    ·have e1:d6 (eo T (cK W (share T W))) i k=d6 (fun j=>eo T W j+T*gn T W j) i k:=by
      unfold d6;rw[(hQ i hi').2,(hQ k hk).2]
     rw[e1];rcases h01 i with hi0|hi1<;>rcases h01 k with hk0|hk1
     ·unfold d6;simp only[hi0,hk0,Int.mul_zero,Int.add_zero]
     ·-- k wins,i does not: i does not come before k
      have nb:d6 (eo T W) i k=false:=by
       refine Bool.eq_false_iff.2 (fun hb=>?_);have c:=IX (n:=W.length) hb;have w:=(hw1 k hk).1 hk1;have g:=zY hb;have:gn T W i=1:=(hw1 i hi').2 ⟨by omega,by omega⟩;omega
      have kb:=(OM (ρ:=eo T W) hik).resolve_left (by rw[nb];simp);have g:=zY kb;rw[nb];have:d6 (fun j=>eo T W j+T*gn T W j) i k=false:=by
       refine Bool.eq_false_iff.2 (fun hb=>?_);have:=zY hb;simp only[hi0,hk1]at this;omega
      rw[this]
     ·-- i wins,k does not: i comes before k
      have yb:d6 (eo T W) i k=true:=by
       refine Classical.byContradiction (fun hb=>?_);have kb:=(OM (ρ:=eo T W) hik).resolve_left hb;have c:=IX (n:=W.length) kb;have w:=(hw1 i hi').1 hi1;have:gn T W k=1:=(hw1 k hk).2 ⟨hpos,by omega⟩;omega
      have g:=zY yb;have:d6 (fun j=>eo T W j+T*gn T W j) i k=true:=by
       simp only[d6,hi1,hk0,Bool.or_eq_true,Bool.and_eq_true,decide_eq_true_eq];omega
      rw[yb,this]
     ·have:d6 (fun j=>eo T W j+T*gn T W j) i k=d6 (eo T W) i k:=by
       unfold d6;simp only[hi1,hk1];congr 2<;>congr 1<;>exact propext (by omega)
      rw[this]
   rw[hcnt];constructor
   ·rintro ⟨_,h⟩;exact⟨hpos,h⟩
   ·rintro ⟨_,h⟩;exact⟨hpos',h⟩
 unfold Sh.part;rw[(hQ k hk).1];congr 1;by_cases h:Sh.bz T W k
 ·rw[if_pos h,if_pos (hwin.2 h)]
 ·rw[if_neg h,if_neg (fun hh=>h (hwin.1 hh))]
end
end Go.Proofs.YtolhpahjgddjkaaGreat.Tbl
namespace Go.Proofs.YtolhpahjgddjkaaGreat.Tbl
set_option linter.all false
open Go.RowKit
open Tb
open Sh (q r left share eg ss fN yA m8)
set_option maxRecDepth 20000
theorem Za{T:Int}{W W':List Int}(h1:sm W≠0)(h2:sm W'≠0)(hl:W'.length=W.length)(h:∀k,k<W.length→Sh.part T W' k=Sh.part T W k):share T W'=share T W:=by
 unfold share;rw[if_neg h1,if_neg h2,hl];exact List.map_congr_left (fun k hk=>h k (List.mem_range.1 hk))
theorem Z6{T:Int}{W:List Int}(hT:0<T)(hs:sm W=T):share T W=W:=by
 unfold share;rw[if_neg (by omega)];refine gP (eI _ _) (fun k hk=>?_);have e:((List.range W.length).map (Sh.part T W)).getD k default=Sh.part T W k:=hH (f:=Sh.part T W) hk;rw[e];unfold Sh.part;have hw:¬ Sh.bz T W k:=fun h=>by
  have:=h.1;unfold Sh.r at this;rw[hs,Int.mul_emod_right]at this;omega
 rw[if_neg hw,hs];unfold Sh.q;rw[Int.mul_ediv_cancel_left _ (by omega)];omega
theorem TK{W:List Int}(hW:∀w∈W,0≤w)(h:pos W=true):0<sm W:=by
 unfold pos at h;obtain⟨w,hw,hp⟩:=List.any_eq_true.1 h;have hp:=of_decide_eq_true hp;have:∀L:List Int,(∀x∈L,0≤x)→w∈L→w≤sm L:=by
  intro L
  induction L with
  | nil=>intro _ h;cases h
  | cons x L ih =>
   intro h1 h2;have h3:=eg L (fun y hy=>h1 y (by simp[hy]));have h4:=h1 x (by simp);simp only[sm];rcases List.mem_cons.1 h2 with rfl|h2
   ·omega
   ·have:=ih (fun y hy=>h1 y (by simp[hy])) h2;omega
 have:=this W hW hw;omega
theorem MB{W:List Int}(h:0<sm W):pos W=true:=by
 refine Classical.byContradiction (fun hn=>?_);have hn':pos W=false:=by simpa using hn
 unfold pos at hn';rw[List.any_eq_false]at hn';have:∀L:List Int,(∀x∈L,¬ (decide (x>0))=true)→sm L≤0:=by
  intro L
  induction L with
  | nil=>intro _;simp[sm]
  | cons x L ih =>
   intro h1;have h2:=ih (fun y hy=>h1 y (by simp[hy]));have h3:=h1 x (by simp);simp only[decide_eq_true_eq]at h3;simp only[sm];omega
 have:=this W hn';omega
theorem ZJ{W:List Int}(hW:∀w∈W,0≤w)(h:pos W=false):W=List.replicate W.length 0:=by
 refine List.eq_replicate_iff.2 ⟨rfl,fun x hx=>?_⟩;have h1:=hW x hx;unfold pos at h;rw[List.any_eq_false]at h;have:=h x hx;simp only[decide_eq_true_eq]at this;omega
theorem Y6(n:Nat){P:List Int}(h:P.length=n):cK (List.replicate n 0) P=P:=by
 refine gP (by rw[fG];simp[h]) (fun k hk=>?_);rw[jm (by simp;omega)];have:(List.replicate n (0:Int)).getD k default=0:=by rw[cd (by simp;omega)];simp
 rw[this];omega
theorem WN{a:List Int}(hb:Bd a)(hl:a.length≤10000)(d:Int):dg a (dg a a d) d=dg a a d:=by
 have hnn:∀w∈a,0≤w:=fun w hw=>(hb w hw).1;by_cases hT:d-sm a>0
 ·have e:∀w,dg a w d=cK a (share (d-sm a) (de w)):=fun w=>by unfold dg;rw[if_pos hT]
  rw[e,e];congr 1;cases hp:pos a with
  | true =>
   have hS:=TK hnn hp;have e1:de a=a:=by unfold de;rw[if_pos hp]
   have hsum:sm (cK a (share (d-sm a) a))=sm a+(d-sm a):=by rw[yy (by rw[fN]),m8 hnn (by omega) hl]
   have e2:de (cK a (share (d-sm a) a))=cK a (share (d-sm a) a):=by unfold de;rw[if_pos (MB (by omega))]
   rw[e1,e2];exact Za (by omega) (by omega) (fG _ _) (fun k hk=>Wc hT hnn hS hl hk)
  | false =>
   have hz:=ZJ hnn hp;by_cases h0:a.length=0
   ·have ha:a=[]:=List.length_eq_zero_iff.1 h0;subst ha;simp only[de,cK,bR];rfl
   ·have e1:de a=List.replicate a.length 1:=by unfold de;rw[if_neg (by rw[hp];decide)]
    have hS1:sm (List.replicate a.length 1)≠0:=by rw[tR];omega
    have hs:=m8 (T:=d-sm a) (W:=List.replicate a.length 1) (fun w hw=>by have:=(List.mem_replicate.1 hw).2;omega) hS1 (by simpa using hl);have hlen:(share (d-sm a) (List.replicate a.length 1)).length=a.length:=by rw[fN,List.length_replicate]
    have ea:cK a (share (d-sm a) (List.replicate a.length 1))=share (d-sm a) (List.replicate a.length 1):=by
     have:=Y6 a.length hlen;rwa[←hz]at this
    rw[e1,ea];have e2:de (share (d-sm a) (List.replicate a.length 1))=share (d-sm a) (List.replicate a.length 1):=by unfold de;rw[if_pos (MB (by omega))]
    rw[e2];exact Z6 hT hs
 ·have e:∀w,dg a w d=a:=fun w=>by unfold dg;rw[if_neg hT]
  rw[e,e]
theorem QE{cols:Nat}{L:List ah}{W C:List aq}{i:Int}(hr:cols≤10000)(hW:∀k,(W.getD k default).Least=(W.getD k default).Most)(h:Vd cols L W i)(hC:fC cols C)(he:Tb.bg C=bv C):Tb.bg (dM L W C i)=bv (dM L W C i):=by
 have r0:=h.r0;have r1:=h.r1;have r2:=h.r2;rw[vM,yo];have:dB L W C i=dA L W C i:=by
  unfold dB dA;rw[←he,← hW];exact WN (mw hC.l (by rw[gX,hC.len];omega)) (by rw[Tb.dk];omega) _
 rw[this,he]
theorem Lv{cols:Nat}{L:List ah}{W:List aq}(hr:cols≤10000)(hW:∀k,(W.getD k default).Least=(W.getD k default).Most):∀(d:List Int) (C:List aq),(∀i∈d,Vd cols L W i)→fC cols C→Tb.bg C=bv C→Tb.bg (d.foldl (dM L W) C)=bv (d.foldl (dM L W) C)
 | [],C,_,_,he=>he
 | i::d,C,hd,hC,he=>by
  have hv:=hd i (by simp);exact Lv hr hW d _ (fun j hj=>hd j (by simp[hj])) (yR hr hv hC).1 (QE hr hW hv hC he)
theorem Yg{c:ac}(h:jo c)(ht:∀t∈c.Kids,(t.Text.size:Int)≤60):(mh c).1=(mh c).2:=by
 obtain⟨t,hk,h3⟩:=h.k;have hs:=ht t (by rw[hk];simp);unfold mh;have:(mW c).1=(mW c).2:=by
  unfold mW;split
  ·rfl
  ·rw[hk];simp only[li];rw[cj (n:=8*(t.Text.size:Int)) (by omega) (by omega),cj (n:=0+8*(t.Text.size:Int)) (by omega) (by omega)];congr 1;omega
 rw[this]
theorem Sa{b:ac}(h:fz b)(ht:∀c∈cz b,∀t∈c.Kids,(t.Text.size:Int)≤60):Tb.bg (bN b)=bv (bN b):=by
 have hcb:=lp h.sp (aP b).length (Nat.le_refl _);rw[md]at hcb;have:=h.mO;have hW:∀k,(((cz b).map wc).getD k default).Least=(((cz b).map wc).getD k default).Most:=fun k=>by
  by_cases hk:k<(cz b).length
  ·rw[show((cz b).map wc).getD k default=wc ((cz b).getD k default) from by rw[cd (by simpa using hk),cd hk];simp];have hm:=i8 hk;exact Yg (LJ (h.lZ _ hm)) (fun t htt=>ht _ hm t htt)
  ·rw[List.getD_eq_getElem?_getD,List.getElem?_eq_none (by simp;omega)];rfl
 have e:=Lv (cols:=(aS (aP b) (aP b).length).toNat) (L:=cr (aP b) (aP b).length) (W:=(cz b).map wc) (by omega) hW (fW (fun i=>(aG (cr (aP b) (aP b).length) i).Cols) (val (cr (aP b) (aP b).length) (qd (aS (aP b) (aP b).length).toNat) ((cz b).map wc).length) (aS (aP b) (aP b).length).toNat) _ (fun i hi=>Vd.of (by omega) (l6 hi).1) (fC.rep _) (by unfold Tb.bg bv;simp[iM]);have e2:Tb.bg (jV (cr (aP b) (aP b).length) ((cz b).map wc) (aS (aP b) (aP b).length).toNat)=bv (jV (cr (aP b) (aP b).length) ((cz b).map wc) (aS (aP b) (aP b).length).toNat):=e;unfold bN;rw[Pz];generalize jV (cr (aP b) (aP b).length) ((cz b).map wc) (aS (aP b) (aP b).length).toNat=D at *;refine gP (by simp[Tb.bg,bv]) (fun k hk=>?_);have hk':k<D.length:=by simpa[bv]using hk
 have a1:(Tb.bg D).getD k default=(D.getD k default).Least:=Tb.eU hk';have a2:(bv D).getD k default=(D.getD k default).Most:=Tb.eU hk';have a3:(bv (D.map fin)).getD k default=max (D.getD k default).Most (D.getD k default).Least:=by
  unfold bv;rw[List.map_map];exact Tb.eU (f:=fun c=>(fin c).Most) hk'
 rw[e2]at a1;rw[e2,a2,a3];omega
end Go.Proofs.YtolhpahjgddjkaaGreat.Tbl
namespace Go.Proofs.YtolhpahjgddjkaaGreat.Tb
set_option linter.all false
open Go.RowKit
open Sh (idx gS jh le kh eg gu share aO cO mx fN)
open QSort (wn aH bp bo sb R)
set_option maxRecDepth 20000
variable{K:Kn}{n:Nat}
theorem ZN{w:List Int}(hw:Bd w){t:Nat}(ht:t<w.length):(de w).getD t default=if jN w=true then 1 else w.getD t default:=by
 rw[XK (fun x hx=>(hw x hx).1)];unfold de;cases pos w
 ·simp[List.getD_eq_getElem?_getD,ht]
 ·rfl
theorem Vl(w:List Int)(c t:Nat):jN (bz w c (t+1))=(jN (bz w c t)&&(w.getD (c+t) default == 0)):=by
 unfold bz;rw[ov];simp only[jN,List.all_append,List.all_cons,List.all_nil,Bool.and_true]
theorem QB{N:List Int}{t:Nat}(h:t<N.length):N.take t++[N.getD t default]=N.take (t+1):=by
 rw[List.take_succ_eq_append_getElem h,cd h]
theorem acP(l P:List Int)(c s:Nat)(hP:P.length=s)(hC:c+s≤l.length)(hr:l.length≤10000)(hb:∀k,k<s → -4611686018427387904≤(bz l c s).getD k default+P.getD k default∧(bz l c s).getD k default+P.getD k default≤4611686018427387904):∀(m t:Nat),t≤s→s<m+t →
  qD K n (c:Int) (s:Int) P m (t:Int) (pw l c ((cK (bz l c s) P).take t))=some (pw l c (cK (bz l c s) P)):=by
 have al:(cK (bz l c s) P).length=s:=by rw[fG,dk]
 intro m
 induction m with
 | zero=>intro t h1 h2;omega
 | succ m ih =>
  intro t h1 h2;simp only[qD,vh];by_cases ht:t<s
  ·have hbt:=hb t ht;rw[bp (by omega),wn (n:=(c:Int)+(t:Int)) (k:=c+t) (by omega) (by omega),aH (by rw[fd];omega),aH (by omega),aH (by rw[fd];omega),ci,ci];rw[Rd (Nat.le_refl _) (by omega),← iZ (l:=l) (c:=c) ht,show aa ((bz l c s).getD t default+P.getD t default)=(cK (bz l c s) P).getD t default by rw[jm (by rw[dk];exact ht)];exact cj (by omega) (by omega)];rw[KR (by omega) (by omega),wn (n:=(t:Int)+1) (k:=t+1) (by omega) (by omega)];exact ih (t+1) (by omega) (by omega)
  ·obtain rfl:t=s:=by omega
   rw[bo (by omega),List.take_of_length_le (by omega)]
theorem TL(l w:List Int)(d:Int)(c s:Nat)(s1:1≤s)(bl:Bd l)(bw:Bd w)(hwl:w.length=l.length)(hC:c+s≤l.length)(hr:l.length≤10000)(hn:10001<n)(hd:d≤1048576)(hm:d-sm (bz l c s)>0):∀(m t:Nat),t≤s→s<m+t →
  oM K n l (c:Int) (s:Int) w (d-sm (bz l c s)) (jN (bz w c s)) m ((c+t:Nat):Int) ((de (bz w c s)).take t)=some (pw l c (dg (bz l c s) (bz w c s) d)):=by
 have wl:=mw bl (c:=c) (s:=s) hC;have ww:=mw bw (c:=c) (s:=s) (by omega);have el:(de (bz w c s)).length=s:=by rw[iQ,dk]
 have s0:=eg _ (fun x hx=>(wl x hx).1);intro m
 induction m with
 | zero=>intro t h1 h2;omega
 | succ m ih =>
  intro t h1 h2;simp only[oM,uD];rw[wn (n:=(c:Int)+(s:Int)) (k:=c+s) (by omega) (by omega)];by_cases ht:t<s
  ·have hj:∀x,x=(de (bz w c s)).getD t default→rH K n l (c:Int) (s:Int) w (d-sm (bz l c s)) (jN (bz w c s)) ((c+t:Nat):Int) ((de (bz w c s)).take t) (oM K n l (c:Int) (s:Int) w (d-sm (bz l c s)) (jN (bz w c s)) m) x=some (pw l c (dg (bz l c s) (bz w c s) d)):=by
    rintro x rfl
    unfold rH;rw[dE (by simp;omega) (by omega),bS,QB (by omega),wn (n:=((c+t:Nat):Int)+1) (k:=c+(t+1)) (by omega) (by omega)];exact ih (t+1) (by omega) (by omega)
   have ea:=ZN ww (t:=t) (by rw[dk];exact ht);rw[iZ ht]at ea;rw[bp (by omega),aH (by omega),ci];cases hz:jN (bz w c s)
   ·rw[hz]at ea hj;rw[if_neg (by decide)]at ea⊢;exact hj _ ea.symm
   ·rw[hz]at ea hj;rw[if_pos rfl]at ea⊢;exact hj _ ea.symm
  ·obtain rfl:t=s:=by omega
   have he:=Sh.Q7 (K:=K) (n:=n) (d-sm (bz l c t)) (de (bz w c t)) (by omega) hn;rw[bo (by omega),List.take_of_length_le (by omega),he,sb,A9 (kx ww.aO),show cO (d-sm (bz l c t)) mx=d-sm (bz l c t) by unfold cO mx;omega];have hl5:=acP (K:=K) (n:=n) l (share (d-sm (bz l c t)) (de (bz w c t))) c t (by rw[fN,el]) hC hr (fun k hk=>Df wl ww (by rw[dk,dk]) ⟨by omega,by omega⟩ k (by rw[dk];exact hk)) n 0 (by omega) (by omega);rw[Jo,show((0:Nat):Int)=0 from rfl]at hl5;rw[hl5];unfold dg;rw[if_pos hm]
theorem HT(l w:List Int)(d:Int)(c s:Nat)(s1:1≤s)(bl:Bd l)(bw:Bd w)(hwl:w.length=l.length)(hC:c+s≤l.length)(hr:l.length≤10000)(hn:10001<n)(hd:0≤d∧d≤1048576):ul K n l (c:Int) (s:Int) d w=some (pw l c (dg (bz l c s) (bz w c s) d)):=by
 have ol:Ok 1048576 l.length l:=⟨rfl,bl⟩;have loop:∀(m t:Nat),t≤s→s<m+t→se K n l (c:Int) (s:Int) w m (d-cJ l c t) (jN (bz w c t)) ((c+t:Nat):Int)=some (pw l c (dg (bz l c s) (bz w c s) d)):=by
  intro m
  induction m with
  | zero=>intro t h1 h2;omega
  | succ m ih =>
   intro t h1 h2;simp only[se,vO];rw[wn (n:=(c:Int)+(s:Int)) (k:=c+s) (by omega) (by omega)];by_cases ht:t<s
   ·have b1:=sg ol (a:=c) t (by omega);have b3:=ol.at (k:=c+t) (by omega);have hbb:(t:Int)*1048576≤10000*1048576:=Int.mul_le_mul_of_nonneg_right (by omega) (by omega);rw[bp (by omega),aH (by omega),sb,aH (by omega),ci,cj (n:=d-cJ l c t-l.getD (c+t) default) (by omega) (by omega),show d-cJ l c t-l.getD (c+t) default=d-cJ l c (t+1) by simp only[cJ];omega];have hnext:=ih (t+1) (by omega) (by omega);rw[Vl]at hnext;unfold w6;rw[wn (n:=((c+t:Nat):Int)+1) (k:=c+(t+1)) (by omega) (by omega)];by_cases hw:w.getD (c+t) default=0
    ·rw[show(w.getD (c+t) default != 0)=false by rw[hw];rfl,if_neg (by decide)];rw[beq_iff_eq.2 hw,Bool.and_true]at hnext;exact hnext
    ·rw[show(w.getD (c+t) default != 0)=true from bne_iff_ne.2 hw,if_pos rfl];rw[beq_false_of_ne hw,Bool.and_false]at hnext;exact hnext
   ·obtain rfl:t=s:=by omega
    rw[bo (by omega),← vP];by_cases h:d-sm (bz l c t)≤0
    ·rw[bp h];unfold dg;rw[if_neg (by omega)];congr 1;refine gP (fd _ _ _).symm (fun k hk=>?_);rw[fd]at hk;rw[dN hk,dk];split
     ·rw[iZ (by omega),show c+(k-c)=k by omega]
     ·rfl
    ·rw[bo h];have:=TL (K:=K) (n:=n) l w d c t s1 bl bw hwl hC hr hn hd.2 (by omega) n 0 (by omega) (by omega);rw[List.take_zero]at this;exact this
 have:=loop n 0 (by omega) (by omega);simp only[cJ,Int.sub_zero,Nat.add_zero]at this;exact this
theorem ade{l N:List Int}{c:Nat}(hc:c+N.length≤l.length):bz (pw l c N) c N.length=N:=by
 refine gP (dk _ _ _) (fun k hk=>?_);rw[iZ hk,dN (by omega),if_pos (by omega),Nat.add_sub_cancel_left]
theorem FX{cols:Nat}{L:List ah}{W:List aq}(v3:Int)(hv3:max v3 0=cols)(hr:cols≤10000)(hL:L.length≤10000)(hn:10001<n)(r:Nat)(L1:Int→List Int→List Int→Option (List aq)):∀(m i:Nat) (C:List aq),i≤min L.length W.length→L.length<m+i→fC cols C →
  mS K n L W v3 (r:Int) L1 m (i:Int) (bg C) (bv C)=L1 (aa (r+1)) (bg ((((idx (min L.length W.length)).drop i).filter fun i=>((aG L i).Cols == (r:Int))&&(eb (aG L i)&&qd cols (aG L i))).foldl (dM L W) C)) (bv ((((idx (min L.length W.length)).drop i).filter fun i=>((aG L i).Cols == (r:Int))&&(eb (aG L i)&&qd cols (aG L i))).foldl (dM L W) C)):=by
 intro m
 induction m with
 | zero=>intro i C h1 h2;omega
 | succ m ih =>
  intro i C h1 h2 hC;simp only[mS,ya];by_cases hi:i<min L.length W.length
  ·have ep:List.getD L i default=aG L (i:Int):=by unfold aG;rw[ci]
   rw[bp (by omega),Qh hi,show decide ((i:Int)<(W.length:Int))=true from decide_eq_true (by omega),List.filter_cons];generalize hF:(((aG L (i:Int)).Cols == (r:Int))&&(eb (aG L (i:Int))&&qd cols (aG L (i:Int))))=F;have hn2:=ih (i+1) C (by omega) (by omega) hC;unfold pj;rw[if_pos rfl,aH (by omega),ci,ep,hv3,acK,sb];have hT:F=false→lw K n L W v3 (r:Int) (i:Int) (bg C) (bv C) L1 (mS K n L W v3 (r:Int) L1 m) true=L1 (aa (r+1)) (bg ((if F=true then (i:Int)::((idx (min L.length W.length)).drop (i+1)).filter (fun i=>((aG L i).Cols == (r:Int))&&(eb (aG L i)&&qd cols (aG L i))) else ((idx (min L.length W.length)).drop (i+1)).filter (fun i=>((aG L i).Cols == (r:Int))&&(eb (aG L i)&&qd cols (aG L i)))).foldl (dM L W) C)) (bv ((if F=true then (i:Int)::((idx (min L.length W.length)).drop (i+1)).filter (fun i=>((aG L i).Cols == (r:Int))&&(eb (aG L i)&&qd cols (aG L i))) else ((idx (min L.length W.length)).drop (i+1)).filter (fun i=>((aG L i).Cols == (r:Int))&&(eb (aG L i)&&qd cols (aG L i)))).foldl (dM L W) C)):=by
    intro h;rw[h,if_neg (by decide)];unfold lw nV;rw[if_pos rfl,wn (n:=(i:Int)+1) (k:=i+1) (by omega) (by omega)];exact hn2
   have hno:eb (aG L (i:Int))=false→F=false:=fun h=>by rw[←hF,h];simp
   have okf:∀p:ah,¬ (p.Row≥0∧p.Col≥0∧p.Rows≥1∧p.Cols≥1)→eb p=false:=fun p h=>by
    cases h2:eb p
    ·rfl
    ·exact absurd (nY h2) h
   by_cases k1:(aG L (i:Int)).Cols=(r:Int)
   ·have:((aG L (i:Int)).Cols != (r:Int))=false:=by simp[k1]
    rw[this,if_neg (by decide)];by_cases k2:(aG L (i:Int)).Rows<1
    ·rw[bp k2];exact hT (hno (okf _ (by omega)))
    ·rw[bo k2];by_cases k3:(aG L (i:Int)).Row<0
     ·rw[bp k3];exact hT (hno (okf _ (by omega)))
     ·rw[bo k3];have e:(decide ((aG L (i:Int)).Col≥0)&&(decide ((aG L (i:Int)).Cols≥1)&&(decide ((aG L (i:Int)).Col<(cols:Int))&&decide ((aG L (i:Int)).Cols≤aa ((cols:Int)-(aG L (i:Int)).Col)))))=(eb (aG L (i:Int))&&qd cols (aG L (i:Int))):=by
       unfold eb qd;rw[show decide ((aG L (i:Int)).Row≥0)=true from decide_eq_true (by omega),show decide ((aG L (i:Int)).Rows≥1)=true from decide_eq_true (by omega)];simp only[Bool.true_and,Bool.and_assoc]
      rw[e];cases hq:(eb (aG L (i:Int))&&qd cols (aG L (i:Int)))
      ·exact hT (by rw[←hF,hq,Bool.and_false])
      ·have hF':F=true:=by rw[←hF,hq,beq_iff_eq.2 k1];rfl
       have hv:Vd cols L W (i:Int):=Vd.of hr (List.mem_filter.2 ⟨jh.2 ⟨i,by omega,rfl⟩,hq⟩);have r0:=hv.r0;have r1:=hv.r1;have r2:=hv.r2;have hlen:=hC.len;have hs:=(yR hr hv hC).1;have hn3:=ih (i+1) (dM L W C (i:Int)) (by omega) (by omega) hs;rw[hF',if_pos rfl,List.foldl_cons,← hn3];have ll:=gX C;have ml:=g7 C;unfold lw;rw[Bool.not_true,if_neg (by decide),show List.getD L ((i:Int)).toNat default=aG L (i:Int) from rfl];unfold nV;by_cases h1:(aG L (i:Int)).Cols=1
       ·have hr1:((r:Int) == 1)=true:=by rw[←k1,h1];rfl
        obtain⟨e1,e2⟩:=M6 hv hC h1;rw[ci]at e1 e2;rw[hr1,if_pos rfl,aH (by omega),aH (by omega),Bs,sb,aH (by omega),sb,aH (by omega),aH (by omega),Bs,sb,aH (by omega)];simp only[ci];rw[vM,yo,FY e1 (by omega),FY e2 (by omega),wn (n:=(i:Int)+1) (k:=i+1) (by omega) (by omega)]
       ·have hr1:((r:Int) == 1)=false:=by rw[beq_eq_false_iff_ne,← k1];exact h1
        rw[hr1,if_neg (by decide),aH (by omega),Bs,sb];obtain⟨c,ec⟩:∃c:Nat,(aG L (i:Int)).Col=c:=⟨(aG L (i:Int)).Col.toNat,by omega⟩;have tc:(aG L (i:Int)).Col.toNat=c:=by omega
        have ts:(aG L (i:Int)).Cols.toNat=r:=by omega
        rw[ec];have e1:=HT (K:=K) (n:=n) (bg C) (bv C) (sz (W.getD i default).Least) c r (by omega) hC.l hC.m (by omega) (by omega) (by omega) hn (fO _);have e3:dg (bz (bg C) c r) (bz (bv C) c r) (sz (W.getD i default).Least)=dA L W C (i:Int):=by unfold dA;rw[tc,ts,ci]
        rw[e3]at e1;simp only[ci];rw[e1,sb,aH (by omega),Bs,sb];have hda:=Eu hr hv hC;have hdl:=zf L W C (i:Int);have e2:=HT (K:=K) (n:=n) (bv C) (pw (bg C) c (dA L W C (i:Int))) (sz (W.getD i default).Most) c r (by omega) hC.m (Et hC.l hda.2.2) (by rw[fd];omega) (by omega) (by omega) hn (fO _);have e4:=ade (l:=bg C) (N:=dA L W C (i:Int)) (c:=c) (by omega);rw[hdl,ts]at e4;rw[e4]at e2;have e5:dg (bz (bv C) c r) (dA L W C (i:Int)) (sz (W.getD i default).Most)=dB L W C (i:Int):=by unfold dB;rw[tc,ts,ci]
        rw[e5]at e2;rw[e2,sb,vM,yo,tc,wn (n:=(i:Int)+1) (k:=i+1) (by omega) (by omega)]
   ·have:((aG L (i:Int)).Cols != (r:Int))=true:=by simp[k1]
    rw[this,if_pos rfl];exact hT (by rw[←hF,beq_false_of_ne k1,Bool.false_and])
  ·obtain rfl:i=min L.length W.length:=by omega
   have hd:(idx (min L.length W.length)).drop (min L.length W.length)=[]:=List.drop_eq_nil_of_le (by rw[gS];exact Nat.le_refl _);rw[hd];have hj:pj K n L W v3 (r:Int) ((min L.length W.length:Nat):Int) (bg C) (bv C) L1 (mS K n L W v3 (r:Int) L1 m) false=L1 (aa (r+1)) (bg C) (bv C):=by
    unfold pj;rw[if_neg (by decide)]
   by_cases h:((min L.length W.length:Nat):Int)<(L.length:Int)
   ·rw[bp h,show decide (((min L.length W.length:Nat):Int)<(W.length:Int))=false from decide_eq_false (by omega)];exact hj
   ·rw[bo h];exact hj
theorem Dw(C:List aq)(v3:Int)(hv3:max v3 0=C.length)(hr:C.length≤10000):∀(m i:Nat),i≤C.length→C.length<m+i→s9 K n v3 (bg C) (bv C) m (i:Int) ((C.map fin).take i)=some (C.map fin):=by
 intro m
 induction m with
 | zero=>intro i h1 h2;omega
 | succ m ih =>
  intro i h1 h2;simp only[s9,wi];have ll:=gX C;have ml:=g7 C;rw[hv3];by_cases hi:i<C.length
  ·rw[bp (by omega),aH (by omega),aH (by omega),aH (by omega),dE (by simp;omega) (by omega),bS,ci,oa hi,ow hi];have e:(C.map fin).take i++[(⟨(C.getD i default).Least,max (C.getD i default).Most (C.getD i default).Least⟩:aq)]=(C.map fin).take (i+1):=by
    rw[List.take_succ_eq_append_getElem (by simpa using hi),List.getElem_map,cd hi];rfl
   rw[e,wn (n:=(i:Int)+1) (k:=i+1) (by omega) (by omega)];exact ih (i+1) (by omega) (by omega)
  ·obtain rfl:i=C.length:=by omega
   rw[bo (by omega),List.take_of_length_le (by simp)]
theorem H5{n:Nat}(L:List ah)(W:List aq)(v3:Int)(hr:v3≤10000)(hL:L.length≤10000)(hn:10001<n):pP K n L W v3=some ((jV L W (max v3 0).toNat).map fin):=by
 unfold pP;obtain⟨r,er⟩:∃r:Nat,max v3 0=r:=⟨(max v3 0).toNat,by omega⟩;rw[er,Sh.lV (by omega) (by omega),bS,sb,bS,ci];have hr':r≤10000:=by omega
 have loop:∀(m k:Nat),k≤r→r<m+k →
   n3 K n L W v3 m ((k+1:Nat):Int) (bg ((fW (fun i=>(aG L i).Cols) (val L (qd r) W.length) k).foldl (dM L W) (List.replicate r iM))) (bv ((fW (fun i=>(aG L i).Cols) (val L (qd r) W.length) k).foldl (dM L W) (List.replicate r iM)))=some ((jV L W r).map fin):=by
  intro m
  induction m with
  | zero=>intro k h1 h2;omega
  | succ m ih =>
   intro k h1 h2;have hd:∀i∈fW (fun i=>(aG L i).Cols) (val L (qd r) W.length) k,Vd r L W i:=fun i hi=>Vd.of hr' (l6 hi).1;have hf:=(En hr' _ _ hd (fC.rep r)).1;simp only[n3,uY];rw[er];by_cases hk:k<r
   ·rw[bp (by omega)];have:=FX (K:=K) (n:=n) (W:=W) v3 er hr' hL hn (k+1) (n3 K n L W v3 m) n 0 _ (by omega) (by omega) hf;rw[List.drop_zero,show((0:Nat):Int)=0 from rfl]at this;rw[this,wn (n:=((k+1:Nat):Int)+1) (k:=k+1+1) (by omega) (by omega)];have e:=ih (k+1) (by omega) (by omega);simp only[fW,List.foldl_append]at e;unfold val at e⊢;rw[List.filter_filter]at e;exact e
   ·obtain rfl:k=r:=by omega
    rw[bo (by omega)];have:=Dw (K:=K) (n:=n) _ v3 (by rw[er,hf.len]) (by rw[hf.len];exact hr') n 0 (by omega) (by rw[hf.len];omega);rw[List.take_zero]at this;exact this
 have:=loop n 0 (by omega) (by omega);have e1:bg (List.replicate r iM)=List.replicate r 0:=by unfold bg;rw[List.map_replicate];rfl
 have e2:bv (List.replicate r iM)=List.replicate r 0:=by unfold bv;rw[List.map_replicate];rfl
 simp only[fW,List.foldl_nil,e1,e2]at this;exact this
end Go.Proofs.YtolhpahjgddjkaaGreat.Tb
namespace Go.Proofs.YtolhpahjgddjkaaGreat.Tb
set_option linter.all false
open Go.RowKit
open QSort (wn aH bp bo sb)
set_option maxRecDepth 20000
variable{K:Kn}{n:Nat}
def Sm(A:List ah):Prop:=∀p∈A,0≤p.Row∧p.Row≤1000000∧0≤p.Rows∧p.Rows≤1000000∧0≤p.Col∧p.Col≤1000000∧0≤p.Cols∧p.Cols≤1000000
theorem Zh{p:ah}(h:0≤p.Row∧p.Row≤1000000∧0≤p.Rows∧p.Rows≤1000000∧0≤p.Col∧p.Col≤1000000∧0≤p.Cols∧p.Cols≤1000000)(r c:Int):xG K n p r c=some (jK r c p):=by
 unfold xG nP jK;rw[cj (n:=p.Row+p.Rows) (by omega) (by omega),cj (n:=p.Col+p.Cols) (by omega) (by omega)];by_cases h1:p.Row≤r
 ·rw[bp (show r≥p.Row from h1),decide_eq_true h1,Bool.true_and];by_cases h2:r<p.Row+p.Rows
  ·rw[bp h2,decide_eq_true h2,Bool.true_and];by_cases h3:p.Col≤c
   ·rw[bp (show c≥p.Col from h3),decide_eq_true h3,Bool.true_and]
   ·rw[bo (show ¬ c≥p.Col from h3),decide_eq_false h3,Bool.false_and]
  ·rw[bo h2,decide_eq_false h2,Bool.false_and]
 ·rw[bo (show ¬ r≥p.Row from h1),decide_eq_false h1,Bool.false_and]
section
variable{S:List (List Span)}{r:Nat}{A:List ah}(out:List (List ah))(C idx:Int)(list:List ah)
theorem Xl(hA:Sm A)(hlA:A.length≤1000)(c:Int)(hc:0≤c∧c≤100000)
  (L1:Int→Int→List ah→List (List ah)→Option ((List (List ah))×Int)) (L2:Int→Int→Int→List ah→Option ((List (List ah))×Int)) (L3:Int→Bool→Option ((List (List ah))×Int)):∀(m j:Nat) (free:Bool),j≤A.length→A.length<m+j →
  sr K n S (r:Int) A out C idx list c L1 L2 L3 m free (j:Int)=L3 (if (free&&!dr (A.drop j) r c)=true then c else c+1) (free&&!dr (A.drop j) r c):=by
 intro m
 induction m with
 | zero=>intro j free h1 h2;omega
 | succ m ih =>
  intro j free h1 h2;simp only[sr,vN];by_cases hj:j<A.length
  ·have hp:=hA (A.getD j default) (by rw[cd hj];exact List.getElem_mem _);rw[bp (by omega),aH (by omega),ci,Zh hp,sb,List.drop_eq_getElem_cons hj,← cd hj];have e:dr (A.getD j default::A.drop (j+1)) r c=(jK r c (A.getD j default)||dr (A.drop (j+1)) r c):=rfl;rw[e];unfold wT;rw[wn (n:=(j:Int)+1) (k:=j+1) (by omega) (by omega)];cases jK r c (A.getD j default)
   ·rw[if_neg (by decide),Bool.false_or];exact ih (j+1) free (by omega) (by omega)
   ·rw[if_pos rfl,ih (j+1) false (by omega) (by omega)];simp only[Bool.false_and,Bool.true_or,Bool.not_true,Bool.and_false]
  ·obtain rfl:j=A.length:=by omega
   rw[bo (by omega),List.drop_length];have:dr [] (r:Int) c=false:=rfl;rw[this];unfold we;cases free
   ·rw[Bool.not_false,if_pos rfl,cj (by omega) (by omega)];rfl
   ·rfl
theorem S3(hS:Sp S)(hr:r<S.length)(hi:0≤idx∧idx<(S.getD r default).length)(hA:Sm A)(hlA:A.length≤1000)(hl:list.length≤1000)(hn:200000<n)(hf:∀x,100000≤x→dr A r x=false)
  (L1:Int→Int→List ah→List (List ah)→Option ((List (List ah))×Int)) (L2:Int→Int→Int→List ah→Option ((List (List ah))×Int)):∀(k:Nat) (c:Int) (m:Nat),fuel c=k→k+1<m→0≤c→c≤100000 →
  jJ K n S (r:Int) A out C idx list L1 L2 m c false=L2 (max C (nf (dr A r) (fuel c) c+min (max ((S.getD r default).getD idx.toNat default).a1 1) 100)) (nf (dr A r) (fuel c) c+min (max ((S.getD r default).getD idx.toNat default).a1 1) 100) (idx+1) (list++[jj S.length r (nf (dr A r) (fuel c) c) ((S.getD r default).getD idx.toNat default)]):=by
 have hR:=hS.r;have hrow:=hS.at hr;have ft:∀(c:Int) (m:Nat),0<m→0≤c→c≤100000→jJ K n S (r:Int) A out C idx list L1 L2 m c true=L2 (max C (c+min (max ((S.getD r default).getD idx.toNat default).a1 1) 100)) (c+min (max ((S.getD r default).getD idx.toNat default).a1 1) 100) (idx+1) (list++[jj S.length r c ((S.getD r default).getD idx.toNat default)]):=by
  intro c m hm h0 h1;obtain⟨m,rfl⟩:∃j,m=j+1:=⟨m-1,by omega⟩;simp only[jJ,pI,ci,Bool.not_true,Bool.false_eq_true,if_false,sb];rw[aH (by omega),aH (by omega),aH (by omega),aH (by omega),dE (by simp;omega) (by omega),bS,cj (n:=(S.length:Int)-(r:Int)) (by omega) (by omega),cj (n:=idx+1) (by omega) (by omega),cj (by omega) (by omega)];rfl
 have cw:∀(c:Int) (m:Nat),0≤c→c≤100000→jJ K n S (r:Int) A out C idx list L1 L2 (m+1) c false=jJ K n S (r:Int) A out C idx list L1 L2 m (if dr A r c=true then c+1 else c) (!dr A r c):=by
  intro c m h0 h1;simp only[jJ,pI,Bool.not_false,if_true];have:=Xl (K:=K) (n:=n) (S:=S) (r:=r) out C idx list hA hlA c ⟨h0,h1⟩ L1 L2 (jJ K n S (r:Int) A out C idx list L1 L2 m) n 0 true (by omega) (by omega);rw[show((0:Nat):Int)=0 from rfl,List.drop_zero,Bool.true_and]at this;rw[this];cases dr A r c<;>rfl
 intro k
 induction k with
 | zero =>
  intro c m hk hm h0 h1;have hc:100000≤c:=by unfold fuel at hk;omega
  obtain⟨m,rfl⟩:∃j,m=j+1:=⟨m-1,by omega⟩;rw[cw c m h0 h1,hf c hc,if_neg (by decide),hk];exact ft c m (by omega) h0 h1
 | succ k ih =>
  intro c m hk hm h0 h1;obtain⟨m,rfl⟩:∃j,m=j+1:=⟨m-1,by omega⟩;rw[cw c m h0 h1,hk];simp only[nf];cases hc:dr A r c
  ·rw[if_neg (by decide),if_neg (by decide)];exact ft c m (by omega) h0 h1
  ·rw[if_pos rfl,if_pos rfl];have hlt:c<100000:=by unfold fuel at hk;omega
   have:=ih (c+1) m (by unfold fuel at hk⊢;omega) (by omega) (by omega) (by omega);rw[show fuel (c+1)=k by unfold fuel at hk⊢;omega]at this;exact this
end
theorem XX{S:List (List Span)}(hS:Sp S){r:Nat}(hr:r<S.length)(hn:200000<n){A:List ah}(out:List (List ah))(ho:out.length≤1000)(hA:Sm A)(hlA:A.length≤900){E:Int}(hE:0≤E∧E≤50000)(hf:∀x,E≤x→dr A r x=false)
  (L1:Int→Int→List ah→List (List ah)→Option ((List (List ah))×Int)):∀(m i:Nat) (C aS:Int) (list:List ah),i≤(S.getD r default).length→(S.getD r default).length<m+i→0≤aS→max aS E+100*(((S.getD r default).length-i:Nat):Int)≤90000→aS≤90000→list.length≤i →
  n7 K n S (r:Int) A out L1 m C aS (i:Int) list=L1 (fa C (cells S.length r (dr A r) ((S.getD r default).drop i) aS)) ((r+1:Nat):Int) (A++(list++cells S.length r (dr A r) ((S.getD r default).drop i) aS)) (out++[list++cells S.length r (dr A r) ((S.getD r default).drop i) aS]):=by
 have hR:=hS.r;have hrow:=hS.at hr;intro m
 induction m with
 | zero=>intro i C aS list h1 h2;omega
 | succ m ih =>
  intro i C aS list h1 h2 h3 h4 h6 h7;simp only[n7,wC,ci];rw[aH (by omega),sb];by_cases hi:i<(S.getD r default).length
  ·rw[bp (by omega)];have e:=S3 (K:=K) (n:=n) (S:=S) (r:=r) (A:=A) out C (i:Int) list hS hr (by omega) hA (by omega) (by omega) hn (fun x hx=>hf x (by omega)) L1 (n7 K n S (r:Int) A out L1 m) (fuel aS) aS n rfl (by unfold fuel;omega) h3 (by omega);rw[ci]at e;have g1:=zu (dr A r) (fuel aS) aS;have g2:=A6 hf (fuel aS) aS;rw[e,List.drop_eq_getElem_cons hi,← cd hi];generalize hs:(S.getD r default).getD i default=s at *;have hst:(((S.getD r default).length-i:Nat):Int)=(((S.getD r default).length-(i+1):Nat):Int)+1:=by omega
   have:=ih (i+1) (max C (nf (dr A r) (fuel aS) aS+min (max s.a1 1) 100)) (nf (dr A r) (fuel aS) aS+min (max s.a1 1) 100) (list++[jj S.length r (nf (dr A r) (fuel aS) aS) s]) (by omega) (by omega) (by omega) (by omega) (by omega) (by simp;omega);rw[show(i:Int)+1=((i+1:Nat):Int) by omega,this];simp only[cells,List.append_assoc,List.singleton_append];rfl
  ·obtain rfl:i=(S.getD r default).length:=by omega
   rw[bo (by omega),List.drop_length,dE (by omega) (by omega),bS,dE (by simp;omega) (by omega),bS,wn (n:=(r:Int)+1) (k:=r+1) (by omega) (by omega)];simp[cells,fa]
theorem OU{S:List (List Span)}(hS:Sp S)(hn:200000<n):sY K n S=some (rw S S.length,aS S S.length):=by
 have hR:=hS.r;have loop:∀(m r:Nat),r≤S.length→S.length<m+r→nI K n S m (aS S r) (r:Int) (cr S r) (rw S r)=some (rw S S.length,aS S S.length):=by
  intro m
  induction m with
  | zero=>intro r h1 h2;omega
  | succ m ih =>
   intro r h1 h2;simp only[nI,wU];by_cases hr:r<S.length
   ·have hu:=up hS r (by omega);have c0:=hu.c;have l0:=hu.l;have hro:=hS.at hr;have hA:Sm (cr S r):=fun p hp=>by have:=hu.p p hp;omega
    have e:=XX (K:=K) (n:=n) hS hr hn (A:=cr S r) (rw S r) (by rw[gr];omega) hA (by omega) (E:=aS S r) (by omega) (hu.free r) (nI K n S m) n 0 (aS S r) 0 [] (by omega) (by omega) (by omega) (by omega) (by omega) (by simp);rw[List.drop_zero,List.nil_append,show cells S.length r (dr (cr S r) r) (S.getD r default) 0=fv S r from rfl,← wh,← j2,← xQ,show((0:Nat):Int)=0 from rfl]at e;rw[bp (by omega),e];exact ih (r+1) (by omega) (by omega)
   ·obtain rfl:r=S.length:=by omega
    rw[bo (by omega)]
 unfold sY;exact loop n 0 (by omega) (by omega)
end Go.Proofs.YtolhpahjgddjkaaGreat.Tb
namespace Go.Proofs.YtolhpahjgddjkaaGreat
set_option linter.all false
open Go.RowKit
section
variable(K:Kn)(n:Nat)
theorem FJ(x:Int):gQ K n x=some (di x):=rfl
theorem Lj(l:ch)(b:Int):ik K n l b=some (b8 l b):=by
 unfold ik b8;by_cases h1:l.Kind=1
 ·simp[h1,my]
 ·by_cases h2:l.Kind=2
  ·simp[h2,my,gQ]
  ·simp[h1,h2]
theorem PR(s:aE)(w c:Int):pK K n s w c=some (dU s w c):=by
 unfold pK dU;simp only[Lj,Option.bind_some,xL,wz]
 repeat (first|rfl|split)
theorem Ce(s:aE)(w c:Int):sC K n s w c=some (eh s w c):=by
 simp only[sC,Lj,FJ,Option.bind_some,eh]
theorem B9(z:bO):xm K n z=some (eW z):=rfl
theorem QT(l:ch):gH K n l=some (aV l):=by
 unfold gH aV;by_cases h:l.Kind=2<;>simp[h]
theorem Lk(s:aE):tq K n s=some (cI s):=by
 simp only[tq,QT,Option.bind_some,cI]
end
theorem Uw(K:Kn)(n:Nat)(k:ac):tu K n k=some (gZ k):=by
 unfold tu gZ yp;cases h:k.Kind == 3<;>simp
theorem ZG(K:Kn)(n:Nat)(b:ac)(hb:b.Kids.length≤20):∀(m i:Nat) (acc:List ac),i≤b.Kids.length→b.Kids.length<m+i→acc.length≤i →
  rT K n b m i acc=some (acc++(b.Kids.drop i).filter gZ):=by
 intro m
 induction m with
 | zero=>intro i acc h1 h2;omega
 | succ m ih =>
  intro i acc h1 h2 h3;simp only[rT,vr];by_cases hi:i<b.Kids.length
  ·rw[drop_at' hi];simp only[nN hi,if_true,lr hi,bS,Uw,Option.bind_some,xh,Int.toNat_natCast,List.length_cons,List.length_nil,dQ (show i<1000000 by omega),List.filter_cons];cases hq:gZ (b.Kids.getD i default)
   ·simp only[Bool.false_eq_true,if_false];exact ih (i+1) acc (by omega) (by omega) (by omega)
   ·simp only[if_true];rw[dE (by omega) (by omega),bS,ih (i+1) _ (by omega) (by omega) (by simp;omega)];simp only[List.append_assoc,List.singleton_append]
  ·have e:i=b.Kids.length:=by omega
   subst e;simp only[oS (Nat.le_refl _),Bool.false_eq_true,if_false,List.drop_length,List.filter_nil,List.append_nil]
theorem ML(K:Kn)(n:Nat)(b:ac)(hb:b.Kids.length≤20)(hn:20<n):xg K n b=some (gM b):=by
 have h:=ZG K n b hb n 0 [] (by omega) (by omega) (by simp);exact(show _=_ from h).trans (by simp only[List.nil_append,List.drop_zero];rfl)
theorem acv(K:Kn)(n:Nat)(L:List ac)(hL:L.length≤20):∀(m i:Nat),i≤L.length→L.length<m+i→qI K n L m i=some ((L.drop i).any fun k=>k.Kind == 1):=by
 intro m
 induction m with
 | zero=>intro i h1 h2;omega
 | succ m ih =>
  intro i h1 h2;simp only[qI,wd];by_cases hi:i<L.length
  ·rw[drop_at' hi];simp only[nN hi,if_true,lr hi,bS,Int.toNat_natCast,List.any_cons,dQ (show i<1000000 by omega)];cases hq:(L.getD i default).Kind == 1
   ·simp only[Bool.false_eq_true,if_false,Bool.false_or];exact ih (i+1) (by omega) (by omega)
   ·simp
  ·have e:i=L.length:=by omega
   subst e;simp[oS (Nat.le_refl _)]
theorem QM(K:Kn)(n:Nat)(b:ac)(hb:b.Kids.length≤20)(hn:20<n):tB K n b=some ((gM b).any fun k=>k.Kind == 1):=by
 unfold tB;rw[ML K n b hb hn,Option.bind_some];have:=@Hf b;exact(acv K n (gM b) (by omega) n 0 (by omega) (by omega)).trans (by simp only[List.drop_zero])
def mr(l:ch):Int×Bool:=if l.Kind=1 then (max (min (max l.Value (-1048576)) 1048576) 0,true) else (0,false)
theorem Tc(K:Kn)(n:Nat)(l:ch):vL K n l=some (mr l):=by
 unfold vL mr;by_cases h:l.Kind=1<;>simp[h,my]
theorem FN(s:aE)(c:Int):eW (eh s 0 c)=aa (c+eW (eh s 0 0)):=by
 unfold eW eh;simp only[];apply T6;have w:=TS;generalize (b8 s.Margin.a1 0).1=m1;generalize (b8 s.Margin.a3 0).1=m3;generalize di s.Border.a1=b1;generalize di s.Border.a3=b3;generalize max (b8 s.Padding.a1 0).1 0=p1;generalize max (b8 s.Padding.a3 0).1 0=p3;have h1:=w (c+m1);have h2:=w (aa (c+m1)+m3);have h3:=w (aa (aa (c+m1)+m3)+b1);have h4:=w (aa (aa (aa (c+m1)+m3)+b1)+b3);have h5:=w (aa (aa (aa (aa (c+m1)+m3)+b1)+b3)+p1);have g1:=w (0+m1);have g2:=w (aa (0+m1)+m3);have g3:=w (aa (aa (0+m1)+m3)+b1);have g4:=w (aa (aa (aa (0+m1)+m3)+b1)+b3);have g5:=w (aa (aa (aa (aa (0+m1)+m3)+b1)+b3)+p1);have g6:=w (aa (aa (aa (aa (aa (0+m1)+m3)+b1)+b3)+p1)+p3);omega
namespace Wd
theorem pH(x:Int):0≤di x∧di x≤1048576:=by unfold di;omega
theorem C6(l:ch)(w:Int):(b8 l w).2=(l.Kind == 1||l.Kind == 2):=by
 unfold b8;by_cases h1:l.Kind=1
 ·simp[h1]
 ·by_cases h2:l.Kind=2<;>simp[h1,h2]
theorem L0(l:ch):(aV l).Kind≠2:=by
 unfold aV;by_cases h:l.Kind=2
 ·rw[if_pos h];exact fun h=>by cases h
 ·rw[if_neg h];exact h
end Wd
theorem Gv(K:Kn)(n:Nat)(s:aE)(a b:Int):sN K n s a b=some (if (b8 (cI s).Width 0).2=true then (jb s (di (b8 (cI s).Width 0).1),jb s (di (b8 (cI s).Width 0).1)) else (jb s (di a),jb s (di b))):=by
 unfold sN;have hF:∀c,jb s c=aa (dU (cI s) 0 c+eW (eh (cI s) 0 0)):=fun c=>FN (cI s) _;simp only[Option.bind_some,Lk,FJ,Tc];have hk:(cI s).Width.Kind≠2:=Wd.L0 _;by_cases hw:(cI s).Width.Kind=1
 ·have e1:(b8 (cI s).Width 0).2=true:=by rw[Wd.C6];simp[hw]
  have e2:(mr (cI s).Width).2=true:=by unfold mr;simp[hw]
  have e3:(mr (cI s).Width).1=di (b8 (cI s).Width 0).1:=by unfold mr b8 di;simp only[hw,if_true];omega
  simp only[e1,e2,if_true,rt,Ce,B9,PR,Option.bind_some,e3];rw[←hF]
 ·have e1:(b8 (cI s).Width 0).2=false:=by rw[Wd.C6];simp[hw,hk]
  have e2:(mr (cI s).Width).2=false:=by unfold mr;simp[hw]
  simp only[e1,e2,Bool.false_eq_true,if_false,rt,Ce,B9,PR,Option.bind_some];rw[←hF,← hF]
theorem Yw(K:Kn)(n:Nat)(s:aE):tD K n s=some (cI s):=by
 unfold tD;refine (fj s.Width (fun l=>rg K n { s with Width:=l }) _ rfl).trans ?_;unfold rg;refine (fj s.MinWidth (fun l=>rp K n { s with Width:=aV s.Width,MinWidth:=l }) _ rfl).trans ?_;unfold rp;refine (fj s.MaxWidth (fun l=>pU K n { s with Width:=aV s.Width,MinWidth:=aV s.MinWidth,MaxWidth:=l }) _ rfl).trans ?_;unfold pU;refine (fj s.Margin.a0 (fun l=>ta K n { s with Width:=aV s.Width,MinWidth:=aV s.MinWidth,MaxWidth:=aV s.MaxWidth,Margin:=⟨l,s.Margin.a1,s.Margin.a2,s.Margin.a3⟩ }) _ rfl).trans ?_;unfold ta;refine (fj s.Padding.a0 (fun l=>qu K n { s with Width:=aV s.Width,MinWidth:=aV s.MinWidth,MaxWidth:=aV s.MaxWidth,Margin:=⟨aV s.Margin.a0,s.Margin.a1,s.Margin.a2,s.Margin.a3⟩,Padding:=⟨l,s.Padding.a1,s.Padding.a2,s.Padding.a3⟩ }) _ rfl).trans ?_;unfold qu;refine (fj s.Margin.a1 (fun l=>qX K n { s with Width:=aV s.Width,MinWidth:=aV s.MinWidth,MaxWidth:=aV s.MaxWidth,Margin:=⟨aV s.Margin.a0,l,s.Margin.a2,s.Margin.a3⟩,Padding:=⟨aV s.Padding.a0,s.Padding.a1,s.Padding.a2,s.Padding.a3⟩ }) _ rfl).trans ?_
 unfold qX;refine (fj s.Padding.a1 (fun l=>sE K n { s with Width:=aV s.Width,MinWidth:=aV s.MinWidth,MaxWidth:=aV s.MaxWidth,Margin:=⟨aV s.Margin.a0,aV s.Margin.a1,s.Margin.a2,s.Margin.a3⟩,Padding:=⟨aV s.Padding.a0,l,s.Padding.a2,s.Padding.a3⟩ }) _ rfl).trans ?_;unfold sE;refine (fj s.Margin.a2 (fun l=>tf K n { s with Width:=aV s.Width,MinWidth:=aV s.MinWidth,MaxWidth:=aV s.MaxWidth,Margin:=⟨aV s.Margin.a0,aV s.Margin.a1,l,s.Margin.a3⟩,Padding:=⟨aV s.Padding.a0,aV s.Padding.a1,s.Padding.a2,s.Padding.a3⟩ }) _ rfl).trans ?_;unfold tf;refine (fj s.Padding.a2 (fun l=>rU K n { s with Width:=aV s.Width,MinWidth:=aV s.MinWidth,MaxWidth:=aV s.MaxWidth,Margin:=⟨aV s.Margin.a0,aV s.Margin.a1,aV s.Margin.a2,s.Margin.a3⟩,Padding:=⟨aV s.Padding.a0,aV s.Padding.a1,l,s.Padding.a3⟩ }) _ rfl).trans ?_;unfold rU;refine (fj s.Margin.a3 (fun l=>sn K n { s with Width:=aV s.Width,MinWidth:=aV s.MinWidth,MaxWidth:=aV s.MaxWidth,Margin:=⟨aV s.Margin.a0,aV s.Margin.a1,aV s.Margin.a2,l⟩,Padding:=⟨aV s.Padding.a0,aV s.Padding.a1,aV s.Padding.a2,s.Padding.a3⟩ }) _ rfl).trans ?_
 unfold sn;refine (fj s.Padding.a3 (fun l=>uW K n { s with Width:=aV s.Width,MinWidth:=aV s.MinWidth,MaxWidth:=aV s.MaxWidth,Margin:=⟨aV s.Margin.a0,aV s.Margin.a1,aV s.Margin.a2,aV s.Margin.a3⟩,Padding:=⟨aV s.Padding.a0,aV s.Padding.a1,aV s.Padding.a2,l⟩ }) _ rfl).trans ?_;rfl
theorem rR(l:ch)(b:Int): -1048576≤(b8 l b).1∧(b8 l b).1≤1048576:=by
 unfold b8;split
 ·simp only[];omega
 ·split<;>simp only[]<;>omega
theorem ac3(s:aE)(w:Int): -6291456≤eW (eh s w 0)∧eW (eh s w 0)≤6291456:=by
 have e1:=rR s.Margin.a1 w;have e2:=rR s.Margin.a3 w;have e3:=rR s.Padding.a1 w;have e4:=rR s.Padding.a3 w;have q1:=Wd.pH s.Border.a1;have q3:=Wd.pH s.Border.a3;unfold eW eh;simp only[];rw[cj (n:=0+(b8 s.Margin.a1 w).1) (by omega) (by omega),cj (n:=0+(b8 s.Margin.a1 w).1+(b8 s.Margin.a3 w).1) (by omega) (by omega),cj (n:=0+(b8 s.Margin.a1 w).1+(b8 s.Margin.a3 w).1+di s.Border.a1) (by omega) (by omega),cj (n:=0+(b8 s.Margin.a1 w).1+(b8 s.Margin.a3 w).1+di s.Border.a1+di s.Border.a3) (by omega) (by omega),cj (n:=0+(b8 s.Margin.a1 w).1+(b8 s.Margin.a3 w).1+di s.Border.a1+di s.Border.a3+max (b8 s.Padding.a1 w).1 0) (by omega) (by omega),cj (by omega) (by omega)];omega
end Go.Proofs.YtolhpahjgddjkaaGreat
namespace Go.Proofs.YtolhpahjgddjkaaGreat.Tbl
open Go.RowKit
open Tb (rw aS cr fv gr qx j2 Up up Sp jV H5 OU bv)
open QSort (wn aH bp bo sb)
set_option maxRecDepth 20000
def kI(c:ac):ac:={ c with Style:={ c.Style with Height:=bJ,Margin:=⟨{ bJ with Kind:=1 },{ bJ with Kind:=1 },{ bJ with Kind:=1 },{ bJ with Kind:=1 }⟩ } }
theorem aa2(c:ac)(x:Int):jb (kI c).Style x=jb (ms c).Style x:=by
 unfold jb;rfl
theorem ac8{K:Kn}{n:Nat}(hn:20<n){c:ac}(h:jo c):tn K n (kI c)=some (mh (ms c)):=by
 obtain⟨t,hk,h3⟩:=h.k;have hkb:(kI c).Kids=[t]:=hk;have hfl:gM (kI c)=[t]:=by unfold gM;rw[hkb];simp[gZ,h3]
 unfold tn yE;rw[ML K n (kI c) (by rw[hkb];simp) hn,QM K n (kI c) (by rw[hkb];simp) hn,hfl];have hany:([t].any fun k=>k.Kind == 1)=false:=by simp[h3]
 rw[hany];simp only[Option.bind_some,Bool.not_false,if_true,Pf K n [t] (kI c).Style (by simp) hn,FJ,Gv,aa2];have hw:(cI (kI c).Style).Width=(cI (ms c).Style).Width:=rfl;have hkp:(ms c).Kids=[t]:=hk;rw[hw];unfold mh mW;rw[hkp];have ll:∀x,di (di x)=di x:=fun x=>by unfold di;omega
 split<;>simp[ll]
section
variable(K:Kn)(n:Nat)(b:ac)
theorem UW(i:Nat)(hi:i<b.Kids.length)(v54:List (List (V2 Int)))(h54:v54.length≤1000)(L1:Int→List ac→List ac→List (List (V2 Int))→Option dd)(rs:List ac)(hl:(b.Kids.getD i default).Kids.length≤1000):∀(m j:Nat) (c:List ac) (a:List (V2 Int)),j≤(b.Kids.getD i default).Kids.length→(b.Kids.getD i default).Kids.length<m+j→a.length≤j→c.length≤1000000+j →
  o9 K n b (i:Int) v54 L1 m (j:Int) rs c a=L1 (aa ((i:Int)+1)) rs (c++((b.Kids.getD i default).Kids.drop j).filter fun x=>x.Kind == 9) (v54++[a++(((b.Kids.getD i default).Kids.drop j).filter fun x=>x.Kind == 9).map pX]):=by
 intro m
 induction m with
 | zero=>intro j c a h1 h2;omega
 | succ m ih =>
  intro j c a h1 h2 h3 h4;simp only[o9,vA,Int.toNat_natCast];rw[aH (by omega),sb];by_cases hj:j<(b.Kids.getD i default).Kids.length
  ·rw[bp (by omega),aH (by omega),aH (by omega),sb,sb,drop_at' hj,List.filter_cons];unfold ui;cases hq:((b.Kids.getD i default).Kids.getD j default).Kind == 9
   ·simp only[Bool.false_eq_true,if_false];rw[dQ (show j<1000000 by omega)];exact ih (j+1) c a (by omega) (by omega) (by omega) (by omega)
   ·simp only[if_true];rw[dE (by simp;omega) (by omega),bS,dE (by simp;omega) (by omega),bS,dQ (show j<1000000 by omega),ih (j+1) _ _ (by omega) (by omega) (by simp;omega) (by simp;omega)];simp only[List.append_assoc,List.singleton_append,List.map_cons,pX]
  ·have e:j=(b.Kids.getD i default).Kids.length:=by omega
   rw[bo (by omega),e,dE (by simp;omega) (by omega),bS];unfold qy;simp
theorem FX(hb:b.Kids.length≤1000)(hk:∀r∈dG b 8,r.Kids.length≤1000)(hn:1000<n):∀(m i:Nat) (rs c:List ac) (a:List (List (V2 Int))),i≤b.Kids.length→b.Kids.length<m+i→rs.length≤i→c.length≤1000*i→a.length≤i →
  kN K n b m (i:Int) rs c a=(sY K n (a++((b.Kids.drop i).filter fun x=>x.Kind == 8).map nn)).bind fun v80=>ou K n (rs++(b.Kids.drop i).filter fun x=>x.Kind == 8) (c++((b.Kids.drop i).filter fun x=>x.Kind == 8).flatMap fun r=>dG r 9) v80 n 0 []:=by
 intro m
 induction m with
 | zero=>intro i rs c a h1 h2;omega
 | succ m ih =>
  intro i rs c a h1 h2 h3 h4 h5;simp only[kN,xV,Int.toNat_natCast];by_cases hi:i<b.Kids.length
  ·rw[bp (by omega),aH (by omega),sb,drop_at' hi,List.filter_cons];by_cases hq:(b.Kids.getD i default).Kind=8
   ·have e1:((b.Kids.getD i default).Kind != 8)=false:=by rw[hq];rfl
    have e2:((b.Kids.getD i default).Kind == 8)=true:=by rw[hq];rfl
    rw[e1,if_neg (by decide),aH (by omega),dE (by simp;omega) (by omega),bS,e2,if_pos rfl];have hm:(b.Kids.getD i default)∈dG b 8:=List.mem_filter.2 ⟨i8 hi,e2⟩;have hlm:=hk _ hm;have e:=UW K n b i hi a (by omega) (kN K n b m) (rs++[b.Kids.getD i default]) hlm n 0 c [] (by omega) (by omega) (by simp) (by omega);rw[show o9 K n b (i:Int) a (kN K n b m) n 0 (rs++[b.Kids.getD i default]) c []=_ from e,dQ (show i<1000000 by omega),List.drop_zero,List.nil_append];have hkl:=Ng (b.Kids.getD i default) 9;rw[ih (i+1) _ _ _ (by omega) (by omega) (by simp;omega) (by rw[List.length_append];unfold dG at hkl;omega) (by simp;omega)];simp only[List.append_assoc,List.singleton_append,List.map_cons,List.flatMap_cons,nn,dG]
   ·have e1:((b.Kids.getD i default).Kind != 8)=true:=by rw[bne_iff_ne];exact hq
    have e2:((b.Kids.getD i default).Kind == 8)=false:=by rw[beq_eq_false_iff_ne];exact hq
    rw[e1,if_pos rfl,e2];unfold qy;rw[dQ (show i<1000000 by omega)];simp only[Bool.false_eq_true,if_false];exact ih (i+1) rs c a (by omega) (by omega) (by omega) (by omega) (by omega)
  ·have e:i=b.Kids.length:=by omega
   subst e;rw[bo (by omega)];simp
theorem acR(rs cells:List ac)(v25:(List (List ah))×Int)(h1:v25.1.length≤1000)(hc:∀l∈v25.1,l.length≤1000):∀(m i:Nat) (a:List ah),i≤v25.1.length→v25.1.length<m+i→a.length≤1000*i →
  ou K n rs cells v25 m (i:Int) a=nL K n rs cells v25 (a++(v25.1.drop i).flatten) n 0 []:=by
 intro m
 induction m with
 | zero=>intro i a h1 h2;omega
 | succ m ih =>
  intro i a h1 h2 h3;simp only[ou,vR];by_cases hi:i<v25.1.length
  ·have hm:=hc _ (i8 hi);rw[drop_at' hi,bp (by omega),aH (by omega),Int.toNat_natCast,dE (by omega) (by omega),bS,dQ (show i<1000000 by omega),ih (i+1) _ (by omega) (by omega) (by rw[List.length_append];omega)];simp only[List.append_assoc,List.flatten_cons]
  ·have e:i=v25.1.length:=by omega
   subst e;rw[bo (by omega)];simp
theorem Dw(hn:20<n)(rs cells:List ac)(v25:(List (List ah))×Int)(v27:List ah)(h1:cells.length≤100000)(hc:∀c∈cells,jo c):∀(m i:Nat) (a:List aq),i≤cells.length→cells.length<m+i→a.length≤i →
  nL K n rs cells v25 v27 m (i:Int) a=(pP K n v27 (a++(cells.drop i).map wc) v25.2).bind fun v36=>some (⟨rs,cells,v27,v36⟩:dd):=by
 intro m
 induction m with
 | zero=>intro i a h1 h2;omega
 | succ m ih =>
  intro i a h1 h2 h3;simp only[nL,tI];by_cases hi:i<cells.length
  ·have hm:=hc _ (i8 hi);have hp:Bt K n (cells.getD i default)=some (kI (cells.getD i default)):=rfl;rw[drop_at' hi,bp (by omega),aH (by omega),Int.toNat_natCast,hp,sb,ac8 hn hm,sb,dE (by simp;omega) (by omega),bS,dQ (show i<1000000 by omega),ih (i+1) _ (by omega) (by omega) (by simp;omega)];simp only[List.append_assoc,List.singleton_append,List.map_cons,wc]
  ·have e:i=cells.length:=by omega
   subst e;rw[bo (by omega)];simp
end
theorem Bh{K:Kn}{n:Nat}(hn:300000<n){b:ac}(h:fz b):rx K n b=some ⟨gf b,cz b,cr (aP b) (aP b).length,bN b⟩:=by
 have hS:=h.sp;have hbn:=h.n;unfold rx;have h4:=FX K n b h.n (fun r hr=>(h.k r hr).1) (by omega) n 0 [] [] [] (by omega) (by omega) (by simp) (by simp) (by simp);rw[show kN K n b n 0 [] [] []=_ from h4];simp only[List.drop_zero,List.nil_append];rw[show(b.Kids.filter fun x=>x.Kind == 8)=gf b from rfl,show(gf b).map nn=aP b from rfl,OU hS (by omega),sb];have hu:=up hS (aP b).length (Nat.le_refl _);have hSr:=hS.r;have hcl:∀l∈rw (aP b) (aP b).length,l.length≤1000:=fun l hl=>by
  obtain⟨i,hi,rfl⟩:=List.mem_iff_getElem.1 hl;rw[gr]at hi;have:=qx (aP b) hi;rw[cd (by rw[gr];exact hi)]at this;rw[this,yX];have:=hS.at hi;omega
 have hl3:=acR K n (gf b) (cz b) (rw (aP b) (aP b).length,aS (aP b) (aP b).length) (by rw[gr];omega) hcl n 0 [] (by omega) (by rw[gr];omega) (by simp);refine (show _=_ from hl3).trans ?_;simp only[List.drop_zero,List.nil_append];have hcn:=h.mO;have hl4:=Dw K n (by omega) (gf b) (cz b) (rw (aP b) (aP b).length,aS (aP b) (aP b).length) (rw (aP b) (aP b).length).flatten (by omega) h.lZ n 0 [] (by omega) (by omega) (by simp);refine (show _=_ from hl4).trans ?_;simp only[List.drop_zero,List.nil_append];have hc:=hu.c;have hl:=hu.l;have hcb:=lp hS (aP b).length (Nat.le_refl _);rw[md]at hcb;rw[H5 _ _ _ (by omega) (show(rw (aP b) (aP b).length).flatten.length≤10000 from by have:(cr (aP b) (aP b).length).length≤20*(aP b).length:=hl;unfold cr at this;omega) (by omega),sb,show max (aS (aP b) (aP b).length) 0=aS (aP b) (aP b).length by omega];rfl
theorem Ze(K:Kn)(n:Nat)(g:dd)(h1:Tb.Bd (Tb.bg g.Columns))(h2:Tb.Bd (bv g.Columns))(hl:g.Columns.length≤10000):∀(m i:Nat),i≤g.Columns.length→g.Columns.length<m+i →
  sI K n g m (sm ((Tb.bg g.Columns).take i)) (sm ((bv g.Columns).take i)) (i:Int)=some (sm (Tb.bg g.Columns),sm (bv g.Columns)):=by
 have l1:(Tb.bg g.Columns).length=g.Columns.length:=by simp[Tb.bg]
 have l2:(bv g.Columns).length=g.Columns.length:=by simp[bv]
 intro m
 induction m with
 | zero=>intro i h1 h2;omega
 | succ m ih =>
  intro i h3 h4;simp only[sI,uB];by_cases hi:i<g.Columns.length
  ·have a1:=m9 (xn h1 i) (by rw[List.length_take];omega);have a2:=m9 (xn h2 i) (by rw[List.length_take];omega);have c1:=h1.at (k:=i) (by omega);have c2:=h2.at (k:=i) (by omega);have e1:(Tb.bg g.Columns).getD i default=(g.Columns.getD i default).Least:=Tb.eU hi;have e2:(bv g.Columns).getD i default=(g.Columns.getD i default).Most:=Tb.eU hi;rw[bp (by omega),aH (by omega),sb,aH (by omega),Int.toNat_natCast,dQ (show i<1000000 by omega),← e1,← e2,cj (n:=sm ((Tb.bg g.Columns).take i)+(Tb.bg g.Columns).getD i default) (by omega) (by omega),cj (by omega) (by omega),e1,e2];have s1:=tC (·.Least) hi;have s2:=tC (·.Most) hi;rw[show g.Columns.map (·.Least)=Tb.bg g.Columns from rfl]at s1;rw[show g.Columns.map (·.Most)=bv g.Columns from rfl]at s2;rw[←s1,← s2];exact ih (i+1) (by omega) (by omega)
  ·have e:i=g.Columns.length:=by omega
   subst e;rw[bo (by omega),List.take_of_length_le (by omega),List.take_of_length_le (by omega)]
theorem adA(K:Kn)(n:Nat)(g:dd)(h1:Tb.Bd (Tb.bg g.Columns))(h2:Tb.Bd (bv g.Columns))(hl:g.Columns.length≤10000)(hn:10000<n):yD K n g=some (sm (Tb.bg g.Columns),sm (bv g.Columns)):=by
 have:=Ze K n g h1 h2 hl n 0 (by omega) (by omega);simp only[List.take_zero]at this;exact this
end Go.Proofs.YtolhpahjgddjkaaGreat.Tbl
namespace Go.Proofs.YtolhpahjgddjkaaGreat.Tbl
set_option linter.all false
open Go.RowKit
open Tb (kD H4 Ok yB fJ B0 pC)
open QSort (wn aH bp bo sb)
set_option maxRecDepth 20000
abbrev PF:=ag×Option (List ag)
theorem mX{α β:Type}[Inhabited α][Inhabited β](f:α→β){l:List α}{k:Nat}(hk:k<l.length):(l.map f).getD k default=f (l.getD k default):=by
 rw[cd (by simpa using hk),cd hk];simp
def sk(d:Int)(k:ag):ag:={ k with Y:=aa (k.Y+d) }
def tQ(va x:Int):Int:=if (va == 2)=true then x else if (va == 1)=true then aa (Int.tdiv x 2) else 0
section
variable{K:Kn}{n:Nat}{v1:ac}{v2:Int}{v5:Int×Int}{v11:Int}{v25:List Int}{v26:List PF}{v38:List ah}{v43:List Int}{v46 v94:Int}{v95 v96:List PF}{v97:List ag}{v98:aE}{v99 v100:bj}{v101:Bool}{v102:List PF}{v103 v105:Int}{L4:Int→List PF→List PF→Option ag}
theorem abx{row:Nat}{l:List ag}(hrow:(List.getD v38 v94.toNat default).Row=(row:Int))(hr:row<v96.length)(hl:(List.getD v96 row default).2=some l)(hlen:l.length≤1000)(h97:v97.length≤1000)(h96:v96.length≤1000):∀(m i:Nat),i≤v97.length→v97.length<m+i →
  qF K n v1 v2 v5 v11 v25 v26 v38 v43 v46 v94 v95 v96 v97 v98 v99 v100 v101 v102 v103 v105 L4 m (i:Int) (mix i (v97.map (sk v105)) v97) =
   L4 (aa (v94+1)) v102 (List.set v96 row ((List.getD v96 row default).1,some (l++[({ ((List.getD v95 (v94).toNat default).1)with H:=v103,Style:=v98,Before:=v99,After:=v100,Empty:=v101,Kids:=v97.map (sk v105) }:ag)]))):=by
 have hml:(v97.map (sk v105)).length=v97.length:=by simp
 intro m
 induction m with
 | zero=>intro i h1 h2;omega
 | succ m ih =>
  intro i h1 h2;simp only[qF,wW];by_cases hi:i<v97.length
  ·have e:=mX (sk v105) hi;rw[bp (by omega),aH (by rw[gm hml];omega),aH (by rw[gm hml];omega),Int.toNat_natCast,n8 hml hi,dQ (show i<1000000 by omega)];rw[show({ List.getD v97 i default with Y:=aa ((List.getD v97 i default).Y+v105) }:ag)=(v97.map (sk v105)).getD i default from e.symm,i7 hml hi];exact ih (i+1) (by omega) (by omega)
  ·have e:i=v97.length:=by omega
   subst e;rw[bo (by omega),kJ hml];have i1:aB (row:Int) v96.length=true:=oP (by omega) (by omega);have i2:∀z:ag,aB (l.length:Int) (l++[z]).length=true:=fun z=>oP (by omega) (by simp;omega);have f1:∀z:ag,fits (l.length+[z].length) 584=true:=fun z=>dE (by simp;omega) (by omega);have e4:∀x z:ag,List.set (l++[z]) l.length x=l++[x]:=fun x z=>by rw[List.set_append_right _ _ (Nat.le_refl _)];simp
   simp only[hrow,i1,Int.toNat_natCast,hl,sb,i2,f1,bS,e4,vX];exact LS rfl
end
structure Lc(C:List ac)(P:List ah)(dv:List Int)(R:Nat):Prop where
 cl:C.length≤90
 pl:P.length=C.length
 lZ:∀c∈C,jo c
 r:R≤20
 dl:dv.length≤10000
 d:∀x∈dv,0≤x∧x≤2097153
 p:∀t,t<C.length→0≤(P.getD t default).Row∧1≤(P.getD t default).Rows∧(P.getD t default).Row+(P.getD t default).Rows≤R∧0≤(P.getD t default).Col∧1≤(P.getD t default).Cols∧(P.getD t default).Col+(P.getD t default).Cols≤dv.length
section
variable(N:Nat)(C:List ac)(P:List ah)(dv:List Int)(ct:Int)(NS:List (Int×aE))(hv:List Int)
noncomputable def t6(t:Nat):Int:=sm (List.drop (P.getD t default).Col.toNat (List.take ((P.getD t default).Col+(P.getD t default).Cols).toNat dv))
noncomputable def cY(t:Nat):ag×Int:=(oY (KN (N+1)) (N+1) (C.getD t default) ct (t6 P dv t) E1).getD default
noncomputable def f0(t:Nat):ag:={ (cY N C P dv ct t).1 with X:=sm (List.take (P.getD t default).Col.toNat dv),Y:=0,Kids:=[] }
noncomputable def dn(t:Nat):PF:=(f0 N C P dv ct t,some (cY N C P dv ct t).1.Kids)
noncomputable def j9(t:Nat):PF:=(f0 N C P dv ct t,none)
noncomputable def ox(t:Nat):Int:=sm (List.drop (P.getD t default).Row.toNat (List.take ((P.getD t default).Row+(P.getD t default).Rows).toNat hv))
noncomputable def FR(t:Nat):ag:={ f0 N C P dv ct t with H:=ox P hv t,Kids:=(cY N C P dv ct t).1.Kids.map (sk (tQ (cY N C P dv ct t).1.Style.VAlign (max (aa (ox P hv t-(cY N C P dv ct t).2)) 0))) }
noncomputable def mz(t r:Nat):List ag:=((List.range t).filter fun j=>decide ((P.getD j default).Row=(r:Int))).map (FR N C P dv ct hv)
noncomputable def tV(r:Nat):ag:={ bQ with Kind:=1,Node:=(NS.getD r default).1,Y:=sm (hv.take r),W:=ct,H:=hv.getD r default,Style:=(NS.getD r default).2 }
noncomputable def mn(r:Nat):PF:=(tV ct NS hv r,some [])
noncomputable def iC(t r:Nat):PF:=(tV ct NS hv r,some (mz N C P dv ct hv t r))
def eP:List (Int×aE)→Nat→List ah
 | [],_=>[]
 | q::l,i=>if (ix q.2.Height).2=true then ⟨i,0,1,1⟩::eP l (i+1) else eP l (i+1)
def eH:List (Int×aE)→List Int
 | []=>[]
 | q::l=>if (ix q.2.Height).2=true then (ix q.2.Height).1::eH l else eH l
variable{C P dv NS}
theorem HZ{R:Nat}(hN:20<N)(h:Lc C P dv R){t:Nat}(ht:t<C.length):oY (KN (N+1)) (N+1) (C.getD t default) ct (t6 P dv t) E1=some (cY N C P dv ct t)∧(cY N C P dv ct t).1.Node=(C.getD t default).Node∧(cY N C P dv ct t).1.W=t6 P dv t∧(cY N C P dv ct t).1.Kids.length≤1∧∀x∈(cY N C P dv ct t).1.Kids,x.Kids=[]:=by
 obtain⟨f,hh,e,h1,h2,h3,h4,h5⟩:=UG hN (h.lZ _ (i8 ht)) ct (t6 P dv t);have:cY N C P dv ct t=(f,hh):=by unfold cY;rw[e];rfl
 rw[this];exact⟨e,h1,h2,h4,h5⟩
theorem KX{R:Nat}(h:Lc C P dv R)(a b:Nat){K:Kn}{n:Nat}(hn:10001<n):kp K n (List.drop a (List.take b dv))=some (sm (List.drop a (List.take b dv))) :=
 yB (c:=2097153) (by omega) _ (by have:=h.dl;rw[List.length_drop,List.length_take];omega) (fun x hx=>h.d x (List.mem_of_mem_take (List.mem_of_mem_drop hx))) hn
theorem Xt{R:Nat}(hN:20000<N)(h:Lc C P dv R)(v1:ac)(v2:Int)(g:cT)(hg:g.cells=C)(v5:Int×Int)(v11:Int)(hct:max v11 v5.1=ct):∀(m i:Nat),i≤C.length→C.length<m+i →
  s6 (KN (N+1)) (N+1) v1 v2 E1 g v5 v11 dv P m (i:Int) (bR i fun t=>(cY N C P dv ct t).2) (bR i (dn N C P dv ct)) =
   oQ (KN (N+1)) (N+1) v1 v2 g v5 v11 (bR C.length fun t=>(cY N C P dv ct t).2) (bR C.length (dn N C P dv ct)) (N+1) 0 P (bR C.length fun t=>(cY N C P dv ct t).2):=by
 have hcl:=h.cl;intro m
 induction m with
 | zero=>intro i h1 h2;omega
 | succ m ih =>
  intro i h1 h2;simp only[s6,wG,hg,hct];by_cases hi:i<C.length
  ·have hp:=h.p i hi;have hpl:=h.pl;have hdl:=h.dl;obtain⟨c1,_⟩:=HZ N ct (by omega) h hi;rw[bp (by omega),aH (by omega),aH (by omega),Int.toNat_natCast,cj (n:=(P.getD i default).Col+(P.getD i default).Cols) (by omega) (by omega),Sh.mf (by omega) (by omega) (by omega),bS,KX h _ _ (by omega),sb];rw[show sm (List.drop (P.getD i default).Col.toNat (List.take ((P.getD i default).Col+(P.getD i default).Cols).toNat dv))=t6 P dv i from rfl,c1,sb,Sh.mf (by omega) (by omega) (by omega),bS,KX h _ _ (by omega),sb,dE (by rw[eI];omega) (by omega),bS,sb,dE (by simp[eI];omega) (by omega),bS,dQ (show i<1000000 by omega)];have e1:(bR i fun t=>(cY N C P dv ct t).2)++[(cY N C P dv ct i).2]=bR (i+1) fun t=>(cY N C P dv ct t).2:=(ov).symm;have e2:bR i (dn N C P dv ct)++[dn N C P dv ct i]=bR (i+1) (dn N C P dv ct):=(ov).symm;rw[e1,show((({ (cY N C P dv ct i).1 with X:=sm (List.drop (0:Int).toNat (List.take (P.getD i default).Col.toNat dv)),Y:=0,Kids:=[] }:ag),some (cY N C P dv ct i).1.Kids):PF)=dn N C P dv ct i from rfl,e2]
   exact ih (i+1) (by omega) (by omega)
  ·have e:i=C.length:=by omega
   subst e;rw[bo (by omega)];have:yt (KN (N+1)) (N+1) (bR C.length fun t=>(cY N C P dv ct t).2)=some (bR C.length fun t=>(cY N C P dv ct t).2):=by
    have hl:(bR C.length fun t=>(cY N C P dv ct t).2).length≤90:=by rw[eI];omega
    generalize (bR C.length fun t=>(cY N C P dv ct t).2)=l at *;unfold yt both;have hf:fits (([]:List Int).length+l.length) 8=true:=by rw[List.length_nil,Nat.zero_add];exact dE (by omega) (by omega)
    rw[hf];cases l<;>simp[bS]
   rw[this,sb]
theorem S4(hN:30000<N)(v1:ac)(v2:Int)(g:cT)(hg:g.rows.map (fun r=>(r.Node,r.Style))=NS)(hR:NS.length≤20)(v5:Int×Int)(v11:Int)(v25:List Int)(v26:List PF):∀(m i:Nat) (a:List ah) (c:List Int),i≤NS.length→NS.length<m+i→a.length≤1000+i→c.length≤1000+i →
  oQ (KN (N+1)) (N+1) v1 v2 g v5 v11 v25 v26 m (i:Int) a c =
   oL (KN (N+1)) (N+1) v1 v2 g v5 v11 v25 v26 (a++eP (NS.drop i) i) (kD (a++eP (NS.drop i) i) (c++eH (NS.drop i)) (List.replicate NS.length 0)) (N+1) 0 0 []:=by
 have hgl:g.rows.length=NS.length:=by rw[←hg,List.length_map]
 intro m
 induction m with
 | zero=>intro i a c h1 h2;omega
 | succ m ih =>
  intro i a c h1 h2 h3 h4;simp only[oQ,ug,hgl];by_cases hi:i<NS.length
  ·have e:(NS.getD i default).2=(g.rows.getD i default).Style:=by
    rw[←hg,mX (fun r:ac=>(r.Node,r.Style)) (by omega)]
   rw[bp (by omega),aH (by omega),Int.toNat_natCast,zk,sb,drop_at' hi,← e];unfold eP eH;unfold vC;by_cases hp:(ix (NS.getD i default).2.Height).2=true
   ·simp only[hp,if_true];rw[dE (by simp;omega) (by omega),bS,dE (by simp;omega) (by omega),bS,dQ (show i<1000000 by omega),ih (i+1) _ _ (by omega) (by omega) (by simp;omega) (by simp;omega)];simp only[List.append_assoc,List.singleton_append]
   ·simp only[hp,if_false,Bool.false_eq_true];rw[dQ (show i<1000000 by omega)];exact ih (i+1) _ _ (by omega) (by omega) (by omega) (by omega)
  ·have e:i=NS.length:=by omega
   subst e;rw[bo (by omega)];simp only[List.drop_length,eP,eH,List.append_nil];rw[H4 a c (NS.length:Int) (by omega) (by omega) (by omega) (by omega),sb,show(max (NS.length:Int) 0).toNat=NS.length by omega]
theorem UC{R:Nat}(hh:Ok 1048576 R hv)(hR:R≤20)(i:Nat):0≤sm (hv.take i)∧sm (hv.take i)≤20971520:=by
 have h1:=Sh.eg (hv.take i) (fun x hx=>(hh.2 x (List.mem_of_mem_take hx)).1);have h2:=Sh.gu (c:=1048576) (hv.take i) (fun x hx=>(hh.2 x (List.mem_of_mem_take hx)).2);have hl:(hv.take i).length≤20:=by rw[List.length_take,hh.1];omega
 have:((hv.take i).length:Int)*1048576≤20*1048576:=Int.mul_le_mul_of_nonneg_right (by omega) (by omega);omega
theorem QG(hh:Ok 1048576 NS.length hv)(v1:ac)(v2:Int)(g:cT)(hg:g.rows.map (fun r=>(r.Node,r.Style))=NS)(hR:NS.length≤20)(v5:Int×Int)(v11:Int)(hct:max v11 v5.1=ct)(v25:List Int)(v26:List PF)(v38:List ah){K:Kn}{n:Nat}:∀(m i:Nat),i≤NS.length→NS.length<m+i →
  oL K n v1 v2 g v5 v11 v25 v26 v38 hv m (sm (hv.take i)) (i:Int) (bR i (mn ct NS hv)) =
   lH K n v1 v2 v5 v11 v25 v26 v38 hv (sm hv) n 0 v26 (bR NS.length (mn ct NS hv)):=by
 have hgl:g.rows.length=NS.length:=by rw[←hg,List.length_map]
 have hl:=hh.1;intro m
 induction m with
 | zero=>intro i h1 h2;omega
 | succ m ih =>
  intro i h1 h2;simp only[oL,vE,hgl,hct];by_cases hi:i<NS.length
  ·have e:NS.getD i default=((g.rows.getD i default).Node,(g.rows.getD i default).Style):=by
    rw[←hg,mX (fun r:ac=>(r.Node,r.Style)) (by omega)]
   have b1:=UC hv hh hR i;have b2:=hh.at hi;have e3:sm (hv.take (i+1))=sm (hv.take i)+hv.getD i default:=by
    have:=Y4 hv (a:=0) (i:=i) (by omega) (by omega);simpa using this
   rw[bp (by omega),aH (by omega),aH (by omega),dE (by rw[eI];omega) (by omega),bS,sb,aH (by omega),Int.toNat_natCast,cj (n:=sm (hv.take i)+hv.getD i default) (by omega) (by omega),dQ (show i<1000000 by omega),← e3];have e2:bR i (mn ct NS hv)++[mn ct NS hv i]=bR (i+1) (mn ct NS hv):=(ov).symm;have e4:mn ct NS hv i=(({ bQ with Kind:=1,Node:=(g.rows.getD i default).Node,Y:=sm (hv.take i),W:=ct,H:=hv.getD i default,Style:=(g.rows.getD i default).Style }:ag),some []):=by
    unfold mn tV;rw[e]
   rw[←e4,e2];exact ih (i+1) (by omega) (by omega)
  ·have e:i=NS.length:=by omega
   subst e;rw[bo (by omega),List.take_of_length_le (by omega)]
theorem OC(t r:Nat):mz N C P dv ct hv (t+1) r=mz N C P dv ct hv t r++(if (P.getD t default).Row=(r:Int) then [FR N C P dv ct hv t] else []):=by
 unfold mz;rw[List.range_succ,List.filter_append,List.map_append];congr 1;by_cases h:(P.getD t default).Row=(r:Int)
 ·rw[if_pos h,List.filter_cons_of_pos (by exact decide_eq_true h)];rfl
 ·rw[if_neg h,List.filter_cons_of_neg (by simpa using h)];rfl
theorem TH(t r:Nat):(mz N C P dv ct hv t r).length≤t:=by
 unfold mz;rw[List.length_map];have:=List.length_filter_le (fun j=>decide ((P.getD j default).Row=(r:Int))) (List.range t);rw[List.length_range]at this;exact this
theorem Z9{R t r:Nat}(hr:r<R)(h:(P.getD t default).Row=(r:Int)):List.set (bR R (iC N C P dv ct NS hv t)) r (tV ct NS hv r,some (mz N C P dv ct hv t r++[FR N C P dv ct hv t]))=bR R (iC N C P dv ct NS hv (t+1)):=by
 refine gP (by simp[eI]) (fun k hk=>?_);rw[eI]at hk;rw[hH hk];by_cases e:k=r
 ·subst e;rw[cd (by rw[List.length_set,eI];exact hk),List.getElem_set_self];unfold iC;rw[OC,if_pos h]
 ·rw[List.getD_eq_getElem?_getD,List.getElem?_set_ne (Ne.symm e),← List.getD_eq_getElem?_getD,hH hk];unfold iC;rw[OC,if_neg (by omega),List.append_nil]
theorem sh{R:Nat}(hh:Ok 1048576 R hv)(hR:R≤20)(a b:Nat){K:Kn}{n:Nat}(hn:10001<n):kp K n (List.drop a (List.take b hv))=some (sm (List.drop a (List.take b hv))) :=
 yB (c:=1048576) (by omega) _ (by have:=hh.1;rw[List.length_drop,List.length_take];omega) (fun x hx=>hh.2 x (List.mem_of_mem_take (List.mem_of_mem_drop hx))) hn
noncomputable def Be(K:Kn)(n:Nat)(v1:ac)(v2:Int)(v5:Int×Int)(v11:Int)(v46:Int)(v96:List PF):Option ag :=
 (pf K n ({ v1.Style with Width:=(⟨1,(max v11 v5.1)⟩:ch),MinWidth:=bJ,MaxWidth:=bJ }:aE) v2).bind fun v111 =>
  (kH K n v1.Style.Height).bind fun v112 =>
  if v112.2=true then
   l7 K n v1 v96 v111 (max v46 v112.1)
  else
   l7 K n v1 v96 v111 v46
theorem Wr(hN:30000<N)(h:Lc C P dv NS.length)(hh:Ok 1048576 NS.length hv)(v1:ac)(v2:Int)(v5:Int×Int)(v11:Int)(v38:List ah)(h38:∀t,t<C.length→List.getD v38 t default=P.getD t default)(hl38:C.length≤v38.length)(v46:Int):∀(m t:Nat),t≤C.length→C.length<m+t →
  lH (KN (N+1)) (N+1) v1 v2 v5 v11 (bR C.length fun t=>(cY N C P dv ct t).2) (bR C.length (dn N C P dv ct)) v38 hv v46 m (t:Int) (mix t (bR C.length (j9 N C P dv ct)) (bR C.length (dn N C P dv ct))) (bR NS.length (iC N C P dv ct NS hv t)) =
   Be (KN (N+1)) (N+1) v1 v2 v5 v11 v46 (bR NS.length (iC N C P dv ct NS hv C.length)):=by
 have hcl:=h.cl;have hR:=h.r;have hml:(bR C.length (j9 N C P dv ct)).length=(bR C.length (dn N C P dv ct)).length:=by rw[eI,eI]
 intro m
 induction m with
 | zero=>intro t h1 h2;omega
 | succ m ih =>
  intro t h1 h2;simp only[lH,xB];by_cases ht:t<C.length
  ·have hp:=h.p t ht;have hhl:=hh.1;obtain⟨c1,c2,c3,c4,c5⟩:=HZ N ct (by omega) h ht;obtain⟨r,er⟩:∃r:Nat,(P.getD t default).Row=r:=⟨(P.getD t default).Row.toNat,by omega⟩;have hr:r<NS.length:=by omega
   have em:List.getD (mix t (bR C.length (j9 N C P dv ct)) (bR C.length (dn N C P dv ct))) t default=dn N C P dv ct t:=by
    rw[n8 hml (by rw[eI];exact ht),hH ht]
   have hnone:(dn N C P dv ct t).2=some (cY N C P dv ct t).1.Kids:=rfl;rw[bp (by rw[eI];omega),aH (by rw[gm hml,eI];omega),Int.toNat_natCast,em,hnone,sb,sb,sb,sb,sb,sb];rw[show((dn N C P dv ct t).1,none)=(bR C.length (j9 N C P dv ct)).getD t default from ((hH (f:=j9 N C P dv ct) ht).symm:j9 N C P dv ct t=_),i7 hml (by rw[eI];exact ht)];rw[aH (by omega),h38 t ht,cj (n:=(P.getD t default).Row+(P.getD t default).Rows) (by omega) (by omega),Sh.mf (by omega) (by omega) (by omega),bS,sh hv hh hR _ _ (by omega),sb];rw[show sm (List.drop (P.getD t default).Row.toNat (List.take ((P.getD t default).Row+(P.getD t default).Rows).toNat hv))=ox P hv t from rfl,aH (by rw[eI];omega),hH ht,sb];have j6:∀x:Int,tQ (cY N C P dv ct t).1.Style.VAlign (max (aa (ox P hv t-(cY N C P dv ct t).2)) 0)=x →
     nG (KN (N+1)) (N+1) v1 v2 v5 v11 (bR C.length fun t=>(cY N C P dv ct t).2) (bR C.length (dn N C P dv ct)) v38 hv v46 (t:Int) (mix t (bR C.length (j9 N C P dv ct)) (bR C.length (dn N C P dv ct))) (bR NS.length (iC N C P dv ct NS hv t)) (cY N C P dv ct t).1.Kids (dn N C P dv ct t).1.Style (dn N C P dv ct t).1.Before (dn N C P dv ct t).1.After (dn N C P dv ct t).1.Empty (mix (t+1) (bR C.length (j9 N C P dv ct)) (bR C.length (dn N C P dv ct))) (ox P hv t) (lH (KN (N+1)) (N+1) v1 v2 v5 v11 (bR C.length fun t=>(cY N C P dv ct t).2) (bR C.length (dn N C P dv ct)) v38 hv v46 m) x =
     Be (KN (N+1)) (N+1) v1 v2 v5 v11 v46 (bR NS.length (iC N C P dv ct NS hv C.length)):=by
    intro x hx;unfold nG;have hmz:mix 0 ((cY N C P dv ct t).1.Kids.map (sk x)) (cY N C P dv ct t).1.Kids=(cY N C P dv ct t).1.Kids:=kP;have h7:=abx (K:=KN (N+1)) (n:=N+1) (v1:=v1) (v2:=v2) (v5:=v5) (v11:=v11) (v25:=bR C.length fun t=>(cY N C P dv ct t).2) (v26:=bR C.length (dn N C P dv ct)) (v38:=v38) (v43:=hv) (v46:=v46) (v94:=(t:Int)) (v95:=mix t (bR C.length (j9 N C P dv ct)) (bR C.length (dn N C P dv ct))) (v96:=bR NS.length (iC N C P dv ct NS hv t)) (v97:=(cY N C P dv ct t).1.Kids) (v98:=(dn N C P dv ct t).1.Style) (v99:=(dn N C P dv ct t).1.Before) (v100:=(dn N C P dv ct t).1.After) (v101:=(dn N C P dv ct t).1.Empty) (v102:=mix (t+1) (bR C.length (j9 N C P dv ct)) (bR C.length (dn N C P dv ct))) (v103:=ox P hv t) (v105:=x) (L4:=lH (KN (N+1)) (N+1) v1 v2 v5 v11 (bR C.length fun t=>(cY N C P dv ct t).2) (bR C.length (dn N C P dv ct)) v38 hv v46 m) (row:=r) (l:=mz N C P dv ct hv t r) (by rw[Int.toNat_natCast,h38 t ht,er]) (by rw[eI];exact hr) (by rw[hH hr];rfl) (by have:=TH N ct hv (C:=C) (P:=P) (dv:=dv) t r;omega) (by omega) (by rw[eI];omega) (N+1) 0 (by omega) (by omega)
    rw[hmz,show((0:Nat):Int)=0 from rfl]at h7;rw[h7,hH hr,dQ (show t<1000000 by omega),Int.toNat_natCast,em];have eF:({ (dn N C P dv ct t).1 with H:=ox P hv t,Style:=(dn N C P dv ct t).1.Style,Before:=(dn N C P dv ct t).1.Before,After:=(dn N C P dv ct t).1.After,Empty:=(dn N C P dv ct t).1.Empty,Kids:=(cY N C P dv ct t).1.Kids.map (sk x) }:ag)=FR N C P dv ct hv t:=by
     unfold FR;rw[hx];rfl
    rw[eF,show(iC N C P dv ct NS hv t r).1=tV ct NS hv r from rfl,Z9 N ct hv hr er];exact ih (t+1) (by omega) (by omega)
   have hva:(dn N C P dv ct t).1.Style.VAlign=(cY N C P dv ct t).1.Style.VAlign:=rfl;by_cases k2:((dn N C P dv ct t).1.Style.VAlign == 2)=true
   ·rw[if_pos k2];exact j6 _ (by unfold tQ;rw[←hva,if_pos k2])
   ·rw[if_neg k2];by_cases k1:((dn N C P dv ct t).1.Style.VAlign == 1)=true
    ·rw[if_pos k1];exact j6 _ (by unfold tQ;rw[←hva,if_neg k2,if_pos k1])
    ·rw[if_neg k1];exact j6 _ (by unfold tQ;rw[←hva,if_neg k2,if_neg k1])
  ·have e:t=C.length:=by omega
   subst e;rw[bo (by rw[eI];omega)];rfl
end
end Go.Proofs.YtolhpahjgddjkaaGreat.Tbl
namespace Go.Proofs.YtolhpahjgddjkaaGreat.Tbl
set_option linter.all false
open Go.RowKit
open Tb (rw aS cr fv Up up Sp kD Ok fJ B0 pC sz bv fC)
open QSort (wn aH bp bo sb)
set_option maxRecDepth 20000
def jT(dx dy:Int)(p:PF):PF:=({ p.1 with X:=aa (p.1.X+dx),Y:=aa (p.1.Y+dy) },p.2)
theorem gset'{α:Type}[Inhabited α]{L:List α}{i:Nat}{a:α}(h:i<L.length):(List.set L i a).getD i default=a:=by rw[cd (by simpa using h)];simp
theorem ssets'{α:Type}(L:List α)(i:Nat)(a b:α):List.set (List.set L i a) i b=List.set L i b:=by simp
def rQ(x:Int):bj:=⟨max x 0,min x 0⟩
theorem WE{K:Kn}{n:Nat}(v1:ac)(V:List PF)(z:bO)(v113 v116 v117:Int)(v114 v115:bj)(hV:V.length≤20)(hs:∀p∈V,p.2.isSome=true):∀(m i:Nat),i≤V.length→V.length<m+i →
  sx K n v1 V z v113 v114 v115 v116 v117 m (i:Int) (mix i (V.map (jT (aa (z.Border.a3+z.Padding.a3)) (aa (z.Border.a0+z.Padding.a0)))) V) =
   some (⟨1,v1.Node,z.Margin.a3,0,v116,aa (v113+v117),0,⟨#[]⟩,v1.Style,v114,v115,false,(V.map (jT (aa (z.Border.a3+z.Padding.a3)) (aa (z.Border.a0+z.Padding.a0)))).map xS⟩:ag):=by
 generalize hdx:aa (z.Border.a3+z.Padding.a3)=dx;generalize hdy:aa (z.Border.a0+z.Padding.a0)=dy;have hml:(V.map (jT dx dy)).length=V.length:=by simp
 intro m
 induction m with
 | zero=>intro i h1 h2;omega
 | succ m ih =>
  intro i h1 h2;simp only[sx,t5];by_cases hi:i<V.length
  ·have hm:=n8 hml hi;have hl:=gm (i:=i) hml;generalize hM:mix i (V.map (jT dx dy)) V=M at *;have hiM:i<M.length:=by omega
   rw[bp (by omega),aH (by omega),aH (by omega),Int.toNat_natCast,hm,sb,aH (by rw[List.length_set];omega),aH (by rw[List.length_set];omega),gset' hiM,ssets',hdx,hdy,dQ (show i<1000000 by omega)];have e:(({ ({ (V.getD i default).1 with X:=aa ((V.getD i default).1.X+dx) }:ag)with Y:=aa ((V.getD i default).1.Y+dy) }:ag),(V.getD i default).2)=(V.map (jT dx dy)).getD i default:=(mX (jT dx dy) hi).symm;rw[e,← hM,i7 hml hi];exact ih (i+1) (by omega) (by omega)
  ·have e:i=V.length:=by omega
   subst e;rw[bo (by omega),kJ hml];have:(V.map (jT dx dy)).all (fun p=>p.2.isSome)=true:=List.all_eq_true.2 (fun p hp=>by
    obtain⟨q,hq,rfl⟩:=List.mem_map.1 hp;exact hs q hq)
   rw[this,bS]
noncomputable def AO(bn:Int)(bs:aE)(w ct y:Int)(V:List PF):ag :=
 let z:=mF ({ bs with Width:=⟨1,ct⟩,MinWidth:=bJ,MaxWidth:=bJ }:aE) w
 ⟨1,bn,z.Margin.a3,0,aa ((aa ((aa ((aa (z.Content+z.Border.a1))+z.Border.a3))+z.Padding.a1))+z.Padding.a3),aa ((if (ix bs.Height).2=true then max y (ix bs.Height).1 else y)+aa ((aa ((aa (z.Border.a0+z.Border.a2))+z.Padding.a0))+z.Padding.a2)),0,⟨#[]⟩,bs,rQ z.Margin.a0,rQ z.Margin.a2,false,(V.map (jT (aa (z.Border.a3+z.Padding.a3)) (aa (z.Border.a0+z.Padding.a0)))).map xS⟩
theorem D9{K:Kn}{n:Nat}(v1:ac)(v2:Int)(v5:Int×Int)(v11 ct:Int)(hct:max v11 v5.1=ct)(y:Int)(V:List PF)(hV:V.length≤20)(hs:∀p∈V,p.2.isSome=true)(hn:100<n):Be K n v1 v2 v5 v11 y V=some (AO v1.Node v1.Style v2 ct y V):=by
 unfold Be AO;rw[hct,adv,sb,zk,sb];generalize mF ({ v1.Style with Width:=⟨1,ct⟩,MinWidth:=bJ,MaxWidth:=bJ }:aE) v2=z;have j10:∀x:Int,l7 K n v1 V z x=some ⟨1,v1.Node,z.Margin.a3,0,aa ((aa ((aa ((aa (z.Content+z.Border.a1))+z.Border.a3))+z.Padding.a1))+z.Padding.a3),aa (x+aa ((aa ((aa (z.Border.a0+z.Border.a2))+z.Padding.a0))+z.Padding.a2)),0,⟨#[]⟩,v1.Style,rQ z.Margin.a0,rQ z.Margin.a2,false,(V.map (jT (aa (z.Border.a3+z.Padding.a3)) (aa (z.Border.a0+z.Padding.a0)))).map xS⟩:=by
  intro x;unfold l7;simp only[nl,qv,sb];have:=WE (K:=K) (n:=n) v1 V z x (aa ((aa ((aa ((aa (z.Content+z.Border.a1))+z.Border.a3))+z.Padding.a1))+z.Padding.a3)) (aa ((aa ((aa (z.Border.a0+z.Border.a2))+z.Padding.a0))+z.Padding.a2)) (rQ z.Margin.a0) (rQ z.Margin.a2) hV hs n 0 (by omega) (by omega);rw[kP]at this;exact this
 by_cases hp:(ix v1.Style.Height).2=true
 ·rw[if_pos hp,if_pos hp];exact j10 _
 ·rw[if_neg hp,if_neg hp];exact j10 _
def dZ(b:ac):List (Int×aE):=(gf b).map fun r=>(r.Node,r.Style)
def lo(cols:List aq):Int:=sm (Tb.bg cols)
def xM(bs:aE)(cols:List aq)(w:Int):Int:=if (b8 bs.Width w).2=true then (b8 bs.Width w).1 else min (aa (sz w-eW (eh bs w 0))) (sm (bv cols))
def eT(bs:aE)(cols:List aq)(w:Int):Int:=max (dU bs w (xM bs cols w)) (lo cols)
noncomputable def n6(N:Nat)(NS:List (Int×aE))(C:List ac)(P:List ah)(dv:List Int)(ct:Int):List Int:=kD (P++eP NS 0) ((bR C.length fun t=>(cY N C P dv ct t).2)++eH NS) (List.replicate NS.length 0)
noncomputable def qb(N:Nat)(bn:Int)(bs:aE)(NS:List (Int×aE))(C:List ac)(P:List ah)(cols:List aq)(w:Int):ag :=
 AO bn bs w (eT bs cols w) (sm (n6 N NS C P (fJ cols (eT bs cols w)) (eT bs cols w))) (bR NS.length (iC N C P (fJ cols (eT bs cols w)) (eT bs cols w) NS (n6 N NS C P (fJ cols (eT bs cols w)) (eT bs cols w)) C.length))
theorem CA(l:ch)(b:Int): -1048576≤(b8 l b).1∧(b8 l b).1≤1048576:=by
 unfold b8;split
 ·simp only[];omega
 ·split<;>simp only[]<;>omega
theorem HG(s:aE)(w c:Int):0≤dU s w c∧dU s w c≤max c 1048576:=by
 have h1:=CA s.MaxWidth w;have h2:=CA s.MinWidth w;unfold dU;simp only[];split<;>split<;>omega
theorem NE{b:ac}(h:fz b)(w:Int):lo (bN b)≤eT b.Style (bN b) w∧0≤eT b.Style (bN b) w∧eT b.Style (bN b) w≤20000000000:=by
 have c:=HG b.Style w (xM b.Style (bN b) w);have hl:(bN b).length≤10000:=by
  rw[AL h];have:=lp h.sp (aP b).length (Nat.le_refl _);rw[md]at this;have:=h.mO;omega
 have h1:=m9 (pZ h) (by simpa[Tb.bg]using hl);have h2:=m9 (z0 h) (by simpa[bv]using hl);have h3:=CA b.Style.Width w;have h4:xM b.Style (bN b) w≤10485760000:=by unfold xM;split<;>omega
 unfold eT lo at *;omega
theorem Ui{b:ac}(h:fz b)(w:Int):Lc (cz b) (cr (aP b) (aP b).length) (fJ (bN b) (eT b.Style (bN b) w)) (dZ b).length:=by
 have hS:=h.sp;have hu:=up hS (aP b).length (Nat.le_refl _);have hcl:=AL h;have hcb:=lp hS (aP b).length (Nat.le_refl _);have ha:=md b;have hn:=h.mO;rw[ha]at hcb;have hR:(dZ b).length=(aP b).length:=by simp[dZ,aP]
 refine⟨hn,ha,h.lZ,by rw[hR];exact hS.r,by rw[pC,hcl];omega,SI _ _,fun t ht=>?_⟩;have:=hu.p _ (i8 (show t<(cr (aP b) (aP b).length).length by omega));rw[pC,hcl,hR];omega
theorem Xp(N:Nat)(NS:List (Int×aE))(hR:NS.length≤10000)(C:List ac)(P:List ah)(dv:List Int)(ct:Int):Ok 1048576 NS.length (n6 N NS C P dv ct):=by
 unfold n6 kD;rw[List.length_replicate];exact(Tb.JC hR _ _ (fun i hi=>Tb.Vh.of hR (Tb.l6 hi).1) (Tb.Ok.rep 1048576 (by omega) _)).1
theorem RD{N:Nat}(hN:300000≤N){b:ac}(h:fz b)(w:Int):pD (KN (N+1)) (N+1) b w E1=some (qb N b.Node b.Style (dZ b) (cz b) (cr (aP b) (aP b).length) (bN b) w):=by
 have hl:(bN b).length≤10000:=by
  rw[AL h];have:=lp h.sp (aP b).length (Nat.le_refl _);rw[md]at this;have:=h.mO;omega
 have hct:=NE h w;have hlc:=Ui h w;have hR:(dZ b).length≤20:=hlc.r;have hh:=Xp N (dZ b) (by omega) (cz b) (cr (aP b) (aP b).length) (fJ (bN b) (eT b.Style (bN b) w)) (eT b.Style (bN b) w);have hcl:=hlc.cl;have hpl:=hlc.pl;have j1:sO (KN (N+1)) (N+1) b w E1 ⟨gf b,cz b,cr (aP b) (aP b).length,bN b⟩ (lo (bN b),sm (bv (bN b))) (xM b.Style (bN b) w)=some (qb N b.Node b.Style (dZ b) (cz b) (cr (aP b) (aP b).length) (bN b) w):=by
  unfold sO;rw[zh,sb,show max (dU b.Style w (xM b.Style (bN b) w)) (lo (bN b))=eT b.Style (bN b) w from rfl,B0 _ _ (by omega) hl (by omega) (by omega),sb];have hcp:vd (KN (N+1)) (N+1) (cr (aP b) (aP b).length)=some (cr (aP b) (aP b).length):=by
   generalize cr (aP b) (aP b).length=l at *;unfold vd both;have hf:fits (([]:List ah).length+l.length) 32=true:=by rw[List.length_nil,Nat.zero_add];exact dE (by omega) (by omega)
   rw[hf];cases l<;>simp[bS]
  rw[hcp,sb];unfold qb;generalize cr (aP b) (aP b).length=P at *;generalize hctv:eT b.Style (bN b) w=ct at *;generalize fJ (bN b) ct=dv at *;have e2:=Xt N ct (by omega) hlc b w ⟨gf b,cz b,P,bN b⟩ rfl (lo (bN b),sm (bv (bN b))) (dU b.Style w (xM b.Style (bN b) w)) hctv (N+1) 0 (by omega) (by omega);have t0:∀{α:Type} [Inhabited α] (f:Nat→α),bR 0 f=[]:=fun f=>rfl;rw[t0,t0,show((0:Nat):Int)=0 from rfl]at e2;refine e2.trans ?_;have e4:=S4 N (NS:=dZ b) (by omega) b w ⟨gf b,cz b,P,bN b⟩ rfl hR (lo (bN b),sm (bv (bN b))) (dU b.Style w (xM b.Style (bN b) w)) (bR (cz b).length fun t=>(cY N (cz b) P dv ct t).2) (bR (cz b).length (dn N (cz b) P dv ct)) (N+1) 0 P (bR (cz b).length fun t=>(cY N (cz b) P dv ct t).2) (by omega) (by omega) (by omega) (by rw[eI];omega);rw[List.drop_zero,show((0:Nat):Int)=0 from rfl]at e4;refine e4.trans ?_;rw[show kD (P++eP (dZ b) 0) ((bR (cz b).length fun t=>(cY N (cz b) P dv ct t).2)++eH (dZ b)) (List.replicate (dZ b).length 0)=n6 N (dZ b) (cz b) P dv ct from rfl]
  generalize n6 N (dZ b) (cz b) P dv ct=hv at *;have e5:=QG (NS:=dZ b) ct hv hh b w ⟨gf b,cz b,P,bN b⟩ rfl hR (lo (bN b),sm (bv (bN b))) (dU b.Style w (xM b.Style (bN b) w)) hctv (bR (cz b).length fun t=>(cY N (cz b) P dv ct t).2) (bR (cz b).length (dn N (cz b) P dv ct)) (P++eP (dZ b) 0) (K:=KN (N+1)) (n:=N+1) (N+1) 0 (by omega) (by omega);rw[t0,List.take_zero,show((0:Nat):Int)=0 from rfl]at e5;refine (show _=_ from e5).trans ?_;have e9:=Wr N (NS:=dZ b) ct hv (by omega) hlc hh b w (lo (bN b),sm (bv (bN b))) (dU b.Style w (xM b.Style (bN b) w)) (P++eP (dZ b) 0) (fun t ht=>by
   rw[List.getD_eq_getElem?_getD,List.getElem?_append_left (by omega),← List.getD_eq_getElem?_getD]) (by rw[List.length_append];omega) (sm hv) (N+1) 0 (by omega) (by omega)
  have hk0:bR (dZ b).length (iC N (cz b) P dv ct (dZ b) hv 0)=bR (dZ b).length (mn ct (dZ b) hv):=rfl;rw[kP,hk0,show((0:Nat):Int)=0 from rfl]at e9;refine e9.trans ?_;refine D9 b w _ _ ct hctv (sm hv) _ (by rw[eI];omega) (fun p hp=>?_) (by omega);unfold bR at hp;obtain⟨r,_,rfl⟩:=List.mem_map.1 hp;rfl
 unfold pD;rw[Pv hN h,sb,NL _ _ _ (pZ h) (z0 h) hl (by omega),sb,lq,sb];cases hw:(b8 b.Style.Width w).2 with
 | true =>
  rw[Bool.not_true,if_neg (by decide)];unfold xM at j1;rw[hw,if_pos rfl]at j1;exact j1
 | false =>
  rw[Bool.not_false,if_pos rfl,Tb.nF,sb,xE,sb,pM,sb];unfold xM at j1;rw[hw,if_neg (by decide)]at j1;exact j1
end Go.Proofs.YtolhpahjgddjkaaGreat.Tbl
namespace Go.Proofs.YtolhpahjgddjkaaGreat.Tbl
set_option linter.all false
open Go.RowKit
open Tb (cr)
open QSort (wn aH bp bo sb)
set_option maxRecDepth 20000
theorem Ud(k:Nat):vY (KN (k+12)) (k+12)=some true:=by kernel_rfl
theorem fit_ok'{n:Nat}(h:12≤n):vY (KN n) n=some true:=by
 obtain⟨k,rfl⟩:∃k,n=k+12:=⟨n-12,by omega⟩;exact Ud k
structure F0(L:List dF):Prop where
 len:L.length≤20∧0<L.length
 Ao:∀x∈L,Bc x
theorem acY(K:Kn)(n:Nat)(L:List dF)(hL:(L.length:Int)≤9223372036854775807)(hn:L.length<n):∃b,yu K n L=some b∧(b=true→F0 L):=by
 obtain⟨v,hv,hv2⟩:=Wq K n L 20 hL hn;unfold yu;simp only[hv,Option.bind_some,uL];cases v with
 | false=>exact⟨false,rfl,fun h=>by cases h⟩
 | true =>
  have h:=hv2 rfl;simp only[if_true];exact⟨_,rfl,fun e=>⟨⟨by omega,by have:=of_decide_eq_true e;omega⟩,h.2⟩⟩
theorem F0.tree{L:List dF}(h:F0 L){K:Kn}{n:Nat}(hn:20<n):∃b,pY K n L=some b∧TT b:=XO h.len.1 h.len.2 (fun x hx=>(h.Ao x hx).text) hn
theorem TT.Ao{b:ac}(h:TT b):(cz b).length≤20:=by
 have hn:=h.n;unfold cz gf;rw[h.rows,BK (g:=fun r=>r.Kids) (fun r hr=>h.cells hr)];omega
end Go.Proofs.YtolhpahjgddjkaaGreat.Tbl
namespace Go.Proofs.YtolhpahjgddjkaaGreat.Tbl
set_option linter.all false
open Go.RowKit
open Tb (rw aS cr fv qx j2 Up up Sp Pl yL fJ pC Ok)
open QSort (wn aH bp bo sb)
set_option maxRecDepth 20000
section
variable{N:Nat}{b:ac}(h:fz b)(w:Int)
noncomputable def BD(N:Nat)(b:ac)(w:Int)(dx dy:Int)(r:Nat):ag :=
 xS (jT dx dy (iC N (cz b) (cr (aP b) (aP b).length) (fJ (bN b) (eT b.Style (bN b) w)) (eT b.Style (bN b) w) (dZ b) (n6 N (dZ b) (cz b) (cr (aP b) (aP b).length) (fJ (bN b) (eT b.Style (bN b) w)) (eT b.Style (bN b) w)) (cz b).length r))
theorem vQ(h:fz b):(bN b).length≤10000:=by
 rw[AL h];have:=lp h.sp (aP b).length (Nat.le_refl _);rw[md]at this;have:=h.mO;omega
end
end Go.Proofs.YtolhpahjgddjkaaGreat.Tbl
namespace Go.Proofs.YtolhpahjgddjkaaGreat.QTableWidths
set_option linter.all false
open Go.RowKit
open Tbl
open QSort (wn aH bp bo sb)
set_option maxRecDepth 20000
theorem Y7(S:aE){lo x:Int}(h0:0≤x)(h:x≤1048576∨x≤lo):max (dU S 0 (min x 1048576)) lo=max (dU S 0 x) lo:=by
 have a1:=rR S.MaxWidth 0;have a2:=rR S.MinWidth 0;unfold dU;simp only[];split<;>split<;>omega
theorem WS(S:aE)(x:Int):0≤dU S 0 x∧dU S 0 x≤max x 1048576:=HG S 0 x
def EZ(s:aE)(lo:Int):Int:=if s.Width.Kind=1 then max (di s.Width.Value) lo else lo
def px(s:aE)(lo:Int):Int:=aa (max (dU (cI s) 0 (EZ s lo)) lo+eW (eh (cI s) 0 0))
section
variable{N:Nat}(hN:300000≤N){b:ac}(h:fz b)(he:Tb.bg (bN b)=Tb.bv (bN b))
include hN h he in
theorem Q5:xw (KN (N+1)) (N+1) b E1=some (px b.Style (lo (bN b)),px b.Style (lo (bN b))):=by
 have w1:∀x:Int,qN (KN (N+1)) (N+1) x (cI b.Style) (lo (bN b))=some (aa (max (dU (cI b.Style) 0 x) (lo (bN b))+eW (eh (cI b.Style) 0 0))):=fun x=>by
  unfold qN;rw[zh,sb,xE,sb,pM,sb,FN]
 unfold xw;rw[Pv hN h,sb,NL _ _ _ (pZ h) (z0 h) (vQ h) (by omega),sb,Yw,sb,zk,sb,← he];rw[show sm (Tb.bg (bN b))=lo (bN b) from rfl];unfold vH;simp only[w1,sb];unfold px EZ;have ew:(cI b.Style).Width=aV b.Style.Width:=rfl;rw[ew];by_cases hk:b.Style.Width.Kind=1
 ·have ea:aV b.Style.Width=b.Style.Width:=by unfold aV;rw[if_neg (by omega)]
  have ep:ix b.Style.Width=(di b.Style.Width.Value,true):=by
   unfold ix b8 di;simp only[hk,if_true];congr 1;omega
  rw[ea,ep,if_pos rfl,if_pos hk]
 ·have ep:ix (aV b.Style.Width)=(0,false):=by
   unfold ix;rw[if_neg];unfold aV;split
   ·decide
   ·exact hk
  rw[ep,if_neg (by decide),if_neg hk]
include hN h he in
theorem WT:tZ (KN (N+1)) (N+1) b=some (px b.Style (lo (bN b)),px b.Style (lo (bN b))):=by
 have hl:=m9 (pZ h) (by simpa[Tb.bg]using vQ h);have hlo:0≤lo (bN b)∧lo (bN b)≤10485760000:=hl;unfold tZ;rw[Bh (by omega) h,sb,adA _ _ _ (pZ h) (z0 h) (vQ h) (by omega),sb,← he];rw[show sm (Tb.bg (bN b))=lo (bN b) from rfl];generalize lo (bN b)=l at *;have hE:=ac3 (cI b.Style) 0;have edge:∀s:aE,vn (KN (N+1)) (N+1) s=some (eW (eh (cI s) 0 0)):=fun s=>by
  unfold vn;rw[Lk,sb,Ce,sb,B9,sb]
 have hfr:∀(s:aE) (x:Int),jb s x=aa (dU (cI s) 0 x+eW (eh (cI s) 0 0)):=fun s x=>by
  unfold jb;rw[FN]
 have comb:∀x y:Int,0≤y→(y≤1048576∨y≤l)→x=min y 1048576→y≤10485760000→max (aa (dU (cI b.Style) 0 x+eW (eh (cI b.Style) 0 0))) (aa (l+eW (eh (cI b.Style) 0 0)))=aa (max (dU (cI b.Style) 0 y) l+eW (eh (cI b.Style) 0 0)):=by
  intro x y h0 h1 hx h2;subst hx;have k:=Y7 (cI b.Style) h0 h1;have c1:=WS (cI b.Style) (min y 1048576);rw[←k,cj (n:=dU (cI b.Style) 0 (min y 1048576)+eW (eh (cI b.Style) 0 0)) (by omega) (by omega),cj (n:=l+eW (eh (cI b.Style) 0 0)) (by omega) (by omega),cj (by omega) (by omega)];omega
 unfold px EZ;by_cases hk:b.Style.Width.Kind=1
 ·rw[if_pos (by rw[hk];rfl),if_pos hk];unfold qB;rw[Gv,sb,edge,sb];have e1:(cI ({ b.Style with Width:=({ b.Style.Width with Value:=max b.Style.Width.Value l }:ch) }:aE)).Width=⟨b.Style.Width.Kind,max b.Style.Width.Value l⟩:=by
   show aV _=_;unfold aV;rw[if_neg (by show ¬ b.Style.Width.Kind=2;omega)]
  have e2:(b8 (⟨b.Style.Width.Kind,max b.Style.Width.Value l⟩:ch) 0)=(min (max (max b.Style.Width.Value l) (-1048576)) 1048576,true):=by
   unfold b8;rw[if_pos hk]
  rw[e1,e2,if_pos rfl,hfr];have e3:dU (cI ({ b.Style with Width:=({ b.Style.Width with Value:=max b.Style.Width.Value l }:ch) }:aE)) 0=dU (cI b.Style) 0:=rfl;have e4:eh (cI ({ b.Style with Width:=({ b.Style.Width with Value:=max b.Style.Width.Value l }:ch) }:aE)) 0 0=eh (cI b.Style) 0 0:=rfl;rw[e3,e4];simp only[];rw[comb _ (max (di b.Style.Width.Value) l) (by omega) (by unfold di;omega) (by unfold di;omega) (by unfold di;omega)]
 ·rw[if_neg (by simpa using hk),if_neg hk];unfold qB;rw[Gv,sb,edge,sb];have e1:(b8 (cI b.Style).Width 0).2=false:=by
   show(b8 (aV b.Style.Width) 0).2=false;rw[Wd.C6];have h2:=Wd.L0 b.Style.Width;have h1:(aV b.Style.Width).Kind≠1:=by
    unfold aV;split
    ·decide
    ·exact hk
   simp[h1,h2]
  rw[e1,if_neg (by decide),hfr];simp only[];rw[comb _ l (by omega) (.inr (by omega)) (by unfold di;omega) (by omega)]
theorem aaA{K:Kn}{n:Nat}(v2:Int)(b0:ac)(g:dd)(h1:Tb.Bd (Tb.bg g.Columns))(hl:g.Columns.length≤10000):∀(m i:Nat),i≤g.Columns.length→g.Columns.length<m+i →
  sQ K n v2 b0 g m (sm ((Tb.bg g.Columns).take i)) (i:Int)=(mJ K n).bind fun v15=>(pD K n b0 v2 v15).bind fun v16=>oW K n (sm (Tb.bg g.Columns)) v16 n 0:=by
 have l1:(Tb.bg g.Columns).length=g.Columns.length:=by simp[Tb.bg]
 intro m
 induction m with
 | zero=>intro i h1 h2;omega
 | succ m ih =>
  intro i h3 h4;simp only[sQ,vI];by_cases hi:i<g.Columns.length
  ·have a1:=m9 (xn h1 i) (by rw[List.length_take];omega);have c1:=h1.at (k:=i) (by omega);have e1:(Tb.bg g.Columns).getD i default=(g.Columns.getD i default).Least:=Tb.eU hi;rw[bp (by omega),aH (by omega),Int.toNat_natCast,dQ (show i<1000000 by omega),← e1,cj (by omega) (by omega),e1];have s1:=tC (·.Least) hi;rw[show g.Columns.map (·.Least)=Tb.bg g.Columns from rfl]at s1;rw[←s1];exact ih (i+1) (by omega) (by omega)
  ·have e:i=g.Columns.length:=by omega
   subst e;rw[bo (by omega),List.take_of_length_le (by omega)]
theorem YO{K:Kn}{n:Nat}(d:Int)(f:ag)(hl:f.Kids.length≤1000)(hw:∀r,r<f.Kids.length→d≤(f.Kids.getD r default).W):∀(m r:Nat),r≤f.Kids.length→f.Kids.length<m+r→oW K n d f m (r:Int)=some true:=by
 intro m
 induction m with
 | zero=>intro r h1 h2;omega
 | succ m ih =>
  intro r h1 h2;simp only[oW,tP];by_cases hr:r<f.Kids.length
  ·have:=hw r hr;rw[bp (by omega),aH (by omega),sb,Int.toNat_natCast,bo (by omega),dQ (show r<1000000 by omega)];exact ih (r+1) (by omega) (by omega)
  ·rw[bo (by omega)]
end
theorem holds(x0:List dF)(x1:Int)(h0:c9 Tryz.prog 22 ((bu dh) x0))(h1:c9 Tryz.prog 3 ((ab .i64) x1)):∃n,zF (KN n) n x0 x1=some true:=by
 obtain⟨l,hl,hm,_⟩:=h0.KP Tryz.underlying22;simp only[bu,List.cons.injEq,AV.sl.injEq,and_true]at hl;have hlen:l.length=x0.length:=by rw[←hl,List.length_map]
 have hm':l.length≤9223372036854775807:=hm;refine⟨x0.length+300000+1,?_⟩;generalize hNe:x0.length+300000=N;have hN:300000≤N:=by omega
 unfold zF;rw[fit_ok' (by omega),sb,Bool.not_true,if_neg (by decide)];obtain⟨v,hv,hv2⟩:=acY (KN (N+1)) (N+1) x0 (by omega) (by omega);rw[hv,sb];cases v with
 | false=>rfl
 | true =>
  rw[Bool.not_true,if_neg (by decide)];obtain⟨b,hb,hT⟩:=(hv2 rfl).tree (K:=KN (N+1)) (n:=N+1) (by omega);have hA:=hT.bR;have hn:=hT.n;have hrows:gf b=b.Kids:=hT.rows;have he:Tb.bg (bN b)=Tb.bv (bN b):=Sa hA (fun c hc t ht=>by
   obtain⟨r,hr,hcr⟩:=List.mem_flatMap.1 hc;rw[hrows]at hr;have hcr':c∈r.Kids:=by rw[hT.cells hr]at hcr;exact hcr
   obtain⟨_,t',ht1,_,ht3⟩:=(hT.k r hr).2 c hcr';rw[ht1]at ht;obtain rfl:=List.mem_singleton.1 ht;exact ht3)
  have hE:mJ (KN (N+1)) (N+1)=some E1:=rfl;rw[hb,sb,hE,sb,Q5 hN hA he,sb,WT hN hA he,sb,bne_self_eq_false,if_neg (by decide),if_neg (by decide)];simp only[gt_iff_lt,Int.lt_irrefl,decide_false];unfold rB;rw[if_neg (by decide),Bh (by omega) hA,sb];have hd:=aaA (K:=KN (N+1)) (n:=N+1) x1 b ⟨gf b,cz b,Tb.cr (aP b) (aP b).length,bN b⟩ (pZ hA) (vQ hA) (N+1) 0 (by omega) (by have:=vQ hA;show(bN b).length<_;omega);rw[List.take_zero]at hd;refine (show _=_ from hd).trans ?_;rw[hE,sb,RD hN hA x1,sb];have hNl:(dZ b).length=b.Kids.length:=by unfold dZ;rw[List.length_map,hrows]
  obtain⟨dx,dy,hK⟩:∃dx dy:Int,(qb N b.Node b.Style (dZ b) (cz b) (Tb.cr (aP b) (aP b).length) (bN b) x1).Kids=(List.range (dZ b).length).map (BD N b x1 dx dy):=by
   refine⟨aa ((mF ({ b.Style with Width:=⟨1,eT b.Style (bN b) x1⟩,MinWidth:=bJ,MaxWidth:=bJ }:aE) x1).Border.a3+(mF ({ b.Style with Width:=⟨1,eT b.Style (bN b) x1⟩,MinWidth:=bJ,MaxWidth:=bJ }:aE) x1).Padding.a3),aa ((mF ({ b.Style with Width:=⟨1,eT b.Style (bN b) x1⟩,MinWidth:=bJ,MaxWidth:=bJ }:aE) x1).Border.a0+(mF ({ b.Style with Width:=⟨1,eT b.Style (bN b) x1⟩,MinWidth:=bJ,MaxWidth:=bJ }:aE) x1).Padding.a0),?_⟩;unfold qb AO bR;simp only[List.map_map];rfl
  have hct:=(NE hA x1).1;generalize qb N b.Node b.Style (dZ b) (cz b) (Tb.cr (aP b) (aP b).length) (bN b) x1=f at *;have hfl:f.Kids.length=b.Kids.length:=by rw[hK,List.length_map,List.length_range,hNl]
  refine YO _ f (by omega) (fun r hr=>?_) (N+1) 0 (by omega) (by omega);rw[hK,show((List.range (dZ b).length).map (BD N b x1 dx dy)).getD r default=BD N b x1 dx dy r from hH (f:=BD N b x1 dx dy) (by omega)];exact hct
end Go.Proofs.YtolhpahjgddjkaaGreat.QTableWidths
