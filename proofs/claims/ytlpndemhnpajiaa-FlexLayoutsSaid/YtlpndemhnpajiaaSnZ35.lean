/- Layer 19, plain: flex containers, laid out by the program and by the reference. No program in sight. -/
import Derived.Test.YtlpndemhnpajiaaSnZ34
import Derived.Test.YtlpndemhnpajiaaSnGop
namespace Go.Proofs.Ytlpndemhnpajiaa
set_option linter.all false
open Go.RowKit
namespace Fl
open QSort (wn aP iteT iteF iteB iteC sb)
open Wd (E1)
open Fw
theorem gset {α:Type} [Inhabited α] {L:List α} {i:Nat} {a:α} (h:i<L.length):(List.set L i a).getD i default=a:=by rw [bc (by simpa using h)]; simp
theorem ssets {α:Type} (L:List α) (i:Nat) (a b:α):List.set (List.set L i a) i b=List.set L i b:=by simp
theorem map_at {α β:Type} [Inhabited α] [Inhabited β] (f:α→β) {l:List α} {k:Nat} (hk:k<l.length):(l.map f).getD k default=f (l.getD k default):=by
  rw [bc (by simpa using hk),List.getElem_map,bc hk]
theorem eO {α β:Type} [Inhabited α] (f:α→β) {l:List α} {i:Nat} (h:i<l.length):(l.take (i+1)).map f=(l.take i).map f++[f (l.getD i default)]:=by
  rw [List.take_succ_eq_append_getElem h,List.map_append,bc h]; rfl
instance:Inhabited aw:=⟨gp⟩
section
variable {N:Nat} (hN:20010≤N) (L:List ab) (hL:L.length≤20) (c:Int) (W:ab→Int×Int) (hW:WOk W L)
include hN hL hW
theorem row_p (b:ab):∀ (m i:Nat),i≤L.length→L.length<m+i →
    ni (KN N) N b c E1 L m (i:Int) (mix i (L.map (itR W c)) (List.replicate L.length gp)) (mix i (L.map (edR c)) (List.replicate L.length 0)) (mix i (L.map (ouR W c)) (List.replicate L.length 0)) =
    if b.Style.Wrap=true then (ny (KN N) N (L.map (ouR W c)) c).bind fun v44=>gZ (KN N) N c E1 L (L.map (itR W c)) (L.map (edR c)) v44 else gZ (KN N) N c E1 L (L.map (itR W c)) (L.map (edR c)) [0]:=by
  have l1:(L.map (itR W c)).length=(List.replicate L.length gp).length:=by simp
  have l2:(L.map (edR c)).length=(List.replicate L.length (0:Int)).length:=by simp
  have l3:(L.map (ouR W c)).length=(List.replicate L.length (0:Int)).length:=by simp
  have r1:(List.replicate L.length gp).length=L.length:=by simp
  have r2:(List.replicate L.length (0:Int)).length=L.length:=by simp
  intro m
  induction m with
  | zero=>intro i h1 h2; omega
  | succ m ih =>
    intro i h1 h2
    simp only [ni,q8]
    by_cases hi:i<L.length
    · have hw:=hW _ (dG hi)
      have m1:=fg (i:=i) l1; have m2:=fg (i:=i) l2; have m3:=fg (i:=i) l3
      have s1:=jy l1 (i:=i) (by omega); have s2:=jy l2 (i:=i) (by omega); have s3:=jy l3 (i:=i) (by omega)
      have g2:=va l2 (i:=i) (by omega)
      have n2:=fg (i:=i+1) l2
      rw [map_at (itR W c) hi] at s1; rw [map_at (edR c) hi] at s2 g2; rw [map_at (ouR W c) hi] at s3
      have ob:=ou_bd W c (L.getD i default)
      have e3:w64 ((i:Int)+1)=((i+1:Nat):Int):=wn (by omega) (by omega)
      rw [iteT (by omega)]
      have j2:∀ x,x=(itR W c (L.getD i default)).Base→n0 (KN N) N b c E1 L (i:Int) (mix i (L.map (itR W c)) (List.replicate L.length gp)) (mix i (L.map (edR c)) (List.replicate L.length 0)) (mix i (L.map (ouR W c)) (List.replicate L.length 0)) (edR c (L.getD i default)) (lenD (L.getD i default).Style.MinWidth c 0) (lenD (L.getD i default).Style.MaxWidth c 1048576) (L.getD i default).Style.Grow (L.getD i default).Style.Shrink (ni (KN N) N b c E1 L m) x =
          (if b.Style.Wrap=true then (ny (KN N) N (L.map (ouR W c)) c).bind fun v44=>gZ (KN N) N c E1 L (L.map (itR W c)) (L.map (edR c)) v44 else gZ (KN N) N c E1 L (L.map (itR W c)) (L.map (edR c)) [0]):=by
        intro x hx
        subst hx
        unfold n0
        have ei:(⟨(itR W c (L.getD i default)).Base,(L.getD i default).Style.Grow,(L.getD i default).Style.Shrink,lenD (L.getD i default).Style.MinWidth c 0,lenD (L.getD i default).Style.MaxWidth c 1048576⟩:aw)=itR W c (L.getD i default):=rfl
        simp only [ei,Rs.hyp_ok,sb,tnat,s1,s2,m1,m2,m3,n2,g2,e3,r1,r2,aP (show (0:Int)≤(i:Int)∧(i:Int)<(L.length:Nat) by omega)]
        rw [bp (n:=Rs.hyp (itR W c (L.getD i default))+edR c (L.getD i default)) (by unfold ouR at ob; omega) (by unfold ouR at ob; omega)]
        rw [show Rs.hyp (itR W c (L.getD i default))+edR c (L.getD i default)=ouR W c (L.getD i default) from rfl,s3]
        exact ih (i+1) (by omega) (by omega)
      simp only [aP (show (0:Int)≤(i:Int)∧(i:Int)<(L.length:Nat) by omega),tnat,tI,s6,sb,tk,eT,m2,r2,q7]
      rw [show sumM (edgesM (L.getD i default).Style c 0)=edR c (L.getD i default) from rfl]
      cases hb:(lenM (L.getD i default).Style.Basis c).2 with
      | true =>
        simp only [Bool.not_true,Bool.false_eq_true,if_false]
        exact j2 _ (by unfold itR lenD; simp only [hb,if_true])
      | false =>
        simp only [Bool.not_false,if_true]
        cases hv:(lenM (L.getD i default).Style.Width c).2 with
        | true =>
          simp only [Bool.not_true,Bool.false_eq_true,if_false]
          exact j2 _ (by unfold itR lenD; simp only [hb,hv,if_true,Bool.false_eq_true,if_false])
        | false =>
          simp only [Bool.not_false,if_true]
          rw [show E1.Widths=(Fv.fn 55) from rfl,env_wid (d:=20) hw.1 (by omega),sb]
          exact j2 _ (by unfold itR lenD; simp only [hb,hv,Bool.false_eq_true,if_false])
    · obtain rfl:i=L.length:=by omega
      have f1:=ig l1; have f2:=ig l2; have f3:=ig l3
      rw [r1] at f1; rw [r2] at f2 f3
      rw [iteF (by omega),f1,f2,f3]
theorem row_r (wr:Bool):∀ (m i:Nat),i≤L.length→L.length<m+i →
    pg (KN N) N L wr c m (i:Int) ((L.take i).map (itR W c)) ((L.take i).map (edR c)) ((L.take i).map (ouR W c)) =
    if wr=true then (qk (KN N) N (L.map (ouR W c)) c).bind fun v44=>j9 (KN N) N L c (L.map (itR W c)) (L.map (edR c)) v44 else j9 (KN N) N L c (L.map (itR W c)) (L.map (edR c)) [0]:=by
  intro m
  induction m with
  | zero=>intro i h1 h2; omega
  | succ m ih =>
    intro i h1 h2
    simp only [pg,rQ]
    by_cases hi:i<L.length
    · have hw:=hW _ (dG hi)
      have t1:=eO (itR W c) hi; have t2:=eO (edR c) hi; have t3:=eO (ouR W c) hi
      have q1:((L.take i).map (itR W c)).length=i:=by simp; omega
      have q2:((L.take i).map (edR c)).length=i:=by simp; omega
      have q3:((L.take i).map (ouR W c)).length=i:=by simp; omega
      have g1:((L.take i).map (itR W c)++[itR W c (L.getD i default)]).getD i default=itR W c (L.getD i default):=by
        rw [List.getD_eq_getElem?_getD,List.getElem?_append_right (by omega),q1,Nat.sub_self]; rfl
      have g2:((L.take i).map (edR c)++[edR c (L.getD i default)]).getD i default=edR c (L.getD i default):=by
        rw [List.getD_eq_getElem?_getD,List.getElem?_append_right (by omega),q2,Nat.sub_self]; rfl
      have ob:=ou_bd W c (L.getD i default)
      have e3:w64 ((i:Int)+1)=((i+1:Nat):Int):=wn (by omega) (by omega)
      have b1:inb (i:Int) ((L.take i).map (itR W c)++[itR W c (L.getD i default)]).length=true:=hH (by omega) (by simp only [List.length_append,q1,List.length_cons,List.length_nil]; omega)
      have b2:inb (i:Int) ((L.take i).map (edR c)++[edR c (L.getD i default)]).length=true:=hH (by omega) (by simp only [List.length_append,q2,List.length_cons,List.length_nil]; omega)
      rw [iteT (by omega)]
      simp only [aP (show (0:Int)≤(i:Int)∧(i:Int)<(L.length:Nat) by omega),tnat,item_def (show 45≤N by omega) hw.1,oL,n9,sb]
      rw [show sumM (edgesM (L.getD i default).Style c 0)=edR c (L.getD i default) from rfl]
      simp only [b1,b2,g1,g2,bB,Rs.Hyp_ok,sb,e3]
      rw [cg (by simp only [q1,List.length_cons,List.length_nil]; omega) (by omega),cg (by simp only [q2,List.length_cons,List.length_nil]; omega) (by omega),cg (by simp only [q3,List.length_cons,List.length_nil]; omega) (by omega)]
      simp only [bB]
      rw [bp (n:=Rs.hyp (itR W c (L.getD i default))+edR c (L.getD i default)) (by unfold ouR at ob; omega) (by unfold ouR at ob; omega)]
      rw [show Rs.hyp (itR W c (L.getD i default))+edR c (L.getD i default)=ouR W c (L.getD i default) from rfl,← t1,← t2,← t3]
      exact ih (i+1) (by omega) (by omega)
    · rw [iteF (by omega),List.take_of_length_le (by omega)]
end
theorem row_ok {N:Nat} (hN:20010≤N) (b:ab) (L:List ab) (hL:L.length≤20) (hG:∀ k∈L,GoodB 20 k) (c:Int) (hc:0≤c∧c≤8388608) (W:ab→Int×Int) (hW:WOk W L) (hi:lV (KN N) N b=some L) :
    Both (fun r=>Ds r.1∧r.1.length≤20) (sv (KN N) N b c E1) (oz (KN N) N L b.Style.Wrap c):=by
  obtain ⟨F,hF⟩:=l_of c
  unfold sv oz
  rw [hi,sb,Sh.kj (by omega) (by omega),bB,tnat,sb,Sh.kj (by omega) (by omega),bB,sb,bB,sb]
  have p:=row_p hN L hL c W hW b N 0 (by omega) (by omega)
  have r:=row_r hN L hL c W hW b.Style.Wrap N 0 (by omega) (by omega)
  rw [g8,g8,g8,show ((0:Nat):Int)=0 from rfl] at p
  rw [List.take_zero,List.map_nil,List.map_nil,List.map_nil,show ((0:Nat):Int)=0 from rfl] at r
  rw [p,r]
  have hES:Small 6291456 (L.map (edR c)):=fun x hx=>by
    obtain ⟨k,_,rfl⟩:=List.mem_map.1 hx; exact sumM_bd k.Style c
  have fin:∀ S,St L.length S→Both (fun r=>Ds r.1∧r.1.length≤20) (gZ (KN N) N c E1 L (L.map (itR W c)) (L.map (edR c)) S) (j9 (KN N) N L c (L.map (itR W c)) (L.map (edR c)) S):=by
    intro S hS
    have hsl:=hS.len
    unfold gZ j9
    rw [cg (by simp only [List.length_cons,List.length_nil]; omega) (by omega),bB]
    exact lines hN L hL hG c hc F hF (L.map (itR W c)) (L.map (edR c)) S (by simp) (by simp) hES hS N N 0 0 [] (by omega) (by omega) (by omega) (fun f hf=>by cases hf) (by simp) (fun h=>by omega) (fun _=>rfl)
  have hOU:Small 7340032 (L.map (ouR W c)):=fun x hx=>by
    obtain ⟨k,_,rfl⟩:=List.mem_map.1 hx
    have:=ou_bd W c k; omega
  cases b.Style.Wrap with
  | true =>
    simp only [if_true]
    rw [wrap_ok (KN N) c (by omega) hOU (by simp; omega) (by omega),rwrap_ok (KN N) c (by omega) hOU (by simp; omega) (by omega),sb,sb]
    have:=st_wrap c (L.map (ouR W c))
    rw [List.length_map] at this
    exact fin _ this
  | false =>
    simp only [Bool.false_eq_true,if_false]
    exact fin _ (st_one _)
def innC (c:Int) (k:ab):Int:=w64 ((w64 ((w64 ((edgesM k.Style c 0).Border.a0+(edgesM k.Style c 0).Border.a2))+(edgesM k.Style c 0).Padding.a0))+(edgesM k.Style c 0).Padding.a2)
def itC (c:Int) (F:ab→aa) (k:ab):aw:=⟨if k.Style.Basis.Kind=1 then lenD k.Style.Basis 0 0 else w64 ((F k).H - innC c k),k.Style.Grow,k.Style.Shrink,0,1048576⟩
def edC (c:Int) (F:ab→aa) (k:ab):Int:=w64 (w64 (szOf (F k).Before+aftM (F k))+innC c k)
theorem szOf_bd {m:ah} (h:mbM m) : -16777216≤szOf m∧szOf m≤16777216:=by
  unfold mbM at h; unfold szOf; rw [bp (by omega) (by omega)]; omega
theorem edC_bd {c:Int} {F:ab→aa} {k:ab} (h:MB (F k)) : -67108864≤edC c F k∧edC c F k≤67108864:=by
  have b1:=szOf_bd h.1; have b2:=szOf_bd h.2
  have hi:0≤innC c k∧innC c k≤4194304:=by
    have q0:=Wd.cY k.Style.Border.a0; have q2:=Wd.cY k.Style.Border.a2
    have e0:=cV k.Style.Padding.a0 c; have e2:=cV k.Style.Padding.a2 c
    unfold innC edgesM
    simp only []
    rw [bp (n:=limM k.Style.Border.a0+limM k.Style.Border.a2) (by omega) (by omega),bp (n:=limM k.Style.Border.a0+limM k.Style.Border.a2+max (lenM k.Style.Padding.a0 c).1 0) (by omega) (by omega),bp (by omega) (by omega)]
    omega
  have ha : -16777216≤aftM (F k)∧aftM (F k)≤16777216:=by
    unfold aftM
    split
    · omega
    · exact b2
  unfold edC
  rw [bp (n:=szOf (F k).Before+aftM (F k)) (by omega) (by omega),bp (by omega) (by omega)]
  omega
theorem below_each (K:Kn) (n:Nat) (IN ED Z:List Int) (o:List aa) (ho:o.length≤20) (hI:IN.length=o.length) (hE:ED.length=o.length) (hZ:Z.length=o.length):∀ (m i:Nat) (y:Int) (out:List aa),i≤o.length→o.length<m+i→Ds out→out.length=o.length →
    Both (fun r=>Ds r.1∧r.1.length=o.length) (ov K n IN ED o Z m y (i:Int) out) (oe K n IN ED Z m y (i:Int) out):=by
  intro m
  induction m with
  | zero=>intro i y out h1 h2; omega
  | succ m ih =>
    intro i y out h1 h2 hD hl
    simp only [ov,rF,oe,sM]
    by_cases hi:i<o.length
    · have e3:w64 ((i:Int)+1)=((i+1:Nat):Int):=wn (by omega) (by omega)
      rw [iteT (by omega),iteT (by omega)]
      simp only [tnat,hI,hE,hZ,hl,List.length_set,aP (show (0:Int)≤(i:Int)∧(i:Int)<(o.length:Nat) by omega),sb,dc,dr,e3,ssets,gset (show i<out.length by omega)]
      refine ih (i+1) _ _ (by omega) (by omega) ?_ (by simpa using hl)
      intro f hf
      rcases List.mem_or_eq_of_mem_set hf with h | h
      · exact hD f h
      · rw [h]; exact qw (g:=out.getD i default) rfl (hD _ (dG (show i<out.length by omega)))
    · rw [iteF (by omega),iteF (by omega)]
      exact ⟨_,rfl,rfl,hD,hl⟩
section
variable {N:Nat} (hN:20010≤N) (L:List ab) (hL:L.length≤20) (hG:∀ k∈L,GoodB 20 k) (c:Int) (F:ab→aa) (hF:∀ k,GoodB 20 k→LOk c k (F k)) (sp:Int) (hs:0≤sp∧sp≤1048576)
include hN hL hG hF hs
theorem rL (i:Nat) : -(20*67108864)≤sm ((L.take i).map (edC c F))∧sm ((L.take i).map (edC c F))≤20*67108864:=by
  have:=sm_bd (B:=67108864) (by omega) ((L.take i).map (edC c F)) (fun x hx=>by
    obtain ⟨k,hk,rfl⟩:=List.mem_map.1 hx
    exact edC_bd (hF k (hG k (List.mem_of_mem_take hk))).2.2)
  have h2:(((L.take i).map (edC c F)).length:Int)≤20:=by simp; omega
  omega
theorem col_p (b:ab):∀ (m i:Nat),i≤L.length→L.length<m+i →
    mI (KN N) N b c E1 L m (sp - sm ((L.take i).map (edC c F))) (i:Int) ((L.take i).map fun k=>Rs.hyp (itC c F k)) ((L.take i).map (itC c F)) ((L.take i).map (innC c)) ((L.take i).map (edC c F)) ((L.take i).map F) =
    if (b.Style.Height.Kind == 1)=true then (g9 (KN N) N (L.map (itC c F)) (sp - sm (L.map (edC c F)))).bind fun v55=>gP (KN N) N (L.map (innC c)) (L.map (edC c F)) (L.map F) v55
    else gP (KN N) N (L.map (innC c)) (L.map (edC c F)) (L.map F) (L.map fun k=>Rs.hyp (itC c F k)):=by
  intro m
  induction m with
  | zero=>intro i h1 h2; omega
  | succ m ih =>
    intro i h1 h2
    simp only [mI,ry]
    by_cases hi:i<L.length
    · have hf:=hF _ (hG _ (dG hi))
      have t1:=eO (fun k=>Rs.hyp (itC c F k)) hi; have t2:=eO (itC c F) hi; have t3:=eO (innC c) hi; have t4:=eO (edC c F) hi; have t5:=eO F hi
      have d1:=rL hN L hL hG c F hF sp hs i; have d2:=rL hN L hL hG c F hF sp hs (i+1)
      have es:sm ((L.take (i+1)).map (edC c F))=sm ((L.take i).map (edC c F))+edC c F (L.getD i default):=by rw [t4,dV]; simp [sm]
      have e3:w64 ((i:Int)+1)=((i+1:Nat):Int):=wn (by omega) (by omega)
      have q:∀ {α:Type} (f:ab→α),((L.take i).map f).length=i:=fun f=>by simp; omega
      have g4:((L.take i).map (edC c F)++[edC c F (L.getD i default)]).getD i default=edC c F (L.getD i default):=by
        rw [List.getD_eq_getElem?_getD,List.getElem?_append_right (by rw [q]; exact Nat.le_refl _),q,Nat.sub_self]; rfl
      have l4:((L.take i).map (edC c F)++[edC c F (L.getD i default)]).length=i+1:=by simp only [List.length_append,q,List.length_cons,List.length_nil]
      have elast:w64 (((i+1:Nat):Int) - 1)=(i:Int):=wn (by omega) (by omega)
      rw [iteT (by omega)]
      simp only [aP (show (0:Int)≤(i:Int)∧(i:Int)<(L.length:Nat) by omega),tnat,show E1.Layout=(Fv.fn 54) from rfl,env_lay (d:=20) hf.1 (show 20+26≤N by omega),tI,sb,tk]
      rw [show w64 (w64 (w64 ((edgesM (L.getD i default).Style c 0).Border.a0+(edgesM (L.getD i default).Style c 0).Border.a2)+(edgesM (L.getD i default).Style c 0).Padding.a0)+(edgesM (L.getD i default).Style c 0).Padding.a2)=innC c (L.getD i default) from rfl]
      have j1:∀ x,x=(itC c F (L.getD i default)).Base→nF (KN N) N b c E1 L (sp - sm ((L.take i).map (edC c F))) (i:Int) ((L.take i).map fun k=>Rs.hyp (itC c F k)) ((L.take i).map (itC c F)) ((L.take i).map (innC c)) ((L.take i).map (edC c F)) ((L.take i).map F) (F (L.getD i default)) (innC c (L.getD i default)) (L.getD i default).Style.Grow (L.getD i default).Style.Shrink (mI (KN N) N b c E1 L m) x =
          (if (b.Style.Height.Kind == 1)=true then (g9 (KN N) N (L.map (itC c F)) (sp - sm (L.map (edC c F)))).bind fun v55=>gP (KN N) N (L.map (innC c)) (L.map (edC c F)) (L.map F) v55
            else gP (KN N) N (L.map (innC c)) (L.map (edC c F)) (L.map F) (L.map fun k=>Rs.hyp (itC c F k))):=by
        intro x hx
        subst hx
        unfold nF
        have ei:(⟨(itC c F (L.getD i default)).Base,(L.getD i default).Style.Grow,(L.getD i default).Style.Shrink,0,1048576⟩:aw)=itC c F (L.getD i default):=rfl
        simp only [ei,dc,after_def,Rs.hyp_ok,sb]
        rw [show w64 (w64 (w64 ((F (L.getD i default)).Before.Pos+(F (L.getD i default)).Before.Neg)+aftM (F (L.getD i default)))+innC c (L.getD i default))=edC c F (L.getD i default) from rfl]
        simp only [l4,elast,tnat,g4,e3,aP (show (0:Int)≤(i:Int)∧(i:Int)<((i+1:Nat):Nat) by omega)]
        rw [cg (by simp only [q,List.length_cons,List.length_nil]; omega) (by omega),cg (by simp only [q,List.length_cons,List.length_nil]; omega) (by omega),cg (by simp only [q,List.length_cons,List.length_nil]; omega) (by omega),cg (by simp only [q,List.length_cons,List.length_nil]; omega) (by omega)]
        simp only [bB]
        rw [bp (n:=sp - sm ((L.take i).map (edC c F)) - edC c F (L.getD i default)) (by omega) (by omega),show sp - sm ((L.take i).map (edC c F)) - edC c F (L.getD i default)=sp - sm ((L.take (i+1)).map (edC c F)) by omega,← t1,← t2,← t3,← t4,← t5]
        first
          | exact ih (i+1) (by omega) (by omega)
          | (rw [cg (by simp only [q,List.length_cons,List.length_nil]; omega) (by omega)]; exact ih (i+1) (by omega) (by omega))
      by_cases hk:(L.getD i default).Style.Basis.Kind=1
      · rw [if_pos (by rw [beq_iff_eq]; exact hk)]
        exact j1 _ (by unfold itC; simp only [hk,if_true])
      · rw [if_neg (by rw [beq_iff_eq]; exact hk)]
        exact j1 _ (by unfold itC; simp only [hk,if_false])
    · rw [iteF (by omega),List.take_of_length_le (by omega)]
theorem col_r (given:Bool):∀ (m i:Nat),i≤L.length→L.length<m+i →
    mY (KN N) N L c given m (sp - sm ((L.take i).map (edC c F))) (i:Int) ((L.take i).map (innC c)) ((L.take i).map (edC c F)) ((L.take i).map (itC c F)) ((L.take i).map fun k=>Rs.hyp (itC c F k)) ((L.take i).map F) =
    if given=true then (iW (KN N) N (L.map (itC c F)) (sp - sm (L.map (edC c F)))).bind fun v51=>gR (KN N) N (L.map (innC c)) (L.map (edC c F)) (L.map F) v51
    else gR (KN N) N (L.map (innC c)) (L.map (edC c F)) (L.map F) (L.map fun k=>Rs.hyp (itC c F k)):=by
  intro m
  induction m with
  | zero=>intro i h1 h2; omega
  | succ m ih =>
    intro i h1 h2
    simp only [mY,sJ]
    by_cases hi:i<L.length
    · have hf:=hF _ (hG _ (dG hi))
      have t1:=eO (fun k=>Rs.hyp (itC c F k)) hi; have t2:=eO (itC c F) hi; have t3:=eO (innC c) hi; have t4:=eO (edC c F) hi; have t5:=eO F hi
      have d1:=rL hN L hL hG c F hF sp hs i; have d2:=rL hN L hL hG c F hF sp hs (i+1)
      have es:sm ((L.take (i+1)).map (edC c F))=sm ((L.take i).map (edC c F))+edC c F (L.getD i default):=by rw [t4,dV]; simp [sm]
      have e3:w64 ((i:Int)+1)=((i+1:Nat):Int):=wn (by omega) (by omega)
      have q:∀ {α:Type} (f:ab→α),((L.take i).map f).length=i:=fun f=>by simp; omega
      have g:∀ {α:Type} [Inhabited α] (f:ab→α),((L.take i).map f++[f (L.getD i default)]).getD i default=f (L.getD i default):=fun f=>by
        rw [List.getD_eq_getElem?_getD,List.getElem?_append_right (by rw [q]; exact Nat.le_refl _),q,Nat.sub_self]; rfl
      have ll:∀ {α:Type} (f:ab→α),((L.take i).map f++[f (L.getD i default)]).length=i+1:=fun f=>by simp only [List.length_append,q,List.length_cons,List.length_nil]
      have g3:=g (innC c); have g4:=g (edC c F); have g2:=g (itC c F)
      have l3:=ll (innC c); have l4:=ll (edC c F); have l2:=ll (itC c F)
      rw [iteT (by omega)]
      simp only [aP (show (0:Int)≤(i:Int)∧(i:Int)<(L.length:Nat) by omega),tnat,(hf.1 N (by omega)).2,oL,sb,uk,dr,below_def]
      rw [show w64 (w64 (w64 ((edgesM (L.getD i default).Style c 0).Border.a0+(edgesM (L.getD i default).Style c 0).Border.a2)+(edgesM (L.getD i default).Style c 0).Padding.a0)+(edgesM (L.getD i default).Style c 0).Padding.a2)=innC c (L.getD i default) from rfl]
      simp only [g3,l3,aP (show (0:Int)≤(i:Int)∧(i:Int)<((i+1:Nat):Nat) by omega)]
      rw [show w64 (w64 (w64 ((F (L.getD i default)).Before.Pos+(F (L.getD i default)).Before.Neg)+aftM (F (L.getD i default)))+innC c (L.getD i default))=edC c F (L.getD i default) from rfl]
      simp only [g4,l4,aP (show (0:Int)≤(i:Int)∧(i:Int)<((i+1:Nat):Nat) by omega)]
      rw [cg (by simp only [q,List.length_cons,List.length_nil]; omega) (by omega),cg (by simp only [q,List.length_cons,List.length_nil]; omega) (by omega)]
      simp only [bB]
      rw [bp (n:=sp - sm ((L.take i).map (edC c F)) - edC c F (L.getD i default)) (by omega) (by omega),show sp - sm ((L.take i).map (edC c F)) - edC c F (L.getD i default)=sp - sm ((L.take (i+1)).map (edC c F)) by omega]
      have j1:∀ x,x=(itC c F (L.getD i default)).Base→oP (KN N) N L c given (i:Int) ((L.take i).map (itC c F)) ((L.take i).map fun k=>Rs.hyp (itC c F k)) ((L.take i).map F) (F (L.getD i default)) ((L.take i).map (innC c)++[innC c (L.getD i default)]) ((L.take i).map (edC c F)++[edC c F (L.getD i default)]) (sp - sm ((L.take (i+1)).map (edC c F))) (mY (KN N) N L c given m) x =
          (if given=true then (iW (KN N) N (L.map (itC c F)) (sp - sm (L.map (edC c F)))).bind fun v51=>gR (KN N) N (L.map (innC c)) (L.map (edC c F)) (L.map F) v51
            else gR (KN N) N (L.map (innC c)) (L.map (edC c F)) (L.map F) (L.map fun k=>Rs.hyp (itC c F k))):=by
        intro x hx
        subst hx
        unfold oP
        simp only [tnat]
        have ei:(⟨(itC c F (L.getD i default)).Base,(L.getD i default).Style.Grow,(L.getD i default).Style.Shrink,0,1048576⟩:aw)=itC c F (L.getD i default):=rfl
        simp only [ei,sb,l2,g2,Rs.Hyp_ok,e3,aP (show (0:Int)≤(i:Int)∧(i:Int)<(L.length:Nat) by omega),aP (show (0:Int)≤(i:Int)∧(i:Int)<((i+1:Nat):Nat) by omega)]
        rw [cg (by simp only [q,List.length_cons,List.length_nil]; omega) (by omega),cg (by simp only [q,List.length_cons,List.length_nil]; omega) (by omega),cg (by simp only [q,List.length_cons,List.length_nil]; omega) (by omega)]
        simp only [bB]
        rw [←t1,← t2,← t3,← t4,← t5]
        exact ih (i+1) (by omega) (by omega)
      by_cases hk:(L.getD i default).Style.Basis.Kind=1
      · rw [if_pos (by rw [beq_iff_eq]; exact hk)]
        exact j1 _ (by unfold itC; simp only [hk,if_true])
      · rw [if_neg (by rw [beq_iff_eq]; exact hk)]
        exact j1 _ (by unfold itC; simp only [hk,if_false])
    · rw [iteF (by omega),List.take_of_length_le (by omega)]
end
theorem lenD_bd (l:aQ) (c:Int) : -1048576≤lenD l c 0∧lenD l c 0≤1048576:=by
  have:=cV l c
  unfold lenD; split<;>omega
theorem col_ok {N:Nat} (hN:20010≤N) (b:ab) (L:List ab) (hL:L.length≤20) (hG:∀ k∈L,GoodB 20 k) (c:Int) (hi:lV (KN N) N b=some L) :
    Both (fun r=>Ds r.1∧r.1.length≤20) (rM (KN N) N b c E1) (pk (KN N) N L c (b.Style.Height.Kind == 1) (max (lenD b.Style.Height 0 0) 0)):=by
  obtain ⟨F,hF⟩:=l_of c
  have hs:0≤max (lenD b.Style.Height 0 0) 0∧max (lenD b.Style.Height 0 0) 0≤1048576:=by have:=lenD_bd b.Style.Height 0; omega
  unfold rM pk
  rw [tk,sb,hi,sb]
  have p:=col_p hN L hL hG c F hF _ hs b N 0 (by omega) (by omega)
  have r:=col_r hN L hL hG c F hF _ hs (b.Style.Height.Kind == 1) N 0 (by omega) (by omega)
  simp only [List.take_zero,List.map_nil,show sm []=0 from rfl,Int.sub_zero,show ((0:Nat):Int)=0 from rfl] at p r
  rw [p,r]
  have fin:∀ Z:List Int,Z.length=L.length→Both (fun r=>Ds r.1∧r.1.length≤20) (gP (KN N) N (L.map (innC c)) (L.map (edC c F)) (L.map F) Z) (gR (KN N) N (L.map (innC c)) (L.map (edC c F)) (L.map F) Z):=by
    intro Z hZ
    unfold gP gR
    have:=below_each (KN N) N (L.map (innC c)) (L.map (edC c F)) Z (L.map F) (by simp; omega) (by simp) (by simp) (by simp [hZ]) N 0 0 (L.map F) (by omega) (by simp; omega) (fun f hf=>by
      obtain ⟨k,hk,rfl⟩:=List.mem_map.1 hf
      exact (hF k (hG k hk)).2.1) rfl
    obtain ⟨r,r1,r2,r3,r4⟩:=this
    exact ⟨r,r1,r2,r3,by rw [r4]; simp; omega⟩
  cases hgv:(b.Style.Height.Kind == 1) with
  | true =>
    simp only [if_true]
    have bd:=rL hN L hL hG c F hF _ hs L.length
    rw [List.take_of_length_le (Nat.le_refl _)] at bd
    rw [Rs.pc _ (by simp; omega) (by omega) (by omega) hN,Rs.oq _ (by simp; omega) (by omega) (by omega),sb,sb]
    exact fin _ (by rw [Rs.yC]; simp)
  | false =>
    simp only [Bool.false_eq_true,if_false]
    exact fin _ (by simp)
def mvK (z:ay) (f:aa):aa:=movM { f with X:=w64 (f.X+w64 (z.Border.a3+z.Padding.a3)),Y:=w64 (f.Y+w64 (z.Border.a0+z.Padding.a0)) } z.Content
theorem mvK_kids (z:ay) (f:aa):(mvK z f).Kids=f.Kids:=by unfold mvK; rw [movM_kids]
theorem kids_p (K:Kn) (n:Nat) (b:ab) (z:ay) (v5 v6:ah) (w h:Int) (o:List aa) (ho:o.length≤20):∀ (m i:Nat),i≤o.length→o.length<m+i →
    pM K n b z v5 v6 o w h m (i:Int) (mix i (o.map (mvK z)) o)=some (⟨1,b.Node,z.Margin.a3,0,w,h,0,⟨#[]⟩,b.Style,v5,v6,false,o.map (mvK z)⟩:aa):=by
  have ol:(o.map (mvK z)).length=o.length:=by simp
  intro m
  induction m with
  | zero=>intro i h1 h2; omega
  | succ m ih =>
    intro i h1 h2
    simp only [pM,sF]
    by_cases hi:i<o.length
    · have ml:=fg (i:=i) ol
      have ga:=mix_at ol hi
      have s1:=jy ol hi
      rw [map_at (mvK z) hi] at s1
      have e3:w64 ((i:Int)+1)=((i+1:Nat):Int):=wn (by omega) (by omega)
      rw [iteT (by omega)]
      simp only [tnat,List.length_set,ml,aP (show (0:Int)≤(i:Int)∧(i:Int)<(o.length:Nat) by omega),sb,ssets,gset (show i<(mix i (o.map (mvK z)) o).length by omega),ga,moved_def,e3]
      rw [show movM _ z.Content=mvK z (o.getD i default) from rfl,s1]
      exact ih (i+1) (by omega) (by omega)
    · obtain rfl:i=o.length:=by omega
      rw [iteF (by omega),ig ol]
theorem kids_r (K:Kn) (n:Nat) (b:ab) (z:ay) (v5 v6:ah) (w h:Int) (o:List aa) (ho:o.length≤20):∀ (m i:Nat),i≤o.length→o.length<m+i →
    pu K n b z v5 v6 w o m (i:Int) h ((o.take i).map (mvK z))=some (⟨1,b.Node,z.Margin.a3,0,w,h,0,⟨#[]⟩,b.Style,v5,v6,false,o.map (mvK z)⟩:aa):=by
  intro m
  induction m with
  | zero=>intro i h1 h2; omega
  | succ m ih =>
    intro i h1 h2
    simp only [pu,sq]
    by_cases hi:i<o.length
    · have t1:=eO (mvK z) hi
      have e3:w64 ((i:Int)+1)=((i+1:Nat):Int):=wn (by omega) (by omega)
      rw [iteT (by omega)]
      simp only [tnat,aP (show (0:Int)≤(i:Int)∧(i:Int)<(o.length:Nat) by omega),sb,rmoved_def,e3]
      rw [cg (by simp only [List.length_map,List.length_take,List.length_cons,List.length_nil]; omega) (by omega),bB]
      rw [show movM _ z.Content=mvK z (o.getD i default) from rfl,← t1]
      exact ih (i+1) (by omega) (by omega)
    · rw [iteF (by omega),List.take_of_length_le (by omega)]
theorem ritems_loop (K:Kn) (n:Nat) {b:ab} (hb:b.Kids.length≤20) {d:List Int} (h:Od.Is b.Kids d) (z:ay) (v4 v5:ah) (v6:Int):∀ (m i:Nat),i≤d.length→d.length<m+i →
    qi K n b z v4 v5 v6 d m (i:Int) ((itm b d).take i)=((f8 K n b.Style.Height 0 0).bind fun v10 =>
    if (b.Style.Direction == 1)=true then
      (pk K n (itm b d) z.Content (b.Style.Height.Kind == 1) (max v10 0)).bind fun v11 =>
      l8 K n b z v4 v5 v6 v10 v11.2 v11.1
    else
      (oz K n (itm b d) b.Style.Wrap z.Content).bind fun v12 =>
      l8 K n b z v4 v5 v6 v10 v12.2 v12.1):=by
  have dl:=h.len
  intro m
  induction m with
  | zero=>intro i h1 h2; omega
  | succ m ih =>
    intro i h1 h2
    simp only [qi,sh]
    by_cases hi:i<d.length
    · obtain ⟨j,j1,j2,_⟩:=h.mem (QSort.ms (A:=d) hi)
      unfold QSort.at_ at j2
      have ih:=ih (i+1) (by omega) (by omega)
      rw [List.take_succ_eq_append_getElem (by rw [kw]; exact hi),← bc (by rw [kw]; exact hi),itm_at b d hi] at ih
      rw [iteT (by omega),aP (by omega),tnat,j2,aP (by omega),tnat,cg (by simp only [List.length_cons,List.length_nil,List.length_take]; omega) (by omega),bB,wn (n:=(i:Int)+1) (k:=i+1) (by omega) (by omega)]
      rw [j2,tnat] at ih
      exact ih
    · rw [iteF (by omega),List.take_of_length_le (by rw [kw]; omega)]
theorem layout_ok {b:ab} (hB:Bx b) {N:Nat} (hN:20010≤N) (w:Int):∃ f,rE (KN N) N b w E1=some f∧sP (KN N) N b w=some f∧Fd 22 f:=by
  obtain ⟨W,hW⟩:=w_of hB
  have hl:=hB.len
  obtain ⟨d,o1,o2,o3⟩:=Od.ord_both b.Kids (by omega) (lvl:=N) (n:=N) (by omega) hN
  have dl:=o1.len
  have hc:=used_c b.Style w
  have hit:=items_ok hl o1 o2 (show 100<N by omega)
  have hLn:(itm b d).length≤20:=by rw [kw]; omega
  have hGd:∀ k∈itm b d,GoodB 20 k:=fun k hk=>(hB.kids k (itm_mem o1 hk)).good
  unfold rE sP
  rw [used_def,sb,rused_def,sb]
  simp only [gL,gI,sb]
  rw [o3 (KN N) N (by omega),sb]
  have ri:=ritems_loop (KN N) N hl o1 (usedM b.Style w) (⟨max (usedM b.Style w).Margin.a0 0,min (usedM b.Style w).Margin.a0 0⟩:ah) (⟨max (usedM b.Style w).Margin.a2 0,min (usedM b.Style w).Margin.a2 0⟩:ah) (w64 ((w64 ((w64 ((w64 ((usedM b.Style w).Content+(usedM b.Style w).Border.a1))+(usedM b.Style w).Border.a3))+(usedM b.Style w).Padding.a1))+(usedM b.Style w).Padding.a3)) N 0 (by omega) (by omega)
  rw [List.take_zero,show ((0:Nat):Int)=0 from rfl,uk,sb] at ri
  rw [ri]
  have fin:∀ r:(List aa)×Int,Ds r.1→r.1.length≤20→∃ f,ph (KN N) N b (usedM b.Style w) (⟨max (usedM b.Style w).Margin.a0 0,min (usedM b.Style w).Margin.a0 0⟩:ah) (⟨max (usedM b.Style w).Margin.a2 0,min (usedM b.Style w).Margin.a2 0⟩:ah) r.2 r.1=some f∧l8 (KN N) N b (usedM b.Style w) (⟨max (usedM b.Style w).Margin.a0 0,min (usedM b.Style w).Margin.a0 0⟩:ah) (⟨max (usedM b.Style w).Margin.a2 0,min (usedM b.Style w).Margin.a2 0⟩:ah) (w64 ((w64 ((w64 ((w64 ((usedM b.Style w).Content+(usedM b.Style w).Border.a1))+(usedM b.Style w).Border.a3))+(usedM b.Style w).Padding.a1))+(usedM b.Style w).Padding.a3)) (lenD b.Style.Height 0 0) r.2 r.1=some f∧Fd 22 f:=by
    intro r hD hr
    have both:∀ h,∃ f,oO (KN N) N b (usedM b.Style w) (⟨max (usedM b.Style w).Margin.a0 0,min (usedM b.Style w).Margin.a0 0⟩:ah) (⟨max (usedM b.Style w).Margin.a2 0,min (usedM b.Style w).Margin.a2 0⟩:ah) r.1 h=some f∧oT (KN N) N b (usedM b.Style w) (⟨max (usedM b.Style w).Margin.a0 0,min (usedM b.Style w).Margin.a0 0⟩:ah) (⟨max (usedM b.Style w).Margin.a2 0,min (usedM b.Style w).Margin.a2 0⟩:ah) (w64 ((w64 ((w64 ((w64 ((usedM b.Style w).Content+(usedM b.Style w).Border.a1))+(usedM b.Style w).Border.a3))+(usedM b.Style w).Padding.a1))+(usedM b.Style w).Padding.a3)) r.1 h=some f∧Fd 22 f:=by
      intro h
      unfold oO oT
      simp only [sb]
      have p:=kids_p (KN N) N b (usedM b.Style w) (⟨max (usedM b.Style w).Margin.a0 0,min (usedM b.Style w).Margin.a0 0⟩:ah) (⟨max (usedM b.Style w).Margin.a2 0,min (usedM b.Style w).Margin.a2 0⟩:ah) (w64 ((w64 ((w64 ((w64 ((usedM b.Style w).Content+(usedM b.Style w).Border.a1))+(usedM b.Style w).Border.a3))+(usedM b.Style w).Padding.a1))+(usedM b.Style w).Padding.a3)) (w64 ((w64 ((w64 ((w64 (h+(usedM b.Style w).Border.a0))+(usedM b.Style w).Border.a2))+(usedM b.Style w).Padding.a0))+(usedM b.Style w).Padding.a2)) r.1 hr N 0 (by omega) (by omega)
      have q:=kids_r (KN N) N b (usedM b.Style w) (⟨max (usedM b.Style w).Margin.a0 0,min (usedM b.Style w).Margin.a0 0⟩:ah) (⟨max (usedM b.Style w).Margin.a2 0,min (usedM b.Style w).Margin.a2 0⟩:ah) (w64 ((w64 ((w64 ((w64 ((usedM b.Style w).Content+(usedM b.Style w).Border.a1))+(usedM b.Style w).Border.a3))+(usedM b.Style w).Padding.a1))+(usedM b.Style w).Padding.a3)) (w64 ((w64 ((w64 ((w64 (h+(usedM b.Style w).Border.a0))+(usedM b.Style w).Border.a2))+(usedM b.Style w).Padding.a0))+(usedM b.Style w).Padding.a2)) r.1 hr N 0 (by omega) (by omega)
      rw [g8,show ((0:Nat):Int)=0 from rfl] at p
      rw [List.take_zero,List.map_nil,show ((0:Nat):Int)=0 from rfl] at q
      refine ⟨_,p,q,?_⟩
      refine ⟨by simpa using hr,fun k hk=>?_⟩
      obtain ⟨f,hf,rfl⟩:=List.mem_map.1 hk
      exact qw (mvK_kids _ _) (hD f hf)
    unfold ph l8
    cases hgv:(b.Style.Height.Kind == 1) with
    | true =>
      simp only [if_true,Bool.not_true,Bool.false_eq_true,if_false]
      rw [tk,sb]
      exact both _
    | false =>
      simp only [Bool.not_false,if_true,Bool.false_eq_true,if_false]
      exact both _
  by_cases hd:(b.Style.Direction == 1)=true
  · rw [if_pos hd,if_pos hd]
    obtain ⟨r,r1,r2,r3,r4⟩:=col_ok hN b (itm b d) hLn hGd (usedM b.Style w).Content hit
    rw [r1,r2,sb,sb]
    exact fin r r3 r4
  · rw [if_neg hd,if_neg hd]
    obtain ⟨r,r1,r2,r3,r4⟩:=row_ok hN b (itm b d) hLn hGd (usedM b.Style w).Content hc W (fun k hk=>hW k (itm_mem o1 hk)) hit
    rw [r1,r2,sb,sb]
    exact fin r r3 r4
end Fl
end Go.Proofs.Ytlpndemhnpajiaa
namespace Go.Proofs.Ytlpndemhnpajiaa.QFlexLayouts
set_option linter.all false
open Go.RowKit
open QSort (wn aP iteT iteF iteB iteC sb)
theorem holds (x0:List bU) (x1:Int) (h0:HasT Try.prog 40 ((eSl bg) x0)) (h1:HasT Try.prog 3 ((eInt .i64) x1)):∃ n,tJ (KN n) n x0 x1=some true:=by
  obtain ⟨l,hl,hm,_⟩:=h0.sl_inv Try.underlying40
  simp only [eSl,List.cons.injEq,AV.sl.injEq,and_true] at hl
  have hlen:l.length=x0.length:=by rw [←hl,List.length_map]
  have hm':l.length≤9223372036854775807:=hm
  refine ⟨x0.length+20010,?_⟩
  generalize hN:x0.length+20010=N
  have hN1:20010≤N:=by omega
  have hN2:x0.length<N:=by omega
  unfold tJ
  rw [fit_ok' (by omega)]
  simp only [Option.bind_some,Bool.not_true,Bool.false_eq_true,if_false]
  obtain ⟨v,hv,hv2⟩:=fits_tot (KN N) N x0 (by omega) hN2
  rw [hv,sb]
  cases v with
  | false=>rfl
  | true =>
    obtain ⟨b,hb,hB⟩:=box_ok N x0 (hv2 rfl) (by omega)
    obtain ⟨f,p1,p2,p3⟩:=Fl.layout_ok hB hN1 x1
    simp only [Bool.not_true,Bool.false_eq_true,if_false]
    rw [hb,sb]
    unfold ff
    rw [sb,show (⟨(Fv.fn 54),(Fv.fn 55),(Fv.fn 56),(Fv.fn 57)⟩:bw)=Wd.E1 from rfl,p1,sb,sb,p2,sb,same_self 22 N N f p3 (by omega) (by omega) (by omega)]
    rfl
end Go.Proofs.Ytlpndemhnpajiaa.QFlexLayouts
