/- Tables, plain: the tables that descriptions describe. No program in sight. -/
import Derived.Test.YtolhpahjgddjkaaCoZ41
import Derived.Test.YtolhpahjgddjkaaCoGop
namespace Go.Proofs.Ytolhpahjgddjkaa.Tbl
set_option linter.all false
open Go.RowKit
open QSort (wn aF iteT iteF sb)
set_option maxRecDepth 20000
theorem both_same {α:Type} {x y:Option α} (h:x=y):both true x y=y:=by unfold both; simp [h]
def Cl (c:ab):Prop:=c.Kind=9∧∃ t,c.Kids=[t]∧t.Kind=3∧(t.Text.size:Int)≤60
def Rp (p:ab×Option (List ab)):Prop:=p.1.Kind=8∧∃ ks,p.2=some ks∧∀ c∈ks,Cl c
def cnt:List (ab×Option (List ab))→Nat
  | []=>0
  | p::r=>(p.2.getD []).length+1+cnt r
theorem qm:∀ a b,cnt (a++b)=cnt a+cnt b
  | [],b=>by simp [cnt]
  | p::r,b=>by simp only [List.cons_append,cnt,qm r b]; omega
theorem cnt_len:∀ a:List (ab×Option (List ab)),a.length≤cnt a
  | []=>by simp [cnt]
  | p::r=>by have:=cnt_len r; simp only [cnt,List.length_cons]; omega
variable {K:Kn} {n:Nat}
theorem tree_loop {L:List bM} (hL:L.length≤20) (ht:∀ x∈L,(x.Text.size:Int)≤60):∀ (m i:Nat) (v:List (ab×Option (List ab))),1≤i→i≤L.length→L.length<m+i→(∀ p∈v,Rp p)→cnt v<i →
    ∃ w,(∀ p∈w,Rp p)∧cnt w<L.length∧gl K n L m (i:Int) v=some (⟨7,10,(L.getD (0:Int).toNat default).Style,⟨#[]⟩,0,0,w.map wTBoxtreeBox⟩:ab):=by
  intro m
  induction m with
  | zero=>intro i v h0 h1 h2; omega
  | succ m ih =>
    intro i v h0 h1 h2 hv hc
    simp only [gl,nN]
    have hvl:=cnt_len v
    by_cases hi:i<L.length
    · rw [iteT (by omega),aF (by omega),Int.toNat_natCast]
      have htx:=ht _ (fk hi)
      have row:iC K n L (i:Int) v (gl K n L m) true=gl K n L m ((i+1:Nat):Int) (v++[(({ bD with Kind:=8,Node:=(w64 (10+(i:Int))),Style:=(List.getD L ((i:Int)).toNat default).Style }:ab),some [])]):=by
        unfold iC jh
        rw [if_pos rfl,cC (by omega) (by omega),bp,step64 (show i<1000000 by omega)]
      have rowc:∃ w,(∀ p∈w,Rp p)∧cnt w<L.length∧iC K n L (i:Int) v (gl K n L m) true=some (⟨7,10,(L.getD (0:Int).toNat default).Style,⟨#[]⟩,0,0,w.map wTBoxtreeBox⟩:ab):=by
        rw [row]
        refine ih (i+1) _ (by omega) (by omega) (by omega) (fun p hp=>?_) ?_
        · rcases List.mem_append.1 hp with hp | hp
          · exact hv p hp
          · obtain rfl:=List.mem_singleton.1 hp
            exact ⟨rfl,[],rfl,fun c hc=>by cases hc⟩
        · rw [qm]; simp only [cnt,Option.getD_some,List.length_nil]; omega
      by_cases hk:((Int.tmod ((List.getD L i default).Kind) 4) == 0)=true
      · rw [if_pos hk]; exact rowc
      · rw [if_neg hk]
        by_cases h0v:v=[]
        · subst h0v; exact rowc
        · obtain ⟨A,q,rfl⟩:∃ A q,v=A++[q]:=⟨v.dropLast,v.getLast h0v,(List.dropLast_concat_getLast h0v).symm⟩
          obtain ⟨hq1,ks,hq2,hq3⟩:=hv q (by simp)
          have hcq:cnt [q]=ks.length+1:=by simp [cnt,hq2]
          rw [qm,hcq] at hc
          have hA:=cnt_len A
          have e0:(((A++[q]).length:Int) == 0)=false:=by simp; omega
          have e1:w64 (((A++[q]).length:Int) - 1)=(A.length:Int):=wn (k:=A.length) (by simp) (by omega)
          have e2:(A++[q]).getD A.length default=q:=by simp [List.getD_eq_getElem?_getD]
          have e3:∀ x,List.set (A++[q]) A.length x=A++[x]:=fun x=>by rw [List.set_append_right _ _ (Nat.le_refl _)]; simp
          rw [e0]
          unfold iC jh
          rw [if_neg (by decide),cC (by simp) (by omega),bp]
          simp only [e1,Int.toNat_natCast,e2,e3,hq2,sb]
          have i1:inb (A.length:Int) (A++[q]).length=true:=iY (by omega) (by simp; omega)
          have i2:∀ z:ab,inb (ks.length:Int) (ks++[z]).length=true:=fun z=>iY (by omega) (by simp; omega)
          have f1:∀ z:ab,fits (ks.length+[z].length) 520=true:=fun z=>cC (by simp; omega) (by omega)
          have e4:∀ x z:ab,List.set (ks++[z]) ks.length x=ks++[x]:=fun x z=>by rw [List.set_append_right _ _ (Nat.le_refl _)]; simp
          simp only [i1,i2,f1,bp,e4]
          rw [both_same rfl,step64 (show i<1000000 by omega)]
          refine ih (i+1) _ (by omega) (by omega) (by omega) (fun p hp=>?_) ?_
          · rcases List.mem_append.1 hp with hp | hp
            · exact hv p (by simp [hp])
            · obtain rfl:=List.mem_singleton.1 hp
              refine ⟨hq1,_,rfl,fun c hc=>?_⟩
              rcases List.mem_append.1 hc with hc | hc
              · exact hq3 c hc
              · obtain rfl:=List.mem_singleton.1 hc
                exact ⟨rfl,_,rfl,rfl,htx⟩
          · rw [qm]; simp only [cnt,Option.getD_some,List.length_append,List.length_singleton]; omega
    · have e:i=L.length:=by omega
      subst e
      rw [iteF (by omega)]
      refine ⟨v,hv,hc,?_⟩
      have:v.all (fun p=>p.2.isSome)=true:=List.all_eq_true.2 (fun p hp=>by obtain ⟨_,ks,e,_⟩:=hv p hp; rw [e]; rfl)
      rw [this,bp]
structure TT (b:ab):Prop where
  k:∀ r∈b.Kids,r.Kind=8∧∀ c∈r.Kids,Cl c
  n:b.Kids.length+(b.Kids.flatMap fun r=>r.Kids).length≤20
theorem cnt_flat:∀ w:List (ab×Option (List ab)),(w.map wTBoxtreeBox).length+((w.map wTBoxtreeBox).flatMap fun r=>r.Kids).length=cnt w
  | []=>by simp [cnt]
  | p::r=>by
    have:=cnt_flat r
    simp only [List.map_cons,List.length_cons,List.flatMap_cons,List.length_append,cnt,wTBoxtreeBox] at this ⊢
    omega
theorem tree_ok {L:List bM} (hL:L.length≤20) (h0:0<L.length) (ht:∀ x∈L,(x.Text.size:Int)≤60) (hn:20<n):∃ b,j7 K n L=some b∧TT b:=by
  unfold j7
  rw [aF (by omega)]
  obtain ⟨w,h1,h2,h3⟩:=tree_loop (K:=K) (n:=n) hL ht n 1 [] (by omega) (by omega) (by omega) (by simp) (by simp [cnt])
  refine ⟨_,h3,fun r hr=>?_,?_⟩
  · obtain ⟨p,hp,rfl⟩:=List.mem_map.1 hr
    obtain ⟨q1,ks,q2,q3⟩:=h1 p hp
    refine ⟨q1,fun c hc=>q3 c ?_⟩
    simpa [wTBoxtreeBox,q2] using hc
  · have:=cnt_flat w
    show (w.map wTBoxtreeBox).length+((w.map wTBoxtreeBox).flatMap fun r=>r.Kids).length≤20
    omega
theorem mem_le {b r:ab}:∀ {l:List ab},r∈l→r.Kids.length≤(l.flatMap fun r=>r.Kids).length
  | a::l,h=>by
    rw [List.flatMap_cons,List.length_append]
    rcases List.mem_cons.1 h with rfl | h
    · omega
    · have:=mem_le (b:=b) h; omega
theorem rB {α:Type} {p:α→Bool} {l:List α} (h:∀ x∈l,p x=true):l.filter p=l:=List.filter_eq_self.2 h
theorem TT.rows {b:ab} (h:TT b):kdM b 8=b.Kids:=rB (fun r hr=>by rw [(h.k r hr).1]; rfl)
theorem TT.cells {b:ab} (h:TT b) {r:ab} (hr:r∈b.Kids):kdM r 9=r.Kids:=rB (fun c hc=>by rw [((h.k r hr).2 c hc).1]; rfl)
theorem rd {α β:Type} {f g:α→List β}:∀ {l:List α},(∀ x∈l,f x=g x)→l.flatMap f=l.flatMap g
  | [],_=>rfl
  | a::l,h=>by rw [List.flatMap_cons,List.flatMap_cons,h a (by simp),rd (fun x hx=>h x (by simp [hx]))]
theorem Cl.cel {c:ab} (h:Cl c):Cel c:=by
  obtain ⟨_,t,h1,h2,_⟩:=h
  exact ⟨t,h1,h2⟩
theorem TT.tab {b:ab} (h:TT b):Tab b:=by
  have hn:=h.n
  refine ⟨by omega,by rw [h.rows]; omega,fun r hr=>?_,?_⟩
  · rw [h.rows] at hr
    have:=mem_le (b:=b) hr
    rw [h.cells hr]
    exact ⟨by omega,by omega,fun c hc=>((h.k r hr).2 c hc).cel⟩
  · rw [h.rows,rd (g:=fun r=>r.Kids) (fun r hr=>h.cells hr)]; omega
end Go.Proofs.Ytolhpahjgddjkaa.Tbl
namespace Go.Proofs.Ytolhpahjgddjkaa.Tbl
set_option linter.all false
open Go.RowKit
open Tb
open Sh (share wts lim mx cY dY cV mL ff eU sm_rep rO share_nil)
open QSort (wn aF iteT iteF sb)
set_option maxRecDepth 20000
theorem div_ge (L:List ak) (w:Int) {k:Nat} (hk:k<L.length):cA (L.getD k default)≤(divide L w).getD k default:=by
  have bc:=c_bd (L.getD k default)
  unfold divide
  split
  · rw [dg hk]; omega
  · split
    · rw [gq (by simpa using hk),dg hk]
      have:=iJ (dh (w - sm (L.map cA))) (fun x hx=>(g8 fR L x hx).1) k (by simpa using hk)
      omega
    · rw [gq (by simpa using hk),dg hk]
      have:=iJ (dh (w - sm (L.map cB))) (fun x hx=>(gn (g8 fB L) x hx).1) k (by rw [eC]; simpa using hk)
      omega
theorem div_bd (L:List ak) (w:Int):∀ x∈divide L w,0≤x∧x≤2097153:=by
  intro x hx
  obtain ⟨k,hk,rfl⟩:=List.mem_iff_getElem.1 hx
  rw [oi] at hk
  rw [←bN]
  have h1:=div_ge L w hk
  have bc:=c_bd (L.getD k default)
  refine ⟨by omega,?_⟩
  unfold divide
  split
  · rw [dg hk]; omega
  · split
    · rw [gq (by simpa using hk),dg hk]
      have:=iJ (dh (w - sm (L.map cA))) (fun x hx=>(g8 fR L x hx).1) k (by simpa using hk)
      omega
    · rw [gq (by simpa using hk),dg hk]
      have:=iJ (dh (w - sm (L.map cB))) (fun x hx=>(gn (g8 fB L) x hx).1) k (by rw [eC]; simpa using hk)
      omega
theorem grid_bd {b:ab} (h:Tab b):OkC (col (spsM b) (spsM b).length).toNat (demands (abv (spsM b) (spsM b).length) ((cellsM b).map wc) (col (spsM b) (spsM b).length).toNat):=by
  have hcb:=kA h.sp (spsM b).length (Nat.le_refl _)
  rw [mH] at hcb
  have:=h.clen
  refine (dfold_ok (by omega) _ _ (fun i hi=>Vd.of (by omega) (kY hi).1) (OkC.rep _)).1
theorem sc {b:ab} (h:Tab b):(colsM b).length=(col (spsM b) (spsM b).length).toNat:=by
  unfold colsM; rw [List.length_map]; exact (grid_bd h).len
theorem fin_lst (C:List ak):Tb.lst (C.map fin)=Tb.lst C:=by unfold Tb.lst; rw [List.map_map]; rfl
theorem cols_l {b:ab} (h:Tab b):Bd (Tb.lst (colsM b)):=by unfold colsM; rw [fin_lst]; exact (grid_bd h).l
theorem cols_m {b:ab} (h:Tab b):Bd (mst (colsM b)):=by
  have g:=grid_bd h
  intro x hx
  unfold colsM mst at hx
  rw [List.map_map] at hx
  obtain ⟨c,hc,rfl⟩:=List.mem_map.1 hx
  have h1:=g.l c.Least (List.mem_map.2 ⟨c,hc,rfl⟩)
  have h2:=g.m c.Most (List.mem_map.2 ⟨c,hc,rfl⟩)
  simp only [Function.comp,fin]; omega
theorem sm_bd1 {l:List Int} (h:Bd l) (hl:l.length≤10000):0≤sm l∧sm l≤10485760000:=by
  have h1:=cY l (fun x hx=>(h x hx).1)
  have h2:=dY (c:=1048576) l (fun x hx=>(h x hx).2)
  have:(l.length:Int)*1048576≤10000*1048576:=Int.mul_le_mul_of_nonneg_right (by omega) (by omega)
  omega
theorem sm_tk (f:ak→Int) {L:List ak} {i:Nat} (h:i<L.length):sm ((L.map f).take (i+1))=sm ((L.map f).take i)+f (L.getD i default):=Tb.qV h
theorem bd_take {l:List Int} (h:Bd l) (i:Nat):Bd (l.take i):=fun x hx=>h x (List.mem_of_mem_take hx)
theorem content_loop (K:Kn) (n:Nat) (g:bj) (h1:Bd (Tb.lst g.columns)) (h2:Bd (mst g.columns)) (hl:g.columns.length≤10000):∀ (m i:Nat),i≤g.columns.length→g.columns.length<m+i →
    kC K n g m (sm ((Tb.lst g.columns).take i)) (sm ((mst g.columns).take i)) (i:Int)=some (sm (Tb.lst g.columns),sm (mst g.columns)):=by
  have l1:(Tb.lst g.columns).length=g.columns.length:=by simp [Tb.lst]
  have l2:(mst g.columns).length=g.columns.length:=by simp [mst]
  intro m
  induction m with
  | zero=>intro i h1 h2; omega
  | succ m ih =>
    intro i h3 h4
    simp only [kC,nr]
    by_cases hi:i<g.columns.length
    · have a1:=sm_bd1 (bd_take h1 i) (by rw [List.length_take]; omega)
      have a2:=sm_bd1 (bd_take h2 i) (by rw [List.length_take]; omega)
      have c1:=h1.at (k:=i) (by omega)
      have c2:=h2.at (k:=i) (by omega)
      have e1:(Tb.lst g.columns).getD i default=(g.columns.getD i default).Least:=Tb.dg hi
      have e2:(mst g.columns).getD i default=(g.columns.getD i default).Most:=Tb.dg hi
      rw [iteT (by omega),aF (by omega),Int.toNat_natCast,step64 (show i<1000000 by omega),← e1,← e2,bW (n:=sm ((Tb.lst g.columns).take i)+(Tb.lst g.columns).getD i default) (by omega) (by omega),bW (by omega) (by omega),e1,e2]
      have s1:=sm_tk (·.Least) hi
      have s2:=sm_tk (·.Most) hi
      rw [show g.columns.map (·.Least)=Tb.lst g.columns from rfl] at s1
      rw [show g.columns.map (·.Most)=mst g.columns from rfl] at s2
      rw [←s1,← s2]
      exact ih (i+1) (by omega) (by omega)
    · have e:i=g.columns.length:=by omega
      subst e
      rw [iteF (by omega),List.take_of_length_le (by omega),List.take_of_length_le (by omega)]
theorem content_ok (K:Kn) (n:Nat) (g:bj) (h1:Bd (Tb.lst g.columns)) (h2:Bd (mst g.columns)) (hl:g.columns.length≤10000) (hn:10000<n):pD K n g=some (sm (Tb.lst g.columns),sm (mst g.columns)):=by
  have:=content_loop K n g h1 h2 hl n 0 (by omega) (by omega)
  simp only [List.take_zero] at this
  exact this
end Go.Proofs.Ytolhpahjgddjkaa.Tbl
namespace Go.Proofs.Ytolhpahjgddjkaa.Tbl
set_option linter.all false
open Go.RowKit
open Tb (heights heights_ok Ok qu divide rA oi)
open QSort (wn aF iteT iteF sb)
set_option maxRecDepth 20000
abbrev PF:=aa×Option (List aa)
theorem mapAt {α β:Type} [Inhabited α] [Inhabited β] (f:α→β) {l:List α} {k:Nat} (hk:k<l.length):(l.map f).getD k default=f (l.getD k default):=by
  rw [bN (by simpa using hk),bN hk]; simp
def sk (d:Int) (k:aa):aa:={ k with Y:=w64 (k.Y+d) }
def dnM (va x:Int):Int:=if (va == 2)=true then x else if (va == 1)=true then w64 (Int.tdiv x 2) else 0
section
variable {K:Kn} {n:Nat} {v1:ab} {v2:Int} {v5:Int×Int} {v11:Int} {v25:List Int} {v26:List PF} {v38:List ae} {v43:List Int} {v46 v94:Int} {v95 v96:List PF} {v97:List aa} {v98:aG} {v99 v100:aA} {v101:Bool} {v102:List PF} {v103 v105:Int} {L4:Int→List PF→List PF→Option aa}
theorem l7_ok {row:Nat} {l:List aa} (hrow:(List.getD v38 v94.toNat default).Row=(row:Int)) (hr:row<v96.length) (hl:(List.getD v96 row default).2=some l) (hlen:l.length≤1000) (h97:v97.length≤1000) (h96:v96.length≤1000):∀ (m i:Nat),i≤v97.length→v97.length<m+i →
    mo K n v1 v2 v5 v11 v25 v26 v38 v43 v46 v94 v95 v96 v97 v98 v99 v100 v101 v102 v103 v105 L4 m (i:Int) (mix i (v97.map (sk v105)) v97) =
      L4 (w64 (v94+1)) v102 (List.set v96 row ((List.getD v96 row default).1,some (l++[({ ((List.getD v95 (v94).toNat default).1) with H:=v103,Style:=v98,Before:=v99,After:=v100,Empty:=v101,Kids:=v97.map (sk v105) }:aa)]))):=by
  have hml:(v97.map (sk v105)).length=v97.length:=by simp
  intro m
  induction m with
  | zero=>intro i h1 h2; omega
  | succ m ih =>
    intro i h1 h2
    simp only [mo,oe]
    by_cases hi:i<v97.length
    · have e:=mapAt (sk v105) hi
      rw [iteT (by omega),aF (by rw [dC hml]; omega),aF (by rw [dC hml]; omega),Int.toNat_natCast,jI hml hi,step64 (show i<1000000 by omega)]
      rw [show ({ List.getD v97 i default with Y:=w64 ((List.getD v97 i default).Y+v105) }:aa)=(v97.map (sk v105)).getD i default from e.symm,eV hml hi]
      exact ih (i+1) (by omega) (by omega)
    · have e:i=v97.length:=by omega
      subst e
      rw [iteF (by omega),gt hml]
      have i1:inb (row:Int) v96.length=true:=iY (by omega) (by omega)
      have i2:∀ z:aa,inb (l.length:Int) (l++[z]).length=true:=fun z=>iY (by omega) (by simp; omega)
      have f1:∀ z:aa,fits (l.length+[z].length) 584=true:=fun z=>cC (by simp; omega) (by omega)
      have e4:∀ x z:aa,List.set (l++[z]) l.length x=l++[x]:=fun x z=>by rw [List.set_append_right _ _ (Nat.le_refl _)]; simp
      simp only [hrow,i1,Int.toNat_natCast,hl,sb,i2,f1,bp,e4,px]
      exact both_same rfl
end
structure Lc (C:List ab) (P:List ae) (dv:List Int) (R:Nat):Prop where
  cl:C.length≤90
  pl:P.length=C.length
  cel:∀ c∈C,Cel c
  r:R≤20
  dl:dv.length≤10000
  d:∀ x∈dv,0≤x∧x≤2097153
  p:∀ t,t<C.length→0≤(P.getD t default).Row∧1≤(P.getD t default).Rows∧(P.getD t default).Row+(P.getD t default).Rows≤R∧0≤(P.getD t default).Col∧1≤(P.getD t default).Cols∧(P.getD t default).Col+(P.getD t default).Cols≤dv.length
section
variable (N:Nat) (C:List ab) (P:List ae) (dv:List Int) (ct:Int) (NS:List (Int×aG)) (hv:List Int)
noncomputable def wdM (t:Nat):Int:=sm (List.drop (P.getD t default).Col.toNat (List.take ((P.getD t default).Col+(P.getD t default).Cols).toNat dv))
noncomputable def frM2 (t:Nat):aa×Int:=(jr (KN (N+1)) (N+1) (C.getD t default) ct (wdM P dv t) E1).getD default
noncomputable def f0 (t:Nat):aa:={ (frM2 N C P dv ct t).1 with X:=sm (List.take (P.getD t default).Col.toNat dv),Y:=0,Kids:=[] }
noncomputable def pf0 (t:Nat):PF:=(f0 N C P dv ct t,some (frM2 N C P dv ct t).1.Kids)
noncomputable def pfN (t:Nat):PF:=(f0 N C P dv ct t,none)
noncomputable def hsM (t:Nat):Int:=sm (List.drop (P.getD t default).Row.toNat (List.take ((P.getD t default).Row+(P.getD t default).Rows).toNat hv))
noncomputable def FR (t:Nat):aa:={ f0 N C P dv ct t with H:=hsM P hv t,Kids:=(frM2 N C P dv ct t).1.Kids.map (sk (dnM (frM2 N C P dv ct t).1.Style.VAlign (max (w64 (hsM P hv t - (frM2 N C P dv ct t).2)) 0))) }
noncomputable def kdl (t r:Nat):List aa:=((List.range t).filter fun j=>decide ((P.getD j default).Row=(r:Int))).map (FR N C P dv ct hv)
noncomputable def rfM (r:Nat):aa:={ aX with Kind:=1,Node:=(NS.getD r default).1,Y:=sm (hv.take r),W:=ct,H:=hv.getD r default,Style:=(NS.getD r default).2 }
noncomputable def rw0 (r:Nat):PF:=(rfM ct NS hv r,some [])
noncomputable def rwT (t r:Nat):PF:=(rfM ct NS hv r,some (kdl N C P dv ct hv t r))
def eP:List (Int×aG)→Nat→List ae
  | [],_=>[]
  | q::l,i=>if (pxM q.2.Height).2=true then ⟨i,0,1,1⟩::eP l (i+1) else eP l (i+1)
def eH:List (Int×aG)→List Int
  | []=>[]
  | q::l=>if (pxM q.2.Height).2=true then (pxM q.2.Height).1::eH l else eH l
variable {C P dv NS}
theorem fr_ok {R:Nat} (hN:20<N) (h:Lc C P dv R) {t:Nat} (ht:t<C.length):jr (KN (N+1)) (N+1) (C.getD t default) ct (wdM P dv t) E1=some (frM2 N C P dv ct t)∧(frM2 N C P dv ct t).1.Node=(C.getD t default).Node∧(frM2 N C P dv ct t).1.W=wdM P dv t∧(frM2 N C P dv ct t).1.Kids.length≤1∧∀ x∈(frM2 N C P dv ct t).1.Kids,x.Kids=[]:=by
  obtain ⟨f,hh,e,h1,h2,h3,h4,h5⟩:=cell_ok hN (h.cel _ (fk ht)) ct (wdM P dv t)
  have:frM2 N C P dv ct t=(f,hh):=by unfold frM2; rw [e]; rfl
  rw [this]
  exact ⟨e,h1,h2,h4,h5⟩
theorem dsm {R:Nat} (h:Lc C P dv R) (a b:Nat) {K:Kn} {n:Nat} (hn:10001<n):fQ K n (List.drop a (List.take b dv))=some (sm (List.drop a (List.take b dv))) :=
  qu (c:=2097153) (by omega) _ (by have:=h.dl; rw [List.length_drop,List.length_take]; omega) (fun x hx=>h.d x (List.mem_of_mem_take (List.mem_of_mem_drop hx))) hn
theorem l2_ok {R:Nat} (hN:20000<N) (h:Lc C P dv R) (v1:ab) (v2:Int) (g:bj) (hg:g.cells=C) (v5:Int×Int) (v11:Int) (hct:max v11 v5.1=ct):∀ (m i:Nat),i≤C.length→C.length<m+i →
    km (KN (N+1)) (N+1) v1 v2 E1 g v5 v11 dv P m (i:Int) (tab i fun t=>(frM2 N C P dv ct t).2) (tab i (pf0 N C P dv ct)) =
      iV (KN (N+1)) (N+1) v1 v2 g v5 v11 (tab C.length fun t=>(frM2 N C P dv ct t).2) (tab C.length (pf0 N C P dv ct)) (N+1) 0 P (tab C.length fun t=>(frM2 N C P dv ct t).2):=by
  have hcl:=h.cl
  intro m
  induction m with
  | zero=>intro i h1 h2; omega
  | succ m ih =>
    intro i h1 h2
    simp only [km,nc,hg,hct]
    by_cases hi:i<C.length
    · have hp:=h.p i hi
      have hpl:=h.pl
      have hdl:=h.dl
      obtain ⟨c1,_⟩:=fr_ok N ct (by omega) h hi
      rw [iteT (by omega),aF (by omega),aF (by omega),Int.toNat_natCast,bW (n:=(P.getD i default).Col+(P.getD i default).Cols) (by omega) (by omega),Sh.fX (by omega) (by omega) (by omega),bp,dsm h _ _ (by omega),sb]
      rw [show sm (List.drop (P.getD i default).Col.toNat (List.take ((P.getD i default).Col+(P.getD i default).Cols).toNat dv))=wdM P dv i from rfl,c1,sb,Sh.fX (by omega) (by omega) (by omega),bp,dsm h _ _ (by omega),sb,cC (by rw [cG]; omega) (by omega),bp,sb,cC (by simp [cG]; omega) (by omega),bp,step64 (show i<1000000 by omega)]
      have e1:(tab i fun t=>(frM2 N C P dv ct t).2)++[(frM2 N C P dv ct i).2]=tab (i+1) fun t=>(frM2 N C P dv ct t).2:=(ob).symm
      have e2:tab i (pf0 N C P dv ct)++[pf0 N C P dv ct i]=tab (i+1) (pf0 N C P dv ct):=(ob).symm
      rw [e1,show ((({ (frM2 N C P dv ct i).1 with X:=sm (List.drop (0:Int).toNat (List.take (P.getD i default).Col.toNat dv)),Y:=0,Kids:=[] }:aa),some (frM2 N C P dv ct i).1.Kids):PF)=pf0 N C P dv ct i from rfl,e2]
      exact ih (i+1) (by omega) (by omega)
    · have e:i=C.length:=by omega
      subst e
      rw [iteF (by omega)]
      have:nJ (KN (N+1)) (N+1) (tab C.length fun t=>(frM2 N C P dv ct t).2)=some (tab C.length fun t=>(frM2 N C P dv ct t).2):=by
        have hl:(tab C.length fun t=>(frM2 N C P dv ct t).2).length≤90:=by rw [cG]; omega
        generalize (tab C.length fun t=>(frM2 N C P dv ct t).2)=l at *
        unfold nJ both
        have hf:fits (([]:List Int).length+l.length) 8=true:=by rw [List.length_nil,Nat.zero_add]; exact cC (by omega) (by omega)
        rw [hf]
        cases l<;>simp [bp]
      rw [this,sb]
theorem l4_ok (hN:30000<N) (v1:ab) (v2:Int) (g:bj) (hg:g.rows.map (fun r=>(r.Node,r.Style))=NS) (hR:NS.length≤20) (v5:Int×Int) (v11:Int) (v25:List Int) (v26:List PF):∀ (m i:Nat) (a:List ae) (c:List Int),i≤NS.length→NS.length<m+i→a.length≤1000+i→c.length≤1000+i →
    iV (KN (N+1)) (N+1) v1 v2 g v5 v11 v25 v26 m (i:Int) a c =
      jD (KN (N+1)) (N+1) v1 v2 g v5 v11 v25 v26 (a++eP (NS.drop i) i) (heights (a++eP (NS.drop i) i) (c++eH (NS.drop i)) (List.replicate NS.length 0)) (N+1) 0 0 []:=by
  have hgl:g.rows.length=NS.length:=by rw [←hg,List.length_map]
  intro m
  induction m with
  | zero=>intro i a c h1 h2; omega
  | succ m ih =>
    intro i a c h1 h2 h3 h4
    simp only [iV,oF,hgl]
    by_cases hi:i<NS.length
    · have e:(NS.getD i default).2=(g.rows.getD i default).Style:=by
        rw [←hg,mapAt (fun r:ab=>(r.Node,r.Style)) (by omega)]
      rw [iteT (by omega),aF (by omega),Int.toNat_natCast,px_ok,sb,drop_at' hi,← e]
      unfold eP eH
      unfold o6
      by_cases hp:(pxM (NS.getD i default).2.Height).2=true
      · simp only [hp,if_true]
        rw [cC (by simp; omega) (by omega),bp,cC (by simp; omega) (by omega),bp,step64 (show i<1000000 by omega),ih (i+1) _ _ (by omega) (by omega) (by simp; omega) (by simp; omega)]
        simp only [List.append_assoc,List.singleton_append]
      · simp only [hp,if_false,Bool.false_eq_true]
        rw [step64 (show i<1000000 by omega)]
        exact ih (i+1) _ _ (by omega) (by omega) (by omega) (by omega)
    · have e:i=NS.length:=by omega
      subst e
      rw [iteF (by omega)]
      simp only [List.drop_length,eP,eH,List.append_nil]
      rw [heights_ok a c (NS.length:Int) (by omega) (by omega) (by omega) (by omega),sb,show (max (NS.length:Int) 0).toNat=NS.length by omega]
theorem ok_sum {R:Nat} (hh:Ok 1048576 R hv) (hR:R≤20) (i:Nat):0≤sm (hv.take i)∧sm (hv.take i)≤20971520:=by
  have h1:=Sh.cY (hv.take i) (fun x hx=>(hh.2 x (List.mem_of_mem_take hx)).1)
  have h2:=Sh.dY (c:=1048576) (hv.take i) (fun x hx=>(hh.2 x (List.mem_of_mem_take hx)).2)
  have hl:(hv.take i).length≤20:=by rw [List.length_take,hh.1]; omega
  have:((hv.take i).length:Int)*1048576≤20*1048576:=Int.mul_le_mul_of_nonneg_right (by omega) (by omega)
  omega
theorem l5_ok (hh:Ok 1048576 NS.length hv) (v1:ab) (v2:Int) (g:bj) (hg:g.rows.map (fun r=>(r.Node,r.Style))=NS) (hR:NS.length≤20) (v5:Int×Int) (v11:Int) (hct:max v11 v5.1=ct) (v25:List Int) (v26:List PF) (v38:List ae) {K:Kn} {n:Nat}:∀ (m i:Nat),i≤NS.length→NS.length<m+i →
    jD K n v1 v2 g v5 v11 v25 v26 v38 hv m (sm (hv.take i)) (i:Int) (tab i (rw0 ct NS hv)) =
      gM K n v1 v2 v5 v11 v25 v26 v38 hv (sm hv) n 0 v26 (tab NS.length (rw0 ct NS hv)):=by
  have hgl:g.rows.length=NS.length:=by rw [←hg,List.length_map]
  have hl:=hh.1
  intro m
  induction m with
  | zero=>intro i h1 h2; omega
  | succ m ih =>
    intro i h1 h2
    simp only [jD,oN,hgl,hct]
    by_cases hi:i<NS.length
    · have e:NS.getD i default=((g.rows.getD i default).Node,(g.rows.getD i default).Style):=by
        rw [←hg,mapAt (fun r:ab=>(r.Node,r.Style)) (by omega)]
      have b1:=ok_sum hv hh hR i
      have b2:=hh.at hi
      have e3:sm (hv.take (i+1))=sm (hv.take i)+hv.getD i default:=by
        have:=sm_step hv (a:=0) (i:=i) (by omega) (by omega)
        simpa using this
      rw [iteT (by omega),aF (by omega),aF (by omega),cC (by rw [cG]; omega) (by omega),bp,sb,aF (by omega),Int.toNat_natCast,bW (n:=sm (hv.take i)+hv.getD i default) (by omega) (by omega),step64 (show i<1000000 by omega),← e3]
      have e2:tab i (rw0 ct NS hv)++[rw0 ct NS hv i]=tab (i+1) (rw0 ct NS hv):=(ob).symm
      have e4:rw0 ct NS hv i=(({ aX with Kind:=1,Node:=(g.rows.getD i default).Node,Y:=sm (hv.take i),W:=ct,H:=hv.getD i default,Style:=(g.rows.getD i default).Style }:aa),some []):=by
        unfold rw0 rfM; rw [e]
      rw [←e4,e2]
      exact ih (i+1) (by omega) (by omega)
    · have e:i=NS.length:=by omega
      subst e
      rw [iteF (by omega),List.take_of_length_le (by omega)]
theorem kdl_succ (t r:Nat):kdl N C P dv ct hv (t+1) r=kdl N C P dv ct hv t r++(if (P.getD t default).Row=(r:Int) then [FR N C P dv ct hv t] else []):=by
  unfold kdl
  rw [List.range_succ,List.filter_append,List.map_append]
  congr 1
  by_cases h:(P.getD t default).Row=(r:Int)
  · rw [if_pos h,List.filter_cons_of_pos (by exact decide_eq_true h)]; rfl
  · rw [if_neg h,List.filter_cons_of_neg (by simpa using h)]; rfl
theorem kdl_len (t r:Nat):(kdl N C P dv ct hv t r).length≤t:=by
  unfold kdl
  rw [List.length_map]
  have:=List.length_filter_le (fun j=>decide ((P.getD j default).Row=(r:Int))) (List.range t)
  rw [List.length_range] at this; exact this
theorem rwT_set {R t r:Nat} (hr:r<R) (h:(P.getD t default).Row=(r:Int)):List.set (tab R (rwT N C P dv ct NS hv t)) r (rfM ct NS hv r,some (kdl N C P dv ct hv t r++[FR N C P dv ct hv t]))=tab R (rwT N C P dv ct NS hv (t+1)):=by
  refine gv (by simp [cG]) (fun k hk=>?_)
  rw [cG] at hk
  rw [fD hk]
  by_cases e:k=r
  · subst e
    rw [bN (by rw [List.length_set,cG]; exact hk),List.getElem_set_self]
    unfold rwT
    rw [kdl_succ,if_pos h]
  · rw [List.getD_eq_getElem?_getD,List.getElem?_set_ne (Ne.symm e),← List.getD_eq_getElem?_getD,fD hk]
    unfold rwT
    rw [kdl_succ,if_neg (by omega),List.append_nil]
theorem hsm {R:Nat} (hh:Ok 1048576 R hv) (hR:R≤20) (a b:Nat) {K:Kn} {n:Nat} (hn:10001<n):fQ K n (List.drop a (List.take b hv))=some (sm (List.drop a (List.take b hv))) :=
  qu (c:=1048576) (by omega) _ (by have:=hh.1; rw [List.length_drop,List.length_take]; omega) (fun x hx=>hh.2 x (List.mem_of_mem_take (List.mem_of_mem_drop hx))) hn
noncomputable def tail9 (K:Kn) (n:Nat) (v1:ab) (v2:Int) (v5:Int×Int) (v11:Int) (v46:Int) (v96:List PF):Option aa :=
  (jK K n ({ v1.Style with Width:=(⟨1,(max v11 v5.1)⟩:ci),MinWidth:=bK,MaxWidth:=bK }:aG) v2).bind fun v111 =>
    (hH K n v1.Style.Height).bind fun v112 =>
    if v112.2=true then
      ia K n v1 v96 v111 (max v46 v112.1)
    else
      ia K n v1 v96 v111 v46
theorem l9_ok (hN:30000<N) (h:Lc C P dv NS.length) (hh:Ok 1048576 NS.length hv) (v1:ab) (v2:Int) (v5:Int×Int) (v11:Int) (v38:List ae) (h38:∀ t,t<C.length→List.getD v38 t default=P.getD t default) (hl38:C.length≤v38.length) (v46:Int):∀ (m t:Nat),t≤C.length→C.length<m+t →
    gM (KN (N+1)) (N+1) v1 v2 v5 v11 (tab C.length fun t=>(frM2 N C P dv ct t).2) (tab C.length (pf0 N C P dv ct)) v38 hv v46 m (t:Int) (mix t (tab C.length (pfN N C P dv ct)) (tab C.length (pf0 N C P dv ct))) (tab NS.length (rwT N C P dv ct NS hv t)) =
      tail9 (KN (N+1)) (N+1) v1 v2 v5 v11 v46 (tab NS.length (rwT N C P dv ct NS hv C.length)):=by
  have hcl:=h.cl
  have hR:=h.r
  have hml:(tab C.length (pfN N C P dv ct)).length=(tab C.length (pf0 N C P dv ct)).length:=by rw [cG,cG]
  intro m
  induction m with
  | zero=>intro t h1 h2; omega
  | succ m ih =>
    intro t h1 h2
    simp only [gM,o5]
    by_cases ht:t<C.length
    · have hp:=h.p t ht
      have hhl:=hh.1
      obtain ⟨c1,c2,c3,c4,c5⟩:=fr_ok N ct (by omega) h ht
      obtain ⟨r,er⟩:∃ r:Nat,(P.getD t default).Row=r:=⟨(P.getD t default).Row.toNat,by omega⟩
      have hr:r<NS.length:=by omega
      have em:List.getD (mix t (tab C.length (pfN N C P dv ct)) (tab C.length (pf0 N C P dv ct))) t default=pf0 N C P dv ct t:=by
        rw [jI hml (by rw [cG]; exact ht),fD ht]
      have hnone:(pf0 N C P dv ct t).2=some (frM2 N C P dv ct t).1.Kids:=rfl
      rw [iteT (by rw [cG]; omega),aF (by rw [dC hml,cG]; omega),Int.toNat_natCast,em,hnone,sb,sb,sb,sb,sb,sb]
      rw [show ((pf0 N C P dv ct t).1,none)=(tab C.length (pfN N C P dv ct)).getD t default from ((fD (f:=pfN N C P dv ct) ht).symm:pfN N C P dv ct t=_),eV hml (by rw [cG]; exact ht)]
      rw [aF (by omega),h38 t ht,bW (n:=(P.getD t default).Row+(P.getD t default).Rows) (by omega) (by omega),Sh.fX (by omega) (by omega) (by omega),bp,hsm hv hh hR _ _ (by omega),sb]
      rw [show sm (List.drop (P.getD t default).Row.toNat (List.take ((P.getD t default).Row+(P.getD t default).Rows).toNat hv))=hsM P hv t from rfl,aF (by rw [cG]; omega),fD ht,sb]
      have j6:∀ x:Int,dnM (frM2 N C P dv ct t).1.Style.VAlign (max (w64 (hsM P hv t - (frM2 N C P dv ct t).2)) 0)=x →
          jE (KN (N+1)) (N+1) v1 v2 v5 v11 (tab C.length fun t=>(frM2 N C P dv ct t).2) (tab C.length (pf0 N C P dv ct)) v38 hv v46 (t:Int) (mix t (tab C.length (pfN N C P dv ct)) (tab C.length (pf0 N C P dv ct))) (tab NS.length (rwT N C P dv ct NS hv t)) (frM2 N C P dv ct t).1.Kids (pf0 N C P dv ct t).1.Style (pf0 N C P dv ct t).1.Before (pf0 N C P dv ct t).1.After (pf0 N C P dv ct t).1.Empty (mix (t+1) (tab C.length (pfN N C P dv ct)) (tab C.length (pf0 N C P dv ct))) (hsM P hv t) (gM (KN (N+1)) (N+1) v1 v2 v5 v11 (tab C.length fun t=>(frM2 N C P dv ct t).2) (tab C.length (pf0 N C P dv ct)) v38 hv v46 m) x =
          tail9 (KN (N+1)) (N+1) v1 v2 v5 v11 v46 (tab NS.length (rwT N C P dv ct NS hv C.length)):=by
        intro x hx
        unfold jE
        have hmz:mix 0 ((frM2 N C P dv ct t).1.Kids.map (sk x)) (frM2 N C P dv ct t).1.Kids=(frM2 N C P dv ct t).1.Kids:=gr
        have h7:=l7_ok (K:=KN (N+1)) (n:=N+1) (v1:=v1) (v2:=v2) (v5:=v5) (v11:=v11) (v25:=tab C.length fun t=>(frM2 N C P dv ct t).2) (v26:=tab C.length (pf0 N C P dv ct)) (v38:=v38) (v43:=hv) (v46:=v46) (v94:=(t:Int)) (v95:=mix t (tab C.length (pfN N C P dv ct)) (tab C.length (pf0 N C P dv ct))) (v96:=tab NS.length (rwT N C P dv ct NS hv t)) (v97:=(frM2 N C P dv ct t).1.Kids) (v98:=(pf0 N C P dv ct t).1.Style) (v99:=(pf0 N C P dv ct t).1.Before) (v100:=(pf0 N C P dv ct t).1.After) (v101:=(pf0 N C P dv ct t).1.Empty) (v102:=mix (t+1) (tab C.length (pfN N C P dv ct)) (tab C.length (pf0 N C P dv ct))) (v103:=hsM P hv t) (v105:=x) (L4:=gM (KN (N+1)) (N+1) v1 v2 v5 v11 (tab C.length fun t=>(frM2 N C P dv ct t).2) (tab C.length (pf0 N C P dv ct)) v38 hv v46 m) (row:=r) (l:=kdl N C P dv ct hv t r) (by rw [Int.toNat_natCast,h38 t ht,er]) (by rw [cG]; exact hr) (by rw [fD hr]; rfl) (by have:=kdl_len N ct hv (C:=C) (P:=P) (dv:=dv) t r; omega) (by omega) (by rw [cG]; omega) (N+1) 0 (by omega) (by omega)
        rw [hmz,show ((0:Nat):Int)=0 from rfl] at h7
        rw [h7,fD hr,step64 (show t<1000000 by omega),Int.toNat_natCast,em]
        have eF:({ (pf0 N C P dv ct t).1 with H:=hsM P hv t,Style:=(pf0 N C P dv ct t).1.Style,Before:=(pf0 N C P dv ct t).1.Before,After:=(pf0 N C P dv ct t).1.After,Empty:=(pf0 N C P dv ct t).1.Empty,Kids:=(frM2 N C P dv ct t).1.Kids.map (sk x) }:aa)=FR N C P dv ct hv t:=by
          unfold FR; rw [hx]; rfl
        rw [eF,show (rwT N C P dv ct NS hv t r).1=rfM ct NS hv r from rfl,rwT_set N ct hv hr er]
        exact ih (t+1) (by omega) (by omega)
      have hva:(pf0 N C P dv ct t).1.Style.VAlign=(frM2 N C P dv ct t).1.Style.VAlign:=rfl
      by_cases k2:((pf0 N C P dv ct t).1.Style.VAlign == 2)=true
      · rw [if_pos k2]; exact j6 _ (by unfold dnM; rw [←hva,if_pos k2])
      · rw [if_neg k2]
        by_cases k1:((pf0 N C P dv ct t).1.Style.VAlign == 1)=true
        · rw [if_pos k1]; exact j6 _ (by unfold dnM; rw [←hva,if_neg k2,if_pos k1])
        · rw [if_neg k1]; exact j6 _ (by unfold dnM; rw [←hva,if_neg k2,if_neg k1])
    · have e:t=C.length:=by omega
      subst e
      rw [iteF (by rw [cG]; omega)]
      rfl
end
end Go.Proofs.Ytolhpahjgddjkaa.Tbl
namespace Go.Proofs.Ytolhpahjgddjkaa.Tbl
set_option linter.all false
open Go.RowKit
open Tb (rw col abv rowc Up up Sp heights Ok divide rA oi sz mst OkC)
open QSort (wn aF iteT iteF sb)
set_option maxRecDepth 20000
def shf (dx dy:Int) (p:PF):PF:=({ p.1 with X:=w64 (p.1.X+dx),Y:=w64 (p.1.Y+dy) },p.2)
theorem gset' {α:Type} [Inhabited α] {L:List α} {i:Nat} {a:α} (h:i<L.length):(List.set L i a).getD i default=a:=by rw [bN (by simpa using h)]; simp
theorem ssets' {α:Type} (L:List α) (i:Nat) (a b:α):List.set (List.set L i a) i b=List.set L i b:=by simp
def ofB (x:Int):aA:=⟨max x 0,min x 0⟩
theorem l11_ok {K:Kn} {n:Nat} (v1:ab) (V:List PF) (z:aS) (v113 v116 v117:Int) (v114 v115:aA) (hV:V.length≤20) (hs:∀ p∈V,p.2.isSome=true):∀ (m i:Nat),i≤V.length→V.length<m+i →
    lF K n v1 V z v113 v114 v115 v116 v117 m (i:Int) (mix i (V.map (shf (w64 (z.Border.a3+z.Padding.a3)) (w64 (z.Border.a0+z.Padding.a0)))) V) =
      some (⟨1,v1.Node,z.Margin.a3,0,v116,w64 (v113+v117),0,⟨#[]⟩,v1.Style,v114,v115,false,(V.map (shf (w64 (z.Border.a3+z.Padding.a3)) (w64 (z.Border.a0+z.Padding.a0)))).map wTBlockFragment⟩:aa):=by
  generalize hdx:w64 (z.Border.a3+z.Padding.a3)=dx
  generalize hdy:w64 (z.Border.a0+z.Padding.a0)=dy
  have hml:(V.map (shf dx dy)).length=V.length:=by simp
  intro m
  induction m with
  | zero=>intro i h1 h2; omega
  | succ m ih =>
    intro i h1 h2
    simp only [lF,oP]
    by_cases hi:i<V.length
    · have hm:=jI hml hi
      have hl:=dC (i:=i) hml
      generalize hM:mix i (V.map (shf dx dy)) V=M at *
      have hiM:i<M.length:=by omega
      rw [iteT (by omega),aF (by omega),aF (by omega),Int.toNat_natCast,hm,sb,aF (by rw [List.length_set]; omega),aF (by rw [List.length_set]; omega),gset' hiM,ssets',hdx,hdy,step64 (show i<1000000 by omega)]
      have e:(({ ({ (V.getD i default).1 with X:=w64 ((V.getD i default).1.X+dx) }:aa) with Y:=w64 ((V.getD i default).1.Y+dy) }:aa),(V.getD i default).2)=(V.map (shf dx dy)).getD i default:=(mapAt (shf dx dy) hi).symm
      rw [e,← hM,eV hml hi]
      exact ih (i+1) (by omega) (by omega)
    · have e:i=V.length:=by omega
      subst e
      rw [iteF (by omega),gt hml]
      have:(V.map (shf dx dy)).all (fun p=>p.2.isSome)=true:=List.all_eq_true.2 (fun p hp=>by
        obtain ⟨q,hq,rfl⟩:=List.mem_map.1 hp
        exact hs q hq)
      rw [this,bp]
noncomputable def endM (bn:Int) (bs:aG) (w ct y:Int) (V:List PF):aa :=
  let z:=usedM ({ bs with Width:=⟨1,ct⟩,MinWidth:=bK,MaxWidth:=bK }:aG) w
  ⟨1,bn,z.Margin.a3,0,w64 ((w64 ((w64 ((w64 (z.Content+z.Border.a1))+z.Border.a3))+z.Padding.a1))+z.Padding.a3),w64 ((if (pxM bs.Height).2=true then max y (pxM bs.Height).1 else y)+w64 ((w64 ((w64 (z.Border.a0+z.Border.a2))+z.Padding.a0))+z.Padding.a2)),0,⟨#[]⟩,bs,ofB z.Margin.a0,ofB z.Margin.a2,false,(V.map (shf (w64 (z.Border.a3+z.Padding.a3)) (w64 (z.Border.a0+z.Padding.a0)))).map wTBlockFragment⟩
theorem tail_ok {K:Kn} {n:Nat} (v1:ab) (v2:Int) (v5:Int×Int) (v11 ct:Int) (hct:max v11 v5.1=ct) (y:Int) (V:List PF) (hV:V.length≤20) (hs:∀ p∈V,p.2.isSome=true) (hn:100<n):tail9 K n v1 v2 v5 v11 y V=some (endM v1.Node v1.Style v2 ct y V):=by
  unfold tail9 endM
  rw [hct,used_def,sb,px_ok,sb]
  generalize usedM ({ v1.Style with Width:=⟨1,ct⟩,MinWidth:=bK,MaxWidth:=bK }:aG) v2=z
  have j10:∀ x:Int,ia K n v1 V z x=some ⟨1,v1.Node,z.Margin.a3,0,w64 ((w64 ((w64 ((w64 (z.Content+z.Border.a1))+z.Border.a3))+z.Padding.a1))+z.Padding.a3),w64 (x+w64 ((w64 ((w64 (z.Border.a0+z.Border.a2))+z.Padding.a0))+z.Padding.a2)),0,⟨#[]⟩,v1.Style,ofB z.Margin.a0,ofB z.Margin.a2,false,(V.map (shf (w64 (z.Border.a3+z.Padding.a3)) (w64 (z.Border.a0+z.Padding.a0)))).map wTBlockFragment⟩:=by
    intro x
    unfold ia
    simp only [gU,mc,sb]
    have:=l11_ok (K:=K) (n:=n) v1 V z x (w64 ((w64 ((w64 ((w64 (z.Content+z.Border.a1))+z.Border.a3))+z.Padding.a1))+z.Padding.a3)) (w64 ((w64 ((w64 (z.Border.a0+z.Border.a2))+z.Padding.a0))+z.Padding.a2)) (ofB z.Margin.a0) (ofB z.Margin.a2) hV hs n 0 (by omega) (by omega)
    rw [gr] at this
    exact this
  by_cases hp:(pxM v1.Style.Height).2=true
  · rw [if_pos hp,if_pos hp]; exact j10 _
  · rw [if_neg hp,if_neg hp]; exact j10 _
def NSM (b:ab):List (Int×aG):=(rowsM b).map fun r=>(r.Node,r.Style)
def lo (cols:List ak):Int:=sm (Tb.lst cols)
def xM (bs:aG) (cols:List ak) (w:Int):Int:=if (lenM bs.Width w).2=true then (lenM bs.Width w).1 else min (w64 (sz w - sumM (edgesM bs w 0))) (sm (mst cols))
def ctM (bs:aG) (cols:List ak) (w:Int):Int:=max (clampM bs w (xM bs cols w)) (lo cols)
noncomputable def hvM (N:Nat) (NS:List (Int×aG)) (C:List ab) (P:List ae) (dv:List Int) (ct:Int):List Int:=heights (P++eP NS 0) ((tab C.length fun t=>(frM2 N C P dv ct t).2)++eH NS) (List.replicate NS.length 0)
noncomputable def layM (N:Nat) (bn:Int) (bs:aG) (NS:List (Int×aG)) (C:List ab) (P:List ae) (cols:List ak) (w:Int):aa :=
  endM bn bs w (ctM bs cols w) (sm (hvM N NS C P (divide cols (ctM bs cols w)) (ctM bs cols w))) (tab NS.length (rwT N C P (divide cols (ctM bs cols w)) (ctM bs cols w) NS (hvM N NS C P (divide cols (ctM bs cols w)) (ctM bs cols w)) C.length))
theorem lenM_b (l:ci) (b:Int) : -1048576≤(lenM l b).1∧(lenM l b).1≤1048576:=by
  unfold lenM; split
  · simp only []; omega
  · split<;>simp only []<;>omega
theorem clamp_b (s:aG) (w c:Int):0≤clampM s w c∧clampM s w c≤max c 1048576:=by
  have h1:=lenM_b s.MaxWidth w
  have h2:=lenM_b s.MinWidth w
  unfold clampM
  simp only []
  split<;>split<;>omega
theorem ct_bd {b:ab} (h:Tab b) (w:Int):lo (colsM b)≤ctM b.Style (colsM b) w∧0≤ctM b.Style (colsM b) w∧ctM b.Style (colsM b) w≤20000000000:=by
  have c:=clamp_b b.Style w (xM b.Style (colsM b) w)
  have hl:(colsM b).length≤10000:=by
    rw [sc h]
    have:=kA h.sp (spsM b).length (Nat.le_refl _)
    rw [mH] at this
    have:=h.clen; omega
  have h1:=sm_bd1 (cols_l h) (by simpa [Tb.lst] using hl)
  have h2:=sm_bd1 (cols_m h) (by simpa [mst] using hl)
  have h3:=lenM_b b.Style.Width w
  have h4:xM b.Style (colsM b) w≤10485760000:=by unfold xM; split<;>omega
  unfold ctM lo at *
  omega
theorem lc_ok {b:ab} (h:Tab b) (w:Int):Lc (cellsM b) (abv (spsM b) (spsM b).length) (divide (colsM b) (ctM b.Style (colsM b) w)) (NSM b).length:=by
  have hS:=h.sp
  have hu:=up hS (spsM b).length (Nat.le_refl _)
  have hcl:=sc h
  have hcb:=kA hS (spsM b).length (Nat.le_refl _)
  have ha:=mH b
  have hn:=h.clen
  rw [ha] at hcb
  have hR:(NSM b).length=(spsM b).length:=by simp [NSM,spsM]
  refine ⟨hn,ha,h.cel,by rw [hR]; exact hS.r,by rw [oi,hcl]; omega,div_bd _ _,fun t ht=>?_⟩
  have:=hu.p _ (fk (show t<(abv (spsM b) (spsM b).length).length by omega))
  rw [oi,hcl,hR]
  omega
theorem hv_ok (N:Nat) (NS:List (Int×aG)) (hR:NS.length≤10000) (C:List ab) (P:List ae) (dv:List Int) (ct:Int):Ok 1048576 NS.length (hvM N NS C P dv ct):=by
  unfold hvM heights
  rw [List.length_replicate]
  exact (Tb.hfold_ok hR _ _ (fun i hi=>Tb.Vh.of hR (Tb.kY hi).1) (Tb.Ok.rep 1048576 (by omega) _)).1
theorem layout_ok {N:Nat} (hN:300000≤N) {b:ab} (h:Tab b) (w:Int):j4 (KN (N+1)) (N+1) b w E1=some (layM N b.Node b.Style (NSM b) (cellsM b) (abv (spsM b) (spsM b).length) (colsM b) w):=by
  have hl:(colsM b).length≤10000:=by
    rw [sc h]
    have:=kA h.sp (spsM b).length (Nat.le_refl _)
    rw [mH] at this
    have:=h.clen; omega
  have hct:=ct_bd h w
  have hlc:=lc_ok h w
  have hR:(NSM b).length≤20:=hlc.r
  have hh:=hv_ok N (NSM b) (by omega) (cellsM b) (abv (spsM b) (spsM b).length) (divide (colsM b) (ctM b.Style (colsM b) w)) (ctM b.Style (colsM b) w)
  have hcl:=hlc.cl
  have hpl:=hlc.pl
  have j1:l5 (KN (N+1)) (N+1) b w E1 ⟨rowsM b,cellsM b,abv (spsM b) (spsM b).length,colsM b⟩ (lo (colsM b),sm (mst (colsM b))) (xM b.Style (colsM b) w)=some (layM N b.Node b.Style (NSM b) (cellsM b) (abv (spsM b) (spsM b).length) (colsM b) w):=by
    unfold l5
    rw [sh,sb,show max (clampM b.Style w (xM b.Style (colsM b) w)) (lo (colsM b))=ctM b.Style (colsM b) w from rfl,rA _ _ (by omega) hl (by omega) (by omega),sb]
    have hcp:nC (KN (N+1)) (N+1) (abv (spsM b) (spsM b).length)=some (abv (spsM b) (spsM b).length):=by
      generalize abv (spsM b) (spsM b).length=l at *
      unfold nC both
      have hf:fits (([]:List ae).length+l.length) 32=true:=by rw [List.length_nil,Nat.zero_add]; exact cC (by omega) (by omega)
      rw [hf]
      cases l<;>simp [bp]
    rw [hcp,sb]
    unfold layM
    generalize abv (spsM b) (spsM b).length=P at *
    generalize hctv:ctM b.Style (colsM b) w=ct at *
    generalize divide (colsM b) ct=dv at *
    have e2:=l2_ok N ct (by omega) hlc b w ⟨rowsM b,cellsM b,P,colsM b⟩ rfl (lo (colsM b),sm (mst (colsM b))) (clampM b.Style w (xM b.Style (colsM b) w)) hctv (N+1) 0 (by omega) (by omega)
    have t0:∀ {α:Type} [Inhabited α] (f:Nat→α),tab 0 f=[]:=fun f=>rfl
    rw [t0,t0,show ((0:Nat):Int)=0 from rfl] at e2
    refine e2.trans ?_
    have e4:=l4_ok N (NS:=NSM b) (by omega) b w ⟨rowsM b,cellsM b,P,colsM b⟩ rfl hR (lo (colsM b),sm (mst (colsM b))) (clampM b.Style w (xM b.Style (colsM b) w)) (tab (cellsM b).length fun t=>(frM2 N (cellsM b) P dv ct t).2) (tab (cellsM b).length (pf0 N (cellsM b) P dv ct)) (N+1) 0 P (tab (cellsM b).length fun t=>(frM2 N (cellsM b) P dv ct t).2) (by omega) (by omega) (by omega) (by rw [cG]; omega)
    rw [List.drop_zero,show ((0:Nat):Int)=0 from rfl] at e4
    refine e4.trans ?_
    rw [show heights (P++eP (NSM b) 0) ((tab (cellsM b).length fun t=>(frM2 N (cellsM b) P dv ct t).2)++eH (NSM b)) (List.replicate (NSM b).length 0)=hvM N (NSM b) (cellsM b) P dv ct from rfl]
    generalize hvM N (NSM b) (cellsM b) P dv ct=hv at *
    have e5:=l5_ok (NS:=NSM b) ct hv hh b w ⟨rowsM b,cellsM b,P,colsM b⟩ rfl hR (lo (colsM b),sm (mst (colsM b))) (clampM b.Style w (xM b.Style (colsM b) w)) hctv (tab (cellsM b).length fun t=>(frM2 N (cellsM b) P dv ct t).2) (tab (cellsM b).length (pf0 N (cellsM b) P dv ct)) (P++eP (NSM b) 0) (K:=KN (N+1)) (n:=N+1) (N+1) 0 (by omega) (by omega)
    rw [t0,List.take_zero,show ((0:Nat):Int)=0 from rfl] at e5
    refine (show _=_ from e5).trans ?_
    have e9:=l9_ok N (NS:=NSM b) ct hv (by omega) hlc hh b w (lo (colsM b),sm (mst (colsM b))) (clampM b.Style w (xM b.Style (colsM b) w)) (P++eP (NSM b) 0) (fun t ht=>by
      rw [List.getD_eq_getElem?_getD,List.getElem?_append_left (by omega),← List.getD_eq_getElem?_getD]) (by rw [List.length_append]; omega) (sm hv) (N+1) 0 (by omega) (by omega)
    have hk0:tab (NSM b).length (rwT N (cellsM b) P dv ct (NSM b) hv 0)=tab (NSM b).length (rw0 ct (NSM b) hv):=rfl
    rw [gr,hk0,show ((0:Nat):Int)=0 from rfl] at e9
    refine e9.trans ?_
    refine tail_ok b w _ _ ct hctv (sm hv) _ (by rw [cG]; omega) (fun p hp=>?_) (by omega)
    unfold tab at hp
    obtain ⟨r,_,rfl⟩:=List.mem_map.1 hp
    rfl
  unfold j4
  rw [grid_ok hN h,sb,content_ok _ _ _ (cols_l h) (cols_m h) hl (by omega),sb,gk,sb]
  cases hw:(lenM b.Style.Width w).2 with
  | true =>
    rw [Bool.not_true,if_neg (by decide)]
    unfold xM at j1
    rw [hw,if_pos rfl] at j1
    exact j1
  | false =>
    rw [Bool.not_false,if_pos rfl,Tb.je,sb,qv,sb,mX,sb]
    unfold xM at j1
    rw [hw,if_neg (by decide)] at j1
    exact j1
end Go.Proofs.Ytolhpahjgddjkaa.Tbl
namespace Go.Proofs.Ytolhpahjgddjkaa.Tbl
set_option linter.all false
open Go.RowKit
open Tb (abv)
open QSort (wn aF iteT iteF sb)
set_option maxRecDepth 20000
theorem fit_ok (k:Nat):ox (KN (k+12)) (k+12)=some true:=by kernel_rfl
theorem fit_ok' {n:Nat} (h:12≤n):ox (KN n) n=some true:=by
  obtain ⟨k,rfl⟩:∃ k,n=k+12:=⟨n - 12,by omega⟩
  exact fit_ok k
structure Fits (L:List bM):Prop where
  len:L.length≤20∧0<L.length
  few:∀ x∈L,FewS x
theorem fits_tot (K:Kn) (n:Nat) (L:List bM) (hL:(L.length:Int)≤9223372036854775807) (hn:L.length<n):∃ b,pB K n L=some b∧(b=true→Fits L):=by
  obtain ⟨v,hv,hv2⟩:=few_tot K n L 20 hL hn
  unfold pB
  simp only [hv,Option.bind_some,mS]
  cases v with
  | false=>exact ⟨false,rfl,fun h=>by cases h⟩
  | true =>
    have h:=hv2 rfl
    simp only [if_true]
    exact ⟨_,rfl,fun e=>⟨⟨by omega,by have:=of_decide_eq_true e; omega⟩,h.2⟩⟩
theorem Fits.tree {L:List bM} (h:Fits L) {K:Kn} {n:Nat} (hn:20<n):∃ b,j7 K n L=some b∧TT b:=tree_ok h.len.1 h.len.2 (fun x hx=>(h.few x hx).text) hn
theorem TT.few {b:ab} (h:TT b):(cellsM b).length≤20:=by
  have hn:=h.n
  unfold cellsM rowsM
  rw [h.rows,rd (g:=fun r=>r.Kids) (fun r hr=>h.cells hr)]; omega
theorem layM_fd {N:Nat} (hN:20<N) {b:ab} (h:Tab b) (hc:(cellsM b).length≤20) (w:Int):Fd 4 (layM N b.Node b.Style (NSM b) (cellsM b) (abv (spsM b) (spsM b).length) (colsM b) w):=by
  have hlc:=lc_ok h w
  have hR:=hlc.r
  have hpl:=hlc.pl
  unfold layM endM
  refine ⟨by simp only [List.length_map,cG]; omega,fun k hk=>?_⟩
  obtain ⟨q,hq,rfl⟩:=List.mem_map.1 hk
  obtain ⟨p,hp,rfl⟩:=List.mem_map.1 hq
  unfold tab at hp
  obtain ⟨r,hr,rfl⟩:=List.mem_map.1 hp
  refine ⟨?_,fun k hk=>?_⟩
  · show (kdl N (cellsM b) _ _ _ _ _ r).length≤20
    have:=kdl_len N (ctM b.Style (colsM b) w) (hvM N (NSM b) (cellsM b) (abv (spsM b) (spsM b).length) (Tb.divide (colsM b) (ctM b.Style (colsM b) w)) (ctM b.Style (colsM b) w)) (C:=cellsM b) (P:=abv (spsM b) (spsM b).length) (dv:=Tb.divide (colsM b) (ctM b.Style (colsM b) w)) (cellsM b).length r
    omega
  · have hk':k∈kdl N (cellsM b) (abv (spsM b) (spsM b).length) (Tb.divide (colsM b) (ctM b.Style (colsM b) w)) (ctM b.Style (colsM b) w) (hvM N (NSM b) (cellsM b) (abv (spsM b) (spsM b).length) (Tb.divide (colsM b) (ctM b.Style (colsM b) w)) (ctM b.Style (colsM b) w)) (cellsM b).length r:=hk
    unfold kdl at hk'
    obtain ⟨t,ht,rfl⟩:=List.mem_map.1 hk'
    have ht':=List.mem_range.1 (List.mem_filter.1 ht).1
    obtain ⟨_,_,_,c4,c5⟩:=fr_ok N (ctM b.Style (colsM b) w) hN hlc ht'
    refine ⟨by unfold FR; simp only [List.length_map]; omega,fun x hx=>?_⟩
    unfold FR at hx
    obtain ⟨y,hy,rfl⟩:=List.mem_map.1 hx
    refine ⟨?_,fun z hz=>?_⟩
    · show y.Kids.length≤20
      rw [c5 y hy]; simp
    · have hz':z∈y.Kids:=hz
      rw [c5 y hy] at hz'; cases hz'
end Go.Proofs.Ytolhpahjgddjkaa.Tbl
namespace Go.Proofs.Ytolhpahjgddjkaa.QTableOthers
set_option linter.all false
open Go.RowKit
open Tbl
open QSort (wn aF iteT iteF sb)
set_option maxRecDepth 20000
theorem lay_eq {b o:ab} (N:Nat) (w:Int) (hn:o.Node=b.Node) (hs:o.Style=b.Style) (h1:NSM o=NSM b) (h2:cellsM o=cellsM b) (h3:spsM o=spsM b) :
    layM N o.Node o.Style (NSM o) (cellsM o) (Tb.abv (spsM o) (spsM o).length) (colsM o) w=layM N b.Node b.Style (NSM b) (cellsM b) (Tb.abv (spsM b) (spsM b).length) (colsM b) w:=by
  have hc:colsM o=colsM b:=by unfold colsM; rw [h2,h3]
  rw [hn,hs,h1,h2,h3,hc]
theorem other_rows {b o:ab} (hT:Tab b) (hn:o.Node=b.Node) (hs:o.Style=b.Style) (hl:o.Kids.length≤1000) (A D:List ab) (row row':ab) (hb:rowsM b=A++row::D) (ho:rowsM o=A++row'::D) (e1:row'.Node=row.Node) (e2:row'.Style=row.Style) (e3:kdM row' 9=kdM row 9) (e4:row'.Kids.length≤1000) :
    Tab o∧NSM o=NSM b∧cellsM o=cellsM b∧spsM o=spsM b:=by
  have h1:NSM o=NSM b:=by unfold NSM; rw [hb,ho]; simp [e1,e2]
  have h2:cellsM o=cellsM b:=by unfold cellsM; rw [hb,ho]; simp [e3]
  have h3:spsM o=spsM b:=by unfold spsM; rw [hb,ho]; simp [spr,e3]
  refine ⟨⟨hl,?_,fun r hr=>?_,?_⟩,h1,h2,h3⟩
  · have:(rowsM o).length=(rowsM b).length:=by rw [hb,ho]; simp
    have h:=hT.r
    show (rowsM o).length≤20
    rw [this]; exact h
  · have hr':r∈rowsM o:=hr
    rw [ho] at hr'
    have key:∀ x,x∈A++row::D→x.Kids.length≤1000∧(kdM x 9).length≤20∧∀ c∈kdM x 9,Cel c:=fun x hx=>hT.k x (by rw [←hb] at hx; exact hx)
    rcases List.mem_append.1 hr' with h | h
    · exact key r (by simp [h])
    · rcases List.mem_cons.1 h with rfl | h
      · have:=key row (by simp)
        rw [e3]
        exact ⟨e4,this.2⟩
      · exact key r (by simp [h])
  · show (cellsM o).length≤90
    rw [h2]; exact hT.t
theorem other_same {b o:ab} (hT:Tab b) (hl:o.Kids.length≤1000) (ho:rowsM o=rowsM b):Tab o∧NSM o=NSM b∧cellsM o=cellsM b∧spsM o=spsM b:=by
  have h2:cellsM o=cellsM b:=by unfold cellsM; rw [ho]
  refine ⟨⟨hl,?_,fun r hr=>hT.k r ?_,?_⟩,by unfold NSM; rw [ho],h2,by unfold spsM; rw [ho]⟩
  · show (rowsM o).length≤20
    rw [ho]; exact hT.r
  · have hr':r∈rowsM o:=hr
    rw [ho] at hr'; exact hr'
  · show (cellsM o).length≤90
    rw [h2]; exact hT.t
theorem holds (x0:List bM) (x1 x2:Int) (h0:HasT Try.prog 45 ((eSl bX) x0)) (h1:HasT Try.prog 3 ((eInt .i64) x1)) (h2:HasT Try.prog 5 ((eInt .u8) x2)):∃ n,qo (KN n) n x0 x1 x2=some true:=by
  obtain ⟨l,hl,hm,_⟩:=h0.sl_inv Try.underlying45
  simp only [eSl,List.cons.injEq,AV.sl.injEq,and_true] at hl
  have hlen:l.length=x0.length:=by rw [←hl,List.length_map]
  have hm':l.length≤9223372036854775807:=hm
  obtain ⟨k2,hk2,hw⟩:=h2.int_inv Try.underlying5
  simp only [eInt,List.cons.injEq,AV.int.injEq,and_true,true_and] at hk2
  subst hk2
  have hx2:0≤x2∧x2≤255:=by simpa [Lit.wf,IntKind.min,IntKind.max,IntKind.signed,IntKind.bits] using hw
  refine ⟨x0.length+300000+1,?_⟩
  generalize hNe:x0.length+300000=N
  have hN:300000≤N:=by omega
  unfold qo
  rw [fit_ok' (by omega),sb,Bool.not_true,if_neg (by decide)]
  obtain ⟨v,hv,hv2⟩:=fits_tot (KN (N+1)) (N+1) x0 (by omega) (by omega)
  rw [hv,sb]
  cases v with
  | false=>rfl
  | true =>
    rw [Bool.not_true,if_neg (by decide)]
    obtain ⟨b,hb,hT⟩:=(hv2 rfl).tree (K:=KN (N+1)) (n:=N+1) (by omega)
    have hn:=hT.n
    have hA:=hT.tab
    rw [hb,sb,bW (n:=(b.Kids.length:Int)+1) (by omega) (by omega),bW (n:=x2) (by omega) (by omega)]
    have ne:(((b.Kids.length:Int)+1) != 0)=true:=by rw [bne_iff_ne]; omega
    rw [ne,bp,sb]
    obtain ⟨k,hk⟩:∃ k:Nat,Int.tmod x2 ((b.Kids.length:Int)+1)=k:=⟨(Int.tmod x2 ((b.Kids.length:Int)+1)).toNat,by have:=Int.tmod_nonneg ((b.Kids.length:Int)+1) hx2.1; omega⟩
    have hkl:k≤b.Kids.length:=by have:=Int.tmod_lt_of_pos x2 (show (0:Int)<(b.Kids.length:Int)+1 by omega); omega
    rw [hk,Sh.fX (by omega) (by omega) (by omega),bp]
    simp only [Int.toNat_natCast,Int.toNat_zero,List.drop_zero,List.nil_append,List.length_nil,Nat.zero_add,List.take_length]
    rw [cC (by rw [List.length_take]; omega) (by omega),bp,cC (by simp; omega) (by omega),bp,Sh.fX (by omega) (by omega) (by omega),bp,cC (by simp; omega) (by omega),bp,sb]
    have hfd:=layM_fd (N:=N) (by omega) hA hT.few x1
    have j1:∀ o:List ab,(Tab ({ b with Kids:=o }:ab)∧NSM ({ b with Kids:=o }:ab)=NSM b∧cellsM ({ b with Kids:=o }:ab)=cellsM b∧spsM ({ b with Kids:=o }:ab)=spsM b)→j9 (KN (N+1)) (N+1) x1 b o=some true:=by
      intro o ⟨t1,t2,t3,t4⟩
      unfold j9 jw
      rw [sb,show (⟨(Fv.fn 53),(Fv.fn 54),(Fv.fn 55),(Fv.fn 56)⟩:bv)=E1 from rfl,layout_ok hN hA x1,sb,sb,layout_ok hN t1 x1,sb,lay_eq (b:=b) (o:=({ b with Kids:=o }:ab)) N x1 rfl rfl t2 t3 t4,same_self 4 (N+1) (N+1) _ hfd (by omega) (by omega) (by omega),sb]
    have hrows:rowsM b=b.Kids:=hT.rows
    have fl:∀ l:List ab,(∀ x∈l,x∈b.Kids)→l.filter (fun x=>x.Kind == 8)=l:=fun l h=>rB (fun x hx=>by rw [(hT.k x (h x hx)).1]; rfl)
    by_cases hlt:k<b.Kids.length
    · rw [iteT (by omega),aF (by omega),cC (by have:=mem_le (b:=b) (fk hlt); simp only [List.length_singleton]; omega) (by omega),bp,sb,bW (n:=(k:Int)+1) (by omega) (by omega),aF (by simp; omega)]
      have hd:List.drop k b.Kids=b.Kids.getD k default::List.drop (k+1) b.Kids:=drop_at' hlt
      have hs:List.set ((List.take k b.Kids++[({ bD with Kind:=1,Node:=9 }:ab)])++List.drop k b.Kids) ((k:Int)+1).toNat ({ b.Kids.getD k default with Kids:=[({ bD with Kind:=3,Text:=⟨#[120]⟩ }:ab)]++(b.Kids.getD k default).Kids }:ab)=(List.take k b.Kids++[({ bD with Kind:=1,Node:=9 }:ab)])++({ b.Kids.getD k default with Kids:=[({ bD with Kind:=3,Text:=⟨#[120]⟩ }:ab)]++(b.Kids.getD k default).Kids }:ab)::List.drop (k+1) b.Kids:=by
        rw [hd,List.set_append_right _ _ (by simp; omega)]
        have:((k:Int)+1).toNat - (List.take k b.Kids++[({ bD with Kind:=1,Node:=9 }:ab)]).length=0:=by simp; omega
        rw [this]; rfl
      rw [hs]
      have hm:=mem_le (b:=b) (fk hlt)
      refine j1 _ (other_rows hA rfl rfl (by simp; omega) (List.take k b.Kids) (List.drop (k+1) b.Kids) (b.Kids.getD k default) ({ b.Kids.getD k default with Kids:=[({ bD with Kind:=3,Text:=⟨#[120]⟩ }:ab)]++(b.Kids.getD k default).Kids }:ab) (by rw [hrows,← hd,List.take_append_drop]) ?_ rfl rfl ?_ (by simp only [List.length_append,List.length_singleton]; omega))
      · unfold rowsM kdM
        have k8:((b.Kids.getD k default).Kind == 8)=true:=by rw [(hT.k _ (fk hlt)).1]; rfl
        simp only [List.filter_append,List.filter_cons,List.filter_nil,k8,if_true]
        rw [fl _ (fun x hx=>List.mem_of_mem_take hx),fl _ (fun x hx=>List.mem_of_mem_drop hx)]
        simp
      · unfold kdM
        simp only [List.filter_append,List.filter_cons,List.filter_nil]
        simp
    · obtain rfl:k=b.Kids.length:=by omega
      rw [iteF (by omega)]
      refine j1 _ (other_same hA (by simp; omega) ?_)
      rw [hrows]
      unfold rowsM kdM
      simp only [List.filter_append,List.filter_cons,List.filter_nil,List.take_length,List.drop_length]
      rw [fl _ (fun x hx=>hx)]
      try simp
end Go.Proofs.Ytolhpahjgddjkaa.QTableOthers
