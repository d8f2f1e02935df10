/- Tables, plain: the tables that descriptions describe. No program in sight. -/
import Derived.Test.YtolhpahjgddjkaaCcZ41
import Derived.Test.YtolhpahjgddjkaaCcGop
namespace Go.Proofs.Ytolhpahjgddjkaa.Tbl
set_option linter.all false
open Go.RowKit
open QSort (wn aE iteT iteF sb)
set_option maxRecDepth 20000
theorem both_same {α:Type} {x y:Option α} (h:x=y):both true x y=y:=by unfold both; simp [h]
def Cl (c:ab):Prop:=c.Kind=9∧∃ t,c.Kids=[t]∧t.Kind=3∧(t.Text.size:Int)≤60
def Rp (p:ab×Option (List ab)):Prop:=p.1.Kind=8∧∃ ks,p.2=some ks∧∀ c∈ks,Cl c
def cnt:List (ab×Option (List ab))→Nat
  | []=>0
  | p::r=>(p.2.getD []).length+1+cnt r
theorem qF:∀ a b,cnt (a++b)=cnt a+cnt b
  | [],b=>by simp [cnt]
  | p::r,b=>by simp only [List.cons_append,cnt,qF r b]; omega
theorem cnt_len:∀ a:List (ab×Option (List ab)),a.length≤cnt a
  | []=>by simp [cnt]
  | p::r=>by have:=cnt_len r; simp only [cnt,List.length_cons]; omega
variable {K:Kn} {n:Nat}
theorem tree_loop {L:List bN} (hL:L.length≤20) (ht:∀ x∈L,(x.Text.size:Int)≤60):∀ (m i:Nat) (v:List (ab×Option (List ab))),1≤i→i≤L.length→L.length<m+i→(∀ p∈v,Rp p)→cnt v<i →
    ∃ w,(∀ p∈w,Rp p)∧cnt w<L.length∧gk K n L m (i:Int) v=some (⟨7,10,(L.getD (0:Int).toNat default).Style,⟨#[]⟩,0,0,w.map wTBoxtreeBox⟩:ab):=by
  intro m
  induction m with
  | zero=>intro i v h0 h1 h2; omega
  | succ m ih =>
    intro i v h0 h1 h2 hv hc
    simp only [gk,oX]
    have hvl:=cnt_len v
    by_cases hi:i<L.length
    · rw [iteT (by omega),aE (by omega),Int.toNat_natCast]
      have htx:=ht _ (ey hi)
      have row:gS K n L (i:Int) v (gk K n L m) true=gk K n L m ((i+1:Nat):Int) (v++[(({ cf with Kind:=8,Node:=(w64 (10+(i:Int))),Style:=(List.getD L ((i:Int)).toNat default).Style }:ab),some [])]):=by
        unfold gS jK
        rw [if_pos rfl,cP (by omega) (by omega),bx,step64 (show i<1000000 by omega)]
      have rowc:∃ w,(∀ p∈w,Rp p)∧cnt w<L.length∧gS K n L (i:Int) v (gk K n L m) true=some (⟨7,10,(L.getD (0:Int).toNat default).Style,⟨#[]⟩,0,0,w.map wTBoxtreeBox⟩:ab):=by
        rw [row]
        refine ih (i+1) _ (by omega) (by omega) (by omega) (fun p hp=>?_) ?_
        · rcases List.mem_append.1 hp with hp | hp
          · exact hv p hp
          · obtain rfl:=List.mem_singleton.1 hp
            exact ⟨rfl,[],rfl,fun c hc=>by cases hc⟩
        · rw [qF]; simp only [cnt,Option.getD_some,List.length_nil]; omega
      by_cases hk:((Int.tmod ((List.getD L i default).Kind) 4) == 0)=true
      · rw [if_pos hk]; exact rowc
      · rw [if_neg hk]
        by_cases h0v:v=[]
        · subst h0v; exact rowc
        · obtain ⟨A,q,rfl⟩:∃ A q,v=A++[q]:=⟨v.dropLast,v.getLast h0v,(List.dropLast_concat_getLast h0v).symm⟩
          obtain ⟨hq1,ks,hq2,hq3⟩:=hv q (by simp)
          have hcq:cnt [q]=ks.length+1:=by simp [cnt,hq2]
          rw [qF,hcq] at hc
          have hA:=cnt_len A
          have e0:(((A++[q]).length:Int) == 0)=false:=by simp; omega
          have e1:w64 (((A++[q]).length:Int) - 1)=(A.length:Int):=wn (k:=A.length) (by simp) (by omega)
          have e2:(A++[q]).getD A.length default=q:=by simp [List.getD_eq_getElem?_getD]
          have e3:∀ x,List.set (A++[q]) A.length x=A++[x]:=fun x=>by rw [List.set_append_right _ _ (Nat.le_refl _)]; simp
          rw [e0]
          unfold gS jK
          rw [if_neg (by decide),cP (by simp) (by omega),bx]
          simp only [e1,Int.toNat_natCast,e2,e3,hq2,sb]
          have i1:inb (A.length:Int) (A++[q]).length=true:=jN (by omega) (by simp; omega)
          have i2:∀ z:ab,inb (ks.length:Int) (ks++[z]).length=true:=fun z=>jN (by omega) (by simp; omega)
          have f1:∀ z:ab,fits (ks.length+[z].length) 520=true:=fun z=>cP (by simp; omega) (by omega)
          have e4:∀ x z:ab,List.set (ks++[z]) ks.length x=ks++[x]:=fun x z=>by rw [List.set_append_right _ _ (Nat.le_refl _)]; simp
          simp only [i1,i2,f1,bx,e4]
          rw [both_same rfl,step64 (show i<1000000 by omega)]
          refine ih (i+1) _ (by omega) (by omega) (by omega) (fun p hp=>?_) ?_
          · rcases List.mem_append.1 hp with hp | hp
            · exact hv p (by simp [hp])
            · obtain rfl:=List.mem_singleton.1 hp
              refine ⟨hq1,_,rfl,fun c hc=>?_⟩
              rcases List.mem_append.1 hc with hc | hc
              · exact hq3 c hc
              · obtain rfl:=List.mem_singleton.1 hc
                exact ⟨rfl,_,rfl,rfl,htx⟩
          · rw [qF]; simp only [cnt,Option.getD_some,List.length_append,List.length_singleton]; omega
    · have e:i=L.length:=by omega
      subst e
      rw [iteF (by omega)]
      refine ⟨v,hv,hc,?_⟩
      have:v.all (fun p=>p.2.isSome)=true:=List.all_eq_true.2 (fun p hp=>by obtain ⟨_,ks,e,_⟩:=hv p hp; rw [e]; rfl)
      rw [this,bx]
structure TT (b:ab):Prop where
  k:∀ r∈b.Kids,r.Kind=8∧∀ c∈r.Kids,Cl c
  n:b.Kids.length+(b.Kids.flatMap fun r=>r.Kids).length≤20
theorem cnt_flat:∀ w:List (ab×Option (List ab)),(w.map wTBoxtreeBox).length+((w.map wTBoxtreeBox).flatMap fun r=>r.Kids).length=cnt w
  | []=>by simp [cnt]
  | p::r=>by
    have:=cnt_flat r
    simp only [List.map_cons,List.length_cons,List.flatMap_cons,List.length_append,cnt,wTBoxtreeBox] at this ⊢
    omega
theorem tree_ok {L:List bN} (hL:L.length≤20) (h0:0<L.length) (ht:∀ x∈L,(x.Text.size:Int)≤60) (hn:20<n):∃ b,md K n L=some b∧TT b:=by
  unfold md
  rw [aE (by omega)]
  obtain ⟨w,h1,h2,h3⟩:=tree_loop (K:=K) (n:=n) hL ht n 1 [] (by omega) (by omega) (by omega) (by simp) (by simp [cnt])
  refine ⟨_,h3,fun r hr=>?_,?_⟩
  · obtain ⟨p,hp,rfl⟩:=List.mem_map.1 hr
    obtain ⟨q1,ks,q2,q3⟩:=h1 p hp
    refine ⟨q1,fun c hc=>q3 c ?_⟩
    simpa [wTBoxtreeBox,q2] using hc
  · have:=cnt_flat w
    show (w.map wTBoxtreeBox).length+((w.map wTBoxtreeBox).flatMap fun r=>r.Kids).length≤20
    omega
theorem mem_le {b r:ab}:∀ {l:List ab},r∈l→r.Kids.length≤(l.flatMap fun r=>r.Kids).length
  | a::l,h=>by
    rw [List.flatMap_cons,List.length_append]
    rcases List.mem_cons.1 h with rfl | h
    · omega
    · have:=mem_le (b:=b) h; omega
theorem filter_all {α:Type} {p:α→Bool} {l:List α} (h:∀ x∈l,p x=true):l.filter p=l:=List.filter_eq_self.2 h
theorem TT.rows {b:ab} (h:TT b):kdM b 8=b.Kids:=filter_all (fun r hr=>by rw [(h.k r hr).1]; rfl)
theorem TT.cells {b:ab} (h:TT b) {r:ab} (hr:r∈b.Kids):kdM r 9=r.Kids:=filter_all (fun c hc=>by rw [((h.k r hr).2 c hc).1]; rfl)
theorem rN {α β:Type} {f g:α→List β}:∀ {l:List α},(∀ x∈l,f x=g x)→l.flatMap f=l.flatMap g
  | [],_=>rfl
  | a::l,h=>by rw [List.flatMap_cons,List.flatMap_cons,h a (by simp),rN (fun x hx=>h x (by simp [hx]))]
theorem Cl.cel {c:ab} (h:Cl c):Cel c:=by
  obtain ⟨_,t,h1,h2,_⟩:=h
  exact ⟨t,h1,h2⟩
theorem TT.tab {b:ab} (h:TT b):Tab b:=by
  have hn:=h.n
  refine ⟨by omega,by rw [h.rows]; omega,fun r hr=>?_,?_⟩
  · rw [h.rows] at hr
    have:=mem_le (b:=b) hr
    rw [h.cells hr]
    exact ⟨by omega,by omega,fun c hc=>((h.k r hr).2 c hc).cel⟩
  · rw [h.rows,rN (g:=fun r=>r.Kids) (fun r hr=>h.cells hr)]; omega
end Go.Proofs.Ytolhpahjgddjkaa.Tbl
namespace Go.Proofs.Ytolhpahjgddjkaa.Tbl
set_option linter.all false
open Go.RowKit
open Tb
open Sh (share wts lim mx cK d6 c7 nY fm eb kS oD qG)
open QSort (wn aE iteT iteF sb)
set_option maxRecDepth 20000
theorem sm_tab (A P:List Int):∀ i,i≤A.length→i≤P.length→sm (tab i fun k=>A.getD k default+P.getD k default)=sm (A.take i)+sm (P.take i):=by
  intro i
  induction i with
  | zero=>intro _ _; rfl
  | succ i ih =>
    intro h1 h2
    rw [l8,ff,ih (by omega) (by omega),Sh.gV (by omega),Sh.gV (by omega)]; simp [sm]; omega
theorem qY {A P:List Int} (h:A.length=P.length):sm (adds A P)=sm A+sm P:=by
  unfold adds; rw [sm_tab A P A.length (by omega) (by omega),List.take_length,h,List.take_length]
theorem div_ge (L:List am) (w:Int) {k:Nat} (hk:k<L.length):cA (L.getD k default)≤(divide L w).getD k default:=by
  have bc:=c_bd (L.getD k default)
  unfold divide
  split
  · rw [dk hk]; omega
  · split
    · rw [gz (by simpa using hk),dk hk]
      have:=gX (dn (w - sm (L.map cA))) (fun x hx=>(fI fR L x hx).1) k (by simpa using hk)
      omega
    · rw [gz (by simpa using hk),dk hk]
      have:=gX (dn (w - sm (L.map cB))) (fun x hx=>(gb (fI fB L) x hx).1) k (by rw [dZ]; simpa using hk)
      omega
theorem div_bd (L:List am) (w:Int):∀ x∈divide L w,0≤x∧x≤2097153:=by
  intro x hx
  obtain ⟨k,hk,rfl⟩:=List.mem_iff_getElem.1 hx
  rw [lx] at hk
  rw [←bO]
  have h1:=div_ge L w hk
  have bc:=c_bd (L.getD k default)
  refine ⟨by omega,?_⟩
  unfold divide
  split
  · rw [dk hk]; omega
  · split
    · rw [gz (by simpa using hk),dk hk]
      have:=gX (dn (w - sm (L.map cA))) (fun x hx=>(fI fR L x hx).1) k (by simpa using hk)
      omega
    · rw [gz (by simpa using hk),dk hk]
      have:=gX (dn (w - sm (L.map cB))) (fun x hx=>(gb (fI fB L) x hx).1) k (by rw [dZ]; simpa using hk)
      omega
theorem div_total (L:List am) (w:Int) (hl:L.length≤10000):sm (divide L w)≤max w (sm (L.map cA)):=by
  have nn:∀ (f:am→Int),(∀ c,0≤f c∧f c≤1048576)→∀ x∈L.map f,0≤x:=fun f hf x hx=>(fI hf L x hx).1
  unfold divide
  split
  · omega
  · rename_i h1
    split
    · rename_i h2
      rw [qY (by rw [eb]; simp)]
      have hz:=dn (w - sm (L.map cA))
      by_cases h0:sm (L.map cR)=0
      · rw [qG h0,kS]; omega
      · rw [oD (nn cR fR) h0 (by simpa using hl)]
        unfold sz at *; omega
    · rename_i h2
      rw [qY (by rw [eb,dZ])]
      by_cases h0:sm (eqw (L.map cB))=0
      · rw [qG h0,kS]; omega
      · rw [oD (fun x hx=>(gb (fI fB L) x hx).1) h0 (by rw [dZ]; simpa using hl)]
        unfold sz; omega
theorem grid_bd {b:ab} (h:Tab b):OkC (col (spsM b) (spsM b).length).toNat (demands (abv (spsM b) (spsM b).length) ((cellsM b).map wc) (col (spsM b) (spsM b).length).toNat):=by
  have hcb:=jU h.sp (spsM b).length (Nat.le_refl _)
  rw [jd] at hcb
  have:=h.clen
  refine (dfold_ok (by omega) _ _ (fun i hi=>Vd.of (by omega) (mf hi).1) (OkC.rep _)).1
theorem qU {b:ab} (h:Tab b):(colsM b).length=(col (spsM b) (spsM b).length).toNat:=by
  unfold colsM; rw [List.length_map]; exact (grid_bd h).len
theorem fin_lst (C:List am):Tb.lst (C.map fin)=Tb.lst C:=by unfold Tb.lst; rw [List.map_map]; rfl
theorem cols_l {b:ab} (h:Tab b):Bd (Tb.lst (colsM b)):=by unfold colsM; rw [fin_lst]; exact (grid_bd h).l
theorem cols_m {b:ab} (h:Tab b):Bd (mst (colsM b)):=by
  have g:=grid_bd h
  intro x hx
  unfold colsM mst at hx
  rw [List.map_map] at hx
  obtain ⟨c,hc,rfl⟩:=List.mem_map.1 hx
  have h1:=g.l c.Least (List.mem_map.2 ⟨c,hc,rfl⟩)
  have h2:=g.m c.Most (List.mem_map.2 ⟨c,hc,rfl⟩)
  simp only [Function.comp,fin]; omega
theorem cA_lst {L:List am} (h:Bd (Tb.lst L)):L.map cA=Tb.lst L:=List.map_congr_left (fun c hc=>by
  have:=h c.Least (List.mem_map.2 ⟨c,hc,rfl⟩)
  unfold cA sz; omega)
theorem sm_bd1 {l:List Int} (h:Bd l) (hl:l.length≤10000):0≤sm l∧sm l≤10485760000:=by
  have h1:=cK l (fun x hx=>(h x hx).1)
  have h2:=d6 (c:=1048576) l (fun x hx=>(h x hx).2)
  have:(l.length:Int)*1048576≤10000*1048576:=Int.mul_le_mul_of_nonneg_right (by omega) (by omega)
  omega
theorem sm_tk (f:am→Int) {L:List am} {i:Nat} (h:i<L.length):sm ((L.map f).take (i+1))=sm ((L.map f).take i)+f (L.getD i default):=Tb.rL h
theorem bd_take {l:List Int} (h:Bd l) (i:Nat):Bd (l.take i):=fun x hx=>h x (List.mem_of_mem_take hx)
theorem content_loop (K:Kn) (n:Nat) (g:bp) (h1:Bd (Tb.lst g.columns)) (h2:Bd (mst g.columns)) (hl:g.columns.length≤10000):∀ (m i:Nat),i≤g.columns.length→g.columns.length<m+i →
    mm K n g m (sm ((Tb.lst g.columns).take i)) (sm ((mst g.columns).take i)) (i:Int)=some (sm (Tb.lst g.columns),sm (mst g.columns)):=by
  have l1:(Tb.lst g.columns).length=g.columns.length:=by simp [Tb.lst]
  have l2:(mst g.columns).length=g.columns.length:=by simp [mst]
  intro m
  induction m with
  | zero=>intro i h1 h2; omega
  | succ m ih =>
    intro i h3 h4
    simp only [mm,oY]
    by_cases hi:i<g.columns.length
    · have a1:=sm_bd1 (bd_take h1 i) (by rw [List.length_take]; omega)
      have a2:=sm_bd1 (bd_take h2 i) (by rw [List.length_take]; omega)
      have c1:=h1.at (k:=i) (by omega)
      have c2:=h2.at (k:=i) (by omega)
      have e1:(Tb.lst g.columns).getD i default=(g.columns.getD i default).Least:=Tb.dk hi
      have e2:(mst g.columns).getD i default=(g.columns.getD i default).Most:=Tb.dk hi
      rw [iteT (by omega),aE (by omega),Int.toNat_natCast,step64 (show i<1000000 by omega),← e1,← e2,b9 (n:=sm ((Tb.lst g.columns).take i)+(Tb.lst g.columns).getD i default) (by omega) (by omega),b9 (by omega) (by omega),e1,e2]
      have s1:=sm_tk (·.Least) hi
      have s2:=sm_tk (·.Most) hi
      rw [show g.columns.map (·.Least)=Tb.lst g.columns from rfl] at s1
      rw [show g.columns.map (·.Most)=mst g.columns from rfl] at s2
      rw [←s1,← s2]
      exact ih (i+1) (by omega) (by omega)
    · have e:i=g.columns.length:=by omega
      subst e
      rw [iteF (by omega),List.take_of_length_le (by omega),List.take_of_length_le (by omega)]
theorem content_ok (K:Kn) (n:Nat) (g:bp) (h1:Bd (Tb.lst g.columns)) (h2:Bd (mst g.columns)) (hl:g.columns.length≤10000) (hn:10000<n):qy K n g=some (sm (Tb.lst g.columns),sm (mst g.columns)):=by
  have:=content_loop K n g h1 h2 hl n 0 (by omega) (by omega)
  simp only [List.take_zero] at this
  exact this
end Go.Proofs.Ytolhpahjgddjkaa.Tbl
namespace Go.Proofs.Ytolhpahjgddjkaa.Tbl
set_option linter.all false
open Go.RowKit
open Tb (heights heights_ok Ok qg divide rR lx)
open QSort (wn aE iteT iteF sb)
set_option maxRecDepth 20000
abbrev PF:=aa×Option (List aa)
theorem mapAt {α β:Type} [Inhabited α] [Inhabited β] (f:α→β) {l:List α} {k:Nat} (hk:k<l.length):(l.map f).getD k default=f (l.getD k default):=by
  rw [bO (by simpa using hk),bO hk]; simp
def sk (d:Int) (k:aa):aa:={ k with Y:=w64 (k.Y+d) }
def dnM (va x:Int):Int:=if (va == 2)=true then x else if (va == 1)=true then w64 (Int.tdiv x 2) else 0
section
variable {K:Kn} {n:Nat} {v1:ab} {v2:Int} {v5:Int×Int} {v11:Int} {v25:List Int} {v26:List PF} {v38:List ae} {v43:List Int} {v46 v94:Int} {v95 v96:List PF} {v97:List aa} {v98:aG} {v99 v100:aB} {v101:Bool} {v102:List PF} {v103 v105:Int} {L4:Int→List PF→List PF→Option aa}
theorem l7_ok {row:Nat} {l:List aa} (hrow:(List.getD v38 v94.toNat default).Row=(row:Int)) (hr:row<v96.length) (hl:(List.getD v96 row default).2=some l) (hlen:l.length≤1000) (h97:v97.length≤1000) (h96:v96.length≤1000):∀ (m i:Nat),i≤v97.length→v97.length<m+i →
    mu K n v1 v2 v5 v11 v25 v26 v38 v43 v46 v94 v95 v96 v97 v98 v99 v100 v101 v102 v103 v105 L4 m (i:Int) (mix i (v97.map (sk v105)) v97) =
      L4 (w64 (v94+1)) v102 (List.set v96 row ((List.getD v96 row default).1,some (l++[({ ((List.getD v95 (v94).toNat default).1) with H:=v103,Style:=v98,Before:=v99,After:=v100,Empty:=v101,Kids:=v97.map (sk v105) }:aa)]))):=by
  have hml:(v97.map (sk v105)).length=v97.length:=by simp
  intro m
  induction m with
  | zero=>intro i h1 h2; omega
  | succ m ih =>
    intro i h1 h2
    simp only [mu,pF]
    by_cases hi:i<v97.length
    · have e:=mapAt (sk v105) hi
      rw [iteT (by omega),aE (by rw [dK hml]; omega),aE (by rw [dK hml]; omega),Int.toNat_natCast,jO hml hi,step64 (show i<1000000 by omega)]
      rw [show ({ List.getD v97 i default with Y:=w64 ((List.getD v97 i default).Y+v105) }:aa)=(v97.map (sk v105)).getD i default from e.symm,eM hml hi]
      exact ih (i+1) (by omega) (by omega)
    · have e:i=v97.length:=by omega
      subst e
      rw [iteF (by omega),gn hml]
      have i1:inb (row:Int) v96.length=true:=jN (by omega) (by omega)
      have i2:∀ z:aa,inb (l.length:Int) (l++[z]).length=true:=fun z=>jN (by omega) (by simp; omega)
      have f1:∀ z:aa,fits (l.length+[z].length) 584=true:=fun z=>cP (by simp; omega) (by omega)
      have e4:∀ x z:aa,List.set (l++[z]) l.length x=l++[x]:=fun x z=>by rw [List.set_append_right _ _ (Nat.le_refl _)]; simp
      simp only [hrow,i1,Int.toNat_natCast,hl,sb,i2,f1,bx,e4,o9]
      exact both_same rfl
end
structure Lc (C:List ab) (P:List ae) (dv:List Int) (R:Nat):Prop where
  cl:C.length≤90
  pl:P.length=C.length
  cel:∀ c∈C,Cel c
  r:R≤20
  dl:dv.length≤10000
  d:∀ x∈dv,0≤x∧x≤2097153
  p:∀ t,t<C.length→0≤(P.getD t default).Row∧1≤(P.getD t default).Rows∧(P.getD t default).Row+(P.getD t default).Rows≤R∧0≤(P.getD t default).Col∧1≤(P.getD t default).Cols∧(P.getD t default).Col+(P.getD t default).Cols≤dv.length
section
variable (N:Nat) (C:List ab) (P:List ae) (dv:List Int) (ct:Int) (NS:List (Int×aG)) (hv:List Int)
noncomputable def wdM (t:Nat):Int:=sm (List.drop (P.getD t default).Col.toNat (List.take ((P.getD t default).Col+(P.getD t default).Cols).toNat dv))
noncomputable def frM2 (t:Nat):aa×Int:=(jI (KN (N+1)) (N+1) (C.getD t default) ct (wdM P dv t) E1).getD default
noncomputable def f0 (t:Nat):aa:={ (frM2 N C P dv ct t).1 with X:=sm (List.take (P.getD t default).Col.toNat dv),Y:=0,Kids:=[] }
noncomputable def pf0 (t:Nat):PF:=(f0 N C P dv ct t,some (frM2 N C P dv ct t).1.Kids)
noncomputable def pfN (t:Nat):PF:=(f0 N C P dv ct t,none)
noncomputable def hsM (t:Nat):Int:=sm (List.drop (P.getD t default).Row.toNat (List.take ((P.getD t default).Row+(P.getD t default).Rows).toNat hv))
noncomputable def FR (t:Nat):aa:={ f0 N C P dv ct t with H:=hsM P hv t,Kids:=(frM2 N C P dv ct t).1.Kids.map (sk (dnM (frM2 N C P dv ct t).1.Style.VAlign (max (w64 (hsM P hv t - (frM2 N C P dv ct t).2)) 0))) }
noncomputable def kdl (t r:Nat):List aa:=((List.range t).filter fun j=>decide ((P.getD j default).Row=(r:Int))).map (FR N C P dv ct hv)
noncomputable def rfM (r:Nat):aa:={ aX with Kind:=1,Node:=(NS.getD r default).1,Y:=sm (hv.take r),W:=ct,H:=hv.getD r default,Style:=(NS.getD r default).2 }
noncomputable def rw0 (r:Nat):PF:=(rfM ct NS hv r,some [])
noncomputable def rwT (t r:Nat):PF:=(rfM ct NS hv r,some (kdl N C P dv ct hv t r))
def eP:List (Int×aG)→Nat→List ae
  | [],_=>[]
  | q::l,i=>if (pxM q.2.Height).2=true then ⟨i,0,1,1⟩::eP l (i+1) else eP l (i+1)
def eH:List (Int×aG)→List Int
  | []=>[]
  | q::l=>if (pxM q.2.Height).2=true then (pxM q.2.Height).1::eH l else eH l
variable {C P dv NS}
theorem fr_ok {R:Nat} (hN:20<N) (h:Lc C P dv R) {t:Nat} (ht:t<C.length):jI (KN (N+1)) (N+1) (C.getD t default) ct (wdM P dv t) E1=some (frM2 N C P dv ct t)∧(frM2 N C P dv ct t).1.Node=(C.getD t default).Node∧(frM2 N C P dv ct t).1.W=wdM P dv t∧(frM2 N C P dv ct t).1.Kids.length≤1∧∀ x∈(frM2 N C P dv ct t).1.Kids,x.Kids=[]:=by
  obtain ⟨f,hh,e,h1,h2,h3,h4,h5⟩:=cell_ok hN (h.cel _ (ey ht)) ct (wdM P dv t)
  have:frM2 N C P dv ct t=(f,hh):=by unfold frM2; rw [e]; rfl
  rw [this]
  exact ⟨e,h1,h2,h4,h5⟩
theorem dsm {R:Nat} (h:Lc C P dv R) (a b:Nat) {K:Kn} {n:Nat} (hn:10001<n):fN K n (List.drop a (List.take b dv))=some (sm (List.drop a (List.take b dv))) :=
  qg (c:=2097153) (by omega) _ (by have:=h.dl; rw [List.length_drop,List.length_take]; omega) (fun x hx=>h.d x (List.mem_of_mem_take (List.mem_of_mem_drop hx))) hn
theorem l2_ok {R:Nat} (hN:20000<N) (h:Lc C P dv R) (v1:ab) (v2:Int) (g:bp) (hg:g.cells=C) (v5:Int×Int) (v11:Int) (hct:max v11 v5.1=ct):∀ (m i:Nat),i≤C.length→C.length<m+i →
    kI (KN (N+1)) (N+1) v1 v2 E1 g v5 v11 dv P m (i:Int) (tab i fun t=>(frM2 N C P dv ct t).2) (tab i (pf0 N C P dv ct)) =
      jl (KN (N+1)) (N+1) v1 v2 g v5 v11 (tab C.length fun t=>(frM2 N C P dv ct t).2) (tab C.length (pf0 N C P dv ct)) (N+1) 0 P (tab C.length fun t=>(frM2 N C P dv ct t).2):=by
  have hcl:=h.cl
  intro m
  induction m with
  | zero=>intro i h1 h2; omega
  | succ m ih =>
    intro i h1 h2
    simp only [kI,n6,hg,hct]
    by_cases hi:i<C.length
    · have hp:=h.p i hi
      have hpl:=h.pl
      have hdl:=h.dl
      obtain ⟨c1,_⟩:=fr_ok N ct (by omega) h hi
      rw [iteT (by omega),aE (by omega),aE (by omega),Int.toNat_natCast,b9 (n:=(P.getD i default).Col+(P.getD i default).Cols) (by omega) (by omega),Sh.gT (by omega) (by omega) (by omega),bx,dsm h _ _ (by omega),sb]
      rw [show sm (List.drop (P.getD i default).Col.toNat (List.take ((P.getD i default).Col+(P.getD i default).Cols).toNat dv))=wdM P dv i from rfl,c1,sb,Sh.gT (by omega) (by omega) (by omega),bx,dsm h _ _ (by omega),sb,cP (by rw [cJ]; omega) (by omega),bx,sb,cP (by simp [cJ]; omega) (by omega),bx,step64 (show i<1000000 by omega)]
      have e1:(tab i fun t=>(frM2 N C P dv ct t).2)++[(frM2 N C P dv ct i).2]=tab (i+1) fun t=>(frM2 N C P dv ct t).2:=(l8).symm
      have e2:tab i (pf0 N C P dv ct)++[pf0 N C P dv ct i]=tab (i+1) (pf0 N C P dv ct):=(l8).symm
      rw [e1,show ((({ (frM2 N C P dv ct i).1 with X:=sm (List.drop (0:Int).toNat (List.take (P.getD i default).Col.toNat dv)),Y:=0,Kids:=[] }:aa),some (frM2 N C P dv ct i).1.Kids):PF)=pf0 N C P dv ct i from rfl,e2]
      exact ih (i+1) (by omega) (by omega)
    · have e:i=C.length:=by omega
      subst e
      rw [iteF (by omega)]
      have:mM (KN (N+1)) (N+1) (tab C.length fun t=>(frM2 N C P dv ct t).2)=some (tab C.length fun t=>(frM2 N C P dv ct t).2):=by
        have hl:(tab C.length fun t=>(frM2 N C P dv ct t).2).length≤90:=by rw [cJ]; omega
        generalize (tab C.length fun t=>(frM2 N C P dv ct t).2)=l at *
        unfold mM both
        have hf:fits (([]:List Int).length+l.length) 8=true:=by rw [List.length_nil,Nat.zero_add]; exact cP (by omega) (by omega)
        rw [hf]
        cases l<;>simp [bx]
      rw [this,sb]
theorem l4_ok (hN:30000<N) (v1:ab) (v2:Int) (g:bp) (hg:g.rows.map (fun r=>(r.Node,r.Style))=NS) (hR:NS.length≤20) (v5:Int×Int) (v11:Int) (v25:List Int) (v26:List PF):∀ (m i:Nat) (a:List ae) (c:List Int),i≤NS.length→NS.length<m+i→a.length≤1000+i→c.length≤1000+i →
    jl (KN (N+1)) (N+1) v1 v2 g v5 v11 v25 v26 m (i:Int) a c =
      jG (KN (N+1)) (N+1) v1 v2 g v5 v11 v25 v26 (a++eP (NS.drop i) i) (heights (a++eP (NS.drop i) i) (c++eH (NS.drop i)) (List.replicate NS.length 0)) (N+1) 0 0 []:=by
  have hgl:g.rows.length=NS.length:=by rw [←hg,List.length_map]
  intro m
  induction m with
  | zero=>intro i a c h1 h2; omega
  | succ m ih =>
    intro i a c h1 h2 h3 h4
    simp only [jl,nJ,hgl]
    by_cases hi:i<NS.length
    · have e:(NS.getD i default).2=(g.rows.getD i default).Style:=by
        rw [←hg,mapAt (fun r:ab=>(r.Node,r.Style)) (by omega)]
      rw [iteT (by omega),aE (by omega),Int.toNat_natCast,px_ok,sb,drop_at' hi,← e]
      unfold eP eH
      unfold mT
      by_cases hp:(pxM (NS.getD i default).2.Height).2=true
      · simp only [hp,if_true]
        rw [cP (by simp; omega) (by omega),bx,cP (by simp; omega) (by omega),bx,step64 (show i<1000000 by omega),ih (i+1) _ _ (by omega) (by omega) (by simp; omega) (by simp; omega)]
        simp only [List.append_assoc,List.singleton_append]
      · simp only [hp,if_false,Bool.false_eq_true]
        rw [step64 (show i<1000000 by omega)]
        exact ih (i+1) _ _ (by omega) (by omega) (by omega) (by omega)
    · have e:i=NS.length:=by omega
      subst e
      rw [iteF (by omega)]
      simp only [List.drop_length,eP,eH,List.append_nil]
      rw [heights_ok a c (NS.length:Int) (by omega) (by omega) (by omega) (by omega),sb,show (max (NS.length:Int) 0).toNat=NS.length by omega]
theorem ok_sum {R:Nat} (hh:Ok 1048576 R hv) (hR:R≤20) (i:Nat):0≤sm (hv.take i)∧sm (hv.take i)≤20971520:=by
  have h1:=Sh.cK (hv.take i) (fun x hx=>(hh.2 x (List.mem_of_mem_take hx)).1)
  have h2:=Sh.d6 (c:=1048576) (hv.take i) (fun x hx=>(hh.2 x (List.mem_of_mem_take hx)).2)
  have hl:(hv.take i).length≤20:=by rw [List.length_take,hh.1]; omega
  have:((hv.take i).length:Int)*1048576≤20*1048576:=Int.mul_le_mul_of_nonneg_right (by omega) (by omega)
  omega
theorem l5_ok (hh:Ok 1048576 NS.length hv) (v1:ab) (v2:Int) (g:bp) (hg:g.rows.map (fun r=>(r.Node,r.Style))=NS) (hR:NS.length≤20) (v5:Int×Int) (v11:Int) (hct:max v11 v5.1=ct) (v25:List Int) (v26:List PF) (v38:List ae) {K:Kn} {n:Nat}:∀ (m i:Nat),i≤NS.length→NS.length<m+i →
    jG K n v1 v2 g v5 v11 v25 v26 v38 hv m (sm (hv.take i)) (i:Int) (tab i (rw0 ct NS hv)) =
      gl K n v1 v2 v5 v11 v25 v26 v38 hv (sm hv) n 0 v26 (tab NS.length (rw0 ct NS hv)):=by
  have hgl:g.rows.length=NS.length:=by rw [←hg,List.length_map]
  have hl:=hh.1
  intro m
  induction m with
  | zero=>intro i h1 h2; omega
  | succ m ih =>
    intro i h1 h2
    simp only [jG,pr,hgl,hct]
    by_cases hi:i<NS.length
    · have e:NS.getD i default=((g.rows.getD i default).Node,(g.rows.getD i default).Style):=by
        rw [←hg,mapAt (fun r:ab=>(r.Node,r.Style)) (by omega)]
      have b1:=ok_sum hv hh hR i
      have b2:=hh.at hi
      have e3:sm (hv.take (i+1))=sm (hv.take i)+hv.getD i default:=by
        have:=sm_step hv (a:=0) (i:=i) (by omega) (by omega)
        simpa using this
      rw [iteT (by omega),aE (by omega),aE (by omega),cP (by rw [cJ]; omega) (by omega),bx,sb,aE (by omega),Int.toNat_natCast,b9 (n:=sm (hv.take i)+hv.getD i default) (by omega) (by omega),step64 (show i<1000000 by omega),← e3]
      have e2:tab i (rw0 ct NS hv)++[rw0 ct NS hv i]=tab (i+1) (rw0 ct NS hv):=(l8).symm
      have e4:rw0 ct NS hv i=(({ aX with Kind:=1,Node:=(g.rows.getD i default).Node,Y:=sm (hv.take i),W:=ct,H:=hv.getD i default,Style:=(g.rows.getD i default).Style }:aa),some []):=by
        unfold rw0 rfM; rw [e]
      rw [←e4,e2]
      exact ih (i+1) (by omega) (by omega)
    · have e:i=NS.length:=by omega
      subst e
      rw [iteF (by omega),List.take_of_length_le (by omega)]
theorem kdl_succ (t r:Nat):kdl N C P dv ct hv (t+1) r=kdl N C P dv ct hv t r++(if (P.getD t default).Row=(r:Int) then [FR N C P dv ct hv t] else []):=by
  unfold kdl
  rw [List.range_succ,List.filter_append,List.map_append]
  congr 1
  by_cases h:(P.getD t default).Row=(r:Int)
  · rw [if_pos h,List.filter_cons_of_pos (by exact decide_eq_true h)]; rfl
  · rw [if_neg h,List.filter_cons_of_neg (by simpa using h)]; rfl
theorem kdl_len (t r:Nat):(kdl N C P dv ct hv t r).length≤t:=by
  unfold kdl
  rw [List.length_map]
  have:=List.length_filter_le (fun j=>decide ((P.getD j default).Row=(r:Int))) (List.range t)
  rw [List.length_range] at this; exact this
theorem rwT_set {R t r:Nat} (hr:r<R) (h:(P.getD t default).Row=(r:Int)):List.set (tab R (rwT N C P dv ct NS hv t)) r (rfM ct NS hv r,some (kdl N C P dv ct hv t r++[FR N C P dv ct hv t]))=tab R (rwT N C P dv ct NS hv (t+1)):=by
  refine gE (by simp [cJ]) (fun k hk=>?_)
  rw [cJ] at hk
  rw [eu hk]
  by_cases e:k=r
  · subst e
    rw [bO (by rw [List.length_set,cJ]; exact hk),List.getElem_set_self]
    unfold rwT
    rw [kdl_succ,if_pos h]
  · rw [List.getD_eq_getElem?_getD,List.getElem?_set_ne (Ne.symm e),← List.getD_eq_getElem?_getD,eu hk]
    unfold rwT
    rw [kdl_succ,if_neg (by omega),List.append_nil]
theorem hsm {R:Nat} (hh:Ok 1048576 R hv) (hR:R≤20) (a b:Nat) {K:Kn} {n:Nat} (hn:10001<n):fN K n (List.drop a (List.take b hv))=some (sm (List.drop a (List.take b hv))) :=
  qg (c:=1048576) (by omega) _ (by have:=hh.1; rw [List.length_drop,List.length_take]; omega) (fun x hx=>hh.2 x (List.mem_of_mem_take (List.mem_of_mem_drop hx))) hn
noncomputable def tail9 (K:Kn) (n:Nat) (v1:ab) (v2:Int) (v5:Int×Int) (v11:Int) (v46:Int) (v96:List PF):Option aa :=
  (jg K n ({ v1.Style with Width:=(⟨1,(max v11 v5.1)⟩:cn),MinWidth:=bH,MaxWidth:=bH }:aG) v2).bind fun v111 =>
    (iE K n v1.Style.Height).bind fun v112 =>
    if v112.2=true then
      gR K n v1 v96 v111 (max v46 v112.1)
    else
      gR K n v1 v96 v111 v46
theorem l9_ok (hN:30000<N) (h:Lc C P dv NS.length) (hh:Ok 1048576 NS.length hv) (v1:ab) (v2:Int) (v5:Int×Int) (v11:Int) (v38:List ae) (h38:∀ t,t<C.length→List.getD v38 t default=P.getD t default) (hl38:C.length≤v38.length) (v46:Int):∀ (m t:Nat),t≤C.length→C.length<m+t →
    gl (KN (N+1)) (N+1) v1 v2 v5 v11 (tab C.length fun t=>(frM2 N C P dv ct t).2) (tab C.length (pf0 N C P dv ct)) v38 hv v46 m (t:Int) (mix t (tab C.length (pfN N C P dv ct)) (tab C.length (pf0 N C P dv ct))) (tab NS.length (rwT N C P dv ct NS hv t)) =
      tail9 (KN (N+1)) (N+1) v1 v2 v5 v11 v46 (tab NS.length (rwT N C P dv ct NS hv C.length)):=by
  have hcl:=h.cl
  have hR:=h.r
  have hml:(tab C.length (pfN N C P dv ct)).length=(tab C.length (pf0 N C P dv ct)).length:=by rw [cJ,cJ]
  intro m
  induction m with
  | zero=>intro t h1 h2; omega
  | succ m ih =>
    intro t h1 h2
    simp only [gl,oN]
    by_cases ht:t<C.length
    · have hp:=h.p t ht
      have hhl:=hh.1
      obtain ⟨c1,c2,c3,c4,c5⟩:=fr_ok N ct (by omega) h ht
      obtain ⟨r,er⟩:∃ r:Nat,(P.getD t default).Row=r:=⟨(P.getD t default).Row.toNat,by omega⟩
      have hr:r<NS.length:=by omega
      have em:List.getD (mix t (tab C.length (pfN N C P dv ct)) (tab C.length (pf0 N C P dv ct))) t default=pf0 N C P dv ct t:=by
        rw [jO hml (by rw [cJ]; exact ht),eu ht]
      have hnone:(pf0 N C P dv ct t).2=some (frM2 N C P dv ct t).1.Kids:=rfl
      rw [iteT (by rw [cJ]; omega),aE (by rw [dK hml,cJ]; omega),Int.toNat_natCast,em,hnone,sb,sb,sb,sb,sb,sb]
      rw [show ((pf0 N C P dv ct t).1,none)=(tab C.length (pfN N C P dv ct)).getD t default from ((eu (f:=pfN N C P dv ct) ht).symm:pfN N C P dv ct t=_),eM hml (by rw [cJ]; exact ht)]
      rw [aE (by omega),h38 t ht,b9 (n:=(P.getD t default).Row+(P.getD t default).Rows) (by omega) (by omega),Sh.gT (by omega) (by omega) (by omega),bx,hsm hv hh hR _ _ (by omega),sb]
      rw [show sm (List.drop (P.getD t default).Row.toNat (List.take ((P.getD t default).Row+(P.getD t default).Rows).toNat hv))=hsM P hv t from rfl,aE (by rw [cJ]; omega),eu ht,sb]
      have j6:∀ x:Int,dnM (frM2 N C P dv ct t).1.Style.VAlign (max (w64 (hsM P hv t - (frM2 N C P dv ct t).2)) 0)=x →
          ja (KN (N+1)) (N+1) v1 v2 v5 v11 (tab C.length fun t=>(frM2 N C P dv ct t).2) (tab C.length (pf0 N C P dv ct)) v38 hv v46 (t:Int) (mix t (tab C.length (pfN N C P dv ct)) (tab C.length (pf0 N C P dv ct))) (tab NS.length (rwT N C P dv ct NS hv t)) (frM2 N C P dv ct t).1.Kids (pf0 N C P dv ct t).1.Style (pf0 N C P dv ct t).1.Before (pf0 N C P dv ct t).1.After (pf0 N C P dv ct t).1.Empty (mix (t+1) (tab C.length (pfN N C P dv ct)) (tab C.length (pf0 N C P dv ct))) (hsM P hv t) (gl (KN (N+1)) (N+1) v1 v2 v5 v11 (tab C.length fun t=>(frM2 N C P dv ct t).2) (tab C.length (pf0 N C P dv ct)) v38 hv v46 m) x =
          tail9 (KN (N+1)) (N+1) v1 v2 v5 v11 v46 (tab NS.length (rwT N C P dv ct NS hv C.length)):=by
        intro x hx
        unfold ja
        have hmz:mix 0 ((frM2 N C P dv ct t).1.Kids.map (sk x)) (frM2 N C P dv ct t).1.Kids=(frM2 N C P dv ct t).1.Kids:=gC
        have h7:=l7_ok (K:=KN (N+1)) (n:=N+1) (v1:=v1) (v2:=v2) (v5:=v5) (v11:=v11) (v25:=tab C.length fun t=>(frM2 N C P dv ct t).2) (v26:=tab C.length (pf0 N C P dv ct)) (v38:=v38) (v43:=hv) (v46:=v46) (v94:=(t:Int)) (v95:=mix t (tab C.length (pfN N C P dv ct)) (tab C.length (pf0 N C P dv ct))) (v96:=tab NS.length (rwT N C P dv ct NS hv t)) (v97:=(frM2 N C P dv ct t).1.Kids) (v98:=(pf0 N C P dv ct t).1.Style) (v99:=(pf0 N C P dv ct t).1.Before) (v100:=(pf0 N C P dv ct t).1.After) (v101:=(pf0 N C P dv ct t).1.Empty) (v102:=mix (t+1) (tab C.length (pfN N C P dv ct)) (tab C.length (pf0 N C P dv ct))) (v103:=hsM P hv t) (v105:=x) (L4:=gl (KN (N+1)) (N+1) v1 v2 v5 v11 (tab C.length fun t=>(frM2 N C P dv ct t).2) (tab C.length (pf0 N C P dv ct)) v38 hv v46 m) (row:=r) (l:=kdl N C P dv ct hv t r) (by rw [Int.toNat_natCast,h38 t ht,er]) (by rw [cJ]; exact hr) (by rw [eu hr]; rfl) (by have:=kdl_len N ct hv (C:=C) (P:=P) (dv:=dv) t r; omega) (by omega) (by rw [cJ]; omega) (N+1) 0 (by omega) (by omega)
        rw [hmz,show ((0:Nat):Int)=0 from rfl] at h7
        rw [h7,eu hr,step64 (show t<1000000 by omega),Int.toNat_natCast,em]
        have eF:({ (pf0 N C P dv ct t).1 with H:=hsM P hv t,Style:=(pf0 N C P dv ct t).1.Style,Before:=(pf0 N C P dv ct t).1.Before,After:=(pf0 N C P dv ct t).1.After,Empty:=(pf0 N C P dv ct t).1.Empty,Kids:=(frM2 N C P dv ct t).1.Kids.map (sk x) }:aa)=FR N C P dv ct hv t:=by
          unfold FR; rw [hx]; rfl
        rw [eF,show (rwT N C P dv ct NS hv t r).1=rfM ct NS hv r from rfl,rwT_set N ct hv hr er]
        exact ih (t+1) (by omega) (by omega)
      have hva:(pf0 N C P dv ct t).1.Style.VAlign=(frM2 N C P dv ct t).1.Style.VAlign:=rfl
      by_cases k2:((pf0 N C P dv ct t).1.Style.VAlign == 2)=true
      · rw [if_pos k2]; exact j6 _ (by unfold dnM; rw [←hva,if_pos k2])
      · rw [if_neg k2]
        by_cases k1:((pf0 N C P dv ct t).1.Style.VAlign == 1)=true
        · rw [if_pos k1]; exact j6 _ (by unfold dnM; rw [←hva,if_neg k2,if_pos k1])
        · rw [if_neg k1]; exact j6 _ (by unfold dnM; rw [←hva,if_neg k2,if_neg k1])
    · have e:t=C.length:=by omega
      subst e
      rw [iteF (by rw [cJ]; omega)]
      rfl
end
end Go.Proofs.Ytolhpahjgddjkaa.Tbl
namespace Go.Proofs.Ytolhpahjgddjkaa.Tbl
set_option linter.all false
open Go.RowKit
open Tb (rw col abv rowc Up up Sp heights Ok divide rR lx sz mst OkC)
open QSort (wn aE iteT iteF sb)
set_option maxRecDepth 20000
def shf (dx dy:Int) (p:PF):PF:=({ p.1 with X:=w64 (p.1.X+dx),Y:=w64 (p.1.Y+dy) },p.2)
theorem gset' {α:Type} [Inhabited α] {L:List α} {i:Nat} {a:α} (h:i<L.length):(List.set L i a).getD i default=a:=by rw [bO (by simpa using h)]; simp
theorem ssets' {α:Type} (L:List α) (i:Nat) (a b:α):List.set (List.set L i a) i b=List.set L i b:=by simp
def ofB (x:Int):aB:=⟨max x 0,min x 0⟩
theorem l11_ok {K:Kn} {n:Nat} (v1:ab) (V:List PF) (z:aS) (v113 v116 v117:Int) (v114 v115:aB) (hV:V.length≤20) (hs:∀ p∈V,p.2.isSome=true):∀ (m i:Nat),i≤V.length→V.length<m+i →
    kw K n v1 V z v113 v114 v115 v116 v117 m (i:Int) (mix i (V.map (shf (w64 (z.Border.a3+z.Padding.a3)) (w64 (z.Border.a0+z.Padding.a0)))) V) =
      some (⟨1,v1.Node,z.Margin.a3,0,v116,w64 (v113+v117),0,⟨#[]⟩,v1.Style,v114,v115,false,(V.map (shf (w64 (z.Border.a3+z.Padding.a3)) (w64 (z.Border.a0+z.Padding.a0)))).map wTBlockFragment⟩:aa):=by
  generalize hdx:w64 (z.Border.a3+z.Padding.a3)=dx
  generalize hdy:w64 (z.Border.a0+z.Padding.a0)=dy
  have hml:(V.map (shf dx dy)).length=V.length:=by simp
  intro m
  induction m with
  | zero=>intro i h1 h2; omega
  | succ m ih =>
    intro i h1 h2
    simp only [kw,pu]
    by_cases hi:i<V.length
    · have hm:=jO hml hi
      have hl:=dK (i:=i) hml
      generalize hM:mix i (V.map (shf dx dy)) V=M at *
      have hiM:i<M.length:=by omega
      rw [iteT (by omega),aE (by omega),aE (by omega),Int.toNat_natCast,hm,sb,aE (by rw [List.length_set]; omega),aE (by rw [List.length_set]; omega),gset' hiM,ssets',hdx,hdy,step64 (show i<1000000 by omega)]
      have e:(({ ({ (V.getD i default).1 with X:=w64 ((V.getD i default).1.X+dx) }:aa) with Y:=w64 ((V.getD i default).1.Y+dy) }:aa),(V.getD i default).2)=(V.map (shf dx dy)).getD i default:=(mapAt (shf dx dy) hi).symm
      rw [e,← hM,eM hml hi]
      exact ih (i+1) (by omega) (by omega)
    · have e:i=V.length:=by omega
      subst e
      rw [iteF (by omega),gn hml]
      have:(V.map (shf dx dy)).all (fun p=>p.2.isSome)=true:=List.all_eq_true.2 (fun p hp=>by
        obtain ⟨q,hq,rfl⟩:=List.mem_map.1 hp
        exact hs q hq)
      rw [this,bx]
noncomputable def endM (bn:Int) (bs:aG) (w ct y:Int) (V:List PF):aa :=
  let z:=usedM ({ bs with Width:=⟨1,ct⟩,MinWidth:=bH,MaxWidth:=bH }:aG) w
  ⟨1,bn,z.Margin.a3,0,w64 ((w64 ((w64 ((w64 (z.Content+z.Border.a1))+z.Border.a3))+z.Padding.a1))+z.Padding.a3),w64 ((if (pxM bs.Height).2=true then max y (pxM bs.Height).1 else y)+w64 ((w64 ((w64 (z.Border.a0+z.Border.a2))+z.Padding.a0))+z.Padding.a2)),0,⟨#[]⟩,bs,ofB z.Margin.a0,ofB z.Margin.a2,false,(V.map (shf (w64 (z.Border.a3+z.Padding.a3)) (w64 (z.Border.a0+z.Padding.a0)))).map wTBlockFragment⟩
theorem tail_ok {K:Kn} {n:Nat} (v1:ab) (v2:Int) (v5:Int×Int) (v11 ct:Int) (hct:max v11 v5.1=ct) (y:Int) (V:List PF) (hV:V.length≤20) (hs:∀ p∈V,p.2.isSome=true) (hn:100<n):tail9 K n v1 v2 v5 v11 y V=some (endM v1.Node v1.Style v2 ct y V):=by
  unfold tail9 endM
  rw [hct,used_def,sb,px_ok,sb]
  generalize usedM ({ v1.Style with Width:=⟨1,ct⟩,MinWidth:=bH,MaxWidth:=bH }:aG) v2=z
  have j10:∀ x:Int,gR K n v1 V z x=some ⟨1,v1.Node,z.Margin.a3,0,w64 ((w64 ((w64 ((w64 (z.Content+z.Border.a1))+z.Border.a3))+z.Padding.a1))+z.Padding.a3),w64 (x+w64 ((w64 ((w64 (z.Border.a0+z.Border.a2))+z.Padding.a0))+z.Padding.a2)),0,⟨#[]⟩,v1.Style,ofB z.Margin.a0,ofB z.Margin.a2,false,(V.map (shf (w64 (z.Border.a3+z.Padding.a3)) (w64 (z.Border.a0+z.Padding.a0)))).map wTBlockFragment⟩:=by
    intro x
    unfold gR
    simp only [iT,l9,sb]
    have:=l11_ok (K:=K) (n:=n) v1 V z x (w64 ((w64 ((w64 ((w64 (z.Content+z.Border.a1))+z.Border.a3))+z.Padding.a1))+z.Padding.a3)) (w64 ((w64 ((w64 (z.Border.a0+z.Border.a2))+z.Padding.a0))+z.Padding.a2)) (ofB z.Margin.a0) (ofB z.Margin.a2) hV hs n 0 (by omega) (by omega)
    rw [gC] at this
    exact this
  by_cases hp:(pxM v1.Style.Height).2=true
  · rw [if_pos hp,if_pos hp]; exact j10 _
  · rw [if_neg hp,if_neg hp]; exact j10 _
def NSM (b:ab):List (Int×aG):=(rowsM b).map fun r=>(r.Node,r.Style)
def lo (cols:List am):Int:=sm (Tb.lst cols)
def xM (bs:aG) (cols:List am) (w:Int):Int:=if (lenM bs.Width w).2=true then (lenM bs.Width w).1 else min (w64 (sz w - sumM (edgesM bs w 0))) (sm (mst cols))
def ctM (bs:aG) (cols:List am) (w:Int):Int:=max (clampM bs w (xM bs cols w)) (lo cols)
noncomputable def hvM (N:Nat) (NS:List (Int×aG)) (C:List ab) (P:List ae) (dv:List Int) (ct:Int):List Int:=heights (P++eP NS 0) ((tab C.length fun t=>(frM2 N C P dv ct t).2)++eH NS) (List.replicate NS.length 0)
noncomputable def layM (N:Nat) (bn:Int) (bs:aG) (NS:List (Int×aG)) (C:List ab) (P:List ae) (cols:List am) (w:Int):aa :=
  endM bn bs w (ctM bs cols w) (sm (hvM N NS C P (divide cols (ctM bs cols w)) (ctM bs cols w))) (tab NS.length (rwT N C P (divide cols (ctM bs cols w)) (ctM bs cols w) NS (hvM N NS C P (divide cols (ctM bs cols w)) (ctM bs cols w)) C.length))
theorem lenM_b (l:cn) (b:Int) : -1048576≤(lenM l b).1∧(lenM l b).1≤1048576:=by
  unfold lenM; split
  · simp only []; omega
  · split<;>simp only []<;>omega
theorem clamp_b (s:aG) (w c:Int):0≤clampM s w c∧clampM s w c≤max c 1048576:=by
  have h1:=lenM_b s.MaxWidth w
  have h2:=lenM_b s.MinWidth w
  unfold clampM
  simp only []
  split<;>split<;>omega
theorem ct_bd {b:ab} (h:Tab b) (w:Int):lo (colsM b)≤ctM b.Style (colsM b) w∧0≤ctM b.Style (colsM b) w∧ctM b.Style (colsM b) w≤20000000000:=by
  have c:=clamp_b b.Style w (xM b.Style (colsM b) w)
  have hl:(colsM b).length≤10000:=by
    rw [qU h]
    have:=jU h.sp (spsM b).length (Nat.le_refl _)
    rw [jd] at this
    have:=h.clen; omega
  have h1:=sm_bd1 (cols_l h) (by simpa [Tb.lst] using hl)
  have h2:=sm_bd1 (cols_m h) (by simpa [mst] using hl)
  have h3:=lenM_b b.Style.Width w
  have h4:xM b.Style (colsM b) w≤10485760000:=by unfold xM; split<;>omega
  unfold ctM lo at *
  omega
theorem lc_ok {b:ab} (h:Tab b) (w:Int):Lc (cellsM b) (abv (spsM b) (spsM b).length) (divide (colsM b) (ctM b.Style (colsM b) w)) (NSM b).length:=by
  have hS:=h.sp
  have hu:=up hS (spsM b).length (Nat.le_refl _)
  have hcl:=qU h
  have hcb:=jU hS (spsM b).length (Nat.le_refl _)
  have ha:=jd b
  have hn:=h.clen
  rw [ha] at hcb
  have hR:(NSM b).length=(spsM b).length:=by simp [NSM,spsM]
  refine ⟨hn,ha,h.cel,by rw [hR]; exact hS.r,by rw [lx,hcl]; omega,div_bd _ _,fun t ht=>?_⟩
  have:=hu.p _ (ey (show t<(abv (spsM b) (spsM b).length).length by omega))
  rw [lx,hcl,hR]
  omega
theorem hv_ok (N:Nat) (NS:List (Int×aG)) (hR:NS.length≤10000) (C:List ab) (P:List ae) (dv:List Int) (ct:Int):Ok 1048576 NS.length (hvM N NS C P dv ct):=by
  unfold hvM heights
  rw [List.length_replicate]
  exact (Tb.hfold_ok hR _ _ (fun i hi=>Tb.Vh.of hR (Tb.mf hi).1) (Tb.Ok.rep 1048576 (by omega) _)).1
theorem layout_ok {N:Nat} (hN:300000≤N) {b:ab} (h:Tab b) (w:Int):pg (KN (N+1)) (N+1) b w E1=some (layM N b.Node b.Style (NSM b) (cellsM b) (abv (spsM b) (spsM b).length) (colsM b) w):=by
  have hl:(colsM b).length≤10000:=by
    rw [qU h]
    have:=jU h.sp (spsM b).length (Nat.le_refl _)
    rw [jd] at this
    have:=h.clen; omega
  have hct:=ct_bd h w
  have hlc:=lc_ok h w
  have hR:(NSM b).length≤20:=hlc.r
  have hh:=hv_ok N (NSM b) (by omega) (cellsM b) (abv (spsM b) (spsM b).length) (divide (colsM b) (ctM b.Style (colsM b) w)) (ctM b.Style (colsM b) w)
  have hcl:=hlc.cl
  have hpl:=hlc.pl
  have j1:lO (KN (N+1)) (N+1) b w E1 ⟨rowsM b,cellsM b,abv (spsM b) (spsM b).length,colsM b⟩ (lo (colsM b),sm (mst (colsM b))) (xM b.Style (colsM b) w)=some (layM N b.Node b.Style (NSM b) (cellsM b) (abv (spsM b) (spsM b).length) (colsM b) w):=by
    unfold lO
    rw [rM,sb,show max (clampM b.Style w (xM b.Style (colsM b) w)) (lo (colsM b))=ctM b.Style (colsM b) w from rfl,rR _ _ (by omega) hl (by omega) (by omega),sb]
    have hcp:nr (KN (N+1)) (N+1) (abv (spsM b) (spsM b).length)=some (abv (spsM b) (spsM b).length):=by
      generalize abv (spsM b) (spsM b).length=l at *
      unfold nr both
      have hf:fits (([]:List ae).length+l.length) 32=true:=by rw [List.length_nil,Nat.zero_add]; exact cP (by omega) (by omega)
      rw [hf]
      cases l<;>simp [bx]
    rw [hcp,sb]
    unfold layM
    generalize abv (spsM b) (spsM b).length=P at *
    generalize hctv:ctM b.Style (colsM b) w=ct at *
    generalize divide (colsM b) ct=dv at *
    have e2:=l2_ok N ct (by omega) hlc b w ⟨rowsM b,cellsM b,P,colsM b⟩ rfl (lo (colsM b),sm (mst (colsM b))) (clampM b.Style w (xM b.Style (colsM b) w)) hctv (N+1) 0 (by omega) (by omega)
    have t0:∀ {α:Type} [Inhabited α] (f:Nat→α),tab 0 f=[]:=fun f=>rfl
    rw [t0,t0,show ((0:Nat):Int)=0 from rfl] at e2
    refine e2.trans ?_
    have e4:=l4_ok N (NS:=NSM b) (by omega) b w ⟨rowsM b,cellsM b,P,colsM b⟩ rfl hR (lo (colsM b),sm (mst (colsM b))) (clampM b.Style w (xM b.Style (colsM b) w)) (tab (cellsM b).length fun t=>(frM2 N (cellsM b) P dv ct t).2) (tab (cellsM b).length (pf0 N (cellsM b) P dv ct)) (N+1) 0 P (tab (cellsM b).length fun t=>(frM2 N (cellsM b) P dv ct t).2) (by omega) (by omega) (by omega) (by rw [cJ]; omega)
    rw [List.drop_zero,show ((0:Nat):Int)=0 from rfl] at e4
    refine e4.trans ?_
    rw [show heights (P++eP (NSM b) 0) ((tab (cellsM b).length fun t=>(frM2 N (cellsM b) P dv ct t).2)++eH (NSM b)) (List.replicate (NSM b).length 0)=hvM N (NSM b) (cellsM b) P dv ct from rfl]
    generalize hvM N (NSM b) (cellsM b) P dv ct=hv at *
    have e5:=l5_ok (NS:=NSM b) ct hv hh b w ⟨rowsM b,cellsM b,P,colsM b⟩ rfl hR (lo (colsM b),sm (mst (colsM b))) (clampM b.Style w (xM b.Style (colsM b) w)) hctv (tab (cellsM b).length fun t=>(frM2 N (cellsM b) P dv ct t).2) (tab (cellsM b).length (pf0 N (cellsM b) P dv ct)) (P++eP (NSM b) 0) (K:=KN (N+1)) (n:=N+1) (N+1) 0 (by omega) (by omega)
    rw [t0,List.take_zero,show ((0:Nat):Int)=0 from rfl] at e5
    refine (show _=_ from e5).trans ?_
    have e9:=l9_ok N (NS:=NSM b) ct hv (by omega) hlc hh b w (lo (colsM b),sm (mst (colsM b))) (clampM b.Style w (xM b.Style (colsM b) w)) (P++eP (NSM b) 0) (fun t ht=>by
      rw [List.getD_eq_getElem?_getD,List.getElem?_append_left (by omega),← List.getD_eq_getElem?_getD]) (by rw [List.length_append]; omega) (sm hv) (N+1) 0 (by omega) (by omega)
    have hk0:tab (NSM b).length (rwT N (cellsM b) P dv ct (NSM b) hv 0)=tab (NSM b).length (rw0 ct (NSM b) hv):=rfl
    rw [gC,hk0,show ((0:Nat):Int)=0 from rfl] at e9
    refine e9.trans ?_
    refine tail_ok b w _ _ ct hctv (sm hv) _ (by rw [cJ]; omega) (fun p hp=>?_) (by omega)
    unfold tab at hp
    obtain ⟨r,_,rfl⟩:=List.mem_map.1 hp
    rfl
  unfold pg
  rw [grid_ok hN h,sb,content_ok _ _ _ (cols_l h) (cols_m h) hl (by omega),sb,gI,sb]
  cases hw:(lenM b.Style.Width w).2 with
  | true =>
    rw [Bool.not_true,if_neg (by decide)]
    unfold xM at j1
    rw [hw,if_pos rfl] at j1
    exact j1
  | false =>
    rw [Bool.not_false,if_pos rfl,Tb.jm,sb,qO,sb,py,sb]
    unfold xM at j1
    rw [hw,if_neg (by decide)] at j1
    exact j1
end Go.Proofs.Ytolhpahjgddjkaa.Tbl
namespace Go.Proofs.Ytolhpahjgddjkaa.Tbl
set_option linter.all false
open Go.RowKit
open Tb (abv)
open QSort (wn aE iteT iteF sb)
set_option maxRecDepth 20000
theorem fit_ok (k:Nat):pd (KN (k+12)) (k+12)=some true:=by kernel_rfl
theorem fit_ok' {n:Nat} (h:12≤n):pd (KN n) n=some true:=by
  obtain ⟨k,rfl⟩:∃ k,n=k+12:=⟨n - 12,by omega⟩
  exact fit_ok k
structure Fits (L:List bN):Prop where
  len:L.length≤20∧0<L.length
  few:∀ x∈L,FewS x
theorem fits_tot (K:Kn) (n:Nat) (L:List bN) (hL:(L.length:Int)≤9223372036854775807) (hn:L.length<n):∃ b,oo K n L=some b∧(b=true→Fits L):=by
  obtain ⟨v,hv,hv2⟩:=few_tot K n L 20 hL hn
  unfold oo
  simp only [hv,Option.bind_some,nK]
  cases v with
  | false=>exact ⟨false,rfl,fun h=>by cases h⟩
  | true =>
    have h:=hv2 rfl
    simp only [if_true]
    exact ⟨_,rfl,fun e=>⟨⟨by omega,by have:=of_decide_eq_true e; omega⟩,h.2⟩⟩
theorem Fits.tree {L:List bN} (h:Fits L) {K:Kn} {n:Nat} (hn:20<n):∃ b,md K n L=some b∧TT b:=tree_ok h.len.1 h.len.2 (fun x hx=>(h.few x hx).text) hn
theorem TT.few {b:ab} (h:TT b):(cellsM b).length≤20:=by
  have hn:=h.n
  unfold cellsM rowsM
  rw [h.rows,rN (g:=fun r=>r.Kids) (fun r hr=>h.cells hr)]; omega
end Go.Proofs.Ytolhpahjgddjkaa.Tbl
namespace Go.Proofs.Ytolhpahjgddjkaa.Tbl
set_option linter.all false
open Go.RowKit
open Tb (rw col abv rowc rw_at fS Up up Sp Pl lD divide lx Ok)
open QSort (wn aE iteT iteF sb)
set_option maxRecDepth 20000
theorem rT {α:Type} [Inhabited α] {A B:List α} {j:Nat} (h:j<A.length):(A++B).getD j default=A.getD j default:=by
  rw [List.getD_eq_getElem?_getD,List.getElem?_append_left h,← List.getD_eq_getElem?_getD]
theorem qv {α:Type} [Inhabited α] {A B:List α} {j:Nat}:(A++B).getD (A.length+j) default=B.getD j default:=by
  rw [List.getD_eq_getElem?_getD,List.getElem?_append_right (by omega),Nat.add_sub_cancel_left,← List.getD_eq_getElem?_getD]
theorem idx_row {S:List (List (V2 Int))} (hS:Sp S) (r:Nat):∀ K,K≤S.length→r<K →
    ((List.range (abv S K).length).filter fun j=>decide (((abv S K).getD j default).Row=(r:Int)))=(List.range (rowc S r).length).map ((abv S r).length + ·)
  | 0,_,h=>by omega
  | K+1,hK,h=>by
    have hu:=up hS K (by omega)
    have hrow:=(lD hS (show K<S.length by omega) hu).1
    rw [fS,List.length_append,List.range_add,List.filter_append]
    have e1:(List.range (abv S K).length).filter (fun j=>decide (((abv S K++rowc S K).getD j default).Row=(r:Int)))=(List.range (abv S K).length).filter fun j=>decide (((abv S K).getD j default).Row=(r:Int)):=by
      refine List.filter_congr (fun j hj=>?_)
      rw [rT (List.mem_range.1 hj)]
    rw [e1]
    by_cases hr:r=K
    · subst hr
      have z1:((List.range (abv S r).length).filter fun j=>decide (((abv S r).getD j default).Row=(r:Int)))=[]:=by
        refine List.filter_eq_nil_iff.2 (fun j hj=>?_)
        have:=hu.p _ (ey (List.mem_range.1 hj))
        simp only [decide_eq_true_eq]; omega
      rw [z1,List.nil_append]
      refine List.filter_eq_self.2 (fun j hj=>?_)
      obtain ⟨q,hq,rfl⟩:=List.mem_map.1 hj
      rw [qv]
      have:=(hrow _ (ey (List.mem_range.1 hq))).row
      exact decide_eq_true this
    · have z2:((List.range (rowc S K).length).map ((abv S K).length + ·)).filter (fun j=>decide (((abv S K++rowc S K).getD j default).Row=(r:Int)))=[]:=by
        refine List.filter_eq_nil_iff.2 (fun j hj=>?_)
        obtain ⟨q,hq,rfl⟩:=List.mem_map.1 hj
        rw [qv]
        have:=(hrow _ (ey (List.mem_range.1 hq))).row
        simp only [decide_eq_true_eq]; omega
      rw [z2,List.append_nil]
      exact idx_row hS r K (by omega) (by omega)
theorem place_at {S:List (List (V2 Int))} (r:Nat):∀ K,K≤S.length→r<K→∀ k,k<(rowc S r).length→(abv S r).length+k<(abv S K).length∧(abv S K).getD ((abv S r).length+k) default=(rowc S r).getD k default
  | 0,_,h=>by omega
  | K+1,hK,h=>fun k hk=>by
    rw [fS,List.length_append]
    by_cases hr:r=K
    · subst hr
      exact ⟨by omega,qv⟩
    · obtain ⟨h1,h2⟩:=place_at r K (by omega) (by omega) k hk
      exact ⟨by omega,by rw [rT h1]; exact h2⟩
theorem flat_at {α β:Type} [Inhabited α] [Inhabited β] (f:α→List β):∀ (L:List α) (r k:Nat),r<L.length→k<(f (L.getD r default)).length→(L.flatMap f).getD (((L.take r).flatMap f).length+k) default=(f (L.getD r default)).getD k default
  | [],r,k,h,_=>by simp at h
  | a::L,0,k,_,h2=>by
    simp only [List.take_zero,List.flatMap_nil,List.length_nil,Nat.zero_add,List.flatMap_cons]
    exact rT h2
  | a::L,r+1,k,h1,h2=>by
    simp only [List.take_succ_cons,List.flatMap_cons,List.length_append,Nat.add_assoc]
    rw [qv]
    exact flat_at f L r k (by simpa using h1) (by simpa using h2)
theorem off_eq (b:ab) (r:Nat) (hr:r≤(spsM b).length):(abv (spsM b) r).length=(((rowsM b).take r).flatMap fun x=>kdM x 9).length:=by
  rw [abv_len _ _ hr]
  unfold spsM
  rw [←List.map_take,← List.flatMap_def]
  simp only [List.length_flatMap,spr,List.length_map]
theorem sm_tk_le {l:List Int} (h:∀ x∈l,0≤x):∀ {a b:Nat},a≤b→sm (l.take a)≤sm (l.take b):=by
  intro a b hab
  have e:l.take b=l.take a++(l.take b).drop a:=by
    have:=(List.take_append_drop a (l.take b)).symm
    rwa [List.take_take,Nat.min_eq_left hab] at this
  rw [e,ff]
  have:=Sh.cK ((l.take b).drop a) (fun x hx=>h x (List.mem_of_mem_take (List.mem_of_mem_drop hx)))
  omega
theorem sm_split2 (l:List Int) {a b:Nat} (hab:a≤b):sm (l.take a)+sm (List.drop a (List.take b l))=sm (l.take b):=by
  have:=(List.take_append_drop a (l.take b)).symm
  rw [List.take_take,Nat.min_eq_left hab] at this
  conv=>rhs; rw [this]
  rw [ff]
structure GoodRow (row:aa) (bk:List ab):Prop where
  len:row.Kids.length=bk.length
  kind:row.Kind=1
  c:∀ k,k<bk.length→(row.Kids.getD k default).Y=0∧row.H≤(row.Kids.getD k default).H∧(row.Kids.getD k default).Node=(bk.getD k default).Node∧w64 ((row.Kids.getD k default).X+(row.Kids.getD k default).W)≤row.W∧0≤(row.Kids.getD k default).X∧(k+1<bk.length→w64 ((row.Kids.getD k default).X+(row.Kids.getD k default).W)≤(row.Kids.getD (k+1) default).X)
section
variable {N:Nat} {b:ab} (h:Tab b) (w:Int)
noncomputable def rowM (N:Nat) (b:ab) (w:Int) (dx dy:Int) (r:Nat):aa :=
  wTBlockFragment (shf dx dy (rwT N (cellsM b) (abv (spsM b) (spsM b).length) (divide (colsM b) (ctM b.Style (colsM b) w)) (ctM b.Style (colsM b) w) (NSM b) (hvM N (NSM b) (cellsM b) (abv (spsM b) (spsM b).length) (divide (colsM b) (ctM b.Style (colsM b) w)) (ctM b.Style (colsM b) w)) (cellsM b).length r))
theorem cols_le10000 (h:Tab b):(colsM b).length≤10000:=by
  rw [qU h]
  have:=jU h.sp (spsM b).length (Nat.le_refl _)
  rw [jd] at this
  have:=h.clen; omega
theorem dv_le (h:Tab b):sm (divide (colsM b) (ctM b.Style (colsM b) w))≤ctM b.Style (colsM b) w:=by
  have h1:=div_total (colsM b) (ctM b.Style (colsM b) w) (cols_le10000 h)
  rw [cA_lst (cols_l h)] at h1
  have h2:=(ct_bd h w).1
  unfold lo at h2; omega
theorem row_good (hN:20<N) (dx dy:Int) {r:Nat} (hr:r<(rowsM b).length) (h:Tab b):GoodRow (rowM N b w dx dy r) (kdM ((rowsM b).getD r default) 9):=by
  have hlc:=lc_ok h w
  have hS:=h.sp
  have hSl:(spsM b).length=(rowsM b).length:=by simp [spsM]
  have hNl:(NSM b).length=(rowsM b).length:=by simp [NSM]
  have hR:=hlc.r
  have hcl:=hlc.cl
  have hu:=up hS r (by omega)
  have hrl:(rowc (spsM b) r).length=(kdM ((rowsM b).getD r default) 9).length:=by
    rw [oT]
    unfold spsM
    rw [mapAt spr hr,spr,List.length_map]
  have hdn:=hlc.d
  have hdt:=dv_le w h
  have hh:=hv_ok N (NSM b) (by omega) (cellsM b) (abv (spsM b) (spsM b).length) (divide (colsM b) (ctM b.Style (colsM b) w)) (ctM b.Style (colsM b) w)
  have hidx:=idx_row hS r (spsM b).length (Nat.le_refl _) (by omega)
  have hpl:=place_at (S:=spsM b) r (spsM b).length (Nat.le_refl _) (by omega)
  have hoff:=off_eq b r (by omega)
  have hall:=jd b
  have hcb:=(ct_bd h w).2.2
  unfold rowM
  generalize hP:abv (spsM b) (spsM b).length=P at *
  generalize ctM b.Style (colsM b) w=ct at *
  generalize hdv:divide (colsM b) ct=dv at *
  generalize hvM N (NSM b) (cellsM b) P dv ct=hv at *
  generalize ho:(abv (spsM b) r).length=o at *
  have hk:kdl N (cellsM b) P dv ct hv (cellsM b).length r=(List.range (rowc (spsM b) r).length).map fun k=>FR N (cellsM b) P dv ct hv (o+k):=by
    unfold kdl
    rw [←hall,hidx,List.map_map]; rfl
  have hkk:(wTBlockFragment (shf dx dy (rwT N (cellsM b) P dv ct (NSM b) hv (cellsM b).length r))).Kids=kdl N (cellsM b) P dv ct hv (cellsM b).length r:=rfl
  refine ⟨by rw [hkk,hk]; simp [hrl],rfl,fun k hkl=>?_⟩
  rw [hkk,hk]
  rw [←hrl] at hkl ⊢
  obtain ⟨p1,p2⟩:=hpl k hkl
  have hat:∀ q,q<(rowc (spsM b) r).length→((List.range (rowc (spsM b) r).length).map fun k=>FR N (cellsM b) P dv ct hv (o+k)).getD q default=FR N (cellsM b) P dv ct hv (o+q):=fun q hq=>eu (f:=fun k=>FR N (cellsM b) P dv ct hv (o+k)) hq
  rw [hat k hkl]
  have ht:o+k<(cellsM b).length:=by omega
  obtain ⟨_,c2,c3,_,_⟩:=fr_ok N ct hN hlc ht
  have hp:=hlc.p _ ht
  have hdnn:∀ x∈dv,0≤x:=fun x hx=>(hdn x hx).1
  have hX:(FR N (cellsM b) P dv ct hv (o+k)).X=sm (dv.take (P.getD (o+k) default).Col.toNat):=rfl
  have hW:(FR N (cellsM b) P dv ct hv (o+k)).W=wdM P dv (o+k):=c3
  have hH:(FR N (cellsM b) P dv ct hv (o+k)).H=hsM P hv (o+k):=rfl
  have hNo:(FR N (cellsM b) P dv ct hv (o+k)).Node=((cellsM b).getD (o+k) default).Node:=c2
  have hsum:sm (dv.take (P.getD (o+k) default).Col.toNat)+wdM P dv (o+k)=sm (dv.take ((P.getD (o+k) default).Col+(P.getD (o+k) default).Cols).toNat):=sm_split2 dv (by omega)
  have b1:=Sh.cK (dv.take ((P.getD (o+k) default).Col+(P.getD (o+k) default).Cols).toNat) (fun x hx=>hdnn x (List.mem_of_mem_take hx))
  have b2:sm (dv.take ((P.getD (o+k) default).Col+(P.getD (o+k) default).Cols).toNat)≤sm dv:=by
    have:=sm_tk_le hdnn (a:=((P.getD (o+k) default).Col+(P.getD (o+k) default).Cols).toNat) (b:=dv.length) (by omega)
    rwa [List.take_of_length_le (Nat.le_refl _)] at this
  have b3:=Sh.cK (dv.take (P.getD (o+k) default).Col.toNat) (fun x hx=>hdnn x (List.mem_of_mem_take hx))
  rw [hX,hW,hH,hNo,hsum,b9 (by omega) (by omega)]
  refine ⟨rfl,?_,?_,by show _≤ct; omega,b3,fun hk1=>?_⟩
  · -- the cell is at least as high as its row
    show hv.getD r default≤_
    have hrow:(P.getD (o+k) default).Row=(r:Int):=by
      rw [p2]; exact ((lD hS (show r<(spsM b).length by omega) hu).1 _ (ey hkl)).row
    obtain ⟨s,es⟩:∃ s:Nat,(P.getD (o+k) default).Rows=s:=⟨(P.getD (o+k) default).Rows.toNat,by omega⟩
    unfold hsM
    rw [hrow,es,show ((r:Int)).toNat=r by omega,show ((r:Int)+(s:Int)).toNat=r+s by omega,List.drop_take,show r+s - r=s by omega,Tb.wsum_sm hv r s (by rw [hh.1]; omega)]
    exact Tb.wsum_ge hh s (by omega) (by omega) (by omega)
  · rw [hoff]
    have:=flat_at (fun x=>kdM x 9) (rowsM b) r k hr (by omega)
    rw [show (rowsM b).flatMap (fun x=>kdM x 9)=cellsM b from rfl] at this
    rw [this]
  · rw [hat (k+1) hk1]
    obtain ⟨q1,q2⟩:=hpl (k+1) hk1
    show _≤sm (dv.take (P.getD (o+(k+1)) default).Col.toNat)
    refine sm_tk_le hdnn ?_
    rw [p2,q2]
    have hcc:=hu.c
    have ch:=(Tb.tK (R:=(spsM b).length) (r:=r) (E:=col (spsM b) r) (hu.free r) (by omega) ((spsM b).getD r default) 0 (by omega) (k+1) (by rw [←oT]; exact hk1)).2 (by omega)
    rw [show Tb.cells (spsM b).length r (Tb.cov (abv (spsM b) r) r) ((spsM b).getD r default) 0=rowc (spsM b) r from rfl,Nat.add_sub_cancel] at ch
    omega
end
end Go.Proofs.Ytolhpahjgddjkaa.Tbl
namespace Go.Proofs.Ytolhpahjgddjkaa.QTableCells
set_option linter.all false
open Go.RowKit
open Tbl
open QSort (wn aE iteT iteF sb)
set_option maxRecDepth 20000
section
variable {K:Kn} {n:Nat} {b:ab} {f:aa}
theorem l3_ok {r:Nat} (v30:Int) (L1:Int→Int→Option Bool) (hg:GoodRow (f.Kids.getD r default) (b.Kids.getD r default).Kids) (hr:r<b.Kids.length) (hl:(b.Kids.getD r default).Kids.length≤1000):∀ (m k:Nat) (x:Int),k≤(b.Kids.getD r default).Kids.length→(b.Kids.getD r default).Kids.length<m+k→(k<(b.Kids.getD r default).Kids.length→x≤((f.Kids.getD r default).Kids.getD k default).X) →
    mE K n b f (r:Int) v30 L1 m x ((f.Kids.getD r default).Kids.length:Int) (k:Int)=L1 v30 (w64 ((r:Int)+1)):=by
  have hlen:=hg.len
  intro m
  induction m with
  | zero=>intro k x h1 h2; omega
  | succ m ih =>
    intro k x h1 h2 h3
    simp only [mE,oW,Int.toNat_natCast]
    by_cases hk:k<(b.Kids.getD r default).Kids.length
    · obtain ⟨c1,c2,c3,c4,c5,c6⟩:=hg.c k hk
      have hx:=h3 hk
      rw [iteT (by omega),aE (by omega),sb,iteF (by omega),iteF (by omega),c1,bne_self_eq_false,if_neg (by decide),iteF (by omega),aE (by omega),aE (by omega),c3,bne_self_eq_false]
      unfold ib
      rw [if_neg (by decide),step64 (show k<1000000 by omega)]
      exact ih (k+1) _ (by omega) (by omega) (fun hk1=>c6 hk1)
    · rw [iteF (by omega)]
theorem l4_ok (hl:f.Kids.length=b.Kids.length) (hR:b.Kids.length≤1000) (hk:∀ r,r<b.Kids.length→(b.Kids.getD r default).Kids.length≤1000) (hg:∀ r,r<b.Kids.length→GoodRow (f.Kids.getD r default) (b.Kids.getD r default).Kids) (hy:∀ r,r+1<b.Kids.length→(f.Kids.getD (r+1) default).Y=w64 ((f.Kids.getD r default).Y+(f.Kids.getD r default).H)) (hn:1000<n):∀ (m r:Nat) (y:Int),r≤b.Kids.length→b.Kids.length<m+r→(0<r→r<b.Kids.length→(f.Kids.getD r default).Y=y) →
    gQ K n b f m y (r:Int)=some true:=by
  intro m
  induction m with
  | zero=>intro r y h1 h2; omega
  | succ m ih =>
    intro r y h1 h2 h3
    simp only [gQ,n4,Int.toNat_natCast]
    by_cases hr:r<b.Kids.length
    · have g:=hg r hr
      have hlen:=g.len
      have j1:gm K n b f (r:Int) (gQ K n b f m) false=some true:=by
        unfold gm
        rw [if_neg (by decide),sb,Int.toNat_natCast]
        have:=l3_ok (K:=K) (n:=n) (b:=b) (f:=f) (w64 ((f.Kids.getD r default).Y+(f.Kids.getD r default).H)) (gQ K n b f m) g hr (hk r hr) n 0 0 (by omega) (by have:=hk r hr; omega) (fun hk0=>(g.c 0 hk0).2.2.2.2.1)
        refine (show _=_ from this).trans ?_
        rw [step64 (show r<1000000 by omega)]
        exact ih (r+1) _ (by omega) (by omega) (fun _ h=>hy r h)
      have e1:(((f.Kids.getD r default).Kids.length:Int) != ((b.Kids.getD r default).Kids.length:Int))=false:=by rw [hlen,bne_self_eq_false]
      have e2:((f.Kids.getD r default).Kind != 1)=false:=by rw [g.kind]; rfl
      rw [iteT (by omega),aE (by omega)]
      by_cases h0:(r:Int)>0
      · rw [iteT h0,h3 (by omega) hr,bne_self_eq_false,if_neg (by decide),aE (by omega),e1,if_neg (by decide),e2]
        exact j1
      · rw [iteF h0,aE (by omega),e1,if_neg (by decide),e2]
        exact j1
    · rw [iteF (by omega)]
end
theorem holds (x0:List bN) (x1:Int) (h0:HasT Try.prog 45 ((eSl bV) x0)) (h1:HasT Try.prog 3 ((eInt .i64) x1)):∃ n,pP (KN n) n x0 x1=some true:=by
  obtain ⟨l,hl,hm,_⟩:=h0.sl_inv Try.underlying45
  simp only [eSl,List.cons.injEq,AV.sl.injEq,and_true] at hl
  have hlen:l.length=x0.length:=by rw [←hl,List.length_map]
  have hm':l.length≤9223372036854775807:=hm
  refine ⟨x0.length+300000+1,?_⟩
  generalize hNe:x0.length+300000=N
  have hN:300000≤N:=by omega
  unfold pP
  rw [fit_ok' (by omega),sb,Bool.not_true,if_neg (by decide)]
  obtain ⟨v,hv,hv2⟩:=fits_tot (KN (N+1)) (N+1) x0 (by omega) (by omega)
  rw [hv,sb]
  cases v with
  | false=>rfl
  | true =>
    rw [Bool.not_true,if_neg (by decide)]
    obtain ⟨b,hb,hT⟩:=(hv2 rfl).tree (K:=KN (N+1)) (n:=N+1) (by omega)
    have hA:=hT.tab
    have hn:=hT.n
    have hrows:rowsM b=b.Kids:=hT.rows
    rw [hb,sb]
    unfold j8
    rw [sb,show (⟨(Fv.fn 53),(Fv.fn 54),(Fv.fn 55),(Fv.fn 56)⟩:bw)=E1 from rfl,layout_ok hN hA x1,sb,sb]
    have hNl:(NSM b).length=b.Kids.length:=by unfold NSM; rw [List.length_map,hrows]
    obtain ⟨dx,dy,hK⟩:∃ dx dy:Int,(layM N b.Node b.Style (NSM b) (cellsM b) (Tb.abv (spsM b) (spsM b).length) (colsM b) x1).Kids=(List.range (NSM b).length).map (rowM N b x1 dx dy):=by
      refine ⟨w64 ((usedM ({ b.Style with Width:=⟨1,ctM b.Style (colsM b) x1⟩,MinWidth:=bH,MaxWidth:=bH }:aG) x1).Border.a3+(usedM ({ b.Style with Width:=⟨1,ctM b.Style (colsM b) x1⟩,MinWidth:=bH,MaxWidth:=bH }:aG) x1).Padding.a3),w64 ((usedM ({ b.Style with Width:=⟨1,ctM b.Style (colsM b) x1⟩,MinWidth:=bH,MaxWidth:=bH }:aG) x1).Border.a0+(usedM ({ b.Style with Width:=⟨1,ctM b.Style (colsM b) x1⟩,MinWidth:=bH,MaxWidth:=bH }:aG) x1).Padding.a0),?_⟩
      unfold layM endM tab
      simp only [List.map_map]
      rfl
    have hat:∀ r,r<b.Kids.length→(layM N b.Node b.Style (NSM b) (cellsM b) (Tb.abv (spsM b) (spsM b).length) (colsM b) x1).Kids.getD r default=rowM N b x1 dx dy r:=fun r hr=>by
      rw [hK]; exact eu (f:=rowM N b x1 dx dy) (by omega)
    generalize layM N b.Node b.Style (NSM b) (cellsM b) (Tb.abv (spsM b) (spsM b).length) (colsM b) x1=f at *
    have hfl:f.Kids.length=b.Kids.length:=by rw [hK,List.length_map,List.length_range,hNl]
    rw [hfl,bne_self_eq_false,if_neg (by decide)]
    have hmem:∀ r,r<b.Kids.length→(b.Kids.getD r default).Kids.length≤1000:=fun r hr=>by
      have:=mem_le (b:=b) (ey hr); omega
    have hgood:∀ r,r<b.Kids.length→GoodRow (f.Kids.getD r default) (b.Kids.getD r default).Kids:=fun r hr=>by
      rw [hat r hr]
      have:=row_good x1 (N:=N) (b:=b) (by omega) dx dy (r:=r) (by rw [hrows]; exact hr) hA
      rw [hrows,hT.cells (ey hr)] at this
      exact this
    refine l4_ok (K:=KN (N+1)) (n:=N+1) hfl (by omega) hmem hgood (fun r hr=>?_) (by omega) (N+1) 0 0 (by omega) (by omega) (fun h=>by omega)
    rw [hat r (by omega),hat (r+1) hr]
    show w64 (sm (List.take (r+1) (hvM N (NSM b) (cellsM b) _ _ _))+dy)=w64 (w64 (sm (List.take r (hvM N (NSM b) (cellsM b) _ _ _))+dy)+List.getD (hvM N (NSM b) (cellsM b) _ _ _) r default)
    have hh:=hv_ok N (NSM b) (by omega) (cellsM b) (Tb.abv (spsM b) (spsM b).length) (Tb.divide (colsM b) (ctM b.Style (colsM b) x1)) (ctM b.Style (colsM b) x1)
    generalize hvM N (NSM b) (cellsM b) (Tb.abv (spsM b) (spsM b).length) (Tb.divide (colsM b) (ctM b.Style (colsM b) x1)) (ctM b.Style (colsM b) x1)=hv at *
    have e3:sm (hv.take (r+1))=sm (hv.take r)+hv.getD r default:=by
      have:=sm_step hv (a:=0) (i:=r) (by omega) (by rw [hh.1]; omega)
      simpa using this
    rw [e3]
    apply w64_eq
    have:=w64_mod (sm (hv.take r)+dy)
    omega
end Go.Proofs.Ytolhpahjgddjkaa.QTableCells
