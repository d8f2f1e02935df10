/- Layouts and widths of blocks do not depend on how deep one looks. No program in sight. -/
import Derived.Test.YtlpndemhnpajiaaSnZ32
import Derived.Test.YtlpndemhnpajiaaSnGm
namespace Go.Proofs.Ytlpndemhnpajiaa
set_option linter.all false
open Go.RowKit
open Wd (E1)
theorem wid_ind (d:Nat) (b:ab) (hg:GoodB d b) (ht:TB d b):∃ p,(∀ N,d+25≤N→fe (KN N) N b E1=some p∧eQ (KN N) N b=some p)∧p.1≤p.2 ∧ -7340032≤p.1∧p.2≤7340032:=by
  obtain ⟨x,y,hc⟩:=Wd.widths_eq d (d+25) b hg ht (Nat.le_refl _)
  obtain ⟨p,p1,p2,p3⟩:=Wd.frame_def (d+25) b x y hc
  refine ⟨p,fun N hN=>⟨?_,?_⟩,p3⟩
  · exact w5 (sN _ _ hN) hN b E1 p p1
  · exact wJ (sN _ _ hN) hN b p p2
theorem env_wid {d N:Nat} {b:ab} {p:Int×Int} (h:∀ N,d+25≤N→fe (KN N) N b E1=some p∧eQ (KN N) N b=some p) (hN:d+26≤N):(KN N).eM (Fv.fn 55) b=some p:=by
  obtain ⟨M,rfl⟩:∃ M,N=M+1:=⟨N - 1,by omega⟩
  show fA (KN M) M b=some p
  unfold fA ff
  simp only [Option.bind_some]
  rw [show (⟨(Fv.fn 54),(Fv.fn 55),(Fv.fn 56),(Fv.fn 57)⟩:bw)=E1 from rfl,(h M (by omega)).1]; rfl
end Go.Proofs.Ytlpndemhnpajiaa
namespace Go.Proofs.Ytlpndemhnpajiaa
set_option linter.all false
open Go.RowKit
theorem treeI_loop (P:ab→Prop) (N n:Nat) (L:List bU) (hL:L.length≤20) (a:Nat) (ih:∀ i,a<i→i<L.length→∃ b i',(KN N).ox L (i:Int)=some (b,((i':Nat):Int))∧i<i'∧i'≤L.length∧P b) :
    ∀ (m i:Nat) (acc:List ab),a<i→i≤L.length→L.length<m+i→acc.length+a<i→(∀ k∈acc,P k) →
      ∃ b i',fT (KN N) n L a true m i acc=some (b,((i':Nat):Int))∧(∀ k∈b.Kids,P k)∧b.Kids.length≤20:=by
  intro m
  induction m with
  | zero=>intro i acc _ h1 h2; omega
  | succ m ihm =>
    intro i acc h0 h1 h2 h3 hk1
    have stop:∃ b i',gT (KN N) n L a true i acc (fT (KN N) n L a true m) false=some (b,((i':Nat):Int))∧(∀ k∈b.Kids,P k)∧b.Kids.length≤20:=by
      simp only [gT,Bool.false_eq_true,if_false]
      exact ⟨_,i,rfl,hk1,by show acc.length≤20; omega⟩
    simp only [fT,qn]
    by_cases hi:i<L.length
    · simp only [d6 hi,if_true,inbN hi,bB]
      cases hd:decide ((L.getD (i:Int).toNat default).Depth>(L.getD (a:Int).toNat default).Depth) with
      | false=>exact stop
      | true =>
        simp only [gT,if_true]
        obtain ⟨b,i',e1,e2,e3,e4⟩:=ih i h0 hi
        simp only [if_true,e1,Option.bind_some,List.length_cons,List.length_nil]
        rw [cg (by omega) (by omega),bB]
        exact ihm i' (acc++[b]) (by omega) e3 (by omega) (by simp; omega) (fun k hk=>by
          rcases List.mem_append.1 hk with hk | hk
          · exact hk1 k hk
          · simp only [List.mem_cons,List.not_mem_nil,or_false] at hk; subst hk; exact e4)
    · simp only [dY (show L.length≤i by omega),Bool.false_eq_true,if_false]
      exact stop
structure Kd (k:ab):Prop where
  kind:k.Kind=1
  good:GoodB 20 k
  text:TB 20 k
structure Bx (b:ab):Prop where
  len:b.Kids.length≤20
  kids:∀ k∈b.Kids,Kd k
structure Fits (L:List bU):Prop where
  len:L.length≤16∧1<L.length
  few:∀ x∈L,FewS x
  deep:(L.getD 1 default).Depth>(L.getD 0 default).Depth
  kind:(Int.tmod (L.getD 1 default).Kind 2 == 0)=true
theorem fits_tot (K:Kn) (n:Nat) (L:List bU) (hL:(L.length:Int)≤9223372036854775807) (hn:L.length<n):∃ b,sG K n L=some b∧(b=true→Fits L):=by
  obtain ⟨v,hv,hv2⟩:=few_tot K n L 16 hL hn
  unfold sG
  simp only [hv,Option.bind_some,mM]
  cases v with
  | false=>exact ⟨false,rfl,fun h=>by cases h⟩
  | true =>
    have h:=hv2 rfl
    simp only [if_true]
    by_cases h1:(L.length:Int)>1
    · have i1:inb (1:Int) L.length=true:=hH (by omega) h1
      have i0:inb (0:Int) L.length=true:=hH (by omega) (by omega)
      simp only [h1,decide_true,if_true,i1,i0,bB]
      by_cases h2:(L.getD (1:Int).toNat default).Depth>(L.getD (0:Int).toNat default).Depth
      · simp only [h2,decide_true,if_true]
        exact ⟨_,rfl,fun e=>⟨by omega,h.2,h2,e⟩⟩
      · simp only [h2,decide_false,Bool.false_eq_true,if_false]
        exact ⟨_,rfl,fun e=>by cases e⟩
    · simp only [h1,decide_false,Bool.false_eq_true,if_false]
      exact ⟨_,rfl,fun e=>by cases e⟩
theorem box_ok (N:Nat) (L:List bU) (h:Fits L) (hN:60≤N):∃ b,nJ (KN N) N L=some b∧Bx b:=by
  obtain ⟨M,rfl⟩:∃ M,N=M+1:=⟨N - 1,by omega⟩
  have hl:=h.len
  have lp:=treeI_loop Kd (M+1) (M+1) L (by omega) 0 (fun i h3 h4=>by
    obtain ⟨b,i',e1,e2,e3,e4,e5,e6⟩:=treeT 20 M L i h4 (by omega) (by omega) (by omega) (fun x hx=>(h.few x hx).text)
    exact ⟨b,i',e1,e2,e3,⟨e5,e4,e6⟩⟩) (M+1) (0+1) [] (by omega) (by omega) (by omega) (by simp) (fun _ hk=>by cases hk)
  obtain ⟨b,i',e1,e2,e3⟩:=lp
  refine ⟨{ b with Kind:=6 },?_,⟨e3,e2⟩⟩
  unfold nJ mZ
  have i0:inb (0:Int) L.length=true:=hH (by omega) (by omega)
  have i1:inb (1:Int) L.length=true:=hH (by omega) (by omega)
  have w1:w64 ((0:Int)+1)=1:=bp (by omega) (by omega)
  have d1:decide ((1:Int)<(L.length:Int))=true:=by rw [decide_eq_true_eq]; omega
  have d2:decide ((L.getD (1:Int).toNat default).Depth>(L.getD (0:Int).toNat default).Depth)=true:=decide_eq_true h.deep
  have d3:(Int.tmod (L.getD (1:Int).toNat default).Kind 2 == 0)=true:=h.kind
  simp only [i0,i1,w1,d1,d2,d3,bB,if_true,mw]
  rw [show fT (KN (M+1)) (M+1) L 0 true (M+1) 1 []=_ from e1]
  rfl
end Go.Proofs.Ytlpndemhnpajiaa
namespace Go.Proofs.Ytlpndemhnpajiaa.QSort
set_option linter.all false
open Go.RowKit
theorem aP {α:Type} {i:Int} {m:Nat} {x:Option α} (h:0≤i∧i<m):chk (inb i m) x=x:=by rw [hH h.1 h.2]; rfl
theorem gd {A B:List Int} {x:Int} {i:Nat} (h:i=A.length):(A++x::B).getD i default=x:=by subst h; simp [List.getD_eq_getElem?_getD]
theorem gd1 {A B:List Int} {x y:Int} {i:Nat} (h:i=A.length+1):(A++x::y::B).getD i default=y:=by subst h; simp [List.getD_eq_getElem?_getD]
theorem sw {A B:List Int} {x y:Int} {i j:Nat} (h:i=A.length) (hj:j=A.length+1):List.set (List.set (A++x::y::B) j x) i y=A++y::x::B:=by subst h; subst hj; simp [List.set_append]
theorem sw' {A B:List Int} {x y:Int} {i j:Nat} (h:i=A.length) (hj:j=A.length+1):List.set (List.set (A++x::y::B) i y) j x=A++y::x::B:=by subst h; subst hj; simp [List.set_append]
theorem wn {n:Int} {k:Nat} (h:n=k) (hk:k≤4000000000):w64 n=(k:Int):=by subst h; exact bp (by omega) (by omega)
theorem half {i j:Nat} (h:i+j≤4000000000):w64 ((IntKind.wrap .u64 (w64 ((i:Int)+(j:Int)))) / 2)=(((i+j) / 2:Nat):Int):=by
  rw [wn (n:=(i:Int)+(j:Int)) (k:=i+j) (by omega) (by omega),IntKind.wrap_u64]
  exact wn (by omega) (by omega)
theorem iteT {α:Type} {p:Prop} [Decidable p] {x y:α} (h:p):(if decide p=true then x else y)=x:=by simp [h]
theorem iteF {α:Type} {p:Prop} [Decidable p] {x y:α} (h:¬ p):(if decide p=true then x else y)=y:=by simp [h]
theorem iteB {α:Type} {p:Prop} [Decidable p] {x y:α} (h:¬ p):(if (!decide p)=true then x else y)=x:=by simp [h]
theorem iteC {α:Type} {p:Prop} [Decidable p] {x y:α} (h:p):(if (!decide p)=true then x else y)=y:=by simp [h]
theorem sb {α β:Type} (x:α) (k:α→Option β):(some x).bind k=k x:=rfl
structure Cmp (K:Kn) (f:Fv) (D:Int→Prop) (key:Int→Int):Prop where
  ok:∀ a b,D a→D b→∃ c,K.eF f a b=some c∧(c<0↔key a<key b)
def R (key:Int→Int) (a b:Int):Prop:=key a<key b∨key a=key b∧a<b
theorem R.trans {key:Int→Int} {a b c:Int} (h:R key a b) (h2:R key b c):R key a c:=by unfold R at *; omega
theorem R.irr {key:Int→Int} {a:Int} (h:R key a a):False:=by unfold R at *; omega
theorem R.asymm {key:Int→Int} {a b:Int} (h:R key a b) (h2:R key b a):False:=by unfold R at *; omega
theorem R.of_lt {key:Int→Int} {a b:Int} (h:b<a):key a<key b↔R key a b:=by unfold R; omega
theorem R.not {key:Int→Int} {a b:Int} (h:a≠b) (h2:¬ R key a b):R key b a:=by unfold R at *; omega
variable {K:Kn} {n:Nat} {f:Fv} {D:Int→Prop} {key:Int→Int}
theorem ins_l2 (hC:Cmp K f D key) (P T:List Int) (b i:Int) (L1:Int→List Int→Option (List Int)):∀ (m:Nat) (S1 S2:List Int) (x:Int),S1.length<m→(∀ y∈S1,y<x∧D y)→D x→(S1++S2).Pairwise (R key)→(∀ y∈S2,R key x y)→P.length+S1.length≤10000 →
    ∃ S',S'.Perm (x::(S1++S2))∧S'.Pairwise (R key)∧pI K n ((P.length:Nat):Int) b f i L1 m ((P.length+S1.length:Nat):Int) (P++S1++x::S2++T)=L1 (w64 (i+1)) (P++S'++T):=by
  intro m
  induction m with
  | zero=>intro S1 S2 x h; omega
  | succ m ih =>
    intro S1 S2 x hm hS hx hp h2 hl
    simp only [pI,rX]
    rcases List.eq_nil_or_concat S1 with rfl | ⟨S0,y,rfl⟩
    · refine ⟨x::S2,by simp,?_,?_⟩
      · rw [List.pairwise_cons]; exact ⟨h2,by simpa using hp⟩
      · rw [iteF (by simp)]
        simp [nW]
    · simp only [List.concat_eq_append] at *
      have hy:=hS y (by simp)
      simp only [List.length_append,List.length_cons,List.length_nil] at hm hl
      have e1:P++(S0++[y])++x::S2++T=(P++S0)++y::x::(S2++T):=by simp
      have k1:((P.length+(S0++[y]).length:Nat):Int)=((P.length+S0.length+1:Nat):Int):=by simp; omega
      have hlen:((P++S0)++y::x::(S2++T)).length≥P.length+S0.length+2:=by simp; omega
      rw [e1,k1,iteT (by omega)]
      rw [wn (n:=((P.length+S0.length+1:Nat):Int) - 1) (k:=P.length+S0.length) (by omega) (by omega)]
      rw [aP (by omega),aP (by omega)]
      simp only [Int.toNat_natCast]
      rw [gd1 (i:=P.length+S0.length+1) (by simp),gd (i:=P.length+S0.length) (by simp)]
      obtain ⟨c,hc,hlt⟩:=hC.ok x y hx hy.2
      rw [hc,sb]
      simp only [nW]
      by_cases hr:c<0
      · rw [iteT hr]
        rw [wn (n:=((P.length+S0.length+1:Nat):Int) - 1) (k:=P.length+S0.length) (by omega) (by omega)]
        simp only [List.length_set]
        rw [aP (by omega),aP (by omega),aP (by omega),aP (by omega)]
        simp only [Int.toNat_natCast]
        rw [gd1 (i:=P.length+S0.length+1) (by simp),gd (i:=P.length+S0.length) (by simp),sw (by simp) (by simp)]
        have hxy:R key x y:=(R.of_lt hy.1).1 (hlt.1 hr)
        obtain ⟨S',p1,p2,p3⟩:=ih S0 (y::S2) x (by omega) (fun z hz=>hS z (by simp [hz])) hx (by simpa using hp)
          (fun z hz=>by
            rcases List.mem_cons.1 hz with rfl | hz
            · exact hxy
            · exact h2 z hz) (by omega)
        refine ⟨S',by simpa using p1,p2,?_⟩
        have e3:P++S0++x::y::(S2++T)=P++S0++x::(y::S2)++T:=by simp
        rw [e3,p3]
      · rw [iteF hr]
        have hyx:R key y x:=R.not (by omega) (fun h=>hr (hlt.2 ((R.of_lt hy.1).2 h)))
        refine ⟨S0++y::x::S2,?_,?_,by simp⟩
        · exact (List.Perm.of_eq (by simp)).trans (List.perm_middle (l₁:=S0++[y]) (a:=x) (l₂:=S2))
        · simp only [List.append_assoc,List.cons_append,List.nil_append,List.pairwise_append,List.pairwise_cons,List.mem_cons] at hp ⊢
          obtain ⟨q1,⟨q2,q3⟩,q4⟩:=hp
          refine ⟨q1,⟨?_,h2,q3⟩,?_⟩
          · rintro z (rfl | hz)
            · exact hyx
            · exact q2 z hz
          · rintro u hu z (rfl | rfl | hz)
            · exact q4 u hu z (.inl rfl)
            · exact (q4 u hu y (.inl rfl)).trans hyx
            · exact q4 u hu z (.inr hz)
theorem ins_l3 (hC:Cmp K f D key) (P Q:List Int) (hn:10001<n):∀ (m:Nat) (S T:List Int),T.length<m→S≠[]→(∀ y∈S,∀ z∈T,y<z)→T.Pairwise (· < ·)→(∀ y∈S++T,D y)→S.Pairwise (R key)→P.length+S.length+T.length≤10000 →
    ∃ S',S'.Perm (S++T)∧S'.Pairwise (R key)∧j0 K n ((P.length:Nat):Int) ((P.length+S.length+T.length:Nat):Int) f m ((P.length+S.length:Nat):Int) (P++S++T++Q)=some (P++S'++Q):=by
  intro m
  induction m with
  | zero=>intro S T h; omega
  | succ m ih =>
    intro S T hm hne hST hT hD hS hl
    simp only [j0,oX]
    cases T with
    | nil=>exact ⟨S,by simp,hS,by rw [iteF (by simp)]; simp⟩
    | cons x T =>
      simp only [List.length_cons] at hm hl ⊢
      rw [iteT (by omega)]
      rw [List.pairwise_cons] at hT
      obtain ⟨S',p1,p2,p3⟩:=ins_l2 (n:=n) hC P (T++Q) ((P.length+S.length+(T.length+1):Nat):Int) ((P.length+S.length:Nat):Int)
        (j0 K n ((P.length:Nat):Int) ((P.length+S.length+(T.length+1):Nat):Int) f m) n S [] x (by omega) (fun y hy=>⟨hST y hy x (by simp),hD y (by simp [hy])⟩) (hD x (by simp)) (by simpa using hS) (by simp) (by omega)
      have e:P++S++[x]++(T++Q)=P++S++x::T++Q:=by simp
      rw [e] at p3
      rw [p3,wn (k:=P.length+(S.length+1)) (by omega) (by omega)]
      simp only [List.append_nil] at p1
      have hlen:S'.length=S.length+1:=by rw [p1.length_eq]; simp
      have hmem:∀ y,y∈S'↔y=x∨y∈S:=fun y=>by rw [p1.mem_iff]; simp
      obtain ⟨S'',q1,q2,q3⟩:=ih S' T (by omega) (by intro h; subst h; simp at hlen) (fun y hy z hz=>by
          rcases (hmem y).1 hy with rfl | hy
          · exact hT.1 z hz
          · exact hST y hy z (by simp [hz])) hT.2 (fun y hy=>by
          rcases List.mem_append.1 hy with hy | hy
          · rcases (hmem y).1 hy with rfl | hy
            · exact hD y (by simp)
            · exact hD y (by simp [hy])
          · exact hD y (by simp [hy])) p2 (by omega)
      refine ⟨S'',?_,q2,?_⟩
      · refine q1.trans ((p1.append_right T).trans ?_)
        exact (List.perm_middle (l₁:=S) (a:=x) (l₂:=T)).symm
      · rw [hlen,show P.length+(S.length+1)+T.length=P.length+S.length+(T.length+1) by omega,show P++S'++T++Q=P++S'++(T++Q) by simp] at q3
        exact q3
theorem ins_ok (hC:Cmp K f D key) (P S Q:List Int) (hn:10001<n) (hS:S.Pairwise (· < ·)) (hD:∀ y∈S,D y) (hl:P.length+S.length≤10000) :
    ∃ S',S'.Perm S∧S'.Pairwise (R key)∧oY K n (P++S++Q) ((P.length:Nat):Int) ((P.length+S.length:Nat):Int) f=some (P++S'++Q):=by
  unfold oY
  rw [wn (k:=P.length+1) (by omega) (by omega)]
  cases S with
  | nil =>
    obtain ⟨m,rfl⟩:∃ m,n=m+1:=⟨n - 1,by omega⟩
    refine ⟨[],by simp,by simp,?_⟩
    simp only [j0,oX]
    rw [iteF (by simp; omega)]
  | cons x T =>
    rw [List.pairwise_cons] at hS
    simp only [List.length_cons] at hl ⊢
    obtain ⟨S',p1,p2,p3⟩:=ins_l3 (n:=n) hC P Q hn n [x] T (by omega) (by simp) (by simpa using hS.1) hS.2 (by simpa using hD) (by simp) (by simp; omega)
    refine ⟨S',by simpa using p1,p2,?_⟩
    simp only [List.length_cons,List.length_nil,Nat.zero_add] at p3
    rw [show P.length+(T.length+1)=P.length+1+T.length by omega,show P++x::T++Q=P++[x]++T++Q by simp]
    exact p3
theorem swap_l1 (P M Q:List Int):∀ (m:Nat) (X1 Y1 X2 Y2:List Int),X2.length<m→X1.length=Y1.length→X2.length=Y2.length→(P++X1++X2++M++Y1++Y2).length≤10000 →
    pU K n ((P.length:Nat):Int) ((P.length+X1.length+X2.length+M.length:Nat):Int) ((X1.length+X2.length:Nat):Int) m ((X1.length:Nat):Int) (P++Y1++X2++M++X1++Y2++Q)=some (P++Y1++Y2++M++X1++X2++Q):=by
  intro m
  induction m with
  | zero=>intro X1 Y1 X2 Y2 h; omega
  | succ m ih =>
    intro X1 Y1 X2 Y2 hm h1 h2 hl
    simp only [pU,rd]
    cases X2 with
    | nil =>
      cases Y2 with
      | nil=>rw [iteF (by simp)]
      | cons=>simp at h2
    | cons x X2 =>
      cases Y2 with
      | nil=>simp at h2
      | cons y Y2 =>
        simp only [List.length_append,List.length_cons] at hm h1 h2 hl ⊢
        rw [iteT (by omega),wn (n:=((P.length+X1.length+(X2.length+1)+M.length:Nat):Int)+((X1.length:Nat):Int)) (k:=P.length+X1.length+(X2.length+1)+M.length+X1.length) (by omega) (by omega),
          wn (n:=((P.length:Nat):Int)+((X1.length:Nat):Int)) (k:=P.length+X1.length) (by omega) (by omega)]
        simp only [List.length_set,List.length_append,List.length_cons]
        rw [aP (by omega),aP (by omega),aP (by omega),aP (by omega)]
        simp only [Int.toNat_natCast]
        have e1:P++Y1++x::X2++M++X1++y::Y2++Q=(P++Y1)++x::(X2++M++X1++y::(Y2++Q)):=by simp
        have e2:P++Y1++x::X2++M++X1++y::Y2++Q=(P++Y1++x::X2++M++X1)++y::(Y2++Q):=by simp
        have g1:List.getD (P++Y1++x::X2++M++X1++y::Y2++Q) (P.length+X1.length) default=x:=by rw [e1]; exact gd (by simp; omega)
        have g2:List.getD (P++Y1++x::X2++M++X1++y::Y2++Q) (P.length+X1.length+(X2.length+1)+M.length+X1.length) default=y:=by rw [e2]; exact gd (by simp; omega)
        rw [g1,g2]
        have s1:List.set (P++Y1++x::X2++M++X1++y::Y2++Q) (P.length+X1.length) y=(P++Y1++y::X2++M++X1)++y::(Y2++Q):=by
          rw [e1,show P.length+X1.length=(P++Y1).length by simp; omega]; simp
        have s2:List.set ((P++Y1++y::X2++M++X1)++y::(Y2++Q)) (P.length+X1.length+(X2.length+1)+M.length+X1.length) x=P++(Y1++[y])++X2++M++(X1++[x])++Y2++Q:=by
          rw [show P.length+X1.length+(X2.length+1)+M.length+X1.length=(P++Y1++y::X2++M++X1).length by simp; omega]; simp
        rw [s1,s2,wn (n:=((X1.length:Nat):Int)+1) (k:=(X1++[x]).length) (by simp) (by simp; omega)]
        have:=ih (X1++[x]) (Y1++[y]) X2 Y2 (by omega) (by simp; omega) (by omega) (by simp; omega)
        simp only [List.length_append,List.length_cons,List.length_nil,Nat.zero_add] at this ⊢
        rw [show P.length+X1.length+(X2.length+1)+M.length=P.length+(X1.length+1)+X2.length+M.length by omega,show X1.length+(X2.length+1)=X1.length+1+X2.length by omega,this]
        simp
theorem swap_ok (P X M Y Q:List Int) (hXY:X.length=Y.length) (hl:(P++X++M++Y).length≤10000) (hn:10001<n) {b k:Int} (hb:b=((P.length+X.length+M.length:Nat):Int)) (hk:k=((X.length:Nat):Int)) :
    md K n (P++X++M++Y++Q) ((P.length:Nat):Int) b k f=some (P++Y++M++X++Q):=by
  subst hb; subst hk
  unfold md
  have:=swap_l1 (K:=K) (n:=n) P M Q n [] [] X Y (by simp at hl; omega) rfl hXY (by simpa using hl)
  simpa using this
theorem rot_l2 (hn:10001<n) (mid:Nat):∀ (m:Nat) (P U V Q:List Int),U.length+V.length<m→P.length+U.length=mid→0<U.length→0<V.length→(P++U++V).length≤10000 →
    oF K n (mid:Int) f m ((U.length:Nat):Int) ((V.length:Nat):Int) (P++U++V++Q)=some (P++V++U++Q):=by
  intro m
  induction m with
  | zero=>intro P U V Q h; omega
  | succ m ih =>
    intro P U V Q hm hmid hU hV hl
    simp only [List.length_append] at hl
    simp only [oF,sd]
    rw [wn (n:=(mid:Int) - ((U.length:Nat):Int)) (k:=P.length) (by omega) (by omega)]
    by_cases he:U.length=V.length
    · rw [if_neg (by simp; omega)]
      have:=swap_ok (K:=K) (n:=n) (f:=f) P U [] V Q he (by simp; omega) hn (b:=(mid:Int)) (k:=((U.length:Nat):Int)) (by simp; omega) rfl
      simp only [List.append_nil] at this
      rw [this,sb]
    · rw [if_pos (by simp; omega)]
      by_cases hgt:U.length>V.length
      · rw [iteT (by omega),wn (n:=((U.length:Nat):Int) - ((V.length:Nat):Int)) (k:=U.length - V.length) (by omega) (by omega)]
        -- U=U1++U2 with |U1| = |V|
        obtain ⟨U1,U2,rfl,hu⟩:∃ U1 U2,U=U1++U2∧U1.length=V.length:=⟨U.take V.length,U.drop V.length,by simp,by simp; omega⟩
        simp only [List.length_append] at hmid hU hl hm hgt he ⊢
        have:=swap_ok (K:=K) (n:=n) (f:=f) P U1 U2 V Q hu (by simp; omega) hn (b:=(mid:Int)) (k:=((V.length:Nat):Int)) (by simp; omega) (by omega)
        rw [show P++(U1++U2)++V++Q=P++U1++U2++V++Q by simp,this,sb]
        simp only [pH]
        have h2:=ih (P++V) U2 U1 Q (by omega) (by simp; omega) (by omega) (by omega) (by simp; omega)
        rw [show U1.length+U2.length - V.length=U2.length by omega,← hu,h2]
        simp
      · rw [iteF (by omega),wn (n:=(mid:Int)+((V.length:Nat):Int)) (k:=mid+V.length) (by omega) (by omega),wn (n:=((mid+V.length:Nat):Int) - ((U.length:Nat):Int)) (k:=mid+V.length - U.length) (by omega) (by omega),
          wn (n:=((V.length:Nat):Int) - ((U.length:Nat):Int)) (k:=V.length - U.length) (by omega) (by omega)]
        obtain ⟨V1,V2,rfl,hv⟩:∃ V1 V2,V=V1++V2∧V2.length=U.length:=⟨V.take (V.length - U.length),V.drop (V.length - U.length),by simp,by simp; omega⟩
        simp only [List.length_append] at hl hm hgt he hV ⊢
        have:=swap_ok (K:=K) (n:=n) (f:=f) P U V1 V2 Q (by omega) (by simp; omega) hn (b:=((mid+(V1.length+V2.length) - U.length:Nat):Int)) (k:=((U.length:Nat):Int)) (by omega) rfl
        rw [show P++U++(V1++V2)++Q=P++U++V1++V2++Q by simp,this,sb]
        simp only [pH]
        have h2:=ih P V2 V1 (U++Q) (by omega) (by omega) (by omega) (by omega) (by simp; omega)
        rw [show V1.length+V2.length - U.length=V1.length by omega,← hv,show P++V2++V1++U++Q=P++V2++V1++(U++Q) by simp,h2]
        simp
theorem rot_ok (P U V Q:List Int) (hn:10001<n) (hU:0<U.length) (hV:0<V.length) (hl:(P++U++V).length≤10000) :
    rI K n (P++U++V++Q) ((P.length:Nat):Int) ((P.length+U.length:Nat):Int) ((P.length+U.length+V.length:Nat):Int) f=some (P++V++U++Q):=by
  unfold rI
  simp only [List.length_append] at hl
  rw [wn (k:=U.length) (by omega) (by omega),wn (k:=V.length) (by omega) (by omega)]
  exact rot_l2 hn _ n P U V Q (by omega) rfl hU hV (by simp; omega)
end Go.Proofs.Ytlpndemhnpajiaa.QSort
namespace Go.Proofs.Ytlpndemhnpajiaa.QSort
set_option linter.all false
open Go.RowKit
variable {K:Kn} {n:Nat} {f:Fv} {D:Int→Prop} {key:Int→Int}
def at_ (L:List Int) (k:Nat):Int:=L.getD k default
theorem at_app {P A Q:List Int} {k:Nat} (h:k<A.length) {i:Nat} (hi:i=P.length+k):(P++A++Q).getD i default=at_ A k:=by
  subst hi
  simp [at_,List.getD_eq_getElem?_getD,List.getElem?_append,h,show ¬ (P.length+k<P.length) by omega]
theorem ms {A:List Int} {k:Nat} (h:k<A.length):at_ A k∈A:=by unfold at_; rw [bc h]; exact List.getElem_mem _
theorem mem_at {A:List Int} {x:Int} (h:x∈A):∃ k,k<A.length∧at_ A k=x:=by
  obtain ⟨k,hk,e⟩:=List.getElem_of_mem h
  exact ⟨k,hk,by unfold at_; rw [bc hk,e]⟩
theorem dj {r:Int→Int→Prop} {A:List Int} (h:A.Pairwise r) {i j:Nat} (hij:i<j) (hj:j<A.length):r (at_ A i) (at_ A j):=by
  unfold at_; rw [bc (by omega:i<A.length),bc hj]
  exact List.pairwise_iff_getElem.1 h i j (by omega) hj hij
theorem at_take {A:List Int} {t k:Nat} (h:k<t):at_ (A.take t) k=at_ A k:=by simp [at_,List.getD_eq_getElem?_getD,List.getElem?_take,h]
theorem at_drop {A:List Int} {t k:Nat}:at_ (A.drop t) k=at_ A (t+k):=by simp [at_,List.getD_eq_getElem?_getD]
theorem nH {A:List Int} {t:Nat} {x:Int} (h:x∈A.take t):∃ k,k<t∧k<A.length∧at_ A k=x:=by
  obtain ⟨k,hk,e⟩:=mem_at h
  simp at hk
  exact ⟨k,by omega,by omega,by rw [←e,at_take (by omega)]⟩
theorem po {A:List Int} {t:Nat} {x:Int} (h:x∈A.drop t):∃ k,t≤k∧k<A.length∧at_ A k=x:=by
  obtain ⟨k,hk,e⟩:=mem_at h
  simp at hk
  exact ⟨t+k,by omega,by omega,by rw [←e,at_drop]⟩
theorem put_in {x:Int} {B:List Int} {t:Nat} (hB:B.Pairwise (R key)) (h1:∀ k,k<t→k<B.length→R key (at_ B k) x) (h2:∀ k,t≤k→k<B.length→R key x (at_ B k)):(B.take t++x::B.drop t).Pairwise (R key):=by
  rw [List.pairwise_append,List.pairwise_cons]
  refine ⟨hB.take,⟨fun y hy=>?_,hB.drop⟩,fun u hu v hv=>?_⟩
  · obtain ⟨k,k1,k2,rfl⟩:=po hy; exact h2 k k1 k2
  · obtain ⟨i,i1,i2,rfl⟩:=nH hu
    rcases List.mem_cons.1 hv with rfl | hv
    · exact h1 i i1 i2
    · obtain ⟨k,k1,k2,rfl⟩:=po hv; exact dj hB (by omega) k2
theorem go_right (v:Int):∀ (m:Nat) (P X Q:List Int) (x:Int),X.length<m→(P++X).length≤10000→v=((P.length+X.length+1:Nat):Int) →
    nC K n v m ((P.length:Nat):Int) (P++x::X++Q)=some (P++X++x::Q):=by
  intro m
  induction m with
  | zero=>intro P X Q x h; omega
  | succ m ih =>
    intro P X Q x hm hl hv
    subst hv
    simp only [List.length_append] at hl
    simp only [nC,rJ]
    rw [wn (n:=((P.length+X.length+1:Nat):Int) - 1) (k:=P.length+X.length) (by omega) (by omega)]
    cases X with
    | nil=>rw [iteF (by simp)]; simp
    | cons y X =>
      simp only [List.length_cons] at *
      rw [iteT (by omega),wn (n:=((P.length:Nat):Int)+1) (k:=P.length+1) (by omega) (by omega)]
      simp only [List.length_set,List.length_append,List.length_cons]
      rw [aP (by omega),aP (by omega),aP (by omega),aP (by omega)]
      simp only [Int.toNat_natCast]
      rw [show P++x::y::X++Q=P++x::y::(X++Q) by simp,gd1 rfl,gd rfl,sw' rfl rfl]
      have:=ih (P++[y]) X Q x (by omega) (by simp; omega) (by simp; omega)
      simp only [List.length_append,List.length_cons,List.length_nil,Nat.zero_add] at this
      rw [show P++y::x::(X++Q)=P++[y]++x::X++Q by simp,this]
      simp
theorem go_left (v:Int):∀ (m:Nat) (P X Q:List Int) (x:Int),X.length<m→(P++X).length≤10000→v=((P.length:Nat):Int) →
    nf K n v m ((P.length+X.length:Nat):Int) (P++X++x::Q)=some (P++x::X++Q):=by
  intro m
  induction m with
  | zero=>intro P X Q x h; omega
  | succ m ih =>
    intro P X Q x hm hl hv
    subst hv
    simp only [List.length_append] at hl
    simp only [nf,sg]
    rcases List.eq_nil_or_concat X with rfl | ⟨X,y,rfl⟩
    · rw [iteF (by simp)]; simp
    · simp only [List.concat_eq_append] at *
      simp only [List.length_append,List.length_cons,List.length_nil] at *
      rw [iteT (by omega),wn (n:=((P.length+(X.length+(0+1)):Nat):Int) - 1) (k:=P.length+X.length) (by omega) (by omega)]
      simp only [List.length_set,List.length_append,List.length_cons,List.length_nil]
      rw [aP (by omega),aP (by omega),aP (by omega),aP (by omega)]
      simp only [Int.toNat_natCast]
      rw [show P++(X++[y])++x::Q=(P++X)++y::x::Q by simp,gd1 (i:=P.length+(X.length+(0+1))) (by simp; omega),gd (i:=P.length+X.length) (by simp),sw (by simp) (by simp; omega)]
      have:=ih P X (y::Q) x (by omega) (by omega) rfl
      rw [this]
      simp
theorem one_left (hC:Cmp K f D key) (P B Q:List Int) (x:Int) (hB:B.Pairwise (R key)) (hx:D x) (hD:∀ y∈B,D y∧x<y) (hl:P.length+1+B.length≤10000):∀ (m i j:Nat),j - i<m→i≤j→j≤B.length→(∀ k,k<i→R key (at_ B k) x)→(∀ k,j≤k→k<B.length→R key x (at_ B k)) →
    ∃ t,t≤B.length∧(∀ k,k<t→R key (at_ B k) x)∧(∀ k,t≤k→k<B.length→R key x (at_ B k))∧nI K n (P++[x]++B++Q) ((P.length:Nat):Int) f m ((P.length+1+i:Nat):Int) ((P.length+1+j:Nat):Int)=nC K n ((P.length+1+t:Nat):Int) n ((P.length:Nat):Int) (P++[x]++B++Q):=by
  intro m
  induction m with
  | zero=>intro i j h; omega
  | succ m ih =>
    intro i j hm hij hj h1 h2
    simp only [nI,rS]
    by_cases he:i<j
    · rw [iteT (by omega),half (by omega),sb]
      obtain ⟨h,hh,e⟩:∃ h,(i≤h∧h<j)∧(P.length+1+i+(P.length+1+j)) / 2=P.length+1+h:=⟨(P.length+1+i+(P.length+1+j)) / 2 - (P.length+1),by omega,by omega⟩
      rw [e]
      have hlen:(P++[x]++B++Q).length=P.length+1+B.length+Q.length:=by simp; omega
      rw [aP (by omega),aP (by omega)]
      simp only [Int.toNat_natCast]
      rw [at_app (P:=P++[x]) (k:=h) (by omega) (by simp),show (P++[x]++B++Q).getD P.length default=x by rw [show P++[x]++B++Q=P++x::(B++Q) by simp]; exact gd rfl]
      have hb:=hD _ (ms (A:=B) (k:=h) (by omega))
      obtain ⟨c,hc,hlt⟩:=hC.ok (at_ B h) x hb.1 hx
      rw [hc,sb]
      simp only [rx]
      have hR:c<0↔R key (at_ B h) x:=hlt.trans (R.of_lt hb.2)
      by_cases hr:c<0
      · rw [iteT hr,wn (n:=((P.length+1+h:Nat):Int)+1) (k:=P.length+1+(h+1)) (by omega) (by omega)]
        refine ih (h+1) j (by omega) (by omega) hj (fun k hk=>?_) h2
        rcases Nat.lt_or_ge k h with hk2 | hk2
        · exact (dj hB hk2 (by omega)).trans (hR.1 hr)
        · obtain rfl:k=h:=by omega
          exact hR.1 hr
      · rw [iteF hr]
        refine ih i h (by omega) (by omega) (by omega) h1 (fun k hk hk2=>?_)
        have hxh:R key x (at_ B h):=R.not (by omega) (fun hh=>hr (hR.2 hh))
        rcases Nat.lt_or_ge h k with hk3 | hk3
        · exact hxh.trans (dj hB hk3 hk2)
        · obtain rfl:k=h:=by omega
          exact hxh
    · obtain rfl:i=j:=by omega
      exact ⟨i,hj,h1,h2,by rw [iteF (by omega)]⟩
theorem one_right (hC:Cmp K f D key) (P A Q:List Int) (x:Int) (hA:A.Pairwise (R key)) (hx:D x) (hD:∀ y∈A,D y∧y<x) (hl:P.length+1+A.length≤10000):∀ (m i j:Nat),j - i<m→i≤j→j≤A.length→(∀ k,k<i→R key (at_ A k) x)→(∀ k,j≤k→k<A.length→R key x (at_ A k)) →
    ∃ t,t≤A.length∧(∀ k,k<t→R key (at_ A k) x)∧(∀ k,t≤k→k<A.length→R key x (at_ A k))∧nT K n (P++A++x::Q) ((P.length+A.length:Nat):Int) f m ((P.length+i:Nat):Int) ((P.length+j:Nat):Int)=nf K n ((P.length+t:Nat):Int) n ((P.length+A.length:Nat):Int) (P++A++x::Q):=by
  intro m
  induction m with
  | zero=>intro i j h; omega
  | succ m ih =>
    intro i j hm hij hj h1 h2
    simp only [nT,rO]
    by_cases he:i<j
    · rw [iteT (by omega),half (by omega),sb]
      obtain ⟨h,hh,e⟩:∃ h,(i≤h∧h<j)∧(P.length+i+(P.length+j)) / 2=P.length+h:=⟨(P.length+i+(P.length+j)) / 2 - P.length,by omega,by omega⟩
      rw [e]
      have hlen:(P++A++x::Q).length=P.length+A.length+Q.length+1:=by simp; omega
      rw [aP (by omega),aP (by omega)]
      simp only [Int.toNat_natCast]
      rw [at_app (P:=P) (A:=A) (k:=h) (by omega) rfl,gd (A:=P++A) (by simp)]
      have hb:=hD _ (ms (A:=A) (k:=h) (by omega))
      obtain ⟨c,hc,hlt⟩:=hC.ok x (at_ A h) hx hb.1
      rw [hc,sb]
      simp only [qI]
      have hR:c<0↔R key x (at_ A h):=hlt.trans (R.of_lt hb.2)
      by_cases hr:c<0
      · rw [iteC hr]
        refine ih i h (by omega) (by omega) (by omega) h1 (fun k hk hk2=>?_)
        rcases Nat.lt_or_ge h k with hk3 | hk3
        · exact (hR.1 hr).trans (dj hA hk3 hk2)
        · obtain rfl:k=h:=by omega
          exact hR.1 hr
      · rw [iteB hr,wn (n:=((P.length+h:Nat):Int)+1) (k:=P.length+(h+1)) (by omega) (by omega)]
        refine ih (h+1) j (by omega) (by omega) hj (fun k hk=>?_) h2
        have hxh:R key (at_ A h) x:=R.not (by omega) (fun hh=>hr (hR.2 hh))
        rcases Nat.lt_or_ge k h with hk2 | hk2
        · exact (dj hA hk2 (by omega)).trans hxh
        · obtain rfl:k=h:=by omega
          exact hxh
    · obtain rfl:i=j:=by omega
      exact ⟨i,hj,h1,h2,by rw [iteF (by omega)]⟩
end Go.Proofs.Ytlpndemhnpajiaa.QSort
namespace Go.Proofs.Ytlpndemhnpajiaa.QSort
set_option linter.all false
open Go.RowKit
variable {K:Kn} {n:Nat} {f:Fv} {D:Int→Prop} {key:Int→Int}
structure Mg (key:Int→Int) (D:Int→Prop) (A B:List Int):Prop where
  l:A.Pairwise (R key)
  r:B.Pairwise (R key)
  lt:∀ x∈A,∀ y∈B,x<y
  d:∀ x∈A++B,D x
def Merges (key:Int→Int) (D:Int→Prop) (N:Nat) (g:List Int→Int→Int→Int→Option (List Int)):Prop :=
  ∀ P A B Q:List Int,0<A.length→0<B.length→A.length+B.length<N→(P++A++B).length≤10000→Mg key D A B →
    ∃ C,C.Perm (A++B)∧C.Pairwise (R key)∧g (P++A++B++Q) ((P.length:Nat):Int) ((P.length+A.length:Nat):Int) ((P.length+A.length+B.length:Nat):Int)=some (P++C++Q)
theorem part (g:List Int→Int→Int→Int→Option (List Int)) {N:Nat} (hg:Merges key D N g) (P A B Q:List Int) (hN:A.length+B.length<N) (hl:(P++A++B).length≤10000) (h:Mg key D A B) :
    ∃ C,C.Perm (A++B)∧C.Pairwise (R key)∧∀ (k:List Int→Option (List Int)),(if 0<A.length∧0<B.length then (g (P++A++B++Q) ((P.length:Nat):Int) ((P.length+A.length:Nat):Int) ((P.length+A.length+B.length:Nat):Int)).bind k else k (P++A++B++Q))=k (P++C++Q):=by
  by_cases hc:0<A.length∧0<B.length
  · obtain ⟨C,h1,h2,h3⟩:=hg P A B Q hc.1 hc.2 hN hl h
    exact ⟨C,h1,h2,fun k=>by rw [if_pos hc,h3]; rfl⟩
  · refine ⟨A++B,.refl _,?_,fun k=>by rw [if_neg hc]; simp⟩
    rcases A with _ | ⟨x,A⟩
    · simpa using h.r
    · rcases B with _ | ⟨y,B⟩
      · simpa using h.l
      · simp at hc
theorem tail_ok {N:Nat} (hn:10001<n) (P A1 A2 B1 B2 Q:List Int) (hg:Merges key D N (fun L a m b=>K.ik L a m b f)) (h:Mg key D (A1++A2) (B1++B2)) (hl:(P++A1++A2++B1++B2).length≤10000)
    (hN1:A1.length+B1.length<N) (hN2:A2.length+B2.length<N) (c1:∀ x∈A1,∀ y∈B2,R key x y) (c2:∀ x∈B1,∀ y∈A2,R key x y) {v2 v3 v4 v30 v31 v39:Int} (e2:v2=((P.length:Nat):Int)) (e3:v3=((P.length+A1.length+A2.length:Nat):Int)) (e4:v4=((P.length+A1.length+A2.length+B1.length+B2.length:Nat):Int))
    (e30:v30=((P.length+A1.length+B1.length:Nat):Int)) (e31:v31=((P.length+A1.length+B1.length+(P.length+A1.length+A2.length):Nat):Int)) (e39:v39=((P.length+A1.length:Nat):Int)) :
    ∃ C,C.Perm (A1++A2++(B1++B2))∧C.Pairwise (R key)∧(if (decide (v39<v3))=true then
      fN K n (P++A1++A2++B1++B2++Q) v2 v3 v4 f v30 v31 v39 (decide (v3<(w64 (v31 - v39))))
    else
      fN K n (P++A1++A2++B1++B2++Q) v2 v3 v4 f v30 v31 v39 false)=some (P++C++Q):=by
  simp only [List.length_append] at hl
  have e5:w64 (v31 - v39)=((P.length+A1.length+A2.length+B1.length:Nat):Int):=by rw [e31,e39]; exact wn (by omega) (by omega)
  have hpl:=List.pairwise_append.1 h.l
  have hpr:=List.pairwise_append.1 h.r
  -- the parts change places
  have rot:(if (decide (v39<v3))=true then
      fN K n (P++A1++A2++B1++B2++Q) v2 v3 v4 f v30 v31 v39 (decide (v3<(w64 (v31 - v39))))
    else
      fN K n (P++A1++A2++B1++B2++Q) v2 v3 v4 f v30 v31 v39 false)=mo K n v2 v4 f v30 v31 v39 (P++A1++B1++A2++B2++Q):=by
    rw [e5]
    have both:∀ b:Bool,(b=true↔0<A2.length∧0<B1.length)→fN K n (P++A1++A2++B1++B2++Q) v2 v3 v4 f v30 v31 v39 b=mo K n v2 v4 f v30 v31 v39 (P++A1++B1++A2++B2++Q):=by
      intro b hb
      unfold fN
      by_cases hc:b=true
      · rw [if_pos hc,e5]
        have hc2:=hb.1 hc
        have:=rot_ok (K:=K) (n:=n) (f:=f) (P++A1) A2 B1 (B2++Q) hn hc2.1 hc2.2 (by simp; omega)
        rw [show P++A1++A2++B1++B2++Q=P++A1++A2++B1++(B2++Q) by simp,e39,e3]
        rw [show ((P++A1).length:Nat)=P.length+A1.length by simp] at this
        rw [this,sb]
        congr 1; simp
      · rw [if_neg hc]
        have hc2:¬ (0<A2.length∧0<B1.length):=fun hh=>hc (hb.2 hh)
        congr 1
        rcases A2 with _ | ⟨x,A2⟩
        · simp
        · rcases B1 with _ | ⟨y,B1⟩
          · simp
          · simp at hc2
    by_cases hc:v39<v3
    · rw [iteT hc]
      exact both _ (by rw [decide_eq_true_eq]; omega)
    · rw [iteF hc]
      exact both _ (by simp; omega)
  rw [rot]
  -- the first half
  have m1:Mg key D A1 B1:=⟨hpl.1,hpr.1,fun x hx y hy=>h.lt x (by simp [hx]) y (by simp [hy]),fun x hx=>h.d x (by rcases List.mem_append.1 hx with q | q<;>simp [q])⟩
  have m2:Mg key D A2 B2:=⟨hpl.2.1,hpr.2.1,fun x hx y hy=>h.lt x (by simp [hx]) y (by simp [hy]),fun x hx=>h.d x (by rcases List.mem_append.1 hx with q | q<;>simp [q])⟩
  obtain ⟨C1,p1,s1,r1⟩:=part _ hg P A1 B1 (A2++B2++Q) hN1 (by simp; omega) m1
  have l1:C1.length=A1.length+B1.length:=by rw [p1.length_eq]; simp
  obtain ⟨C2,p2,s2,r2⟩:=part _ hg (P++C1) A2 B2 Q hN2 (by simp; omega) m2
  refine ⟨C1++C2,?_,?_,?_⟩
  · refine (p1.append p2).trans ?_
    simp only [List.append_assoc]
    refine List.Perm.append_left A1 ?_
    rw [←List.append_assoc,← List.append_assoc]
    exact List.perm_append_comm.append_right B2
  · rw [List.pairwise_append]
    refine ⟨s1,s2,fun x hx y hy=>?_⟩
    have hx:=(p1.mem_iff).1 hx
    have hy:=(p2.mem_iff).1 hy
    rcases List.mem_append.1 hx with hx | hx
    · rcases List.mem_append.1 hy with hy | hy
      · exact hpl.2.2 x hx y hy
      · exact c1 x hx y hy
    · rcases List.mem_append.1 hy with hy | hy
      · exact c2 x hx y hy
      · exact hpr.2.2 x hx y hy
  · -- the calls
    have j13:jh K n v4 f v30 v31 v39 (P++C1++A2++B2++Q)=some (P++C1++C2++Q):=by
      have:=r2 (fun L=>some L)
      rw [←this]
      unfold jh
      rw [e5,e30,e4]
      have k1:(P++C1).length=P.length+A1.length+B1.length:=by simp [l1]; omega
      rw [k1]
      have both:∀ b:Bool,(b=true↔0<A2.length∧0<B2.length)→py K n ((P.length+A1.length+A2.length+B1.length+B2.length:Nat):Int) f ((P.length+A1.length+B1.length:Nat):Int) v31 v39 (P++C1++A2++B2++Q) b=if 0<A2.length∧0<B2.length then
          (K.ik (P++C1++A2++B2++Q) ((P.length+A1.length+B1.length:Nat):Int) ((P.length+A1.length+B1.length+A2.length:Nat):Int) ((P.length+A1.length+B1.length+A2.length+B2.length:Nat):Int) f).bind (fun L=>some L) else some (P++C1++A2++B2++Q):=by
        intro b hb
        unfold py
        by_cases hc:b=true
        · rw [if_pos hc,if_pos (hb.1 hc),e5]
          simp only [rc]
          rw [show P.length+A1.length+B1.length+A2.length=P.length+A1.length+A2.length+B1.length by omega]
        · rw [if_neg hc,if_neg (fun hh=>hc (hb.2 hh))]; rfl
      by_cases hc:((P.length+A1.length+B1.length:Nat):Int)<((P.length+A1.length+A2.length+B1.length:Nat):Int)
      · rw [iteT hc]; exact both _ (by rw [decide_eq_true_eq]; omega)
      · rw [iteF hc]; exact both _ (by simp; omega)
    have:=r1 (fun L=>jh K n v4 f v30 v31 v39 L)
    rw [show P++C1++(A2++B2++Q)=P++C1++A2++B2++Q by simp,j13] at this
    rw [show P++(C1++C2)++Q=P++C1++C2++Q by simp,← this]
    unfold mo
    rw [e2,e39,e30]
    rw [show P++A1++B1++(A2++B2++Q)=P++A1++B1++A2++B2++Q by simp]
    have both : ∀ b : Bool, (b = true ↔ 0 < A1.length ∧ 0 < B1.length) → qd K n ((P.length : Nat) : Int) v4 f ((P.length + A1.length + B1.length : Nat) : Int) v31 ((P.length + A1.length : Nat) : Int) (P ++ A1 ++ B1 ++ A2 ++ B2 ++ Q) b = if 0 < A1.length ∧ 0 < B1.length then
          (K.ik (P++A1++B1++A2++B2++Q) ((P.length:Nat):Int) ((P.length+A1.length:Nat):Int) ((P.length+A1.length+B1.length:Nat):Int) f).bind (fun L=>jh K n v4 f ((P.length+A1.length+B1.length:Nat):Int) v31 ((P.length+A1.length:Nat):Int) L) else jh K n v4 f ((P.length+A1.length+B1.length:Nat):Int) v31 ((P.length+A1.length:Nat):Int) (P++A1++B1++A2++B2++Q):=by
      intro b hb
      unfold qd
      by_cases hc:b=true
      · rw [if_pos hc,if_pos (hb.1 hc)]
      · rw [if_neg hc,if_neg (fun hh=>hc (hb.2 hh))]
    by_cases hc:((P.length:Nat):Int)<((P.length+A1.length:Nat):Int)
    · rw [iteT hc]; exact both _ (by rw [decide_eq_true_eq]; omega)
    · rw [iteF hc]; exact both _ (by simp; omega)
theorem seek (hC:Cmp K f D key) (P A B Q:List Int) (h:Nat) (hM:Mg key D A B) (hl:(P++A++B).length≤10000) {v2 v4 v30:Int} (hh:h<A.length+B.length) (lo hi:Nat) (hlo:h≤B.length+lo) (hhi:hi≤A.length) (hhi2:hi≤h):∀ (m i j:Nat),j - i<m→lo≤i→i≤j→j≤hi →
    (∀ k,lo≤k→k<i→R key (at_ A k) (at_ B (h - 1 - k)))→(∀ k,j≤k→k<hi→R key (at_ B (h - 1 - k)) (at_ A k)) →
    ∃ s,lo≤s∧s≤hi∧(∀ k,lo≤k→k<s→R key (at_ A k) (at_ B (h - 1 - k)))∧(∀ k,s≤k→k<hi→R key (at_ B (h - 1 - k)) (at_ A k)) ∧
      mC K n (P++A++B++Q) v2 ((P.length+A.length:Nat):Int) v4 f v30 ((P.length+h+(P.length+A.length):Nat):Int) m ((P.length+i:Nat):Int) ((P.length+j:Nat):Int) =
      (if (decide (((P.length+s:Nat):Int)<((P.length+A.length:Nat):Int)))=true then
        fN K n (P++A++B++Q) v2 ((P.length+A.length:Nat):Int) v4 f v30 ((P.length+h+(P.length+A.length):Nat):Int) ((P.length+s:Nat):Int) (decide (((P.length+A.length:Nat):Int)<(w64 (((P.length+h+(P.length+A.length):Nat):Int) - ((P.length+s:Nat):Int)))))
      else
        fN K n (P++A++B++Q) v2 ((P.length+A.length:Nat):Int) v4 f v30 ((P.length+h+(P.length+A.length):Nat):Int) ((P.length+s:Nat):Int) false):=by
  simp only [List.length_append] at hl
  intro m
  induction m with
  | zero=>intro i j h; omega
  | succ m ih =>
    intro i j hm hli hij hj h1 h2
    simp only [mC,rh]
    by_cases he:i<j
    · rw [iteT (by omega),half (by omega),sb]
      obtain ⟨c,hc,e⟩:∃ c,(i≤c∧c<j)∧(P.length+i+(P.length+j)) / 2=P.length+c:=⟨(P.length+i+(P.length+j)) / 2 - P.length,by omega,by omega⟩
      rw [e,wn (n:=((P.length+h+(P.length+A.length):Nat):Int) - 1) (k:=P.length+h+(P.length+A.length) - 1) (by omega) (by omega),
        wn (n:=((P.length+h+(P.length+A.length) - 1:Nat):Int) - ((P.length+c:Nat):Int)) (k:=P.length+A.length+(h - 1 - c)) (by omega) (by omega)]
      have hlen:(P++A++B++Q).length=P.length+A.length+B.length+Q.length:=by simp; omega
      rw [aP (by omega),aP (by omega)]
      simp only [Int.toNat_natCast]
      rw [at_app (P:=P++A) (A:=B) (k:=h - 1 - c) (by omega) (by simp),show P++A++B++Q=P++A++(B++Q) by simp,at_app (P:=P) (A:=A) (k:=c) (by omega) rfl,show P++A++(B++Q)=P++A++B++Q by simp]
      have ma:=ms (A:=A) (k:=c) (by omega)
      have mb:=ms (A:=B) (k:=h - 1 - c) (by omega)
      have hlt2:=hM.lt _ ma _ mb
      obtain ⟨r,hr,hlt⟩:=hC.ok (at_ B (h - 1 - c)) (at_ A c) (hM.d _ (by simp [mb])) (hM.d _ (by simp [ma]))
      rw [hr,sb]
      simp only [so]
      have hR:r<0↔R key (at_ B (h - 1 - c)) (at_ A c):=hlt.trans (R.of_lt hlt2)
      by_cases hr0:r<0
      · rw [iteC hr0]
        refine ih i c (by omega) hli (by omega) (by omega) h1 (fun k hk hk2=>?_)
        rcases Nat.lt_or_ge c k with hk3 | hk3
        · exact ((dj hM.r (i:=h - 1 - k) (j:=h - 1 - c) (by omega) (by omega)).trans (hR.1 hr0)).trans (dj hM.l hk3 (by omega))
        · obtain rfl:k=c:=by omega
          exact hR.1 hr0
      · rw [iteB hr0,wn (n:=((P.length+c:Nat):Int)+1) (k:=P.length+(c+1)) (by omega) (by omega)]
        refine ih (c+1) j (by omega) (by omega) (by omega) hj (fun k hk0 hk=>?_) h2
        have hxh:R key (at_ A c) (at_ B (h - 1 - c)):=R.not (by omega) (fun hh=>hr0 (hR.2 hh))
        rcases Nat.lt_or_ge k c with hk2 | hk2
        · exact ((dj hM.l hk2 (by omega)).trans hxh).trans (dj hM.r (i:=h - 1 - c) (j:=h - 1 - k) (by omega) (by omega))
        · obtain rfl:k=c:=by omega
          exact hxh
    · obtain rfl:i=j:=by omega
      exact ⟨i,hli,hj,h1,h2,by rw [iteF (by omega)]⟩
theorem merge_one (hC:Cmp K f D key) {N:Nat} (hn:10001<n) (hg:Merges key D N (fun L a m b=>K.ik L a m b f)):Merges key D (N+1) (fun L a m b=>gg K n L a m b f):=by
  intro P A B Q hA hB hN hl hM
  have hl2:=hl
  simp only [List.length_append] at hl2
  simp only [gg]
  rw [wn (n:=((P.length+A.length:Nat):Int) - ((P.length:Nat):Int)) (k:=A.length) (by omega) (by omega)]
  by_cases h1:A.length=1
  · rw [if_pos (by simp; omega)]
    obtain ⟨x,rfl⟩:∃ x,A=[x]:=by
      rcases A with _ | ⟨x,_ | ⟨y,A⟩⟩
      · simp at h1
      · exact ⟨x,rfl⟩
      · simp at h1
    simp only [List.length_cons,List.length_nil,Nat.zero_add] at *
    obtain ⟨t,t1,t2,t3,t4⟩:=one_left (n:=n) hC P B Q x hM.r (hM.d x (by simp)) (fun y hy=>⟨hM.d y (by simp [hy]),hM.lt x (by simp) y hy⟩) (by omega) n 0 B.length (by omega) (by omega) (Nat.le_refl _) (fun k hk=>by omega) (fun k hk hk2=>by omega)
    rw [show P.length+1+0=P.length+1 from rfl] at t4
    rw [t4]
    have:=go_right (K:=K) (n:=n) ((P.length+1+t:Nat):Int) n P (B.take t) (B.drop t++Q) x (by simp; omega) (by simp; omega) (by simp; omega)
    rw [show P++x::B.take t++(B.drop t++Q)=P++[x]++(B.take t++B.drop t)++Q by simp only [List.append_assoc,List.cons_append,List.nil_append],List.take_append_drop] at this
    refine ⟨B.take t++x::B.drop t,?_,put_in hM.r (fun k hk _=>t2 k hk) t3,by rw [this]; simp⟩
    refine List.perm_middle.trans (by simp)
  · rw [if_neg (by simp; omega)]
    rw [wn (n:=((P.length+A.length+B.length:Nat):Int) - ((P.length+A.length:Nat):Int)) (k:=B.length) (by omega) (by omega)]
    by_cases h2:B.length=1
    · rw [if_pos (by simp; omega)]
      obtain ⟨x,rfl⟩:∃ x,B=[x]:=by
        rcases B with _ | ⟨x,_ | ⟨y,B⟩⟩
        · simp at h2
        · exact ⟨x,rfl⟩
        · simp at h2
      obtain ⟨t,t1,t2,t3,t4⟩:=one_right (n:=n) hC P A Q x hM.l (hM.d x (by simp)) (fun y hy=>⟨hM.d y (by simp [hy]),hM.lt y hy x (by simp)⟩) (by simp at hl2; omega) n 0 A.length (by simp at hl2; omega) (by omega) (Nat.le_refl _) (fun k hk=>by omega) (fun k hk hk2=>by omega)
      rw [Nat.add_zero] at t4
      rw [show P++A++[x]++Q=P++A++x::Q by simp,t4]
      have:=go_left (K:=K) (n:=n) ((P.length+t:Nat):Int) n (P++A.take t) (A.drop t) Q x (by simp at hl2 ⊢; omega) (by simp at hl2 ⊢; omega) (by simp; omega)
      rw [show P++A.take t++A.drop t++x::Q=P++(A.take t++A.drop t)++x::Q by simp only [List.append_assoc],List.take_append_drop,show (P++A.take t).length+(A.drop t).length=P.length+A.length by simp; omega] at this
      refine ⟨A.take t++x::A.drop t,?_,put_in hM.l (fun k hk _=>t2 k hk) t3,by rw [this]; simp⟩
      refine List.perm_middle.trans ?_
      rw [List.take_append_drop]; exact (List.perm_append_singleton x A).symm
    · rw [if_neg (by simp; omega),half (by omega),sb]
      obtain ⟨h,hh,e⟩:∃ h,(2*h≤A.length+B.length∧A.length+B.length≤2*h+1)∧(P.length+(P.length+A.length+B.length)) / 2=P.length+h:=⟨(P.length+(P.length+A.length+B.length)) / 2 - P.length,by omega,by omega⟩
      rw [e,wn (n:=((P.length+h:Nat):Int)+((P.length+A.length:Nat):Int)) (k:=P.length+h+(P.length+A.length)) (by omega) (by omega),sb,sb]
      have key_:∀ lo hi:Nat,h≤B.length+lo→hi≤A.length→hi≤h→lo≤hi→(lo=0∨h=B.length+lo)→(hi=A.length∨hi=h) →
          ∃ C,C.Perm (A++B)∧C.Pairwise (R key)∧mC K n (P++A++B++Q) ((P.length:Nat):Int) ((P.length+A.length:Nat):Int) ((P.length+A.length+B.length:Nat):Int) f ((P.length+h:Nat):Int) ((P.length+h+(P.length+A.length):Nat):Int) n ((P.length+lo:Nat):Int) ((P.length+hi:Nat):Int)=some (P++C++Q):=by
        intro lo hi k1 k2 k3 k4 k5 k6
        obtain ⟨s,s1,s2,s3,s4,s5⟩:=seek (n:=n) hC P A B Q h hM hl (v2:=((P.length:Nat):Int)) (v4:=((P.length+A.length+B.length:Nat):Int)) (v30:=((P.length+h:Nat):Int)) (by omega) lo hi k1 k2 k3 n lo hi (by omega) (Nat.le_refl _) k4 (Nat.le_refl _) (fun k _ _=>by omega) (fun k _ _=>by omega)
        rw [s5]
        have eA:A.take s++A.drop s=A:=List.take_append_drop s A
        have eB:B.take (h - s)++B.drop (h - s)=B:=List.take_append_drop (h - s) B
        have la:(A.take s).length=s:=by simp; omega
        have lb:(B.take (h - s)).length=h - s:=by simp; omega
        have la2:(A.drop s).length=A.length - s:=by simp
        have lb2:(B.drop (h - s)).length=B.length - (h - s):=by simp
        have eL:P++A++B++Q=P++A.take s++A.drop s++B.take (h - s)++B.drop (h - s)++Q:=by
          conv=>lhs; rw [←eA,← eB]
          simp only [List.append_assoc]
        have:=tail_ok (K:=K) (n:=n) (f:=f) (N:=N) hn P (A.take s) (A.drop s) (B.take (h - s)) (B.drop (h - s)) Q hg (by rw [eA,eB]; exact hM) (by simp only [List.length_append,la,lb,la2,lb2]; omega) (by omega) (by omega)
          (fun x hx y hy=>by
            obtain ⟨i,i1,i2,rfl⟩:=nH hx
            obtain ⟨k,q1,q2,rfl⟩:=po hy
            have m1:=s3 (s - 1) (by omega) (by omega)
            rw [show h - 1 - (s - 1)=h - s by omega] at m1
            have m2:R key (at_ A i) (at_ B (h - s)):=by
              rcases Nat.lt_or_ge i (s - 1) with q | q
              · exact (dj hM.l q (by omega)).trans m1
              · obtain rfl:i=s - 1:=by omega
                exact m1
            rcases Nat.lt_or_ge (h - s) k with q | q
            · exact m2.trans (dj hM.r q q2)
            · obtain rfl:k=h - s:=by omega
              exact m2)
          (fun x hx y hy=>by
            obtain ⟨k,q1,q2,rfl⟩:=nH hx
            obtain ⟨i,i1,i2,rfl⟩:=po hy
            have m1:=s4 s (Nat.le_refl _) (by omega)
            have m2:R key (at_ B k) (at_ A s):=by
              rcases Nat.lt_or_ge k (h - 1 - s) with q | q
              · exact (dj hM.r q (by omega)).trans m1
              · obtain rfl:k=h - 1 - s:=by omega
                exact m1
            rcases Nat.lt_or_ge s i with q | q
            · exact m2.trans (dj hM.l q i2)
            · obtain rfl:i=s:=by omega
              exact m2)
          (v2:=((P.length:Nat):Int)) (v3:=((P.length+A.length:Nat):Int)) (v4:=((P.length+A.length+B.length:Nat):Int)) (v30:=((P.length+h:Nat):Int)) (v31:=((P.length+h+(P.length+A.length):Nat):Int)) (v39:=((P.length+s:Nat):Int)) rfl (by omega) (by omega) (by omega) (by omega) (by omega)
        rw [eA,eB] at this
        rw [eL]
        exact this
      by_cases hc:h<A.length
      · rw [if_pos (by simp; omega)]
        simp only [oA]
        rw [wn (n:=((P.length+h+(P.length+A.length):Nat):Int) - ((P.length+A.length+B.length:Nat):Int)) (k:=P.length+(h - B.length)) (by omega) (by omega)]
        exact key_ (h - B.length) h (by omega) (by omega) (by omega) (by omega) (by omega) (by omega)
      · rw [if_neg (by simp; omega)]
        simp only [oA]
        exact key_ 0 A.length (by omega) (by omega) (by omega) (by omega) (by omega) (by omega)
end Go.Proofs.Ytlpndemhnpajiaa.QSort
namespace Go.Proofs.Ytlpndemhnpajiaa.QSort
set_option linter.all false
open Go.RowKit
variable {K:Kn} {n:Nat} {f:Fv} {D:Int→Prop} {key:Int→Int}
theorem merges {c0:Nat} (hC:∀ m,c0≤m→Cmp (KN m) f D key):∀ (N lvl n:Nat),10001<n→c0+N+10002≤lvl→Merges key D N (fun L a m b=>gg (KN lvl) n L a m b f):=by
  intro N
  induction N with
  | zero=>intro lvl n h1 h2 P A B Q hA hB hN; omega
  | succ N ih =>
    intro lvl n h1 h2
    obtain ⟨l,rfl⟩:∃ l,lvl=l+1:=⟨lvl - 1,by omega⟩
    exact merge_one (hC _ (by omega)) h1 (ih l l (by omega) (by omega))
inductive Bl (key:Int→Int) (bs:Nat):List Int→List Int→Prop
  | last (o d:List Int) (h:o.length≤bs) (p:d.Perm o) (s:d.Pairwise (R key)):Bl key bs o d
  | more (o1 d1 o2 d2:List Int) (h:o1.length=bs) (p:d1.Perm o1) (s:d1.Pairwise (R key)) (t:Bl key bs o2 d2):Bl key bs (o1++o2) (d1++d2)
theorem Bl.len {bs:Nat} {o d:List Int} (h:Bl key bs o d):d.length=o.length:=by
  induction h with
  | last o d h p s=>exact p.length_eq
  | more o1 d1 o2 d2 h p s t ih=>simp [p.length_eq,ih]
theorem blocks (hC:Cmp K f D key) (hn:10001<n):∀ (m:Nat) (P S:List Int),S.length<m→S.Pairwise (· < ·)→(∀ x∈S,D x)→P.length+S.length≤10000 →
    ∃ S',Bl key 20 S S'∧pS K n ((P.length+S.length:Nat):Int) f m ((P.length:Nat):Int) ((P.length+20:Nat):Int) (P++S)=kY K n ((P.length+S.length:Nat):Int) f n 20 (P++S'):=by
  intro m
  induction m with
  | zero=>intro P S h; omega
  | succ m ih =>
    intro P S hm hS hD hl
    simp only [pS,rP]
    by_cases hc:20≤S.length
    · rw [iteT (by omega)]
      obtain ⟨S1,S2,rfl,h1⟩:∃ S1 S2,S=S1++S2∧S1.length=20:=⟨S.take 20,S.drop 20,by simp,by simp; omega⟩
      rw [List.pairwise_append] at hS
      simp only [List.length_append] at hm hl hc ⊢
      obtain ⟨S',p1,p2,p3⟩:=ins_ok (n:=n) hC P S1 S2 hn hS.1 (fun x hx=>hD x (by simp [hx])) (by omega)
      have l1:S'.length=20:=by rw [p1.length_eq,h1]
      rw [h1] at p3
      rw [show P++(S1++S2)=P++S1++S2 by simp,p3,sb,wn (k:=P.length+20+20) (by omega) (by omega)]
      obtain ⟨S'',q1,q2⟩:=ih (P++S') S2 (by omega) hS.2.1 (fun x hx=>hD x (by simp [hx])) (by simp; omega)
      simp only [List.length_append,l1] at q2
      refine ⟨S'++S'',.more _ _ _ _ h1 p1 p2 q1,?_⟩
      rw [h1,show P.length+(20+S2.length)=P.length+20+S2.length by omega,q2]
      simp
    · rw [iteF (by omega)]
      obtain ⟨S',p1,p2,p3⟩:=ins_ok (n:=n) hC P S [] hn hS hD (by omega)
      simp only [List.append_nil] at p3
      exact ⟨S',.last _ _ (by omega) p1 p2,by rw [p3,sb]⟩
theorem pass {N:Nat} (hn:10001<n) (hg:Merges key D N (fun L a m b=>gg K n L a m b f)) (bs:Nat) (hb:0<bs) (hb2:bs≤10000) (L2:Int→List Int→Option (List Int)):∀ (m:Nat) (P S d:List Int),S.length<m→Bl key bs S d→S.Pairwise (· < ·)→(∀ x∈S,D x)→P.length+S.length≤10000→S.length<N →
    ∃ d',Bl key (2*bs) S d'∧qm K n ((P.length+S.length:Nat):Int) f ((bs:Nat):Int) L2 m ((P.length:Nat):Int) ((P.length+2*bs:Nat):Int) (P++d)=L2 ((2*bs:Nat):Int) (P++d'):=by
  intro m
  induction m with
  | zero=>intro P S d h; omega
  | succ m ih =>
    intro P S d hm hB hS hD hl hN
    have ed:=hB.len
    simp only [qm,rC,rK]
    have e2:w64 (((bs:Nat):Int)*2)=((2*bs:Nat):Int):=wn (by omega) (by omega)
    have e3:w64 (2*((bs:Nat):Int))=((2*bs:Nat):Int):=wn (by omega) (by omega)
    rw [wn (n:=((P.length:Nat):Int)+((bs:Nat):Int)) (k:=P.length+bs) (by omega) (by omega),e2,e3]
    -- two blocks are merged
    have two:∀ o1 d1 o2 d2 r:List Int,o1.length=bs→d1.Perm o1→d1.Pairwise (R key)→d2.Perm o2→d2.Pairwise (R key)→0<o2.length→(∀ x∈o1,∀ y∈o2,x<y)→(∀ x∈o1++o2,D x)→P.length+(o1.length+o2.length)≤10000→o1.length+o2.length<N →
        ∃ C,C.Perm (o1++o2)∧C.Pairwise (R key)∧gg K n (P++(d1++d2)++r) ((P.length:Nat):Int) ((P.length+bs:Nat):Int) ((P.length+(bs+o2.length):Nat):Int) f=some (P++C++r):=by
      intro o1 d1 o2 d2 r k1 k2 k3 k4 k5 k6 k7 k8 k9 k10
      have n1:d1.length=bs:=by rw [k2.length_eq,k1]
      have n2:=k4.length_eq
      obtain ⟨C,q1,q2,q3⟩:=hg P d1 d2 r (by omega) (by omega) (by omega) (by simp; omega) ⟨k3,k5,fun x hx y hy=>k7 x (k2.mem_iff.1 hx) y (k4.mem_iff.1 hy),fun x hx=>k8 x ((k2.append k4).mem_iff.1 hx)⟩
      refine ⟨C,q1.trans (k2.append k4),q2,?_⟩
      rw [n1,n2,show P.length+bs+o2.length=P.length+(bs+o2.length) by omega,show P++d1++d2++r=P++(d1++d2)++r by simp] at q3
      exact q3
    cases hB with
    | last _ _ h p s =>
      refine ⟨d,.last _ _ (by omega) p s,?_⟩
      rw [iteF (by omega),iteF (by omega)]
    | more o1 d1 o2 d2 h p s t =>
      rw [List.pairwise_append] at hS
      simp only [List.length_append] at hm hl hN ⊢
      cases t with
      | last _ _ h' p' s' =>
        by_cases hc:o2.length=bs
        · rw [iteT (by omega)]
          obtain ⟨C,q1,q2,q3⟩:=two o1 d1 o2 d2 [] h p s p' s' (by omega) hS.2.2 hD (by omega) (by omega)
          simp only [List.append_nil] at q3
          rw [hc] at q3
          rw [show ((P.length+2*bs:Nat):Int)=((P.length+(bs+bs):Nat):Int) by omega,q3,sb,wn (n:=((P.length+(bs+bs):Nat):Int)+((2*bs:Nat):Int)) (k:=P.length+(bs+bs)+2*bs) (by omega) (by omega)]
          have lC:C.length=bs+bs:=by rw [q1.length_eq]; simp; omega
          obtain ⟨d',r1,r2⟩:=ih (P++C) [] [] (by simp; omega) (.last _ _ (by simp) (.refl _) (by simp)) (by simp) (by simp) (by simp; omega) (by simp; omega)
          simp only [List.length_append,lC,List.length_nil,Nat.add_zero,List.append_nil] at r2
          refine ⟨C++d',?_,?_⟩
          · have:=Bl.more (key:=key) (bs:=2*bs) (o1++o2) C [] d' (by simp; omega) q1 q2 r1
            simpa using this
          · rw [show P.length+(o1.length+o2.length)=P.length+(bs+bs) by omega,r2]
            simp
        · rw [iteF (by omega)]
          by_cases hz:o2.length=0
          · rw [iteF (by omega)]
            have:o2=[]:=List.eq_nil_of_length_eq_zero hz
            subst this
            have:d2=[]:=p'.eq_nil
            subst this
            exact ⟨d1++[],.last _ _ (by simp; omega) (by simpa using p) (by simpa using s),rfl⟩
          · rw [iteT (by omega)]
            obtain ⟨C,q1,q2,q3⟩:=two o1 d1 o2 d2 [] h p s p' s' (by omega) hS.2.2 hD (by omega) (by omega)
            simp only [List.append_nil] at q3
            rw [h,q3,sb]
            exact ⟨C,.last _ _ (by simp; omega) q1 q2,rfl⟩
      | more o21 d21 o22 d22 h' p' s' t' =>
        have hS2:=hS.2.1
        rw [List.pairwise_append] at hS2
        simp only [List.length_append] at hm hl hN ⊢
        rw [iteT (by omega)]
        obtain ⟨C,q1,q2,q3⟩:=two o1 d1 o21 d21 d22 h p s p' s' (by omega) (fun x hx y hy=>hS.2.2 x hx y (by simp [hy])) (fun x hx=>hD x (by rcases List.mem_append.1 hx with q | q<;>simp [q])) (by omega) (by omega)
        rw [h'] at q3
        have lC:C.length=bs+bs:=by rw [q1.length_eq]; simp; omega
        rw [show P++(d1++(d21++d22))=P++(d1++d21)++d22 by simp,show ((P.length+2*bs:Nat):Int)=((P.length+(bs+bs):Nat):Int) by omega,q3,sb,wn (n:=((P.length+(bs+bs):Nat):Int)+((2*bs:Nat):Int)) (k:=P.length+(bs+bs)+2*bs) (by omega) (by omega)]
        obtain ⟨d',r1,r2⟩:=ih (P++C) o22 d22 (by omega) t' hS2.2.1 (fun x hx=>hD x (by simp [hx])) (by simp; omega) (by omega)
        simp only [List.length_append,lC] at r2
        refine ⟨C++d',?_,?_⟩
        · have:=Bl.more (key:=key) (bs:=2*bs) (o1++o21) C o22 d' (by simp; omega) q1 q2 r1
          simpa using this
        · rw [show P.length+(o1.length+(o21.length+o22.length))=P.length+(bs+bs)+o22.length by omega,r2]
          simp
theorem rounds {N:Nat} (hn:10001<n) (hg:Merges key D N (fun L a m b=>gg K n L a m b f)) (S:List Int) (hS:S.Pairwise (· < ·)) (hD:∀ x∈S,D x) (hl:S.length≤10000) (hN:S.length<N):∀ (m bs:Nat) (d:List Int),0<bs→S.length - bs<m→Bl key bs S d →
    ∃ d',d'.Perm S∧d'.Pairwise (R key)∧kY K n ((S.length:Nat):Int) f m ((bs:Nat):Int) d=some d':=by
  intro m
  induction m with
  | zero=>intro bs d hb h; omega
  | succ m ih =>
    intro bs d hb hm hB
    simp only [kY,sS]
    by_cases hc:bs<S.length
    · rw [iteT (by omega),wn (n:=2*((bs:Nat):Int)) (k:=2*bs) (by omega) (by omega)]
      obtain ⟨d',r1,r2⟩:=pass (n:=n) hn hg bs hb (by omega) (kY K n ((S.length:Nat):Int) f m) n [] S d (by omega) hB hS hD (by simp; omega) hN
      simp only [List.length_nil,List.nil_append,Nat.zero_add] at r2
      rw [show ((0:Nat):Int)=0 from rfl] at r2
      rw [r2]
      exact ih (2*bs) d' (by omega) (by omega) r1
    · rw [iteF (by omega)]
      cases hB with
      | last _ _ h p s=>exact ⟨d,p,s,rfl⟩
      | more o1 d1 o2 d2 h p s t =>
        simp only [List.length_append] at hc
        have:o2=[]:=List.eq_nil_of_length_eq_zero (by omega)
        subst this
        have:d2=[]:=List.eq_nil_of_length_eq_zero (by rw [t.len]; rfl)
        subst this
        exact ⟨_,by simpa using p,by simpa using s,rfl⟩
theorem sort_ok {c0:Nat} (hC:∀ m,c0≤m→Cmp (KN m) f D key) {lvl n:Nat} (S:List Int) (hn:10001<n) (hlv:c0+(S.length+1)+10002≤lvl) (hS:S.Pairwise (· < ·)) (hD:∀ x∈S,D x) (hl:S.length≤10000) :
    ∃ d,d.Perm S∧d.Pairwise (R key)∧iK (KN lvl) n S f=some d:=by
  unfold iK tn
  have hle:c0≤lvl:=by omega
  have h0:S.length<n:=by omega
  obtain ⟨S',b1,b2⟩:=blocks (K:=KN lvl) (n:=n) (hC lvl hle) hn n [] S h0 hS hD (by rw [List.length_nil,Nat.zero_add]; exact hl)
  simp only [List.length_nil,List.nil_append,Nat.zero_add] at b2
  rw [show ((0:Nat):Int)=0 from rfl,show ((20:Nat):Int)=20 from rfl] at b2
  have h1:=hlv
  have h2:S.length - 20<n:=by omega
  have hm:=merges hC (S.length+1) lvl n hn h1
  generalize KN lvl=K at *
  obtain ⟨d,d1,d2,d3⟩:=rounds (K:=K) (n:=n) (N:=S.length+1) hn hm S hS hD hl (Nat.lt_succ_self _) n 20 S' (by decide) h2 b1
  rw [show ((20:Nat):Int)=20 from rfl] at d3
  exact ⟨d,d1,d2,by rw [b2,d3,sb]⟩
end Go.Proofs.Ytlpndemhnpajiaa.QSort
namespace Go.Proofs.Ytlpndemhnpajiaa
set_option linter.all false
open Go.RowKit
set_option maxRecDepth 20000
theorem fit_ok (k:Nat):sV (KN (k+12)) (k+12)=some true:=by kernel_rfl
theorem fit_ok' {n:Nat} (h:12≤n):sV (KN n) n=some true:=by
  obtain ⟨k,rfl⟩:∃ k,n=k+12:=⟨n - 12,by omega⟩
  exact fit_ok k
theorem tnat (i:Nat):((i:Int)).toNat=i:=by omega
def sm:List Int→Int
  | []=>0
  | x::r=>x+sm r
theorem dV:∀ (a b:List Int),sm (a++b)=sm a+sm b
  | [],b=>by simp [sm]
  | x::r,b=>by simp only [List.cons_append,sm,dV r b]; omega
theorem sm_bd {B:Int} (hB:0≤B):∀ (a:List Int),(∀ x∈a,-B≤x∧x≤B) → -(a.length*B)≤sm a∧sm a≤a.length*B
  | [],_=>by simp [sm]
  | x::r,h=>by
    have h1:=h x (by simp)
    have h2:=sm_bd hB r (fun y hy=>h y (by simp [hy]))
    have e:((x::r).length:Int)*B=r.length*B+B:=by simp [Int.add_mul]
    simp only [sm]; rw [e]; omega
theorem sm_step (l:List Int) {a i:Nat} (ha:a≤i) (hi:i<l.length):sm (List.drop a (List.take (i+1) l))=sm (List.drop a (List.take i l))+l.getD i default:=by
  rw [bc hi,List.take_succ_eq_append_getElem hi,List.drop_append_of_le_length (by simp; omega),dV]; simp [sm]
end Go.Proofs.Ytlpndemhnpajiaa
namespace Go.Proofs.Ytlpndemhnpajiaa
set_option linter.all false
open Go.RowKit
namespace Sh
def idx (n:Nat):List Int:=(List.range n).map fun (k:Nat)=>(k:Int)
instance (key:Int→Int) (a b:Int):Decidable (QSort.R key a b):=by unfold QSort.R; infer_instance
theorem oG (n:Nat):(idx n).length=n:=by simp [idx]
theorem idx_mem {n:Nat} {x:Int}:x∈idx n ↔ ∃ k:Nat,k<n∧x=k:=by
  simp only [idx,List.mem_map,List.mem_range]
  exact ⟨fun ⟨k,h,e⟩=>⟨k,h,e.symm⟩,fun ⟨k,h,e⟩=>⟨k,h,e.symm⟩⟩
theorem idx_lt (n:Nat):(idx n).Pairwise (· < ·):=by
  unfold idx
  rw [List.pairwise_map]
  refine List.Pairwise.imp (fun h=>?_) List.pairwise_lt_range
  omega
theorem ue (n:Nat):idx (n+1)=idx n++[(n:Int)]:=by simp [idx,List.range_succ]
def lim (n most:Int):Int:=min (max n 0) most
def mx:Int:=2147483647
theorem cY {n m:Int} (h:0≤m):0≤lim n m∧lim n m≤m:=by unfold lim; omega
def q (T S w:Int):Int:=T*w / S
def r (T S w:Int):Int:=T*w % S
def left (T:Int) (W:List Int):Int:=T - sm (W.map (q T (sm W)))
def win (T:Int) (W:List Int) (k:Nat):Prop :=
  0<r T (sm W) (W.getD k default)∧(((W.take k).countP (fun w=>decide (r T (sm W) (W.getD k default)≤r T (sm W) w))+(W.drop (k+1)).countP (fun w=>decide (r T (sm W) (W.getD k default)<r T (sm W) w)):Nat):Int)<left T W
instance (T:Int) (W:List Int) (k:Nat):Decidable (win T W k):=by unfold win; infer_instance
def part (T:Int) (W:List Int) (k:Nat):Int:=q T (sm W) (W.getD k default)+if win T W k then 1 else 0
def share (T:Int) (W:List Int):List Int:=if sm W=0 then List.replicate W.length 0 else (List.range W.length).map (part T W)
theorem n3 (T:Int) (W:List Int):(share T W).length=W.length:=by unfold share; split<;>simp
def inc:List Int→List Int→List Int
  | p,[]=>p
  | p,i::l=>inc (p.set i.toNat (p.getD i.toNat default+1)) l
theorem inc_len:∀ (l p:List Int),(inc p l).length=p.length
  | [],p=>rfl
  | i::l,p=>by simp [inc,inc_len l]
theorem inc_app:∀ (l m p:List Int),inc p (l++m)=inc (inc p l) m
  | [],m,p=>rfl
  | i::l,m,p=>by simp [inc,inc_app l]
theorem vT {p:List Int} {i j:Nat} {x:Int} (h:i≠j):(p.set i x).getD j default=p.getD j default:=by simp [List.getD_eq_getElem?_getD,List.getElem?_set,h]
theorem xX {p:List Int} {i:Nat} {x:Int} (h:i<p.length):(p.set i x).getD i default=x:=by simp [List.getD_eq_getElem?_getD,List.getElem?_set,h]
theorem inc_at:∀ (l p:List Int) (k:Nat),l.Nodup→(∀ i∈l,0≤i)→k<p.length→(inc p l).getD k default=p.getD k default+if (k:Int)∈l then 1 else 0
  | [],p,k,_,_,_=>by simp [inc]
  | i::l,p,k,hn,h0,hk=>by
    simp only [inc]
    rw [List.nodup_cons] at hn
    rw [inc_at l _ k hn.2 (fun j hj=>h0 j (by simp [hj])) (by simpa using hk)]
    have hi:=h0 i (by simp)
    by_cases e:i.toNat=k
    · have e2:i=(k:Int):=by omega
      subst e2
      rw [Int.toNat_natCast,xX hk,if_neg hn.1,if_pos (by simp)]; omega
    · rw [vT e]
      have:((k:Int)∈i::l)↔(k:Int)∈l:=by
        rw [List.mem_cons]; constructor
        · rintro (h | h)
          · omega
          · exact h
        · exact .inr
      simp only [this]
theorem sm_perm {a b:List Int} (h:a.Perm b):sm a=sm b:=by
  induction h with
  | nil=>rfl
  | cons x _ ih=>simp [sm,ih]
  | swap x y l=>simp only [sm]; omega
  | trans _ _ h1 h2=>rw [h1,h2]
theorem sm_qr (T S:Int) (hS:0<S):∀ W:List Int,S*sm (W.map (q T S))+sm (W.map (r T S))=T*sm W
  | []=>by simp [sm]
  | w::W=>by
    have:=sm_qr T S hS W
    have h:=Int.mul_ediv_add_emod (T*w) S
    simp only [List.map_cons,sm,Int.mul_add]
    unfold q r at *
    omega
theorem gX {c:Int}:∀ L:List Int,(∀ x∈L,x≤c)→sm L≤L.length*c
  | [],_=>by simp [sm]
  | x::L,h=>by
    have:=gX L (fun y hy=>h y (by simp [hy])); have:=h x (by simp)
    simp only [sm,List.length_cons]
    rw [show ((L.length+1:Nat):Int)*c=L.length*c+c by simp [Int.add_mul]]; omega
theorem fv:∀ L:List Int,(∀ x∈L,0≤x)→0≤sm L
  | [],_=>by simp [sm]
  | x::L,h=>by
    have:=fv L (fun y hy=>h y (by simp [hy])); have:=h x (by simp)
    simp only [sm]; omega
theorem mH:∀ (L:List Int),(∀ x∈L,0≤x)→∀ x∈L,x≤sm L
  | [],_,_,hx=>by simp at hx
  | y::L,h,x,hx=>by
    have h1:=fv L (fun y hy=>h y (by simp [hy])); have h2:=h y (by simp)
    simp only [sm]
    rcases List.mem_cons.1 hx with rfl | hx
    · omega
    · have:=mH L (fun y hy=>h y (by simp [hy])) x hx; omega
theorem r_bd {T S w:Int} (hS:0<S):0≤r T S w∧r T S w<S:=⟨Int.emod_nonneg _ (by omega),Int.emod_lt_of_pos _ hS⟩
theorem q_bd {T S w:Int} (hS:0<S) (hT:0≤T) (hw:0≤w) (hw2:w≤S):0≤q T S w∧q T S w≤T:=by
  refine ⟨Int.ediv_nonneg (Int.mul_nonneg hT hw) (by omega),?_⟩
  unfold q
  have h:T*w≤T*S:=Int.mul_le_mul_of_nonneg_left hw2 hT
  calc T*w / S≤T*S / S:=Int.ediv_le_ediv hS h
    _=T:=Int.mul_ediv_cancel _ (by omega)
theorem left_mul (T:Int) (W:List Int) (hS:0<sm W):sm W*left T W=sm (W.map (r T (sm W))):=by
  have:=sm_qr T (sm W) hS W
  unfold left
  rw [Int.mul_sub,Int.mul_comm (sm W) T]; omega
theorem td (T:Int) (W:List Int) (hS:0<sm W):0≤left T W∧left T W≤W.length:=by
  have h:=left_mul T W hS
  have h0:0≤sm (W.map (r T (sm W))):=fv _ (fun x hx=>by
    obtain ⟨w,_,rfl⟩:=List.mem_map.1 hx; exact (r_bd hS).1)
  have h1:sm (W.map (r T (sm W)))≤(W.map (r T (sm W))).length*sm W:=gX _ (fun x hx=>by
    obtain ⟨w,_,rfl⟩:=List.mem_map.1 hx; have:=(r_bd (T:=T) (w:=w) hS).2; omega)
  rw [List.length_map,← h,Int.mul_comm] at h1
  refine ⟨?_,Int.le_of_mul_le_mul_right h1 hS⟩
  rw [←h] at h0
  rcases Int.lt_or_le (left T W) 0 with h | h
  · have:=Int.mul_neg_of_pos_of_neg hS h; omega
  · exact h
def key (rs:List Int) (a:Int):Int := - rs.getD a.toNat default
structure Ord (rs d:List Int):Prop where
  p:d.Perm (idx rs.length)
  s:d.Pairwise (QSort.R (key rs))
theorem Ord.nodup {rs d:List Int} (h:Ord rs d):d.Nodup:=by
  refine List.Pairwise.imp (fun hh e=>?_) h.s
  subst e; exact hh.irr
theorem Ord.mem {rs d:List Int} (h:Ord rs d) {x:Int}:x∈d ↔ ∃ k:Nat,k<rs.length∧x=k:=by rw [h.p.mem_iff,idx_mem]
theorem Ord.len {rs d:List Int} (h:Ord rs d):d.length=rs.length:=by rw [h.p.length_eq,oG]
theorem tA (rs:List Int) (p:Int→Bool):∀ n,n≤rs.length→(idx n).countP (fun a=>p (rs.getD a.toNat default))=(rs.take n).countP p
  | 0,_=>by simp [idx]
  | n+1,h=>by
    rw [ue,List.countP_append,tA rs p n (by omega),List.take_succ_eq_append_getElem (by omega),List.countP_append]
    simp [List.getD_eq_getElem?_getD,List.getElem?_eq_getElem (show n<rs.length by omega)]
theorem rank {rs d:List Int} (h:Ord rs d) {t k:Nat} (ht:t<d.length) (hk:d.getD t default=(k:Int)):(rs.take k).countP (fun w=>decide (rs.getD k default≤w))+(rs.drop (k+1)).countP (fun w=>decide (rs.getD k default<w))=t:=by
  have ek:k<rs.length:=by
    have:d.getD t default∈d:=by rw [bc ht]; exact List.getElem_mem _
    rw [hk] at this
    obtain ⟨j,h1,h2⟩:=h.mem.1 this
    omega
  -- in the sorted order there are t ahead of k
  have c1:d.countP (fun a=>decide (QSort.R (key rs) a k))=t:=by
    have e:d=d.take t++d.drop t:=(List.take_append_drop t d).symm
    have e2:d.drop t=(k:Int)::d.drop (t+1):=by rw [List.drop_eq_getElem_cons ht,← bc ht,hk]
    rw [e2] at e
    have hs:=h.s
    rw [e,List.pairwise_append,List.pairwise_cons] at hs
    rw [e,List.countP_append,List.countP_cons]
    have z1:(d.take t).countP (fun a=>decide (QSort.R (key rs) a k))=t:=by
      rw [List.countP_eq_length.2 (fun a ha=>by simpa using hs.2.2 a ha k (by simp))]; simp; omega
    have z2:(d.drop (t+1)).countP (fun a=>decide (QSort.R (key rs) a k))=0:=by
      rw [List.countP_eq_zero]; intro a ha hh
      exact (hs.2.1.1 a ha).asymm (by simpa using hh)
    have z3:(if decide (QSort.R (key rs) (k:Int) k)=true then 1 else 0)=0:=by
      rw [if_neg]; intro hh; exact (by simpa using hh:QSort.R (key rs) (k:Int) k).irr
    rw [z1,z2,z3]
    omega
  rw [h.p.countP_eq] at c1
  -- the indices below k,k,those above
  have e:idx rs.length=idx k++(k:Int)::(idx rs.length).drop (k+1):=by
    have h1:(idx rs.length).take k=idx k:=by unfold idx; rw [←List.map_take,List.take_range,Nat.min_eq_left (Nat.le_of_lt ek)]
    have h2:k<(idx rs.length).length:=by rw [oG]; exact ek
    conv=>lhs; rw [←List.take_append_drop k (idx rs.length),h1,List.drop_eq_getElem_cons h2]
    congr 2
    simp [idx]
  have a1:(idx k).countP (fun a=>decide (QSort.R (key rs) a k))=(rs.take k).countP (fun w=>decide (rs.getD k default≤w)):=by
    rw [←tA rs (fun w=>decide (rs.getD k default≤w)) k (by omega)]
    refine List.countP_congr (fun a ha=>?_)
    obtain ⟨j,hj,rfl⟩:=idx_mem.1 ha
    simp only [decide_eq_true_eq]
    simp only [QSort.R,key,Int.toNat_natCast]
    omega
  have a2:((idx rs.length).drop (k+1)).countP (fun a=>decide (QSort.R (key rs) a k))=(rs.drop (k+1)).countP (fun w=>decide (rs.getD k default<w)):=by
    have b1:=tA rs (fun w=>decide (rs.getD k default<w)) rs.length (Nat.le_refl _)
    have b2:=tA rs (fun w=>decide (rs.getD k default<w)) (k+1) (by omega)
    rw [List.take_length] at b1
    have b3:rs.countP (fun w=>decide (rs.getD k default<w))=(rs.take (k+1)).countP (fun w=>decide (rs.getD k default<w))+(rs.drop (k+1)).countP (fun w=>decide (rs.getD k default<w)):=by
      rw [←List.countP_append,List.take_append_drop]
    have b4:idx rs.length=idx (k+1)++(idx rs.length).drop (k+1):=by
      rw [ue]; conv=>lhs; rw [e]
      simp
    rw [b4,List.countP_append,b2] at b1
    have b5:((idx rs.length).drop (k+1)).countP (fun a=>decide (QSort.R (key rs) a k))=((idx rs.length).drop (k+1)).countP (fun a=>(fun w=>decide (rs.getD k default<w)) (rs.getD a.toNat default)):=by
      refine List.countP_congr (fun a ha=>?_)
      have:(k:Int)<a:=by
        have hp:=idx_lt rs.length
        rw [e,List.pairwise_append,List.pairwise_cons] at hp
        exact hp.2.1.1 a ha
      have h0:0≤a:=by omega
      obtain ⟨j,rfl⟩:∃ j:Nat,a=j:=⟨a.toNat,by omega⟩
      simp only [decide_eq_true_eq]
      simp only [QSort.R,key,Int.toNat_natCast]
      omega
    rw [b5]; dsimp only at b1 b2 b3 ⊢; omega
  have a3:(if decide (QSort.R (key rs) (k:Int) k)=true then 1 else 0)=0:=by
    rw [if_neg]; intro hh; exact (by simpa using hh:QSort.R (key rs) (k:Int) k).irr
  rw [e,List.countP_append,List.countP_cons,a1,a2,a3] at c1
  omega
theorem re (T S:Int) (W:List Int) {k:Nat} (h:k<W.length):(W.map (r T S)).getD k default=r T S (W.getD k default):=by simp [List.getD_eq_getElem?_getD,h]
theorem share_inc (T:Int) (W d:List Int) (hW:∀ w∈W,0≤w) (hS:sm W≠0) (h:Ord (W.map (r T (sm W))) d):share T W=inc (W.map (q T (sm W))) (d.take (left T W).toNat):=by
  have hS0:0<sm W:=by have:=fv W hW; omega
  have hlb:=td T W hS0
  have hlm:=left_mul T W hS0
  have hdl:d.length=W.length:=by rw [h.len,List.length_map]
  unfold share
  rw [if_neg hS]
  refine List.ext_getElem (by rw [inc_len]; simp) (fun k h1 h2=>?_)
  have hk:k<W.length:=by simpa using h1
  rw [←bc h2,inc_at _ _ _ (h.nodup.sublist (List.take_sublist _ _)) (fun i hi=>by
    obtain ⟨j,_,rfl⟩:=h.mem.1 (List.mem_of_mem_take hi); omega) (by simpa using hk)]
  simp only [List.getElem_map,List.getElem_range,part]
  have e1:(W.map (q T (sm W))).getD k default=q T (sm W) (W.getD k default):=by simp [List.getD_eq_getElem?_getD,hk]
  rw [e1]
  congr 1
  -- where is k in the order?
  obtain ⟨t,ht,et⟩:=QSort.mem_at (A:=d) (x:=(k:Int)) (h.mem.2 ⟨k,by simpa using hk,rfl⟩)
  have hr:=rank h ht et
  rw [re _ _ _ hk,← List.map_take,← List.map_drop,List.countP_map,List.countP_map] at hr
  have hmem:((k:Int)∈d.take (left T W).toNat)↔t<(left T W).toNat:=by
    constructor
    · intro hm
      obtain ⟨t',k1,k2,k3⟩:=QSort.nH hm
      have:t'=t:=by
        rcases Nat.lt_trichotomy t t' with hh | hh | hh
        · have:=QSort.dj h.s hh k2; rw [et,k3] at this; exact absurd this (fun x=>x.irr)
        · exact hh.symm
        · have:=QSort.dj h.s hh ht; rw [et,k3] at this; exact absurd this (fun x=>x.irr)
      omega
    · intro hm
      have:d.take (left T W).toNat=d.take (left T W).toNat:=rfl
      have h3:t<(d.take (left T W).toNat).length:=by simp; omega
      have:=QSort.ms h3
      rwa [QSort.at_take hm,et] at this
  have hwin:win T W k↔t<(left T W).toNat:=by
    unfold win
    simp only [Function.comp_def] at hr
    rw [hr]
    constructor
    · intro hh; omega
    · intro hh
      refine ⟨?_,by omega⟩
      -- a rest of 0 does not win: all behind it are 0,too
      rcases Int.lt_or_le 0 (r T (sm W) (W.getD k default)) with hp | hp
      · exact hp
      · exfalso
        have eperm:sm (d.map fun a=>(W.map (r T (sm W))).getD a.toNat default)=sm (W.map (r T (sm W))):=by
          rw [sm_perm (h.p.map _)]
          congr 1
          refine List.ext_getElem (by simp [idx]) (fun i i1 i2=>?_)
          simp only [List.getElem_map,idx,List.getElem_range,Int.toNat_natCast,re T (sm W) W (show i<W.length by simpa using i2)]
          rw [bc (show i<W.length by simpa using i2)]
        have esp:d=d.take t++d.drop t:=(List.take_append_drop t d).symm
        have smsp:sm (d.map fun a=>(W.map (r T (sm W))).getD a.toNat default)=sm ((d.take t).map fun a=>(W.map (r T (sm W))).getD a.toNat default)+sm ((d.drop t).map fun a=>(W.map (r T (sm W))).getD a.toNat default):=by
          conv=>lhs; rw [esp]
          rw [List.map_append,dV]
        have val:∀ a∈d,0≤(W.map (r T (sm W))).getD a.toNat default∧(W.map (r T (sm W))).getD a.toNat default≤sm W - 1:=by
          intro a ha
          obtain ⟨j,hj,rfl⟩:=h.mem.1 ha
          rw [List.length_map] at hj
          rw [Int.toNat_natCast,re T (sm W) W hj]
          have:=r_bd (T:=T) (w:=W.getD j default) hS0; omega
        have s1:sm ((d.take t).map fun a=>(W.map (r T (sm W))).getD a.toNat default)≤t*(sm W - 1):=by
          have:=gX (c:=sm W - 1) ((d.take t).map fun a=>(W.map (r T (sm W))).getD a.toNat default) (fun x hx=>by
            obtain ⟨a,ha,rfl⟩:=List.mem_map.1 hx; exact (val a (List.mem_of_mem_take ha)).2)
          rw [List.length_map,List.length_take,Nat.min_eq_left (by omega)] at this
          exact this
        have s2:sm ((d.drop t).map fun a=>(W.map (r T (sm W))).getD a.toNat default)≤(((d.drop t).map fun a=>(W.map (r T (sm W))).getD a.toNat default).length:Int)*0:=by
          refine gX _ (fun x hx=>?_)
          obtain ⟨a,ha,rfl⟩:=List.mem_map.1 hx
          obtain ⟨i,i1,i2,rfl⟩:=QSort.po ha
          have ek:(W.map (r T (sm W))).getD k default≤0:=by rw [re T (sm W) W hk]; exact hp
          rcases Nat.lt_or_ge t i with q | q
          · have:=QSort.dj h.s q i2
            rw [et] at this
            unfold QSort.R key at this
            rw [Int.toNat_natCast] at this
            omega
          · obtain rfl:i=t:=by omega
            rw [et,Int.toNat_natCast]; exact ek
        rw [Int.mul_zero] at s2
        have:sm W*left T W≤t*(sm W - 1):=by rw [hlm,← eperm,smsp]; omega
        have h4:sm W*((t:Int)+1)≤sm W*left T W:=Int.mul_le_mul_of_nonneg_left (by omega) (by omega)
        rw [Int.mul_add,Int.mul_one,Int.mul_comm (sm W) t] at h4
        rw [Int.mul_sub,Int.mul_one] at this
        omega
  by_cases hw:win T W k
  · rw [if_pos hw,if_pos (hmem.2 (hwin.1 hw))]
  · rw [if_neg hw,if_neg (fun hh=>hw (hwin.2 (hmem.1 hh)))]
end Sh
end Go.Proofs.Ytlpndemhnpajiaa
namespace Go.Proofs.Ytlpndemhnpajiaa
set_option linter.all false
open Go.RowKit
namespace Sh
open QSort (wn aP iteT iteF sb)
variable {K:Kn} {n:Nat}
def wts (L:List Int):List Int:=L.map fun w=>lim w mx
theorem ci (L:List Int):(wts L).length=L.length:=by simp [wts]
theorem eK (L:List Int):∀ w∈wts L,0≤w∧w≤2147483647:=by
  intro w hw
  obtain ⟨x,_,rfl⟩:=List.mem_map.1 hw
  exact cY (m:=mx) (by decide)
theorem wts_at {L:List Int} {k:Nat} (h:k<L.length):(wts L).getD k default=lim (L.getD k default) mx:=by simp [wts,List.getD_eq_getElem?_getD,h]
theorem sm_wts {L:List Int} (h:L.length≤10000):0≤sm (wts L)∧sm (wts L)≤21474836470000:=by
  refine ⟨fv _ (fun w hw=>(eK L w hw).1),?_⟩
  have:=gX (c:=2147483647) (wts L) (fun w hw=>(eK L w hw).2)
  rw [ci] at this; omega
theorem sm_take {W:List Int} (h:∀ w∈W,0≤w) (i:Nat):0≤sm (W.take i)∧sm (W.take i)≤sm W:=by
  have h1:=fv (W.take i) (fun w hw=>h w (List.mem_of_mem_take hw))
  have h2:=fv (W.drop i) (fun w hw=>h w (List.mem_of_mem_drop hw))
  have:sm W=sm (W.take i)+sm (W.drop i):=by rw [←dV,List.take_append_drop]
  omega
theorem tW {W:List Int} {i:Nat} (h:i<W.length):sm (W.take (i+1))=sm (W.take i)+W.getD i default:=by
  rw [List.take_succ_eq_append_getElem h,dV,bc h]; simp [sm]
theorem pD {A:List Int} {k i:Nat} {y z:Int} (h:i=A.length):List.set (A++List.replicate (k+1) z) i y=(A++[y])++List.replicate k z:=by
  subst h; simp [List.replicate_succ]
theorem get_rep {A:List Int} {k i:Nat} {y z:Int} (h:i=A.length):List.getD ((A++[y])++List.replicate k z) i default=y:=by
  subst h; simp [List.getD_eq_getElem?_getD]
theorem mul_bd {a b:Int} (h0:0≤a) (h1:a≤2147483647) (h2:0≤b) (h3:b≤2147483647):0≤a*b∧a*b≤4611686014132420609:=by
  refine ⟨Int.mul_nonneg h0 h2,?_⟩
  have:=Int.mul_le_mul h1 h3 h2 (by omega:(0:Int)≤2147483647)
  omega
theorem nP (g:Int→Int) {W:List Int} {i:Nat} (h:i<W.length):(W.take (i+1)).map g=(W.take i).map g++[g (W.getD i default)]:=by
  rw [List.take_succ_eq_append_getElem h,List.map_append,bc h]; rfl
theorem left_part {T:Int} {W:List Int} (hT:0≤T) (hW:∀ w∈W,0≤w) (hS:0<sm W) (i:Nat):0≤sm ((W.take i).map (q T (sm W)))∧sm ((W.take i).map (q T (sm W)))≤T:=by
  have hq:∀ x∈W.map (q T (sm W)),0≤x:=fun x hx=>by
    obtain ⟨w,hw,rfl⟩:=List.mem_map.1 hx
    exact (q_bd hS hT (hW w hw) (mH W hW w hw)).1
  have:=sm_take hq i
  rw [←List.map_take] at this
  have h2:=(td T W hS).1
  unfold left at h2
  omega
theorem f_sum (L:List Int) (T:Int) (z1 z2 z3:List Int) (hL:L.length≤10000):∀ (m i:Nat),i≤L.length→L.length<m+i →
    pX K n L T z1 z2 z3 m (sm ((wts L).take i)) (i:Int)=if (sm (wts L) == 0)=true then some z1 else mg K n L T (sm (wts L)) n T 0 z1 z2 z3:=by
  intro m
  induction m with
  | zero=>intro i h1 h2; omega
  | succ m ih =>
    intro i h1 h2
    simp only [pX,qC]
    by_cases hi:i<L.length
    · have hb:=sm_wts hL
      have hs:=sm_take (W:=wts L) (fun w hw=>(eK L w hw).1) (i+1)
      have e:=tW (W:=wts L) (i:=i) (by rw [ci]; exact hi)
      have el:=wts_at hi
      rw [iteT (by omega),aP (by omega),tnat]
      simp only [fu,sb]
      rw [wn (n:=(i:Int)+1) (k:=i+1) (by omega) (by omega)]
      rw [show w64 (sm ((wts L).take i)+min (max (L.getD i default) 0) 2147483647)=sm ((wts L).take (i+1)) by
        rw [e,el]; exact bp (by rw [e,el] at hs; unfold lim mx at hs; omega) (by rw [e,el] at hs; unfold lim mx at hs; omega)]
      exact ih (i+1) (by omega) (by omega)
    · rw [iteF (by omega),List.take_of_length_le (by rw [ci]; omega)]
theorem f_parts (L:List Int) (T:Int) (hT:0≤T∧T≤2147483647) (hL:L.length≤10000) (hS:0<sm (wts L)):∀ (m i:Nat),i≤L.length→L.length<m+i →
    mg K n L T (sm (wts L)) m (T - sm (((wts L).take i).map (q T (sm (wts L))))) (i:Int) (((wts L).take i).map (q T (sm (wts L)))++List.replicate (L.length - i) 0) (((wts L).take i).map (r T (sm (wts L)))++List.replicate (L.length - i) 0) (idx i++List.replicate (L.length - i) 0) =
    (iK K n (idx L.length) (Fv.c36 ((wts L).map (r T (sm (wts L)))))).bind fun v22 =>
    chk (slb (0:Int) (left T (wts L)) v22.length) (
    mP K n n (List.drop ((0:Int)).toNat (List.take (left T (wts L)).toNat v22)) ((List.drop ((0:Int)).toNat (List.take (left T (wts L)).toNat v22)).length:Int) 0 ((wts L).map (q T (sm (wts L))))):=by
  intro m
  induction m with
  | zero=>intro i h1 h2; omega
  | succ m ih =>
    intro i h1 h2
    simp only [mg,qV]
    by_cases hi:i<L.length
    · have hW:=fun w hw=>(eK L w hw).1
      have hlp:=left_part hT.1 hW hS
      have el:=wts_at hi
      obtain ⟨k,ek⟩:∃ k,L.length - i=k+1:=⟨L.length - i - 1,by omega⟩
      have hw:=eK L ((wts L).getD i default) (by rw [bc (by rw [ci]; exact hi)]; exact List.getElem_mem _)
      have hm:=mul_bd hT.1 hT.2 hw.1 hw.2
      rw [iteT (by omega),aP (by omega),tnat]
      simp only [fu,sb]
      have ew:min (max (L.getD i default) 0) 2147483647=(wts L).getD i default:=by rw [el]; rfl
      rw [ew,bp (n:=T*(wts L).getD i default) (by omega) (by omega)]
      have hz:(sm (wts L) != 0)=true:=by simp; omega
      rw [hz,bB,bB]
      have la:(((wts L).take i).map (q T (sm (wts L)))++List.replicate (L.length - i) 0).length=L.length:=by simp [ci]; omega
      have lb:(((wts L).take i).map (r T (sm (wts L)))++List.replicate (L.length - i) 0).length=L.length:=by simp [ci]; omega
      have lc:(idx i++List.replicate (L.length - i) 0).length=L.length:=by simp [oG]; omega
      rw [la,lb,lc,aP (by omega),aP (by omega),aP (by omega)]
      simp only [List.length_set]
      rw [la,aP (by omega),ek]
      have l1:i=(((wts L).take i).map (q T (sm (wts L)))).length:=by simp [ci]; omega
      have l2:i=(((wts L).take i).map (r T (sm (wts L)))).length:=by simp [ci]; omega
      rw [pD l1,pD l2,pD (oG i).symm,get_rep l1]
      have hq:=q_bd hS hT.1 hw.1 (mH _ hW _ (by rw [bc (by rw [ci]; exact hi)]; exact List.getElem_mem _))
      have ed:w64 (Int.tdiv (T*(wts L).getD i default) (sm (wts L)))=q T (sm (wts L)) ((wts L).getD i default):=by
        rw [Int.tdiv_eq_ediv_of_nonneg hm.1]
        exact bp (by show _≤q _ _ _; omega) (by show q _ _ _≤_; omega)
      have er:Int.tmod (T*(wts L).getD i default) (sm (wts L))=r T (sm (wts L)) ((wts L).getD i default):=by
        rw [Int.tmod_eq_emod_of_nonneg hm.1]; rfl
      rw [ed,er,← nP _ (by rw [ci]; exact hi),← nP _ (by rw [ci]; exact hi),← ue]
      have e1:w64 (T - sm (((wts L).take i).map (q T (sm (wts L)))) - q T (sm (wts L)) ((wts L).getD i default))=T - sm (((wts L).take (i+1)).map (q T (sm (wts L)))):=by
        rw [nP _ (by rw [ci]; exact hi),dV]
        simp only [sm]
        have a1:=hlp i
        rw [bp (by omega) (by omega)]; omega
      rw [e1,wn (n:=(i:Int)+1) (k:=i+1) (by omega) (by omega)]
      have:=ih (i+1) (by omega) (by omega)
      rw [show L.length - (i+1)=k by omega] at this
      exact this
    · have:i=L.length:=by omega
      subst this
      rw [iteF (by omega)]
      have ew:(wts L).take L.length=wts L:=List.take_of_length_le (by rw [ci]; omega)
      rw [ew]
      simp only [Nat.sub_self,List.replicate_zero,List.append_nil]
      rfl
theorem f_inc (l:List Int) (hl:l.length≤10000):∀ (m i:Nat) (p:List Int),i≤l.length→l.length<m+i→(∀ x∈l,0≤x∧x.toNat<p.length)→(∀ x∈p,0≤x∧x+l.length≤4611686018427387904+i) →
    mP K n m l (l.length:Int) (i:Int) p=some (inc p (l.drop i)):=by
  intro m
  induction m with
  | zero=>intro i p h1 h2; omega
  | succ m ih =>
    intro i p h1 h2 hx hp
    simp only [mP,sT]
    by_cases hi:i<l.length
    · have hm:=hx (l.getD i default) (by rw [bc hi]; exact List.getElem_mem _)
      have hpx:=hp (p.getD (l.getD i default).toNat default) (by rw [bc hm.2]; exact List.getElem_mem _)
      rw [iteT (by omega),aP (by omega),tnat,aP (by omega),aP (by omega),wn (n:=(i:Int)+1) (k:=i+1) (by omega) (by omega),bp (by omega) (by omega)]
      rw [ih (i+1) _ (by omega) (by omega) (by simpa using hx) (fun x hx2=>by
        rcases List.mem_or_eq_of_mem_set hx2 with h | h
        · have:=hp x h; omega
        · subst h; omega)]
      rw [List.drop_eq_getElem_cons hi,← bc hi]
      rfl
    · rw [iteF (by omega),List.drop_eq_nil_of_le (by omega)]
      rfl
theorem cmp_ok (rs:List Int) (m:Nat):QSort.Cmp (KN (m+1)) (Fv.c36 rs) (fun a=>0≤a∧a<rs.length) (key rs):=by
  refine ⟨fun a b ha hb=>?_⟩
  show ∃ c,qr (KN m) m a b rs=some c∧_
  unfold qr
  rw [aP hb,aP ha]
  simp only [oV,pW,sb,bne_self_eq_false,Bool.false_eq_true,if_false,key]
  by_cases h1:rs.getD b.toNat default<rs.getD a.toNat default
  · rw [iteT h1]; exact ⟨-1,rfl,by omega⟩
  · rw [iteF h1]
    by_cases h2:rs.getD b.toNat default>rs.getD a.toNat default
    · rw [iteT h2]; exact ⟨1,rfl,by omega⟩
    · rw [iteF h2]; exact ⟨0,rfl,by omega⟩
theorem sorted (rs:List Int) {lvl n:Nat} (hn:10001<n) (hl:rs.length≤10000) (hlv:20010≤lvl):∃ d,Ord rs d∧iK (KN lvl) n (idx rs.length) (Fv.c36 rs)=some d:=by
  obtain ⟨d,h1,h2,h3⟩:=QSort.sort_ok (c0:=1) (f:=Fv.c36 rs) (D:=fun a=>0≤a∧a<rs.length) (key:=key rs) (fun m hm=>by
    obtain ⟨k,rfl⟩:∃ k,m=k+1:=⟨m - 1,by omega⟩
    exact cmp_ok rs k) (lvl:=lvl) (n:=n) (idx rs.length) hn (by rw [oG]; omega) (idx_lt _) (fun x hx=>by
      obtain ⟨k,hk,rfl⟩:=idx_mem.1 hx; omega) (by rw [oG]; exact hl)
  exact ⟨d,⟨h1,h2⟩,h3⟩
theorem oN {a b:Int} {n:Nat} (h0:0≤a) (h1:a≤b) (h2:b≤n):slb a b n=true:=by simp [slb,h0,h1,h2]
theorem kj {n b:Nat} (h:n*b≤140737488355328) (h2:n≤4611686018427387904):mkb (n:Int) b=true:=by
  simp only [mkb,Bool.and_eq_true,decide_eq_true_eq,Int.toNat_natCast]; omega
theorem pc {lvl n:Nat} (T:Int) (L:List Int) (hL:L.length≤10000) (hn:10001<n) (hlv:20010≤lvl):pe (KN lvl) n T L=some (share (lim T mx) (wts L)):=by
  unfold pe
  have hT:0≤lim T mx∧lim T mx≤2147483647:=cY (m:=mx) (by decide)
  simp only [fu,sb,kj (show L.length*8≤140737488355328 by omega) (by omega),bB,tnat]
  have h1:=f_sum (K:=KN lvl) (n:=n) L (lim T mx) (List.replicate L.length 0) (List.replicate L.length 0) (List.replicate L.length 0) hL n 0 (by omega) (by omega)
  rw [show sm ((wts L).take 0)=0 from rfl,show ((0:Nat):Int)=0 from rfl] at h1
  rw [show min (max T 0) 2147483647=lim T mx from rfl,h1]
  have hsm:=sm_wts hL
  by_cases hz:sm (wts L)=0
  · rw [if_pos (by simp [hz])]
    unfold share
    rw [if_pos hz,ci]
  · rw [if_neg (by simp [hz])]
    have hS:0<sm (wts L):=by omega
    have h2:=f_parts (K:=KN lvl) (n:=n) L (lim T mx) hT hL hS n 0 (by omega) (by omega)
    simp only [List.take_zero,List.map_nil,List.nil_append,Nat.sub_zero,sm,Int.sub_zero,show idx 0=[] from rfl] at h2
    rw [show ((0:Nat):Int)=0 from rfl] at h2
    rw [h2]
    obtain ⟨d,o1,o2⟩:=sorted ((wts L).map (r (lim T mx) (sm (wts L)))) (lvl:=lvl) (n:=n) hn (by simp [ci,hL]) hlv
    rw [List.length_map,ci] at o2
    rw [o2,sb]
    have hd:d.length=L.length:=by rw [o1.len,List.length_map,ci]
    have hlb:=td (lim T mx) (wts L) hS
    rw [ci] at hlb
    rw [oN (by omega) hlb.1 (by rw [hd]; exact hlb.2),bB]
    rw [show (0:Int).toNat=0 from rfl,List.drop_zero]
    rw [share_inc (lim T mx) (wts L) d (fun w hw=>(eK L w hw).1) (by omega) o1]
    have:=f_inc (K:=KN lvl) (n:=n) (d.take (left (lim T mx) (wts L)).toNat) (by simp; omega) n 0 ((wts L).map (q (lim T mx) (sm (wts L)))) (by omega) (by simp; omega) (fun x hx=>by
      obtain ⟨k,hk,rfl⟩:=o1.mem.1 (List.mem_of_mem_take hx)
      simp at hk; simp; omega) (fun x hx=>by
      obtain ⟨w,hw,rfl⟩:=List.mem_map.1 hx
      have:=q_bd hS hT.1 (eK L w hw).1 (mH _ (fun w hw=>(eK L w hw).1) w hw)
      have h3:(d.take (left (lim T mx) (wts L)).toNat).length≤10000:=by simp; omega
      omega)
    rw [show ((0:Nat):Int)=0 from rfl,List.drop_zero] at this
    exact this
theorem r_sum (L:List Int) (T:Int) (hL:L.length≤10000):∀ (m i:Nat),i≤L.length→L.length<m+i →
    qa K n L T m (sm ((wts L).take i)) (i:Int)=if (sm (wts L) == 0)=true then some (List.replicate L.length 0) else mq K n L T (sm (wts L)) n T 0 (List.replicate L.length 0) (List.replicate L.length 0):=by
  intro m
  induction m with
  | zero=>intro i h1 h2; omega
  | succ m ih =>
    intro i h1 h2
    simp only [qa,qG]
    by_cases hi:i<L.length
    · have hb:=sm_wts hL
      have hs:=sm_take (W:=wts L) (fun w hw=>(eK L w hw).1) (i+1)
      have e:=tW (W:=wts L) (i:=i) (by rw [ci]; exact hi)
      have el:=wts_at hi
      rw [iteT (by omega),aP (by omega),tnat]
      simp only [fk,sb]
      rw [wn (n:=(i:Int)+1) (k:=i+1) (by omega) (by omega)]
      rw [show w64 (sm ((wts L).take i)+min (max (L.getD i default) 0) 2147483647)=sm ((wts L).take (i+1)) by
        rw [e,el]; exact bp (by rw [e,el] at hs; unfold lim mx at hs; omega) (by rw [e,el] at hs; unfold lim mx at hs; omega)]
      exact ih (i+1) (by omega) (by omega)
    · rw [iteF (by omega),List.take_of_length_le (by rw [ci]; omega)]
      simp only [kj (show L.length*8≤140737488355328 by omega) (by omega),bB,tnat,sb]
theorem r_parts (L:List Int) (T:Int) (hT:0≤T∧T≤2147483647) (hL:L.length≤10000) (hS:0<sm (wts L)):∀ (m i:Nat),i≤L.length→L.length<m+i →
    mq K n L T (sm (wts L)) m (T - sm (((wts L).take i).map (q T (sm (wts L))))) (i:Int) (((wts L).take i).map (q T (sm (wts L)))++List.replicate (L.length - i) 0) (((wts L).take i).map (r T (sm (wts L)))++List.replicate (L.length - i) 0) =
    jW K n n (left T (wts L)) ((wts L).map (q T (sm (wts L)))) ((wts L).map (r T (sm (wts L)))):=by
  intro m
  induction m with
  | zero=>intro i h1 h2; omega
  | succ m ih =>
    intro i h1 h2
    simp only [mq,qD]
    by_cases hi:i<L.length
    · have hW:=fun w hw=>(eK L w hw).1
      have hlp:=left_part hT.1 hW hS
      have el:=wts_at hi
      obtain ⟨k,ek⟩:∃ k,L.length - i=k+1:=⟨L.length - i - 1,by omega⟩
      have hw:=eK L ((wts L).getD i default) (by rw [bc (by rw [ci]; exact hi)]; exact List.getElem_mem _)
      have hm:=mul_bd hT.1 hT.2 hw.1 hw.2
      rw [iteT (by omega),aP (by omega),tnat]
      simp only [fk,sb]
      have ew:min (max (L.getD i default) 0) 2147483647=(wts L).getD i default:=by rw [el]; rfl
      rw [ew,bp (n:=T*(wts L).getD i default) (by omega) (by omega)]
      have hz:(sm (wts L) != 0)=true:=by simp; omega
      rw [hz,bB,bB]
      have la:(((wts L).take i).map (q T (sm (wts L)))++List.replicate (L.length - i) 0).length=L.length:=by simp [ci]; omega
      have lb:(((wts L).take i).map (r T (sm (wts L)))++List.replicate (L.length - i) 0).length=L.length:=by simp [ci]; omega
      simp only [List.length_set]
      rw [la,lb,aP (by omega),aP (by omega),aP (by omega),ek]
      have l1:i=(((wts L).take i).map (q T (sm (wts L)))).length:=by simp [ci]; omega
      have l2:i=(((wts L).take i).map (r T (sm (wts L)))).length:=by simp [ci]; omega
      rw [pD l1,pD l2,get_rep l1]
      have hq:=q_bd hS hT.1 hw.1 (mH _ hW _ (by rw [bc (by rw [ci]; exact hi)]; exact List.getElem_mem _))
      have ed:w64 (Int.tdiv (T*(wts L).getD i default) (sm (wts L)))=q T (sm (wts L)) ((wts L).getD i default):=by
        rw [Int.tdiv_eq_ediv_of_nonneg hm.1]
        exact bp (by show _≤q _ _ _; omega) (by show q _ _ _≤_; omega)
      have er:Int.tmod (T*(wts L).getD i default) (sm (wts L))=r T (sm (wts L)) ((wts L).getD i default):=by
        rw [Int.tmod_eq_emod_of_nonneg hm.1]; rfl
      rw [ed,er,← nP _ (by rw [ci]; exact hi),← nP _ (by rw [ci]; exact hi)]
      have e1:w64 (T - sm (((wts L).take i).map (q T (sm (wts L)))) - q T (sm (wts L)) ((wts L).getD i default))=T - sm (((wts L).take (i+1)).map (q T (sm (wts L)))):=by
        rw [nP _ (by rw [ci]; exact hi),dV]
        simp only [sm]
        have a1:=hlp i
        rw [bp (by omega) (by omega)]; omega
      rw [e1,wn (n:=(i:Int)+1) (k:=i+1) (by omega) (by omega)]
      have:=ih (i+1) (by omega) (by omega)
      rw [show L.length - (i+1)=k by omega] at this
      exact this
    · have:i=L.length:=by omega
      subst this
      rw [iteF (by omega)]
      have ew:(wts L).take L.length=wts L:=List.take_of_length_le (by rw [ci]; omega)
      rw [ew]
      simp only [Nat.sub_self,List.replicate_zero,List.append_nil]
      rfl
structure Best (rs:List Int) (i b:Nat):Prop where
  lt:b<i
  before:∀ k,k<b→rs.getD k default<rs.getD b default
  all:∀ k,k<i→rs.getD k default≤rs.getD b default
theorem best_one (rs:List Int):Best rs 1 0:=⟨by omega,fun k hk=>by omega,fun k hk=>by
  have:k=0:=by omega
  subst this; exact Int.le_refl _⟩
theorem r_best (v27:Int) (p rs:List Int) (L3:Int→List Int→List Int→Option (List Int)) (hl:rs.length≤10000):∀ (m i b:Nat),i≤rs.length→rs.length<m+i→Best rs i b →
    ∃ b',Best rs rs.length b'∧oa K n v27 p rs L3 m (b:Int) (i:Int)=(chk (inb (b':Int) p.length) (
    chk (inb (b':Int) p.length) (
    (some (List.set p b' (w64 ((List.getD p b' default)+1)))).bind fun v36 =>
    chk (inb (b':Int) rs.length) (
    L3 (w64 (v27 - 1)) v36 (List.set rs b' (-1)))))):=by
  intro m
  induction m with
  | zero=>intro i b h1 h2; omega
  | succ m ih =>
    intro i b h1 h2 hb
    have hlt:=hb.lt
    simp only [oa,rg]
    by_cases hi:i<rs.length
    · rw [iteT (by omega),aP (by omega),aP (by omega),tnat,tnat]
      simp only [sb,rU]
      rw [wn (n:=(i:Int)+1) (k:=i+1) (by omega) (by omega)]
      by_cases hc:rs.getD i default>rs.getD b default
      · rw [iteT hc]
        refine ih (i+1) i (by omega) (by omega) ⟨by omega,fun k hk=>?_,fun k hk=>?_⟩
        · have:=hb.all k hk; omega
        · rcases Nat.lt_or_ge k i with q | q
          · have:=hb.all k q; omega
          · obtain rfl:k=i:=by omega
            exact Int.le_refl _
      · rw [iteF hc]
        refine ih (i+1) b (by omega) (by omega) ⟨by omega,hb.before,fun k hk=>?_⟩
        rcases Nat.lt_or_ge k i with q | q
        · exact hb.all k q
        · obtain rfl:k=i:=by omega
          omega
    · rw [iteF (by omega)]
      have:i=rs.length:=by omega
      subst this
      exact ⟨b,hb,by simp only [tnat]⟩
def mark (rs l:List Int):List Int:=l.foldl (fun a i=>a.set i.toNat (-1)) rs
theorem mark_len (l:List Int):∀ rs:List Int,(mark rs l).length=rs.length:=by
  induction l with
  | nil=>intro rs; rfl
  | cons i l ih=>intro rs; show (mark (rs.set i.toNat (-1)) l).length=_; rw [ih]; simp
theorem uR (l:List Int):∀ (rs:List Int) (k:Nat),(∀ i∈l,0≤i)→(k:Int) ∉ l→(mark rs l).getD k default=rs.getD k default:=by
  induction l with
  | nil=>intro rs k _ _; rfl
  | cons i l ih =>
    intro rs k h0 hk
    show (mark (rs.set i.toNat (-1)) l).getD k default=_
    have:=h0 i (by simp)
    rw [ih _ k (fun j hj=>h0 j (by simp [hj])) (fun h=>hk (by simp [h])),vT (fun e=>hk (by simp; omega))]
theorem mark_in (l:List Int):∀ (rs:List Int) (k:Nat),(∀ i∈l,0≤i)→(k:Int)∈l→k<rs.length→(mark rs l).getD k default = -1:=by
  induction l with
  | nil=>intro rs k _ h; simp at h
  | cons i l ih =>
    intro rs k h0 hk hl
    show (mark (rs.set i.toNat (-1)) l).getD k default=_
    by_cases hm:(k:Int)∈l
    · exact ih _ k (fun j hj=>h0 j (by simp [hj])) hm (by simpa using hl)
    · rw [uR l _ k (fun j hj=>h0 j (by simp [hj])) hm]
      have:i=(k:Int):=by rcases List.mem_cons.1 hk with h | h; exact h.symm; exact absurd h hm
      subst this
      rw [Int.toNat_natCast,xX hl]
theorem mark_app (rs l m:List Int):mark rs (l++m)=mark (mark rs l) m:=by simp [mark]
theorem best_is {rs d:List Int} (h:Ord rs d) (h0:∀ k,k<rs.length→0≤rs.getD k default) {t b:Nat} (ht:t<d.length) (hb:Best (mark rs (d.take t)) rs.length b):d.getD t default=(b:Int):=by
  have hnn:∀ i∈d.take t,0≤i:=fun i hi=>by obtain ⟨j,_,rfl⟩:=h.mem.1 (List.mem_of_mem_take hi); omega
  have hm:d.getD t default∈d:=by rw [bc ht]; exact List.getElem_mem _
  obtain ⟨e,he,ee⟩:=h.mem.1 hm
  have nd:=h.nodup
  have enot:(e:Int) ∉ d.take t:=by
    intro hh
    obtain ⟨i,i1,i2,i3⟩:=QSort.nH hh
    have:=QSort.dj h.s i1 ht
    unfold QSort.at_ at this i3
    rw [i3,ee] at this
    exact this.irr
  have ve:(mark rs (d.take t)).getD e default=rs.getD e default:=uR _ _ _ hnn enot
  have hle:=hb.all e he
  rw [ve] at hle
  by_cases hbt:(b:Int)∈d.take t
  · have:=mark_in (d.take t) rs b hnn hbt hb.lt
    have:=h0 e he
    omega
  · have vb:(mark rs (d.take t)).getD b default=rs.getD b default:=uR _ _ _ hnn hbt
    rw [vb] at hle
    by_cases hbe:b=e
    · rw [ee,hbe]
    · exfalso
      have hbd:(b:Int)∈d:=h.mem.2 ⟨b,hb.lt,rfl⟩
      have hbd2:(b:Int)∈d.drop (t+1):=by
        have e1:d=d.take t++d.drop t:=(List.take_append_drop t d).symm
        have e2:d.drop t=d.getD t default::d.drop (t+1):=by rw [List.drop_eq_getElem_cons ht,← bc ht]
        rw [e2] at e1
        rw [e1] at hbd
        rcases List.mem_append.1 hbd with q | q
        · exact absurd q hbt
        · rcases List.mem_cons.1 q with q | q
          · exfalso; rw [ee] at q; omega
          · exact q
      obtain ⟨i,i1,i2,i3⟩:=QSort.po hbd2
      have hR:=QSort.dj h.s (i:=t) (j:=i) (by omega) i2
      unfold QSort.at_ at hR i3
      rw [i3,ee] at hR
      unfold QSort.R key at hR
      rw [Int.toNat_natCast,Int.toNat_natCast] at hR
      have hbf:=hb.before
      rcases Nat.lt_or_ge e b with q | q
      · have:=hbf e q; rw [ve,vb] at this; omega
      · omega
theorem r_rounds {rs d p:List Int} (h:Ord rs d) (h0:∀ k,k<rs.length→0≤rs.getD k default) (hl:rs.length≤10000) (hp:p.length=rs.length) (hn:10001<n) (l:Nat) (hld:l≤d.length) (hpb:∀ x∈p,0≤x∧x≤4611686018427387904):∀ (m t:Nat),t≤l→l<m+t →
    jW K n m ((l - t:Nat):Int) (inc p (d.take t)) (mark rs (d.take t))=some (inc p (d.take l)):=by
  intro m
  induction m with
  | zero=>intro t h1 h2; omega
  | succ m ih =>
    intro t h1 h2
    simp only [jW,qK]
    have hdl:=h.len
    by_cases ht:t<l
    · rw [iteT (by omega)]
      have hr0:0<rs.length:=by omega
      have ml:=mark_len (d.take t) rs
      obtain ⟨b,hb,e⟩:=r_best (K:=K) (n:=n) ((l - t:Nat):Int) (inc p (d.take t)) (mark rs (d.take t)) (jW K n m) (by rw [ml]; exact hl) n 1 0 (by omega) (by omega) (best_one _)
      rw [show ((0:Nat):Int)=0 from rfl,show ((1:Nat):Int)=1 from rfl] at e
      rw [e]
      rw [ml] at hb
      have hbi:=best_is h h0 (by omega) hb
      have hblt:=hb.lt
      rw [inc_len,hp,ml,aP (by omega),aP (by omega),sb,aP (by omega)]
      rw [wn (n:=((l - t:Nat):Int) - 1) (k:=l - (t+1)) (by omega) (by omega)]
      have hnd:(d.take t).Nodup:=h.nodup.sublist (List.take_sublist _ _)
      have hnn:∀ i∈d.take t,0≤i:=fun i hi=>by obtain ⟨j,_,rfl⟩:=h.mem.1 (List.mem_of_mem_take hi); omega
      have hv:=inc_at (d.take t) p b hnd hnn (by omega)
      have hpv:=hpb (p.getD b default) (by rw [bc (by omega)]; exact List.getElem_mem _)
      have hw:w64 ((inc p (d.take t)).getD b default+1)=(inc p (d.take t)).getD b default+1:=by
        refine bp ?_ ?_<;>(rw [hv]; split<;>omega)
      have es:d.take (t+1)=d.take t++[(b:Int)]:=by
        rw [List.take_succ_eq_append_getElem (by omega),← bc (by omega),hbi]
      have e1:List.set (inc p (d.take t)) b ((inc p (d.take t)).getD b default+1)=inc p (d.take (t+1)):=by
        rw [es,inc_app]; rfl
      have e2:List.set (mark rs (d.take t)) b (-1)=mark rs (d.take (t+1)):=by
        rw [es,mark_app]; rfl
      rw [hw,e1,e2]
      exact ih (t+1) (by omega) (by omega)
    · have:t=l:=by omega
      subst this
      rw [iteF (by omega)]
theorem oq {K:Kn} {n:Nat} (T:Int) (L:List Int) (hL:L.length≤10000) (hn:10001<n):rB K n T L=some (share (lim T mx) (wts L)):=by
  unfold rB
  have hT:0≤lim T mx∧lim T mx≤2147483647:=cY (m:=mx) (by decide)
  simp only [fk,sb]
  have h1:=r_sum (K:=K) (n:=n) L (lim T mx) hL n 0 (by omega) (by omega)
  rw [show sm ((wts L).take 0)=0 from rfl,show ((0:Nat):Int)=0 from rfl] at h1
  rw [show min (max T 0) 2147483647=lim T mx from rfl,h1]
  have hsm:=sm_wts hL
  by_cases hz:sm (wts L)=0
  · rw [if_pos (by simp [hz])]
    unfold share
    rw [if_pos hz,ci]
  · rw [if_neg (by simp [hz])]
    have hS:0<sm (wts L):=by omega
    have h2:=r_parts (K:=K) (n:=n) L (lim T mx) hT hL hS n 0 (by omega) (by omega)
    simp only [List.take_zero,List.map_nil,List.nil_append,Nat.sub_zero,sm,Int.sub_zero] at h2
    rw [show ((0:Nat):Int)=0 from rfl] at h2
    rw [h2]
    obtain ⟨d,o1,o2⟩:=sorted ((wts L).map (r (lim T mx) (sm (wts L)))) (lvl:=20010) (n:=10002) (by omega) (by simp [ci,hL]) (Nat.le_refl _)
    have hd:d.length=L.length:=by rw [o1.len,List.length_map,ci]
    have hlb:=td (lim T mx) (wts L) hS
    rw [ci] at hlb
    rw [share_inc (lim T mx) (wts L) d (fun w hw=>(eK L w hw).1) (by omega) o1]
    have:=r_rounds (K:=K) (n:=n) (p:=(wts L).map (q (lim T mx) (sm (wts L)))) o1 (fun k hk=>by
      rw [List.length_map] at hk
      rw [re _ _ _ hk]; exact (r_bd hS).1) (by simp [ci,hL]) (by simp) hn (left (lim T mx) (wts L)).toNat (by omega) (fun x hx=>by
      obtain ⟨w,hw,rfl⟩:=List.mem_map.1 hx
      have:=q_bd hS hT.1 (eK L w hw).1 (mH _ (fun w hw=>(eK L w hw).1) w hw)
      omega) n 0 (by omega) (by omega)
    rw [show (((left (lim T mx) (wts L)).toNat - 0:Nat):Int)=left (lim T mx) (wts L) by omega] at this
    exact this
end Sh
end Go.Proofs.Ytlpndemhnpajiaa
namespace Go.Proofs.Ytlpndemhnpajiaa
set_option linter.all false
open Go.RowKit
namespace Od
open QSort (wn aP iteT iteF iteB iteC sb)
def ix (p:Nat→Bool) (n:Nat):List Int:=((List.range n).filter p).map fun (k:Nat)=>(k:Int)
theorem ix_succ (p:Nat→Bool) (n:Nat):ix p (n+1)=ix p n++if p n=true then [(n:Int)] else []:=by
  unfold ix
  rw [List.range_succ,List.filter_append,List.map_append]
  congr 1
  cases h:p n<;>simp only [List.filter_cons,List.filter_nil,h,if_true,Bool.false_eq_true,if_false,List.map_cons,List.map_nil]
theorem ix_mem {p:Nat→Bool} {n:Nat} {x:Int}:x∈ix p n ↔ ∃ k:Nat,k<n∧x=k∧p k=true:=by
  simp only [ix,List.mem_map,List.mem_filter,List.mem_range]
  constructor
  · rintro ⟨k,⟨h1,h2⟩,rfl⟩; exact ⟨k,h1,rfl,h2⟩
  · rintro ⟨k,h1,rfl,h2⟩; exact ⟨k,⟨h1,h2⟩,rfl⟩
theorem ix_len (p:Nat→Bool) (n:Nat):(ix p n).length≤n:=by
  unfold ix
  rw [List.length_map]
  have:=List.length_filter_le p (List.range n)
  rw [List.length_range] at this; exact this
theorem ix_lt (p:Nat→Bool) (n:Nat):(ix p n).Pairwise (· < ·):=by
  unfold ix
  rw [List.pairwise_map]
  refine List.Pairwise.imp (fun h=>?_) (List.Pairwise.filter _ List.pairwise_lt_range)
  omega
variable (B:List ab)
def fl (k:Nat):Bool:=inM (B.getD k default)
def key (a:Int):Int:=(B.getD a.toNat default).Style.Order
structure Is (d:List Int):Prop where
  p:d.Perm (ix (fl B) B.length)
  s:d.Pairwise (QSort.R (key B))
variable {B}
theorem Is.uniq {d e:List Int} (h:Is B d) (h2:Is B e):d=e:=by
  refine List.Perm.eq_of_pairwise (fun a b _ _ h1 h2=>(h1.asymm h2).elim) h.s h2.s (h.p.trans h2.p.symm)
theorem Is.mem {d:List Int} (h:Is B d) {x:Int} (hx:x∈d):∃ k:Nat,k<B.length∧x=k∧inM (B.getD k default)=true:=ix_mem.1 (h.p.mem_iff.1 hx)
theorem Is.len {d:List Int} (h:Is B d):d.length≤B.length:=by rw [h.p.length_eq]; exact ix_len _ _
variable (B)
theorem cmp_ok (m:Nat):QSort.Cmp (KN (m+1)) (Fv.c45 B) (fun a=>0≤a∧a<B.length) (key B):=by
  refine ⟨fun a b ha hb=>?_⟩
  show ∃ c,rn (KN m) m a b B=some c∧_
  unfold rn
  rw [aP ha,aP hb]
  simp only [oV,pW,sb,bne_self_eq_false,Bool.false_eq_true,if_false,key]
  by_cases h1:(B.getD a.toNat default).Style.Order<(B.getD b.toNat default).Style.Order
  · rw [iteT h1]; exact ⟨-1,rfl,by omega⟩
  · rw [iteF h1]
    by_cases h2:(B.getD a.toNat default).Style.Order>(B.getD b.toNat default).Style.Order
    · rw [iteT h2]; exact ⟨1,rfl,by omega⟩
    · rw [iteF h2]; exact ⟨0,rfl,by omega⟩
theorem f_loop (K:Kn) (n:Nat) (hl:B.length≤1000):∀ (m i:Nat),i≤B.length→B.length<m+i →
    pG K n B m (i:Int) (ix (fl B) i)=iK K n (ix (fl B) B.length) (Fv.c45 B):=by
  intro m
  induction m with
  | zero=>intro i h1 h2; omega
  | succ m ih =>
    intro i h1 h2
    simp only [pG,rt]
    by_cases hi:i<B.length
    · have il:=ix_len (fl B) i
      have es:=ix_succ (fl B) i
      have ih:=ih (i+1) (by omega) (by omega)
      rw [iteT (by omega),aP (by omega),tnat,flow_def,sb]
      simp only [qo,wn (n:=(i:Int)+1) (k:=i+1) (by omega) (by omega)]
      cases hp:inM (B.getD i default)
      · rw [if_neg (by simp)]
        rw [es,if_neg (by unfold fl; rw [hp]; simp),List.append_nil] at ih
        exact ih
      · rw [if_pos rfl,cg (by simp only [List.length_cons,List.length_nil]; omega) (by omega),bB]
        rw [es,if_pos (by unfold fl; rw [hp])] at ih
        exact ih
    · obtain rfl:i=B.length:=by omega
      rw [iteF (by omega)]
      cases iK K n (ix (fl B) B.length) (Fv.c45 B)<;>rfl
theorem pc (hl:B.length≤1000) {lvl n:Nat} (hn:10001<n) (hlv:20010≤lvl):∃ d,Is B d∧mG (KN lvl) n B=some d:=by
  have il:=ix_len (fl B) B.length
  obtain ⟨d,h1,h2,h3⟩:=QSort.sort_ok (c0:=1) (f:=Fv.c45 B) (D:=fun a=>0≤a∧a<B.length) (key:=key B) (fun m hm=>by
    obtain ⟨k,rfl⟩:∃ k,m=k+1:=⟨m - 1,by omega⟩
    exact cmp_ok B k) (lvl:=lvl) (n:=n) (ix (fl B) B.length) hn (by omega) (ix_lt _ _) (fun x hx=>by
      obtain ⟨k,hk,rfl,_⟩:=ix_mem.1 hx; omega) (by omega)
  refine ⟨d,⟨h1,h2⟩,?_⟩
  have:=f_loop B (KN lvl) n hl n 0 (by omega) (by omega)
  unfold mG
  rw [show ix (fl B) 0=[] from rfl,show ((0:Nat):Int)=0 from rfl] at this
  rw [this]; exact h3
theorem r_in (K:Kn) (n:Nat) (hl:B.length≤1000) (i:Nat) (hi:i<B.length) (d:List Int) (hd:d.length≤1000) (hs:d.Pairwise (QSort.R (key B))) (hm:∀ x∈d,0≤x∧x<i) (L1:Int→List Int→Option (List Int)):∀ (m t:Nat),t<m→t≤d.length→(∀ k,t≤k→k<d.length→QSort.R (key B) i (QSort.at_ d k)) →
    ∃ e,e.Perm (d++[(i:Int)])∧e.Pairwise (QSort.R (key B))∧mQ K n B (i:Int) d L1 m (t:Int)=L1 ((i+1:Nat):Int) e:=by
  intro m
  induction m with
  | zero=>intro t h; omega
  | succ m ih =>
    intro t hm2 ht h2
    simp only [mQ,qz]
    have put:∀ b:Bool,b=false→(∀ k,k<t→k<d.length→QSort.R (key B) (QSort.at_ d k) i)→∃ e,e.Perm (d++[(i:Int)])∧e.Pairwise (QSort.R (key B))∧mF K n B (i:Int) d (t:Int) L1 (mQ K n B (i:Int) d L1 m) b=L1 ((i+1:Nat):Int) e:=by
      intro b hb h1
      subst hb
      refine ⟨d.take t++(i:Int)::d.drop t,?_,QSort.put_in hs h1 h2,?_⟩
      · refine List.perm_middle.trans ?_
        rw [List.take_append_drop]; exact (List.perm_append_singleton _ _).symm
      · simp only [mF,Bool.false_eq_true,if_false,oQ,tnat,sb]
        have e0:(0:Int).toNat=0:=rfl
        have tl:(d.take t).length=t:=by simp; omega
        rw [Sh.oN (by omega) (by omega) (by omega),Sh.oN (by omega) (by omega) (by omega),e0,List.drop_zero,List.take_length]
        rw [cg (by rw [tl]; omega) (by omega),cg (by simp only [tl,List.length_cons,List.length_nil]; omega) (by omega),cg (by simp only [List.length_append,tl,List.length_cons,List.length_nil,List.length_drop]; omega) (by omega)]
        simp only [bB]
        rw [wn (n:=(i:Int)+1) (k:=i+1) (by omega) (by omega)]
        simp
    by_cases h0:0<t
    · have hmem:=hm (d.getD (t - 1) default) (by rw [bc (by omega)]; exact List.getElem_mem _)
      rw [iteT (by omega),wn (n:=(t:Int) - 1) (k:=t - 1) (by omega) (by omega),aP (by omega),tnat,aP (by omega),aP (by omega),tnat]
      have hk1:key B (QSort.at_ d (t - 1))=(B.getD (d.getD (t - 1) default).toNat default).Style.Order:=rfl
      have hk2:key B (i:Int)=(B.getD i default).Style.Order:=by unfold key; rw [Int.toNat_natCast]
      by_cases hc:(B.getD (d.getD (t - 1) default).toNat default).Style.Order>(B.getD i default).Style.Order
      · rw [decide_eq_true hc]
        simp only [mF,if_true]
        rw [wn (n:=(t:Int) - 1) (k:=t - 1) (by omega) (by omega)]
        refine ih (t - 1) (by omega) (by omega) (fun k hk hk2=>?_)
        rcases Nat.lt_or_ge k t with q | q
        · obtain rfl:k=t - 1:=by omega
          left; omega
        · exact h2 k q hk2
      · rw [decide_eq_false hc]
        refine put false rfl (fun k hk hk2=>?_)
        have hlast:QSort.R (key B) (QSort.at_ d (t - 1)) i:=by
          unfold QSort.R
          have:QSort.at_ d (t - 1)<(i:Int):=hmem.2
          omega
        rcases Nat.lt_or_ge k (t - 1) with q | q
        · exact (QSort.dj hs q (by omega)).trans hlast
        · obtain rfl:k=t - 1:=by omega
          exact hlast
    · rw [iteF (by omega)]
      exact put false rfl (fun k hk=>by omega)
theorem r_loop (K:Kn) (n:Nat) (hl:B.length≤1000) (hn:10001<n):∀ (m i:Nat) (d:List Int),i≤B.length→B.length<m+i→d.Perm (ix (fl B) i)→d.Pairwise (QSort.R (key B)) →
    ∃ e,Is B e∧mW K n B m (i:Int) d=some e:=by
  intro m
  induction m with
  | zero=>intro i d h1 h2; omega
  | succ m ih =>
    intro i d h1 h2 hp hs
    simp only [mW,qF]
    by_cases hi:i<B.length
    · have il:=ix_len (fl B) i
      have es:=ix_succ (fl B) i
      have dl:=hp.length_eq
      rw [iteT (by omega),aP (by omega),tnat,in_def,sb]
      simp only [oQ]
      rw [wn (n:=(i:Int)+1) (k:=i+1) (by omega) (by omega)]
      cases hq:inM (B.getD i default)
      · simp only [Bool.not_false,if_true]
        exact ih (i+1) d (by omega) (by omega) (by rw [es,if_neg (by unfold fl; rw [hq]; simp),List.append_nil]; exact hp) hs
      · simp only [Bool.not_true,Bool.false_eq_true,if_false]
        obtain ⟨e,e1,e2,e3⟩:=r_in B K n hl i hi d (by omega) hs (fun x hx=>by
          obtain ⟨k,hk,rfl,_⟩:=ix_mem.1 (hp.mem_iff.1 hx); omega) (mW K n B m) n d.length (by omega) (Nat.le_refl _) (fun k h3 h4=>by omega)
        rw [e3]
        refine ih (i+1) e (by omega) (by omega) ?_ e2
        rw [es,if_pos (by unfold fl; rw [hq])]
        exact e1.trans (hp.append_right _)
    · obtain rfl:i=B.length:=by omega
      rw [iteF (by omega)]
      exact ⟨d,⟨hp,hs⟩,rfl⟩
theorem oq (K:Kn) {n:Nat} (hl:B.length≤1000) (hn:10001<n):∃ d,Is B d∧qW K n B=some d:=by
  obtain ⟨e,h1,h2⟩:=r_loop B K n hl hn n 0 [] (by omega) (by omega) (by simp [ix]) (by simp)
  exact ⟨e,h1,h2⟩
theorem ord_both (hl:B.length≤1000) {lvl n:Nat} (hn:10001<n) (hlv:20010≤lvl):∃ d,Is B d∧mG (KN lvl) n B=some d∧∀ (K:Kn) (j:Nat),10001<j→qW K j B=some d:=by
  obtain ⟨d,h1,h2⟩:=pc B hl hn hlv
  refine ⟨d,h1,h2,fun K j hj=>?_⟩
  obtain ⟨e,h3,h4⟩:=oq B K (n:=j) hl hj
  rw [h4,h3.uniq h1]
end Od
end Go.Proofs.Ytlpndemhnpajiaa
namespace Go.Proofs.Ytlpndemhnpajiaa
set_option linter.all false
open Go.RowKit
namespace Fw
open QSort (wn aP iteT iteF iteB iteC sb)
open Wd (E1)
def itm (b:ab) (d:List Int):List ab:=d.map fun j=>b.Kids.getD j.toNat default
theorem kw (b:ab) (d:List Int):(itm b d).length=d.length:=by simp [itm]
theorem itm_at (b:ab) (d:List Int) {k:Nat} (hk:k<d.length):(itm b d).getD k default=b.Kids.getD (d.getD k default).toNat default:=by
  rw [bc (by rw [kw]; exact hk),bc hk]; simp [itm]
theorem itm_mem {b:ab} {d:List Int} (h:Od.Is b.Kids d) {k:ab} (hk:k∈itm b d):k∈b.Kids:=by
  obtain ⟨j,hj,rfl⟩:=List.mem_map.1 hk
  obtain ⟨i,i1,rfl,_⟩:=h.mem hj
  rw [Int.toNat_natCast]
  exact dG i1
theorem items_loop (K:Kn) (n:Nat) {b:ab} (hb:b.Kids.length≤20) {d:List Int} (h:Od.Is b.Kids d):∀ (m i:Nat),i≤d.length→d.length<m+i →
    nK K n b d m (i:Int) ((itm b d).take i)=some (itm b d):=by
  have dl:=h.len
  intro m
  induction m with
  | zero=>intro i h1 h2; omega
  | succ m ih =>
    intro i h1 h2
    simp only [nK,qU]
    by_cases hi:i<d.length
    · obtain ⟨j,j1,j2,_⟩:=h.mem (QSort.ms (A:=d) hi)
      unfold QSort.at_ at j2
      have ih:=ih (i+1) (by omega) (by omega)
      rw [List.take_succ_eq_append_getElem (by rw [kw]; exact hi),← bc (by rw [kw]; exact hi),itm_at b d hi] at ih
      rw [iteT (by omega),aP (by omega),tnat,j2,aP (by omega),tnat,cg (by simp only [List.length_cons,List.length_nil,List.length_take]; omega) (by omega),bB,wn (n:=(i:Int)+1) (k:=i+1) (by omega) (by omega)]
      rw [j2,tnat] at ih
      exact ih
    · rw [iteF (by omega),List.take_of_length_le (by rw [kw]; omega)]
theorem items_ok {b:ab} (hb:b.Kids.length≤20) {d:List Int} (h:Od.Is b.Kids d) {K:Kn} {n:Nat} (ho:mG K n b.Kids=some d) (hn:100<n):lV K n b=some (itm b d):=by
  have dl:=h.len
  unfold lV
  rw [ho,sb]
  exact items_loop K n hb h n 0 (by omega) (by omega)
def WOk (W:ab→Int×Int) (l:List ab):Prop:=∀ k∈l,(∀ N,45≤N→fe (KN N) N k E1=some (W k)∧eQ (KN N) N k=some (W k))∧(W k).1≤(W k).2 ∧ -7340032≤(W k).1∧(W k).2≤7340032
theorem w_of {b:ab} (hB:Bx b):∃ W,WOk W b.Kids:=by
  have:∀ k,∃ p:Int×Int,k∈b.Kids→(∀ N,45≤N→fe (KN N) N k E1=some p∧eQ (KN N) N k=some p)∧p.1≤p.2 ∧ -7340032≤p.1∧p.2≤7340032:=by
    intro k
    by_cases h:k∈b.Kids
    · have hk:=hB.kids k h
      obtain ⟨p,hp⟩:=wid_ind 20 k hk.good hk.text
      exact ⟨p,fun _=>hp⟩
    · exact ⟨default,fun h2=>absurd h2 h⟩
  obtain ⟨W,hW⟩:=Classical.skolem.1 this
  exact ⟨W,hW⟩
end Fw
end Go.Proofs.Ytlpndemhnpajiaa
namespace Go.Proofs.Ytlpndemhnpajiaa
set_option linter.all false
open Go.RowKit
namespace Sh
theorem share_at {T:Int} {W:List Int} (hS:sm W≠0) {k:Nat} (hk:k<W.length):(share T W).getD k default=part T W k:=by
  rw [bc (by rw [n3]; exact hk)]
  unfold share
  simp [hS]
theorem uL {T:Int} {W:List Int} (hS:sm W=0):share T W=List.replicate W.length 0:=by unfold share; rw [if_pos hS]
theorem part_bd {T:Int} {W:List Int} (hW:∀ w∈W,0≤w) (hT:0≤T) (hS:0<sm W) {k:Nat} (hk:k<W.length):0≤part T W k∧part T W k≤T+1:=by
  have hm:W.getD k default∈W:=by rw [bc hk]; exact List.getElem_mem _
  have:=q_bd hS hT (hW _ hm) (mH W hW _ hm)
  unfold part
  split<;>omega
end Sh
end Go.Proofs.Ytlpndemhnpajiaa
namespace Go.Proofs.Ytlpndemhnpajiaa
set_option linter.all false
open Go.RowKit
namespace Rs
open Sh (share wts lim mx q r left win part)
def aux (T S l:Int):List Int→List Int→List Int
  | _,[]=>[]
  | A,w::B=>(q T S w+if 0<r T S w∧((A.countP (fun x=>decide (r T S w≤r T S x))+B.countP (fun x=>decide (r T S w<r T S x)):Nat):Int)<l then 1 else 0)::aux T S l (A++[w]) B
theorem aux_len (T S l:Int):∀ (B A:List Int),(aux T S l A B).length=B.length
  | [],A=>rfl
  | w::B,A=>by simp [aux,aux_len T S l B]
theorem aux_at (T S l:Int):∀ (B A:List Int) (k:Nat),k<B.length→(aux T S l A B).getD k default=q T S (B.getD k default)+if 0<r T S (B.getD k default)∧(((A++B.take k).countP (fun x=>decide (r T S (B.getD k default)≤r T S x))+(B.drop (k+1)).countP (fun x=>decide (r T S (B.getD k default)<r T S x)):Nat):Int)<l then 1 else 0
  | [],A,k,h=>by simp at h
  | w::B,A,0,h=>by simp [aux]
  | w::B,A,k+1,h=>by
    have:=aux_at T S l B (A++[w]) k (by simpa using h)
    simp only [aux,List.getD_cons_succ,this,List.take_succ_cons,List.drop_succ_cons,List.append_assoc,List.singleton_append]
theorem share_aux (T:Int) (W:List Int) (hS:sm W≠0):share T W=aux T (sm W) (left T W) [] W:=by
  refine List.ext_getElem (by rw [Sh.n3,aux_len]) (fun k h1 h2=>?_)
  have hk:k<W.length:=by rw [Sh.n3] at h1; exact h1
  rw [←bc h1,← bc h2,Sh.share_at hS hk,aux_at _ _ _ _ _ _ hk]
  rfl
def zo (ws:List (Option Int)):List Int:=ws.map fun o=>o.getD 0
def op (ws:List (Option Int)):List Int:=ws.filterMap id
def pick:List (Option Int)→List Int→List Int
  | some _::ws,p::P=>p::pick ws P
  | none::ws,_::P=>pick ws P
  | _,_=>[]
theorem qj:∀ ws:List (Option Int),sm (zo ws)=sm (op ws)
  | []=>rfl
  | some w::ws=>by have:=qj ws; simp only [zo,op] at *; simp [sm,this]
  | none::ws=>by have:=qj ws; simp only [zo,op] at *; simp [sm,this]
theorem q_zero (T S:Int):q T S 0=0:=by simp [q]
theorem r_zero (T S:Int):r T S 0=0:=by simp [r]
theorem sm_q_zo (T S:Int):∀ ws:List (Option Int),sm ((zo ws).map (q T S))=sm ((op ws).map (q T S))
  | []=>rfl
  | some w::ws=>by
    have:=sm_q_zo T S ws
    have e1:zo (some w::ws)=w::zo ws:=rfl
    have e2:op (some w::ws)=w::op ws:=rfl
    rw [e1,e2,List.map_cons,List.map_cons,sm,sm,this]
  | none::ws=>by
    have:=sm_q_zo T S ws
    have e1:zo (none::ws)=0::zo ws:=rfl
    have e2:op (none::ws)=op ws:=rfl
    rw [e1,e2,List.map_cons,sm,this,q_zero]; omega
theorem vc (p:Int→Bool) (hp:p 0=false):∀ ws:List (Option Int),(zo ws).countP p=(op ws).countP p
  | []=>rfl
  | some w::ws=>by have:=vc p hp ws; simp only [zo,op] at *; simp [List.countP_cons,this]
  | none::ws=>by have:=vc p hp ws; simp only [zo,op] at *; simp [List.countP_cons,this,hp]
theorem uu (T S l:Int):∀ (ws:List (Option Int)) (A A':List Int),(∀ x,0<x→A.countP (fun y=>decide (x≤r T S y))=A'.countP (fun y=>decide (x≤r T S y))) →
    pick ws (aux T S l A (zo ws))=aux T S l A' (op ws)
  | [],A,A',h=>rfl
  | some w::ws,A,A',h=>by
    have ih:=uu T S l ws (A++[w]) (A'++[w]) (fun x hx=>by rw [List.countP_append,List.countP_append,h x hx])
    have e1:zo (some w::ws)=w::zo ws:=rfl
    have e2:op (some w::ws)=w::op ws:=rfl
    rw [e1,e2]
    simp only [aux,pick,ih]
    congr 2
    by_cases hr:0<r T S w
    · rw [h _ hr,vc _ (by simp [r_zero]; omega)]
    · rw [if_neg (fun hh=>hr hh.1),if_neg (fun hh=>hr hh.1)]
  | none::ws,A,A',h=>by
    have ih:=uu T S l ws (A++[0]) A' (fun x hx=>by
      rw [List.countP_append,h x hx]; simp [r_zero]; omega)
    have e1:zo (none::ws)=0::zo ws:=rfl
    have e2:op (none::ws)=op ws:=rfl
    rw [e1,e2]
    simp only [aux,pick,ih]
theorem uE:∀ ws:List (Option Int),pick ws (List.replicate ws.length 0)=List.replicate (op ws).length 0
  | []=>rfl
  | some w::ws=>by simp [pick,op,List.replicate_succ]; exact uE ws
  | none::ws=>by simp [pick,op,List.replicate_succ]; exact uE ws
theorem share_open (T:Int) (ws:List (Option Int)):pick ws (share T (zo ws))=share T (op ws):=by
  by_cases hS:sm (zo ws)=0
  · rw [Sh.uL hS,Sh.uL (by rw [←qj]; exact hS)]
    have:(zo ws).length=ws.length:=by simp [zo]
    rw [this]; exact uE ws
  · rw [share_aux T _ hS,share_aux T _ (by rw [←qj]; exact hS)]
    have e:left T (zo ws)=left T (op ws):=by unfold left; rw [sm_q_zo,qj]
    rw [e,qj]
    exact uu T _ _ ws [] [] (fun _ _=>rfl)
def fac (g:Bool) (it:aw):Int:=if g=true then it.Grow else it.Shrink
def wgt (g:Bool) (it:aw):Int:=if g=true then it.Grow else it.Base*it.Shrink / 1000
abbrev It:=aw×Option Int
def occ (p:It):Int:=p.2.getD p.1.Base
def opw (g:Bool) (p:It):Option Int:=if p.2.isSome=true then none else some (wgt g p.1)
def facs (g:Bool) (M:List It):Int:=sm (M.map fun p=>if p.2.isSome=true then 0 else fac g p.1)
def room (g:Bool) (sp:Int) (M:List It):Int:=max (if g=true then sp - sm (M.map occ) else - (sp - sm (M.map occ))) 0
def need (g:Bool) (sp:Int) (M:List It):Int:=if facs g M<1000 then room g sp M*facs g M / 1000 else room g sp M
def parts (g:Bool) (sp:Int) (M:List It):List Int:=share (lim (need g sp M) mx) (wts (zo (M.map (opw g))))
def ns (g:Bool) (it:aw) (p:Int):Int:=if g=true then it.Base+p else it.Base - p
def cl (it:aw) (n:Int):Int:=min (max n it.Min) it.Max
def dif (g:Bool) (p:It) (x:Int):Int:=if p.2.isSome=true then 0 else cl p.1 (ns g p.1 x) - ns g p.1 x
def change (g:Bool) (sp:Int) (M:List It):Int:=sm (List.zipWith (dif g) M (parts g sp M))
def fixq (c n l:Int):Bool:=decide (c=0∨(0<c∧n<l)∨(c<0∧l<n))
def step1 (g:Bool) (c:Int) (p:It) (x:Int):It:=if p.2.isSome=true then p else if fixq c (ns g p.1 x) (cl p.1 (ns g p.1 x))=true then (p.1,some (cl p.1 (ns g p.1 x))) else p
def round (g:Bool) (sp:Int) (M:List It):List It:=List.zipWith (step1 g (change g sp M)) M (parts g sp M)
def opens (M:List It):Nat:=M.countP fun p=>!p.2.isSome
def run (g:Bool) (sp:Int):Nat→List It→List It
  | 0,M=>M
  | k+1,M=>if opens M=0 then M else run g sp k (round g sp M)
def nrm (x:aw):aw:=⟨lim x.Base 1048576,lim x.Grow 1048576,lim x.Shrink 1048576,lim x.Min 1048576,max (lim x.Max 1048576) (lim x.Min 1048576)⟩
def hyp (x:aw):Int:=cl (nrm x) (nrm x).Base
def grows (l:List aw) (sp:Int):Bool:=decide (sm (l.map hyp)<sp)
def fix0 (g:Bool) (it:aw) (s:Int):Bool:=if g=true then decide (it.Grow=0∨it.Base>s) else decide (it.Shrink=0∨it.Base<s)
def start (g:Bool) (l:List aw):List It:=l.map fun x=>(nrm x,if fix0 g (nrm x) (hyp x)=true then some (hyp x) else none)
def sizes (M:List It):List Int:=M.map fun p=>p.2.getD 0
def resolve (l:List aw) (sp:Int):List Int:=sizes (run (grows l sp) sp l.length (start (grows l sp) l))
structure Ok1 (p:It):Prop where
  b:0≤p.1.Base∧p.1.Base≤1048576
  g:0≤p.1.Grow∧p.1.Grow≤1048576
  s:0≤p.1.Shrink∧p.1.Shrink≤1048576
  l:0≤p.1.Min∧p.1.Min≤p.1.Max∧p.1.Max≤1048576
  z:∀ n,p.2=some n→p.1.Min≤n∧n≤p.1.Max
def Ok (M:List It):Prop:=∀ p∈M,Ok1 p
theorem cY (n:Int):0≤lim n 1048576∧lim n 1048576≤1048576:=Sh.cY (by omega)
theorem nrm_ok (x:aw) (o:Option Int) (h:o=none∨o=some (hyp x)):Ok1 (nrm x,o):=by
  have a1:=cY x.Base; have a2:=cY x.Grow; have a3:=cY x.Shrink; have a4:=cY x.Min; have a5:=cY x.Max
  refine ⟨a1,a2,a3,by simp only [nrm]; omega,fun n hn=>?_⟩
  rcases h with rfl | rfl
  · cases hn
  · injection hn with hn; subst hn
    simp only [hyp,cl,nrm]; omega
theorem start_ok (g:Bool) (l:List aw):Ok (start g l):=by
  intro p hp
  obtain ⟨x,_,rfl⟩:=List.mem_map.1 hp
  refine nrm_ok x _ ?_
  split<;>simp
theorem cl_bd {p:It} (h:Ok1 p) (n:Int):p.1.Min≤cl p.1 n∧cl p.1 n≤p.1.Max:=by have:=h.l; unfold cl; omega
theorem step_ok {g:Bool} {c:Int} {p:It} (h:Ok1 p) (x:Int):Ok1 (step1 g c p x):=by
  unfold step1
  split
  · exact h
  · split
    · refine ⟨h.b,h.g,h.s,h.l,fun n hn=>?_⟩
      injection hn with hn; subst hn; exact cl_bd h _
    · exact h
theorem lz (g:Bool) (sp:Int) (M:List It):(parts g sp M).length=M.length:=by unfold parts; rw [Sh.n3,Sh.ci]; simp [zo]
theorem eU (g:Bool) (sp:Int) (M:List It):(round g sp M).length=M.length:=by unfold round; rw [List.length_zipWith,lz]; omega
theorem s7 (g:Bool) (sp:Int) (M:List It) {k:Nat} (hk:k<M.length):(round g sp M)[k]'(by rw [eU]; exact hk)=step1 g (change g sp M) M[k] ((parts g sp M).getD k default):=by
  unfold round
  rw [List.getElem_zipWith,bc (by rw [lz]; exact hk)]
theorem round_ok {g:Bool} {sp:Int} {M:List It} (h:Ok M):Ok (round g sp M):=by
  intro p hp
  obtain ⟨k,hk,e⟩:=List.getElem_of_mem hp
  have hk2:k<M.length:=by rw [eU] at hk; exact hk
  rw [s7 g sp M hk2] at e
  subst e
  exact step_ok (h _ (List.getElem_mem _)) _
theorem run_len {g:Bool} {sp:Int}:∀ (k:Nat) (M:List It),(run g sp k M).length=M.length
  | 0,M=>rfl
  | k+1,M=>by
    unfold run
    split
    · rfl
    · rw [run_len k,eU]
theorem yC (l:List aw) (sp:Int):(resolve l sp).length=l.length:=by simp [resolve,sizes,run_len,start]
theorem opens_zip (g:Bool) (c:Int):∀ (M:List It) (P:List Int),M.length=P.length→opens (List.zipWith (step1 g c) M P)≤opens M ∧
    ((∃ k,∃ h:k<M.length,∃ h2:k<P.length,M[k].2.isSome=false∧fixq c (ns g M[k].1 P[k]) (cl M[k].1 (ns g M[k].1 P[k]))=true)→opens (List.zipWith (step1 g c) M P)<opens M)
  | [],P,_=>⟨by simp [opens],fun ⟨k,h,_⟩=>by simp at h⟩
  | p::M,[],h=>by simp at h
  | p::M,x::P,h=>by
    have ih:=opens_zip g c M P (by simpa using h)
    have e1:opens (p::M)=opens M+(if (!p.2.isSome)=true then 1 else 0):=by simp [opens,List.countP_cons]
    have e2:opens (List.zipWith (step1 g c) (p::M) (x::P))=opens (List.zipWith (step1 g c) M P)+(if (!(step1 g c p x).2.isSome)=true then 1 else 0):=by simp [opens,List.countP_cons]
    have one:(if (!(step1 g c p x).2.isSome)=true then 1 else 0)≤(if (!p.2.isSome)=true then 1 else 0):=by
      unfold step1
      by_cases hs:p.2.isSome=true
      · rw [if_pos hs]; exact Nat.le_refl _
      · rw [if_neg hs]
        by_cases hf:fixq c (ns g p.1 x) (cl p.1 (ns g p.1 x))=true
        · rw [if_pos hf]; simp
        · rw [if_neg hf]; exact Nat.le_refl _
    refine ⟨by rw [e1,e2]; omega,fun ⟨k,h1,h2,h3,h4⟩=>?_⟩
    cases k with
    | zero =>
      simp only [List.getElem_cons_zero] at h3 h4
      have:(if (!(step1 g c p x).2.isSome)=true then 1 else 0)=0:=by
        have:step1 g c p x=(p.1,some (cl p.1 (ns g p.1 x))):=by unfold step1; rw [if_neg (by rw [h3]; simp),if_pos h4]
        rw [this]; rfl
      rw [e1,e2,this,h3]; simp; omega
    | succ k =>
      simp only [List.getElem_cons_succ] at h3 h4
      have:=ih.2 ⟨k,by simpa using h1,by simpa using h2,h3,h4⟩
      rw [e1,e2]; omega
theorem sm_pos:∀ L:List Int,0<sm L→∃ k,∃ h:k<L.length,0<L[k]
  | [],h=>by simp [sm] at h
  | x::L,h=>by
    simp only [sm] at h
    by_cases hx:0<x
    · exact ⟨0,by simp,hx⟩
    · obtain ⟨k,hk,h2⟩:=sm_pos L (by omega)
      exact ⟨k+1,by simpa using hk,by simpa using h2⟩
theorem sm_neg:∀ L:List Int,sm L<0→∃ k,∃ h:k<L.length,L[k]<0
  | [],h=>by simp [sm] at h
  | x::L,h=>by
    simp only [sm] at h
    by_cases hx:x<0
    · exact ⟨0,by simp,hx⟩
    · obtain ⟨k,hk,h2⟩:=sm_neg L (by omega)
      exact ⟨k+1,by simpa using hk,by simpa using h2⟩
theorem vd {g:Bool} {sp:Int} {M:List It} (h:opens M≠0):opens (round g sp M)<opens M:=by
  have hl:=lz g sp M
  refine (opens_zip g (change g sp M) M (parts g sp M) hl.symm).2 ?_
  rcases Int.lt_trichotomy (change g sp M) 0 with hc | hc | hc
  · obtain ⟨k,hk,h2⟩:=sm_neg _ hc
    simp only [List.length_zipWith,hl,Nat.min_self] at hk
    rw [List.getElem_zipWith] at h2
    unfold dif at h2
    by_cases hs:M[k].2.isSome=true
    · rw [if_pos hs] at h2; omega
    · rw [if_neg hs] at h2
      refine ⟨k,hk,by omega,by simpa using hs,?_⟩
      unfold fixq; rw [decide_eq_true_eq]; omega
  · have:0<opens M:=by omega
    obtain ⟨p,hp,h2⟩:=List.countP_pos_iff.1 this
    obtain ⟨k,hk,rfl⟩:=List.getElem_of_mem hp
    refine ⟨k,hk,by omega,by simpa using h2,?_⟩
    unfold fixq; rw [decide_eq_true_eq]; omega
  · obtain ⟨k,hk,h2⟩:=sm_pos _ hc
    simp only [List.length_zipWith,hl,Nat.min_self] at hk
    rw [List.getElem_zipWith] at h2
    unfold dif at h2
    by_cases hs:M[k].2.isSome=true
    · rw [if_pos hs] at h2; omega
    · rw [if_neg hs] at h2
      refine ⟨k,hk,by omega,by simpa using hs,?_⟩
      unfold fixq; rw [decide_eq_true_eq]; omega
theorem pF (M:List It):opens M≤M.length:=List.countP_le_length
theorem qh {g:Bool} {sp:Int} {M:List It} (h:opens M=0):∀ k,run g sp k M=M
  | 0=>rfl
  | k+1=>by unfold run; rw [if_pos h]
theorem uN {g:Bool} {sp:Int}:∀ (k j:Nat) (M:List It),opens M≤k→opens M≤j→run g sp k M=run g sp j M
  | 0,j,M,h,_=>by rw [qh (by omega),qh (by omega)]
  | k+1,0,M,_,h=>by rw [qh (by omega),qh (by omega)]
  | k+1,j+1,M,h,h2=>by
    unfold run
    split
    · rfl
    · rename_i h3
      have:=vd (g:=g) (sp:=sp) h3
      exact uN k j _ (by omega) (by omega)
end Rs
end Go.Proofs.Ytlpndemhnpajiaa
namespace Go.Proofs.Ytlpndemhnpajiaa
set_option linter.all false
open Go.RowKit
namespace Rs
open Sh (share wts lim mx fv gX)
open QSort (wn aP iteT iteF sb)
instance:Inhabited It:=⟨(default,none)⟩
def O (M:List It) (n:Nat):List Int:=((List.range n).filter fun k=>!(M.getD k default).2.isSome).map fun (k:Nat)=>(k:Int)
theorem O_zero (M:List It):O M 0=[]:=rfl
theorem ss (M:List It) (n:Nat):O M (n+1)=O M n++if (M.getD n default).2.isSome=true then [] else [(n:Int)]:=by
  unfold O
  rw [List.range_succ,List.filter_append,List.map_append]
  congr 1
  cases h:(M.getD n default).2.isSome<;>simp only [List.filter_cons,List.filter_nil,h,Bool.not_false,Bool.not_true,if_true,Bool.false_eq_true,if_false,List.map_cons,List.map_nil]
theorem O_mem {M:List It} {n:Nat} {x:Int}:x∈O M n ↔ ∃ k:Nat,k<n∧x=k∧(M.getD k default).2.isSome=false:=by
  simp only [O,List.mem_map,List.mem_filter,List.mem_range]
  constructor
  · rintro ⟨k,⟨h1,h2⟩,rfl⟩; exact ⟨k,h1,rfl,by simpa using h2⟩
  · rintro ⟨k,h1,rfl,h2⟩; exact ⟨k,⟨h1,by simpa using h2⟩,rfl⟩
theorem O_len (M:List It) (n:Nat):(O M n).length≤n:=by
  unfold O
  rw [List.length_map]
  have:=List.length_filter_le (fun k=>!(M.getD k default).2.isSome) (List.range n)
  rw [List.length_range] at this; exact this
theorem O_lt (M:List It) (n:Nat):(O M n).Pairwise (· < ·):=by
  unfold O
  rw [List.pairwise_map]
  refine List.Pairwise.imp (fun h=>?_) (List.Pairwise.filter _ List.pairwise_lt_range)
  omega
theorem O_at {M:List It} {k:Nat} (hk:k<(O M M.length).length):∃ j:Nat,(O M M.length).getD k default=(j:Int)∧j<M.length∧(M.getD j default).2.isSome=false:=by
  have hm:(O M M.length).getD k default∈O M M.length:=by rw [bc hk]; exact List.getElem_mem _
  obtain ⟨j,h1,h2,h3⟩:=O_mem.1 hm
  exact ⟨j,h2,h1,h3⟩
theorem ud:∀ (ws:List (Option Int)) (P:List Int) (o:Option Int) (p:Int),ws.length=P.length→pick (ws++[o]) (P++[p])=pick ws P++if o.isSome=true then [p] else []
  | [],[],o,p,_=>by cases o<;>simp [pick]
  | [],_::_,o,p,h=>by simp at h
  | _::_,[],o,p,h=>by simp at h
  | none::ws,x::P,o,p,h=>by
    have:=ud ws P o p (by simpa using h)
    simp only [List.cons_append,pick,this]
  | some w::ws,x::P,o,p,h=>by
    have:=ud ws P o p (by simpa using h)
    simp only [List.cons_append,pick,this]
theorem opw_some (g:Bool) (p:It):(opw g p).isSome=!p.2.isSome:=by unfold opw; cases p.2<;>simp
theorem de {α:Type} [Inhabited α] {L:List α} {n:Nat} (h:n<L.length):L.take (n+1)=L.take n++[L.getD n default]:=by
  rw [List.take_succ_eq_append_getElem h,bc h]
theorem pick_take (g:Bool) (M:List It) (P:List Int) (hl:P.length=M.length):∀ n,n≤M.length→pick ((M.take n).map (opw g)) (P.take n)=(O M n).map fun j=>P.getD j.toNat default
  | 0,_=>by simp [pick,O_zero]
  | n+1,h=>by
    rw [de (show n<M.length by omega),de (show n<P.length by omega),List.map_append,List.map_cons,List.map_nil,ud _ _ _ _ (by simp; omega),pick_take g M P hl n (by omega),ss,List.map_append,opw_some]
    congr 1
    cases (M.getD n default).2.isSome<;>simp
theorem op_take (g:Bool) (M:List It) {n:Nat} (h:n<M.length):op ((M.take (n+1)).map (opw g))=op ((M.take n).map (opw g))++if (M.getD n default).2.isSome=true then [] else [wgt g (M.getD n default).1]:=by
  rw [de h]
  unfold op
  rw [List.map_append,List.filterMap_append]
  congr 1
  unfold opw
  cases hh:(M.getD n default).2.isSome<;>simp only [List.map_cons,List.map_nil,hh,if_true,Bool.false_eq_true,if_false]<;>rfl
theorem op_len (g:Bool) (M:List It):∀ n,n≤M.length→(op ((M.take n).map (opw g))).length=(O M n).length
  | 0,_=>by simp [op,O_zero]
  | n+1,h=>by
    rw [op_take g M (by omega),ss,List.length_append,List.length_append,op_len g M n (by omega)]
    cases (M.getD n default).2.isSome<;>simp
theorem t7 (f:It→Int) (M:List It) {n:Nat} (h:n<M.length):sm ((M.take (n+1)).map f)=sm ((M.take n).map f)+f (M.getD n default):=by
  rw [de h,List.map_append,dV]; simp [sm]
theorem sm_O (F:Nat→Int) (M:List It) (h:∀ k,(M.getD k default).2.isSome=true→F k=0):∀ n,sm ((List.range n).map F)=sm ((O M n).map fun j=>F j.toNat)
  | 0=>by simp [O_zero]
  | n+1=>by
    rw [List.range_succ,List.map_append,dV,sm_O F M h n,ss,List.map_append,dV]
    congr 1
    cases hh:(M.getD n default).2.isSome
    · simp [sm]
    · simp [sm,h n hh]
theorem change_O (g:Bool) (sp:Int) (M:List It):change g sp M=sm ((O M M.length).map fun j=>dif g (M.getD j.toNat default) ((parts g sp M).getD j.toNat default)):=by
  rw [←sm_O (fun k=>dif g (M.getD k default) ((parts g sp M).getD k default)) M (fun k hk=>by unfold dif; rw [if_pos hk]) M.length]
  unfold change
  congr 1
  refine List.ext_getElem (by simp [lz]) (fun k h1 h2=>?_)
  have hk:k<M.length:=by simpa using h2
  simp only [List.getElem_zipWith,List.getElem_map,List.getElem_range]
  rw [bc hk,bc (by rw [lz]; exact hk)]
theorem facs_take (g:Bool) (M:List It) {n:Nat} (h:n<M.length):facs g (M.take (n+1))=facs g (M.take n)+if (M.getD n default).2.isSome=true then 0 else fac g (M.getD n default).1:=t7 _ M h
variable {g:Bool} {M:List It}
theorem Ok.at (h:Ok M) {k:Nat} (hk:k<M.length):Ok1 (M.getD k default):=by rw [bc hk]; exact h _ (List.getElem_mem _)
theorem occ_bd {p:It} (h:Ok1 p):0≤occ p∧occ p≤1048576:=by
  unfold occ
  have:=h.b; have:=h.l
  cases hp:p.2 with
  | none=>simp; omega
  | some n=>have:=h.z n hp; simp; omega
theorem fac_bd {p:It} (h:Ok1 p):0≤fac g p.1∧fac g p.1≤1048576:=by unfold fac; have:=h.g; have:=h.s; split<;>omega
theorem wgt_bd {p:It} (h:Ok1 p):0≤wgt g p.1∧wgt g p.1≤1099511628:=by
  unfold wgt
  have hb:=h.b; have hg:=h.g; have hs:=h.s
  have:0≤p.1.Base*p.1.Shrink∧p.1.Base*p.1.Shrink≤1048576*1048576:=⟨Int.mul_nonneg hb.1 hs.1,Int.mul_le_mul hb.2 hs.2 hs.1 (by omega)⟩
  split<;>omega
theorem sm_bd2 {c:Int} (hc:0≤c) (f:It→Int) (hf:∀ p∈M,0≤f p∧f p≤c) (n:Nat) (hn:M.length≤1000):0≤sm ((M.take n).map f)∧sm ((M.take n).map f)≤1000*c:=by
  refine ⟨fv _ (fun x hx=>?_),?_⟩
  · obtain ⟨p,hp,rfl⟩:=List.mem_map.1 hx; exact (hf p (List.mem_of_mem_take hp)).1
  · have:=gX (c:=c) ((M.take n).map f) (fun x hx=>by obtain ⟨p,hp,rfl⟩:=List.mem_map.1 hx; exact (hf p (List.mem_of_mem_take hp)).2)
    refine Int.le_trans this (Int.mul_le_mul_of_nonneg_right ?_ hc)
    simp; omega
theorem mz (h:Ok M) (hn:M.length≤1000) (n:Nat):0≤sm ((M.take n).map occ)∧sm ((M.take n).map occ)≤1048576000:=by
  have:=sm_bd2 (M:=M) (c:=1048576) (by omega) occ (fun p hp=>occ_bd (h p hp)) n hn; omega
theorem pZ (h:Ok M) (hn:M.length≤1000) (n:Nat):0≤facs g (M.take n)∧facs g (M.take n)≤1048576000:=by
  have:=sm_bd2 (M:=M) (c:=1048576) (by omega) (fun p=>if p.2.isSome=true then 0 else fac g p.1) (fun p hp=>by
    have:=fac_bd (g:=g) (h p hp)
    split<;>omega) n hn
  unfold facs; omega
theorem fm {α:Type} (L:List α):L.take L.length=L:=List.take_of_length_le (Nat.le_refl _)
theorem room_bd (h:Ok M) (hn:M.length≤1000) {sp:Int} (hs : -1125899906842624≤sp∧sp≤1125899906842624):0≤room g sp M∧room g sp M≤1125900955418624:=by
  have:=mz h hn M.length
  rw [fm] at this
  unfold room; split<;>omega
theorem div_split (a f:Int):a / 1000*f+a % 1000*f / 1000=a*f / 1000:=by
  have h:a*f=1000*(a / 1000*f)+a % 1000*f:=by
    have:=Int.mul_ediv_add_emod a 1000
    calc a*f=(1000*(a / 1000)+a % 1000)*f:=by rw [this]
      _=1000*(a / 1000*f)+a % 1000*f:=by rw [Int.add_mul,Int.mul_assoc]
  rw [h]; omega
theorem opw_mem {w:Int} (h:Ok M) (hw:w∈zo (M.map (opw g))):0≤w∧w≤1099511628:=by
  obtain ⟨o,ho,rfl⟩:=List.mem_map.1 hw
  obtain ⟨p,hp,rfl⟩:=List.mem_map.1 ho
  unfold opw
  have:=wgt_bd (g:=g) (h p hp)
  split
  · simp
  · simpa using this
theorem wts_id {L:List Int} (h:∀ w∈L,0≤w∧w≤2147483647):wts L=L:=by
  unfold Sh.wts
  conv=>rhs; rw [←List.map_id L]
  refine List.map_congr_left (fun w hw=>?_)
  have:=h w hw
  unfold Sh.lim Sh.mx; simp; omega
theorem op_mem {w:Int} (h:Ok M) (hw:w∈op (M.map (opw g))):0≤w∧w≤1099511628:=by
  obtain ⟨o,ho,e⟩:=List.mem_filterMap.1 hw
  obtain ⟨p,hp,rfl⟩:=List.mem_map.1 ho
  unfold opw at e
  have:=wgt_bd (g:=g) (h p hp)
  split at e
  · cases e
  · simp at e; omega
theorem parts_open (h:Ok M) (sp:Int):share (lim (need g sp M) mx) (wts (op (M.map (opw g))))=(O M M.length).map fun j=>(parts g sp M).getD j.toNat default:=by
  rw [wts_id (fun w hw=>by have:=op_mem h hw; omega),← share_open]
  unfold parts
  rw [wts_id (fun w hw=>by have:=opw_mem h hw; omega)]
  have:=pick_take g M (share (lim (need g sp M) mx) (zo (M.map (opw g)))) (by rw [Sh.n3]; simp [zo]) M.length (Nat.le_refl _)
  rw [fm,List.take_of_length_le (by rw [Sh.n3]; simp [zo])] at this
  exact this
theorem share_bd {T:Int} {W:List Int} (hW:∀ w∈W,0≤w) (hT:0≤T) {k:Nat} (hk:k<W.length):0≤(share T W).getD k default∧(share T W).getD k default≤T+1:=by
  by_cases hS:sm W=0
  · rw [Sh.uL hS,bc (by simpa using hk)]
    rw [List.getElem_replicate]; omega
  · rw [Sh.share_at hS hk]
    exact Sh.part_bd hW hT (by have:=fv W hW; omega) hk
theorem tw (h:Ok M) (sp:Int) {k:Nat} (hk:k<M.length):0≤(parts g sp M).getD k default∧(parts g sp M).getD k default≤2147483648:=by
  have hb:=Sh.cY (n:=need g sp M) (m:=mx) (by decide)
  have:=share_bd (T:=lim (need g sp M) mx) (W:=wts (zo (M.map (opw g)))) (fun w hw=>(Sh.eK _ w hw).1) hb.1 (k:=k) (by rw [Sh.ci]; simpa [zo] using hk)
  unfold parts
  unfold Sh.mx at *
  omega
theorem ns_bd {p:It} (h:Ok1 p) {x:Int} (hx:0≤x∧x≤2147483648) : -2147483648≤ns g p.1 x∧ns g p.1 x≤2148532224:=by
  have:=h.b
  unfold ns; split<;>omega
structure Rl (g:Bool) (p:It) (x:aI):Prop where
  it:x.Item=p.1
  f:x.factor=fac g p.1
  w:x.weight=wgt g p.1
  fx:x.fixed=p.2.isSome
  s:∀ n,p.2=some n→x.size=n
structure Sim (g:Bool) (M:List It) (L:List aI):Prop where
  len:L.length=M.length
  at_:∀ k,k<M.length→Rl g (M.getD k default) (L.getD k default)
def sgn (g:Bool):Int:=if g=true then 1 else -1
variable {K:Kn} {n:Nat} {L:List aI}
theorem qP {a b:Nat} (h:a≤1001) (hb:b≤1000) (hb2:0<b):fits a b=true:=cg (Nat.le_trans (Nat.mul_le_mul h hb) (by decide)) hb2
theorem r_l2 (hM:Ok M) (hL:Sim g M L) (hl:M.length≤1000) {sp:Int} (hs : -1125899906842624≤sp∧sp≤1125899906842624):∀ (m i:Nat),i≤M.length→M.length<m+i →
    pt K n L (sgn g) m (sp - sm ((M.take i).map occ)) (facs g (M.take i)) (i:Int) (O M i) (op ((M.take i).map (opw g)))=if (O M M.length).length=0 then some (false,L) else qe K n L (sgn g) (O M M.length) (op (M.map (opw g))) (need g sp M):=by
  intro m
  induction m with
  | zero=>intro i h1 h2; omega
  | succ m ih =>
    intro i h1 h2
    simp only [pt,qT,hL.len]
    by_cases hi:i<M.length
    · have hr:=hL.at_ i hi
      have hk:=hM.at hi
      have o1:=mz hM hl i; have o2:=mz hM hl (i+1)
      have f1:=pZ (g:=g) hM hl i; have f2:=pZ (g:=g) hM hl (i+1)
      have e1:=t7 occ M hi
      have e2:=facs_take g M hi
      have e3:=op_take g M hi
      have e4:=ss M i
      have ol:=O_len M i
      have pl:=op_len g M i (by omega)
      rw [iteT (by omega),aP (by omega),tnat,hr.fx]
      simp only [qY]
      have wi:w64 ((i:Int)+1)=((i+1:Nat):Int):=wn (by omega) (by omega)
      rw [wi,hr.it,hr.f,hr.w]
      cases hx:(M.getD i default).2 with
      | some z =>
        simp only [hx,Option.isSome_some,if_true,List.append_nil] at e2 e3 e4 ⊢
        rw [hr.s z hx]
        have ez:occ (M.getD i default)=z:=by unfold occ; rw [hx]; rfl
        rw [ez] at e1
        rw [bp (by omega) (by omega),show sp - sm ((M.take i).map occ) - z=sp - sm ((M.take (i+1)).map occ) by omega,show facs g (M.take i)=facs g (M.take (i+1)) by omega,← e3,← e4]
        exact ih (i+1) (by omega) (by omega)
      | none =>
        simp only [hx,Option.isSome_none,Bool.false_eq_true,if_false] at e2 e3 e4 ⊢
        have ez:occ (M.getD i default)=(M.getD i default).1.Base:=by unfold occ; rw [hx]; rfl
        rw [ez] at e1
        simp only [sb]
        rw [qP (by simp only [List.length_cons,List.length_nil]; omega) (by omega) (by omega),qP (by simp only [List.length_cons,List.length_nil]; omega) (by omega) (by omega),bB,bB,bp (by omega) (by omega),bp (by omega) (by omega),
          show sp - sm ((M.take i).map occ) - (M.getD i default).1.Base=sp - sm ((M.take (i+1)).map occ) by omega,show facs g (M.take i)+fac g (M.getD i default).1=facs g (M.take (i+1)) by omega,← e3,← e4]
        exact ih (i+1) (by omega) (by omega)
    · obtain rfl:i=M.length:=by omega
      rw [iteF (by omega),fm]
      have o1:=mz hM hl M.length
      have f1:=pZ (g:=g) hM hl M.length
      rw [fm] at o1 f1
      have hroom:=room_bd (g:=g) hM hl hs
      have er:max (w64 ((sp - sm (M.map occ))*sgn g)) 0=room g sp M:=by
        unfold room sgn
        cases g
        · simp only [Bool.false_eq_true,if_false]
          rw [bp (by omega) (by omega)]; omega
        · simp only [if_true]
          rw [bp (by omega) (by omega)]; omega
      rw [er]
      by_cases hz:(O M M.length).length=0
      · rw [if_pos hz,if_pos (by simp [hz])]
      · rw [if_neg hz,if_neg (by rw [beq_iff_eq]; omega)]
        unfold need
        by_cases hf:facs g M<1000
        · rw [iteT hf,if_pos hf]
          have d:=div_split (room g sp M) (facs g M)
          have a1:0≤room g sp M / 1000*facs g M∧room g sp M / 1000*facs g M≤1125900955419*1000:=⟨Int.mul_nonneg (by omega) f1.1,Int.mul_le_mul (by omega) (by omega) f1.1 (by omega)⟩
          have a2:0≤room g sp M % 1000*facs g M∧room g sp M % 1000*facs g M≤1000*1000:=⟨Int.mul_nonneg (by omega) f1.1,Int.mul_le_mul (by omega) (by omega) f1.1 (by omega)⟩
          rw [Int.tdiv_eq_ediv_of_nonneg hroom.1,Int.tmod_eq_emod_of_nonneg hroom.1]
          rw [bp (n:=room g sp M / 1000) (by omega) (by omega),bp (n:=room g sp M / 1000*facs g M) (by omega) (by omega),bp (n:=room g sp M % 1000*facs g M) (by omega) (by omega),Int.tdiv_eq_ediv_of_nonneg a2.1,
            bp (n:=room g sp M % 1000*facs g M / 1000) (by omega) (by omega),bp (by omega) (by omega),d]
        · rw [iteF hf,if_neg hf]
def nsL (g:Bool) (sp:Int) (M:List It):List Int:=(O M M.length).map fun j=>ns g (M.getD j.toNat default).1 ((parts g sp M).getD j.toNat default)
def prL (g:Bool) (sp:Int) (M:List It):List Int:=(O M M.length).map fun j=>(parts g sp M).getD j.toNat default
def dfL (g:Bool) (sp:Int) (M:List It):List Int:=(O M M.length).map fun j=>dif g (M.getD j.toNat default) ((parts g sp M).getD j.toNat default)
theorem at_map {α:Type} [Inhabited α] (f:Int→α) (l:List Int) {k:Nat} (hk:k<l.length):(l.map f).getD k default=f (l.getD k default):=by
  rw [bc (by simpa using hk),List.getElem_map,bc hk]
theorem r_l4 (hM:Ok M) (hL:Sim g M L) (hl:M.length≤1000) {sp:Int}:∀ (m i:Nat),i≤(O M M.length).length→(O M M.length).length<m+i →
    o8 K n L (sgn g) (O M M.length) m (sm ((dfL g sp M).take i)) (i:Int) ((nsL g sp M).take i++(prL g sp M).drop i)=mU K n (O M M.length) (change g sp M) (nsL g sp M) n 0 L:=by
  have ol:=O_len M M.length
  intro m
  induction m with
  | zero=>intro i h1 h2; omega
  | succ m ih =>
    intro i h1 h2
    simp only [o8,sH,hL.len]
    have l1:(nsL g sp M).length=(O M M.length).length:=by simp [nsL]
    have l2:(prL g sp M).length=(O M M.length).length:=by simp [prL]
    have l3:(dfL g sp M).length=(O M M.length).length:=by simp [dfL]
    by_cases hi:i<(O M M.length).length
    · obtain ⟨j,e,hj,ho⟩:=O_at hi
      have hr:=hL.at_ j hj
      have hk:=hM.at hj
      have hp:=tw (g:=g) hM sp hj
      have hn:=ns_bd (g:=g) hk hp
      have hc:=cl_bd hk (ns g (M.getD j default).1 ((parts g sp M).getD j default))
      have hkl:=hk.l
      have len:((nsL g sp M).take i++(prL g sp M).drop i).length=(O M M.length).length:=by simp [l1,l2]; omega
      have v1:(prL g sp M).getD i default=(parts g sp M).getD j default:=by unfold prL; rw [at_map _ _ hi,e,Int.toNat_natCast]
      have v2:(nsL g sp M).getD i default=ns g (M.getD j default).1 ((parts g sp M).getD j default):=by unfold nsL; rw [at_map _ _ hi,e,Int.toNat_natCast]
      have v3:(dfL g sp M).getD i default=cl (M.getD j default).1 ((nsL g sp M).getD i default) - (nsL g sp M).getD i default:=by
        rw [v2]; unfold dfL; rw [at_map _ _ hi,e,Int.toNat_natCast]; unfold dif; rw [ho]; simp
      have ed:(prL g sp M).drop i=(parts g sp M).getD j default::(prL g sp M).drop (i+1):=by rw [List.drop_eq_getElem_cons (by omega),← bc (by omega),v1]
      have g0:((nsL g sp M).take i++(prL g sp M).drop i).getD i default=(parts g sp M).getD j default:=by
        rw [ed]; exact QSort.gd (by simp; omega)
      rw [iteT (by omega),aP (by omega),tnat,e,len,aP (by omega),aP (by omega),tnat,g0,hr.it]
      simp only [sb]
      have ens:w64 ((M.getD j default).1.Base+w64 (sgn g*(parts g sp M).getD j default))=(nsL g sp M).getD i default:=by
        rw [v2]
        have:=hk.b
        unfold ns at hn ⊢
        unfold sgn
        cases g
        · simp only [Bool.false_eq_true,if_false] at hn ⊢
          rw [bp (n := -1*(parts false sp M).getD j default) (by omega) (by omega),bp (by omega) (by omega)]; omega
        · simp only [if_true] at hn ⊢
          rw [bp (n:=1*(parts true sp M).getD j default) (by omega) (by omega),bp (by omega) (by omega)]; omega
      rw [ens]
      have es:List.set ((nsL g sp M).take i++(prL g sp M).drop i) i ((nsL g sp M).getD i default)=(nsL g sp M).take (i+1)++(prL g sp M).drop (i+1):=by
        rw [ed,de (by omega)]
        have:i=((nsL g sp M).take i).length:=by simp; omega
        conv=>lhs; arg 2; rw [this]
        simp
      rw [es]
      have len2:((nsL g sp M).take (i+1)++(prL g sp M).drop (i+1)).length=(O M M.length).length:=by simp [l1,l2]; omega
      have g1:((nsL g sp M).take (i+1)++(prL g sp M).drop (i+1)).getD i default=(nsL g sp M).getD i default:=by
        rw [de (by omega),List.append_assoc]
        exact QSort.gd (by simp; omega)
      rw [aP (by omega),len2,aP (by omega),g1]
      simp only [nh,sb]
      have e5:min (max ((nsL g sp M).getD i default) (M.getD j default).1.Min) (M.getD j default).1.Max=cl (M.getD j default).1 ((nsL g sp M).getD i default):=rfl
      rw [e5]
      have ew:w64 (cl (M.getD j default).1 ((nsL g sp M).getD i default) - (nsL g sp M).getD i default)=(dfL g sp M).getD i default:=by rw [v3]; rw [v2]; exact bp (by omega) (by omega)
      have sb1:∀ i:Nat,-(1000*4294967296)≤sm ((dfL g sp M).take i)∧sm ((dfL g sp M).take i)≤1000*4294967296:=by
        intro i
        have:=sm_bd (B:=4294967296) (by omega) ((dfL g sp M).take i) (fun x hx=>by
          have hx:=List.mem_of_mem_take hx
          obtain ⟨y,hy,rfl⟩:=List.mem_map.1 hx
          obtain ⟨k,k1,rfl,k2⟩:=O_mem.1 hy
          rw [Int.toNat_natCast]
          have hk:=hM.at k1
          have hp:=tw (g:=g) hM sp k1
          have hn:=ns_bd (g:=g) hk hp
          have hc:=cl_bd hk (ns g (M.getD k default).1 ((parts g sp M).getD k default))
          have:=hk.l
          unfold dif
          rw [k2]
          simp only [Bool.false_eq_true,if_false]; omega)
        have hll:((dfL g sp M).take i).length≤1000:=by simp; omega
        omega
      have s1:=sb1 (i+1)
      have e6:sm ((dfL g sp M).take (i+1))=sm ((dfL g sp M).take i)+(dfL g sp M).getD i default:=by rw [de (by omega),dV]; simp [sm]
      rw [ew,bp (n:=sm ((dfL g sp M).take i)+(dfL g sp M).getD i default) (by omega) (by omega),← e6,wn (n:=(i:Int)+1) (k:=i+1) (by omega) (by omega),aP (by omega),aP (by omega)]
      exact ih (i+1) (by omega) (by omega)
    · rw [iteF (by omega)]
      rw [List.take_of_length_le (by omega),List.take_of_length_le (by omega),List.drop_eq_nil_of_le (by omega),List.append_nil]
      rw [change_O]; rfl
theorem r_l7 (hM:Ok M) (hl:M.length≤1000) {sp:Int}:∀ (m i:Nat) (L:List aI),i≤(O M M.length).length→(O M M.length).length<m+i→L.length=M.length →
    (∀ k,k<M.length→Rl g (if (k:Int)∈(O M M.length).take i then (round g sp M).getD k default else M.getD k default) (L.getD k default)) →
    ∃ L',Sim g (round g sp M) L'∧mU K n (O M M.length) (change g sp M) (nsL g sp M) m (i:Int) L=some (true,L'):=by
  have ol:=O_len M M.length
  have l1:(nsL g sp M).length=(O M M.length).length:=by simp [nsL]
  intro m
  induction m with
  | zero=>intro i L h1 h2; omega
  | succ m ih =>
    intro i L h1 h2 hL hR
    simp only [mU,qO]
    by_cases hi:i<(O M M.length).length
    · obtain ⟨j,e,hj,ho⟩:=O_at hi
      have hk:=hM.at hj
      have v2:(nsL g sp M).getD i default=ns g (M.getD j default).1 ((parts g sp M).getD j default):=by unfold nsL; rw [at_map _ _ hi,e,Int.toNat_natCast]
      have hnot:(j:Int) ∉ (O M M.length).take i:=by
        intro hh
        obtain ⟨k,k1,k2,k3⟩:=QSort.nH hh
        have:=QSort.dj (O_lt M M.length) k1 hi
        unfold QSort.at_ at this k3
        rw [k3,e] at this; omega
      have hr:=hR j hj
      rw [if_neg hnot] at hr
      have ewi:w64 ((i:Int)+1)=((i+1:Nat):Int):=wn (by omega) (by omega)
      rw [iteT (by omega),aP (by omega),tnat,e,hL,aP (by omega),tnat,l1]
      simp only [aP (show (0:Int)≤(i:Int)∧(i:Int)<((O M M.length).length:Nat) by omega),nh,sb,hr.it,js,sI,hL,ewi,Int.toNat_natCast,e]
      have e5:min (max ((nsL g sp M).getD i default) (M.getD j default).1.Min) (M.getD j default).1.Max=cl (M.getD j default).1 ((nsL g sp M).getD i default):=rfl
      rw [e5]
      have hrj:(round g sp M).getD j default=step1 g (change g sp M) (M.getD j default) ((parts g sp M).getD j default):=by
        rw [bc (by rw [eU]; exact hj),s7 g sp M hj,bc hj]
      have stay:∀ k,k<M.length→k≠j→((k:Int)∈(O M M.length).take (i+1)↔(k:Int)∈(O M M.length).take i):=by
        intro k hk hkj
        rw [de hi,e,List.mem_append,List.mem_singleton]
        constructor
        · rintro (h | h)
          · exact h
          · omega
        · exact .inl
      have inn:(j:Int)∈(O M M.length).take (i+1):=by rw [de hi,e]; simp
      have dt:decide (j<M.length)=true:=by simpa using hj
      by_cases hf:fixq (change g sp M) (ns g (M.getD j default).1 ((parts g sp M).getD j default)) (cl (M.getD j default).1 (ns g (M.getD j default).1 ((parts g sp M).getD j default)))=true
      · -- it gets its size
        have hrj2:(round g sp M).getD j default=((M.getD j default).1,some (cl (M.getD j default).1 ((nsL g sp M).getD i default))):=by rw [hrj,v2]; unfold step1; rw [ho,if_neg (by simp),if_pos hf]
        have fin:=ih (i+1) (List.set (List.set L j ({ (List.getD L j default) with size:=cl (M.getD j default).1 ((nsL g sp M).getD i default) }:aI)) j ({ (List.getD (List.set L j ({ (List.getD L j default) with size:=cl (M.getD j default).1 ((nsL g sp M).getD i default) }:aI)) j default) with fixed:=true }:aI)) (by omega) (by omega) (by simpa using hL) (fun k hk=>by
          by_cases hkj:k=j
          · subst hkj
            rw [if_pos inn,hrj2]
            have:List.getD (List.set L k ({ (List.getD L k default) with size:=cl (M.getD k default).1 ((nsL g sp M).getD i default) }:aI)) k default=({ (List.getD L k default) with size:=cl (M.getD k default).1 ((nsL g sp M).getD i default) }:aI):=by
              rw [bc (by simp; omega)]; simp
            rw [this]
            have:∀ z:aI,List.getD (List.set (List.set L k ({ (List.getD L k default) with size:=cl (M.getD k default).1 ((nsL g sp M).getD i default) }:aI)) k z) k default=z:=by
              intro z; rw [bc (by simp; omega)]; simp
            rw [this]
            exact ⟨hr.it,hr.f,hr.w,rfl,fun n hn=>Option.some.inj hn⟩
          · have hh:=hR k hk
            have:∀ a b:aI,List.getD (List.set (List.set L j a) j b) k default=L.getD k default:=by
              intro a b; rw [bc (by simp; omega),bc (by omega)]; simp [List.getElem_set,show ¬ j=k by omega]
            rw [this]
            by_cases hm:(k:Int)∈(O M M.length).take i
            · rw [if_pos ((stay k hk hkj).2 hm)]; rwa [if_pos hm] at hh
            · rw [if_neg (fun h=>hm ((stay k hk hkj).1 h))]; rwa [if_neg hm] at hh)
        simp only [hr.it] at fin
        unfold fixq at hf
        rw [decide_eq_true_eq,← v2] at hf
        simp only [if_true,dt,bB]
        by_cases hc0:change g sp M=0
        · rw [if_pos (by simp [hc0])]; exact fin
        · rw [if_neg (by simp [hc0])]
          by_cases hc1:change g sp M>0
          · rw [iteT hc1,iteT (show cl (M.getD j default).1 ((nsL g sp M).getD i default)>(nsL g sp M).getD i default by omega)]; exact fin
          · rw [iteF hc1,iteT (show change g sp M<0 by omega),iteT (show cl (M.getD j default).1 ((nsL g sp M).getD i default)<(nsL g sp M).getD i default by omega)]; exact fin
      · have hrj2:(round g sp M).getD j default=M.getD j default:=by rw [hrj]; unfold step1; rw [ho,if_neg (by simp),if_neg hf]
        have fin:=ih (i+1) L (by omega) (by omega) hL (fun k hk=>by
          by_cases hkj:k=j
          · subst hkj
            rw [if_pos inn,hrj2]; exact hr
          · have hh:=hR k hk
            by_cases hm:(k:Int)∈(O M M.length).take i
            · rw [if_pos ((stay k hk hkj).2 hm)]; rwa [if_pos hm] at hh
            · rw [if_neg (fun h=>hm ((stay k hk hkj).1 h))]; rwa [if_neg hm] at hh)
        have hf2:fixq (change g sp M) (ns g (M.getD j default).1 ((parts g sp M).getD j default)) (cl (M.getD j default).1 (ns g (M.getD j default).1 ((parts g sp M).getD j default)))=false:=by simpa using hf
        unfold fixq at hf2
        rw [decide_eq_false_iff_not,← v2] at hf2
        simp only [if_true,Bool.false_eq_true,if_false]
        rw [if_neg (by simp; omega)]
        by_cases hc1:change g sp M>0
        · rw [iteT hc1,iteF (show ¬ cl (M.getD j default).1 ((nsL g sp M).getD i default)>(nsL g sp M).getD i default by omega),iteF (show ¬ change g sp M<0 by omega)]; exact fin
        · rw [iteF hc1]
          by_cases hc2:change g sp M<0
          · rw [iteT hc2,iteF (show ¬ cl (M.getD j default).1 ((nsL g sp M).getD i default)<(nsL g sp M).getD i default by omega)]; exact fin
          · rw [iteF hc2]; exact fin
    · rw [iteF (by omega)]
      refine ⟨L,⟨by rw [hL,eU],fun k hk=>?_⟩,rfl⟩
      rw [eU] at hk
      have hh:=hR k hk
      rw [List.take_of_length_le (by omega)] at hh
      by_cases hm:(k:Int)∈O M M.length
      · rwa [if_pos hm] at hh
      · rw [if_neg hm] at hh
        have hs:(M.getD k default).2.isSome=true:=by
          rcases Bool.eq_false_or_eq_true (M.getD k default).2.isSome with h | h
          · exact h
          · exact absurd (O_mem.2 ⟨k,hk,rfl,h⟩) hm
        have:(round g sp M).getD k default=M.getD k default:=by
          rw [bc (by rw [eU]; exact hk),s7 g sp M hk,← bc hk]
          unfold step1; rw [if_pos hs]
        rw [this]; exact hh
theorem opens_O (M:List It):opens M=(O M M.length).length:=by
  have:∀ n,n≤M.length→(M.take n).countP (fun p=>!p.2.isSome)=(O M n).length:=by
    intro n
    induction n with
    | zero=>intro _; rfl
    | succ n ih =>
      intro h
      rw [de (by omega),List.countP_append,ih (by omega),ss,List.length_append]
      congr 1
      cases hh:(M.getD n default).2.isSome<;>simp only [List.countP_cons,List.countP_nil,hh,Bool.not_false,Bool.not_true,if_true,Bool.false_eq_true,if_false,List.length_nil,List.length_cons]
  have h:=this M.length (Nat.le_refl _)
  rw [fm] at h
  exact h
theorem resolve_ok {lvl:Nat} (hM:Ok M) (hL:Sim g M L) (hl:M.length≤1000) {sp:Int} (hs : -1125899906842624≤sp∧sp≤1125899906842624) (hn:10001<n) (hlv:20010≤lvl) :
    if opens M=0 then pV (KN lvl) n L sp (sgn g)=some (false,L) else ∃ L',Sim g (round g sp M) L'∧pV (KN lvl) n L sp (sgn g)=some (true,L'):=by
  have h:=r_l2 (K:=KN lvl) (n:=n) hM hL hl hs n 0 (by omega) (by omega)
  have e1:sp - sm ((M.take 0).map occ)=sp:=by simp [sm]
  have ol:=O_len M M.length
  unfold pV
  rw [e1,show facs g (M.take 0)=0 from rfl,show ((0:Nat):Int)=0 from rfl,O_zero,show op ((M.take 0).map (opw g))=[] from rfl] at h
  rw [h,← opens_O]
  by_cases hz:opens M=0
  · rw [if_pos hz,if_pos hz]
  · rw [if_neg hz,if_neg hz]
    unfold qe
    have pl:=op_len g M M.length (Nat.le_refl _)
    rw [fm] at pl
    rw [Sh.pc _ _ (by omega) hn hlv,parts_open hM,sb]
    have h4:=r_l4 (K:=KN lvl) (n:=n) hM hL hl (sp:=sp) n 0 (by omega) (by omega)
    rw [List.take_zero,List.take_zero,List.drop_zero,List.nil_append,show sm []=0 from rfl,show ((0:Nat):Int)=0 from rfl] at h4
    unfold prL at h4
    rw [h4]
    obtain ⟨L',q1,q2⟩:=r_l7 (K:=KN lvl) (n:=n) (g:=g) hM hl (sp:=sp) n 0 L (by omega) (by omega) hL.len (fun k hk=>by rw [if_neg (by simp)]; exact hL.at_ k hk)
    exact ⟨L',q1,q2⟩
end Rs
end Go.Proofs.Ytlpndemhnpajiaa
namespace Go.Proofs.Ytlpndemhnpajiaa
set_option linter.all false
open Go.RowKit
namespace Rs
open Sh (share wts lim mx fv gX)
open QSort (wn aP iteT iteF sb)
variable {K:Kn} {n:Nat}
theorem normal_ok (x:aw):qE K n x=some (nrm x):=rfl
theorem hyp_ok (x:aw):pC K n x=some (hyp x):=rfl
theorem hyp_bd (x:aw):0≤hyp x∧hyp x≤1048576:=by
  have h:=nrm_ok x none (.inl rfl)
  have h1:=cl_bd h (nrm x).Base
  have h2:=h.l
  dsimp only at h1 h2
  unfold hyp; omega
def st0 (x:aw):aI:=⟨nrm x,0,0,hyp x,false⟩
theorem tK (l:List aw) (hl:l.length≤1000) (n:Nat):0≤sm ((l.take n).map hyp)∧sm ((l.take n).map hyp)≤1048576000:=by
  refine ⟨fv _ (fun x hx=>?_),?_⟩
  · obtain ⟨y,_,rfl⟩:=List.mem_map.1 hx; exact (hyp_bd y).1
  · have:=gX (c:=1048576) ((l.take n).map hyp) (fun x hx=>by obtain ⟨y,_,rfl⟩:=List.mem_map.1 hx; exact (hyp_bd y).2)
    have h2:(((l.take n).map hyp).length:Int)≤1000:=by simp; omega
    have:=Int.mul_le_mul_of_nonneg_right h2 (show (0:Int)≤1048576 by omega)
    omega
theorem a_l1 (l:List aw) (sp:Int) (hl:l.length≤1000):∀ (m i:Nat),i≤l.length→l.length<m+i →
    oI K n l sp m (sm ((l.take i).map hyp)) (i:Int) ((l.take i).map st0++List.replicate (l.length - i) eh)=qb K n sp (l.map st0) (sgn (grows l sp)):=by
  intro m
  induction m with
  | zero=>intro i h1 h2; omega
  | succ m ih =>
    intro i h1 h2
    simp only [oI,rp]
    by_cases hi:i<l.length
    · obtain ⟨k,ek⟩:∃ k,l.length - i=k+1:=⟨l.length - i - 1,by omega⟩
      have la:((l.take i).map st0++List.replicate (l.length - i) eh).length=l.length:=by simp; omega
      have es:List.set ((l.take i).map st0++List.replicate (l.length - i) eh) i (st0 (l.getD i default))=(l.take (i+1)).map st0++List.replicate (l.length - (i+1)) eh:=by
        rw [ek,List.replicate_succ,show l.length - (i+1)=k by omega,de hi,List.map_append]
        have:i=((l.take i).map st0).length:=by simp; omega
        conv=>lhs; arg 2; rw [this]
        simp
      have lb:((l.take (i+1)).map st0++List.replicate (l.length - (i+1)) eh).length=l.length:=by simp; omega
      have eg:((l.take (i+1)).map st0++List.replicate (l.length - (i+1)) eh).getD i default=st0 (l.getD i default):=by
        rw [de hi,List.map_append,List.append_assoc,List.getD_eq_getElem?_getD,List.getElem?_append_right (by simp; omega)]
        have:i - ((l.take i).map st0).length=0:=by simp; omega
        rw [this]; rfl
      have h0:=tK l hl i; have h3:=tK l hl (i+1)
      have e1:sm ((l.take (i+1)).map hyp)=sm ((l.take i).map hyp)+hyp (l.getD i default):=by rw [de hi,List.map_append,dV]; simp [sm]
      rw [iteT (by omega),aP (by omega),tnat,normal_ok,hyp_ok]
      simp only [sb]
      rw [la,aP (by omega)]
      rw [show ({ (eh:aI) with Item:=nrm (l.getD i default),size:=hyp (l.getD i default) }:aI)=st0 (l.getD i default) from rfl,es,lb,aP (by omega),eg]
      rw [show (st0 (l.getD i default)).size=hyp (l.getD i default) from rfl,bp (by omega) (by omega),← e1,wn (n:=(i:Int)+1) (k:=i+1) (by omega) (by omega)]
      exact ih (i+1) (by omega) (by omega)
    · obtain rfl:i=l.length:=by omega
      rw [iteF (by omega),fm,Nat.sub_self,List.replicate_zero,List.append_nil]
      by_cases h:sm (l.map hyp)<sp
      · rw [iteT h]; unfold grows sgn; rw [if_pos (by simpa using h)]
      · rw [iteF h]; unfold grows sgn; rw [if_neg (by simpa using h)]
def st1 (g:Bool) (x:aw):aI:=⟨nrm x,fac g (nrm x),wgt g (nrm x),hyp x,fix0 g (nrm x) (hyp x)⟩
theorem set_set {α:Type} (L:List α) (i:Nat) (a b:α):List.set (List.set L i a) i b=List.set L i b:=by simp
theorem getD_set_self {L:List aI} {i:Nat} {a:aI} (h:i<L.length):(List.set L i a).getD i default=a:=by rw [bc (by simpa using h)]; simp
theorem a_l5 (g:Bool) (l:List aw) (sp:Int) (hl:l.length≤1000):∀ (m i:Nat),i≤l.length→l.length<m+i →
    nZ K n sp (l.map st0) (sgn g) m (i:Int) ((l.take i).map (st1 g)++(l.drop i).map st0)=mV K n sp (sgn g) n (l.map (st1 g)):=by
  intro m
  induction m with
  | zero=>intro i h1 h2; omega
  | succ m ih =>
    intro i h1 h2
    simp only [nZ,rG,List.length_map]
    by_cases hi:i<l.length
    · have ed:(l.drop i).map st0=st0 (l.getD i default)::(l.drop (i+1)).map st0:=by rw [List.drop_eq_getElem_cons hi,bc hi]; rfl
      have ll:((l.take i).map (st1 g)++(l.drop i).map st0).length=l.length:=by simp; omega
      have eg:((l.take i).map (st1 g)++(l.drop i).map st0).getD i default=st0 (l.getD i default):=by
        rw [ed,List.getD_eq_getElem?_getD,List.getElem?_append_right (by simp; omega)]
        have:i - ((l.take i).map (st1 g)).length=0:=by simp; omega
        rw [this]; rfl
      have es:List.set ((l.take i).map (st1 g)++(l.drop i).map st0) i (st1 g (l.getD i default))=(l.take (i+1)).map (st1 g)++(l.drop (i+1)).map st0:=by
        rw [ed,de hi,List.map_append]
        have:i=((l.take i).map (st1 g)).length:=by simp; omega
        conv=>lhs; arg 2; rw [this]
        simp
      have hk:=nrm_ok (l.getD i default) none (.inl rfl)
      have hw:=wgt_bd (g:=false) hk
      have hb:=hk.b; have hs:=hk.s
      have hm:0≤(nrm (l.getD i default)).Base*(nrm (l.getD i default)).Shrink∧(nrm (l.getD i default)).Base*(nrm (l.getD i default)).Shrink≤1048576*1048576:=⟨Int.mul_nonneg hb.1 hs.1,Int.mul_le_mul hb.2 hs.2 hs.1 (by omega)⟩
      rw [iteT (by omega),aP (by omega)]
      simp only [tnat,sb,rA,rN,set_set,List.length_set,ll,getD_set_self (show i<((l.take i).map (st1 g)++(l.drop i).map st0).length by omega),eg]
      have ewi:w64 ((i:Int)+1)=((i+1:Nat):Int):=wn (by omega) (by omega)
      have ew:w64 (Int.tdiv (w64 ((st0 (l.getD i default)).Item.Base*(st0 (l.getD i default)).Item.Shrink)) 1000)=wgt false (nrm (l.getD i default)):=by
        show w64 (Int.tdiv (w64 ((nrm (l.getD i default)).Base*(nrm (l.getD i default)).Shrink)) 1000)=_
        rw [bp (n:=(nrm (l.getD i default)).Base*(nrm (l.getD i default)).Shrink) (by omega) (by omega),Int.tdiv_eq_ediv_of_nonneg hm.1,bp (by omega) (by omega)]
        rfl
      have dt:decide (i<l.length)=true:=by simpa using hi
      simp only [ewi,ew,dt,bB]
      have:=ih (i+1) (by omega) (by omega)
      rw [←es] at this
      rw [←this]
      cases g
      · rw [iteF (show ¬ sgn false>0 by decide)]
        by_cases hc:(nrm (l.getD i default)).Base<hyp (l.getD i default)
        · have:(decide ((st0 (l.getD i default)).Item.Base<(st0 (l.getD i default)).size))=true:=decide_eq_true hc
          have e2:fix0 false (nrm (l.getD i default)) (hyp (l.getD i default))=true:=by unfold fix0; rw [if_neg (by simp),decide_eq_true_eq]; exact .inr hc
          simp only [this,if_true]
          unfold st1; rw [e2]; rfl
        · have:(decide ((st0 (l.getD i default)).Item.Base<(st0 (l.getD i default)).size))=false:=decide_eq_false hc
          have e2:fix0 false (nrm (l.getD i default)) (hyp (l.getD i default))=((nrm (l.getD i default)).Shrink == 0):=by unfold fix0; rw [if_neg (by simp),Bool.eq_iff_iff,decide_eq_true_eq,beq_iff_eq]; exact ⟨fun h=>h.resolve_right hc,.inl⟩
          simp only [this,Bool.false_eq_true,if_false]
          unfold st1; rw [e2]; rfl
      · rw [iteT (show sgn true>0 by decide)]
        by_cases hc:(nrm (l.getD i default)).Base>hyp (l.getD i default)
        · have:(decide ((st0 (l.getD i default)).Item.Base>(st0 (l.getD i default)).size))=true:=decide_eq_true hc
          have e2:fix0 true (nrm (l.getD i default)) (hyp (l.getD i default))=true:=by unfold fix0; rw [if_pos rfl,decide_eq_true_eq]; exact .inr hc
          simp only [this,if_true]
          unfold st1; rw [e2]; rfl
        · have:(decide ((st0 (l.getD i default)).Item.Base>(st0 (l.getD i default)).size))=false:=decide_eq_false hc
          have e2:fix0 true (nrm (l.getD i default)) (hyp (l.getD i default))=((nrm (l.getD i default)).Grow == 0):=by unfold fix0; rw [if_pos rfl,Bool.eq_iff_iff,decide_eq_true_eq,beq_iff_eq]; exact ⟨fun h=>h.resolve_right hc,.inl⟩
          simp only [this,Bool.false_eq_true,if_false]
          unfold st1; rw [e2]; rfl
    · obtain rfl:i=l.length:=by omega
      rw [iteF (by omega),fm,List.drop_eq_nil_of_le (Nat.le_refl _),List.map_nil,List.append_nil]
theorem sim0 (g:Bool) (l:List aw):Sim g (start g l) (l.map (st1 g)):=by
  refine ⟨by simp [start],fun k hk=>?_⟩
  have hk2:k<l.length:=by simpa [start] using hk
  rw [bc hk,bc (by simpa using hk2)]
  have e:(start g l)[k]=(nrm l[k],if fix0 g (nrm l[k]) (hyp l[k])=true then some (hyp l[k]) else none):=by simp [start]
  rw [e,List.getElem_map]
  refine ⟨rfl,rfl,rfl,?_,fun n hn=>?_⟩
  · show fix0 g (nrm l[k]) (hyp l[k])=_
    cases h:fix0 g (nrm l[k]) (hyp l[k])<;>simp
  · cases h:fix0 g (nrm l[k]) (hyp l[k])
    · rw [h] at hn; simp at hn
    · rw [h] at hn; simpa [st1] using hn
theorem a_l7 (L:List aI) (hl:L.length≤1000):∀ (m i:Nat),i≤L.length→L.length<m+i →
    n7 K n (false,L) m (i:Int) ((L.take i).map (fun (x:aI)=>x.size)++List.replicate (L.length - i) 0)=some (L.map fun (x:aI)=>x.size):=by
  intro m
  induction m with
  | zero=>intro i h1 h2; omega
  | succ m ih =>
    intro i h1 h2
    simp only [n7,sj]
    by_cases hi:i<L.length
    · obtain ⟨k,ek⟩:∃ k,L.length - i=k+1:=⟨L.length - i - 1,by omega⟩
      have la:((L.take i).map (fun (x:aI)=>x.size)++List.replicate (L.length - i) 0).length=L.length:=by simp; omega
      rw [iteT (by omega),aP (by omega),tnat,la,aP (by omega),ek,Sh.pD (by simp; omega)]
      have:(L.take i).map (fun (x:aI)=>x.size)++[(L.getD i default).size]=(L.take (i+1)).map (fun (x:aI)=>x.size):=by rw [de hi,List.map_append]; rfl
      rw [this,wn (n:=(i:Int)+1) (k:=i+1) (by omega) (by omega),show k=L.length - (i+1) by omega]
      exact ih (i+1) (by omega) (by omega)
    · obtain rfl:i=L.length:=by omega
      rw [iteF (by omega),fm,Nat.sub_self,List.replicate_zero,List.append_nil]
theorem a_l6 {lvl:Nat} (g:Bool) {sp:Int} (hs : -1125899906842624≤sp∧sp≤1125899906842624) (hn:10001<n) (hlv:20010≤lvl):∀ (m:Nat) (M:List It) (L:List aI),opens M<m→Ok M→Sim g M L→M.length≤1000 →
    mV (KN lvl) n sp (sgn g) m L=some (sizes (run g sp M.length M)):=by
  intro m
  induction m with
  | zero=>intro M L h; omega
  | succ m ih =>
    intro M L h hM hL hl
    simp only [mV,rf]
    have hr:=resolve_ok (lvl:=lvl) (n:=n) hM hL hl hs hn hlv
    by_cases hz:opens M=0
    · rw [if_pos hz] at hr
      rw [hr]
      simp only [sb,Bool.false_eq_true,if_false]
      rw [Sh.kj (by rw [hL.len]; omega) (by rw [hL.len]; omega),bB,tnat]
      have:=a_l7 (K:=KN lvl) (n:=n) L (by rw [hL.len]; omega) n 0 (by omega) (by rw [hL.len]; omega)
      rw [List.take_zero,List.map_nil,List.nil_append,Nat.sub_zero,show ((0:Nat):Int)=0 from rfl] at this
      rw [this,qh hz]
      congr 1
      refine List.ext_getElem (by simp [sizes,hL.len]) (fun k h1 h2=>?_)
      have hk:k<M.length:=by simpa [sizes] using h2
      simp only [sizes,List.getElem_map]
      have ha:=hL.at_ k hk
      rw [bc hk,bc (by simpa using h1)] at ha
      have ho:M[k].2.isSome=true:=by
        have:=List.countP_eq_zero.1 hz M[k] (List.getElem_mem _)
        cases h:M[k].2 with
        | none=>rw [h] at this; simp at this
        | some z=>rfl
      obtain ⟨z,ez⟩:=Option.isSome_iff_exists.1 ho
      rw [ha.s z ez,ez]; rfl
    · rw [if_neg hz] at hr
      obtain ⟨L',h1,h2⟩:=hr
      rw [h2]
      simp only [sb,if_true]
      have hro:=vd (g:=g) (sp:=sp) hz
      rw [ih (round g sp M) L' (by omega) (round_ok hM) h1 (by rw [eU]; exact hl)]
      congr 2
      have e1:run g sp (M.length+1) M=run g sp M.length (round g sp M):=by rw [run,if_neg hz]
      rw [eU,← e1]
      have:=pF M
      exact uN _ _ _ (by omega) (by omega)
theorem pc {lvl:Nat} (l:List aw) {sp:Int} (hl:l.length≤1000) (hs : -1125899906842624≤sp∧sp≤1125899906842624) (hn:10001<n) (hlv:20010≤lvl):g9 (KN lvl) n l sp=some (resolve l sp):=by
  unfold g9
  rw [show min (max sp (-1125899906842624)) 1125899906842624=sp by omega]
  simp only [sb]
  rw [Sh.kj (by omega) (by omega),bB,tnat]
  have:=a_l1 (K:=KN lvl) (n:=n) l sp hl n 0 (by omega) (by omega)
  rw [List.take_zero,List.map_nil,List.map_nil,List.nil_append,Nat.sub_zero,show ((0:Nat):Int)=0 from rfl,show sm []=0 from rfl] at this
  rw [this]
  unfold qb
  have:=a_l5 (K:=KN lvl) (n:=n) (grows l sp) l sp hl n 0 (by omega) (by omega)
  rw [List.take_zero,List.map_nil,List.nil_append,List.drop_zero,show ((0:Nat):Int)=0 from rfl] at this
  rw [this]
  have e:(start (grows l sp) l).length=l.length:=by simp [start]
  have:=pF (start (grows l sp) l)
  rw [a_l6 (grows l sp) hs hn hlv n (start (grows l sp) l) _ (by omega) (start_ok _ _) (sim0 _ _) (by omega),e]
  rfl
end Rs
end Go.Proofs.Ytlpndemhnpajiaa
namespace Go.Proofs.Ytlpndemhnpajiaa
set_option linter.all false
open Go.RowKit
def mix {α:Type} (i:Nat) (N O:List α):List α:=N.take i++O.drop i
variable {α:Type} [Inhabited α] {i:Nat} {N O:List α}
theorem fg (h:N.length=O.length):(mix i N O).length=O.length:=by unfold mix; simp; omega
theorem g8:mix 0 N O=O:=by simp [mix]
theorem ig (h:N.length=O.length):mix O.length N O=N:=by unfold mix; rw [List.take_of_length_le (by omega),List.drop_eq_nil_of_le (Nat.le_refl _),List.append_nil]
theorem mix_at (h:N.length=O.length) (hi:i<O.length):(mix i N O).getD i default=O.getD i default:=by
  unfold mix
  rw [List.drop_eq_getElem_cons hi,List.getD_eq_getElem?_getD,List.getElem?_append_right (by simp; omega)]
  have:i - (N.take i).length=0:=by simp; omega
  rw [this,bc hi]; rfl
theorem mix_lt (h:N.length=O.length) {k:Nat} (hk:k<i) (hi:i≤O.length):(mix i N O).getD k default=N.getD k default:=by
  unfold mix
  rw [List.getD_eq_getElem?_getD,List.getElem?_append_left (by simp; omega),List.getElem?_take_of_lt hk,List.getD_eq_getElem?_getD]
theorem uF (h:N.length=O.length) (hi:i<O.length):mix (i+1) N O=N.take i++N.getD i default::O.drop (i+1):=by
  unfold mix
  rw [List.take_succ_eq_append_getElem (by omega:i<N.length),bc (by omega:i<N.length),List.append_assoc]
  rfl
theorem jy (h:N.length=O.length) (hi:i<O.length):List.set (mix i N O) i (N.getD i default)=mix (i+1) N O:=by
  rw [uF h hi]
  unfold mix
  rw [List.drop_eq_getElem_cons hi]
  have:i=(N.take i).length+0:=by simp; omega
  conv=>lhs; arg 2; rw [this]
  rw [List.set_append_right _ _ (by omega),Nat.add_sub_cancel_left,List.set_cons_zero]
theorem m9 (h:N.length=O.length) (hi:i<O.length) (e:N.getD i default=O.getD i default):mix (i+1) N O=mix i N O:=by
  rw [uF h hi,e]
  unfold mix
  rw [List.drop_eq_getElem_cons hi,bc hi]
theorem va (h:N.length=O.length) (hi:i<O.length):(mix (i+1) N O).getD i default=N.getD i default:=mix_lt h (by omega) (by omega)
def tab (n:Nat) (f:Nat→α):List α:=(List.range n).map f
theorem tab_len (n:Nat) (f:Nat→α):(tab n f).length=n:=by simp [tab]
theorem iT {n:Nat} {f:Nat→α} {k:Nat} (h:k<n):(tab n f).getD k default=f k:=by
  rw [bc (by rw [tab_len]; exact h)]; simp [tab]
theorem tab_ext {L M:List α} (h:L.length=M.length) (e:∀ k,k<M.length→L.getD k default=M.getD k default):L=M:=by
  refine List.ext_getElem h (fun k h1 h2=>?_)
  have:=e k h2
  rw [bc h1,bc h2] at this; exact this
end Go.Proofs.Ytlpndemhnpajiaa
namespace Go.Proofs.Ytlpndemhnpajiaa
set_option linter.all false
open Go.RowKit
namespace Rs
open Sh (share wts lim mx fv gX)
open QSort (wn aP iteT iteF sb)
variable {K:Kn} {n:Nat} {g:Bool} {M:List It} {A:List aw} {S:List Int} {F:List Bool} {v7 v2:Int}
theorem Normal_ok (x:aw):qX K n x=some (nrm x):=rfl
theorem Hyp_ok (x:aw):o5 K n x=some (hyp x):=rfl
structure Rf (M:List It) (A:List aw) (S:List Int) (F:List Bool):Prop where
  la:A.length=M.length
  ls:S.length=M.length
  lf:F.length=M.length
  a:∀ k,k<M.length→A.getD k default=(M.getD k default).1
  f:∀ k,k<M.length→F.getD k default=(M.getD k default).2.isSome
  s:∀ k,k<M.length→∀ z,(M.getD k default).2=some z→S.getD k default=z
theorem zo_at (g:Bool) (M:List It) {k:Nat} (hk:k<M.length):(zo (M.map (opw g))).getD k default=if (M.getD k default).2.isSome=true then 0 else wgt g (M.getD k default).1:=by
  rw [bc (by simpa [zo] using hk),bc hk]
  simp only [zo,List.getElem_map]
  unfold opw
  split<;>rfl
theorem zo_len (g:Bool) (M:List It):(zo (M.map (opw g))).length=M.length:=by simp [zo]
theorem b_l8 (hM:Ok M) (hR:Rf M A S F) (hl:M.length≤1000) {sp:Int} (hs : -1125899906842624≤sp∧sp≤1125899906842624) (hg:decide (v7<v2)=g) (v78:Int) (L3:Int→(List Int)→(List Bool)→Option (List Int)):∀ (m i:Nat),i≤M.length→M.length<m+i →
    nL K n v2 v7 A v78 S F L3 m (sp - sm ((M.take i).map occ)) (facs g (M.take i)) (i:Int) (mix i (zo (M.map (opw g))) (List.replicate M.length 0))=jk K n v2 v7 A v78 S F (zo (M.map (opw g))) L3 (need g sp M):=by
  have zl:(zo (M.map (opw g))).length=(List.replicate M.length (0:Int)).length:=by rw [zo_len]; simp
  have rl:(List.replicate M.length (0:Int)).length=M.length:=by simp
  intro m
  induction m with
  | zero=>intro i h1 h2; omega
  | succ m ih =>
    intro i h1 h2
    simp only [nL,sa,hR.la,hR.lf,hR.ls]
    by_cases hi:i<M.length
    · have hk:=hM.at hi
      have o1:=mz hM hl i; have o2:=mz hM hl (i+1)
      have f1:=pZ (g:=g) hM hl i; have f2:=pZ (g:=g) hM hl (i+1)
      have e1:=t7 occ M hi
      have e2:=facs_take g M hi
      have ez:=zo_at g M hi
      have ewi:w64 ((i:Int)+1)=((i+1:Nat):Int):=wn (by omega) (by omega)
      have ml:(mix i (zo (M.map (opw g))) (List.replicate M.length 0)).length=M.length:=by rw [fg zl,rl]
      rw [iteT (by omega)]
      simp only [aP (show (0:Int)≤(i:Int)∧(i:Int)<(M.length:Nat) by omega),tnat,hR.f i hi,sb,hg,ml,List.length_set,sy,rr,ewi,hR.a i hi]
      cases hx:(M.getD i default).2 with
      | some z =>
        simp only [hx,Option.isSome_some,if_true] at e2 ez ⊢
        have eo:occ (M.getD i default)=z:=by unfold occ; rw [hx]; rfl
        rw [eo] at e1
        rw [hR.s i hi z hx,bp (by omega) (by omega),show sp - sm ((M.take i).map occ) - z=sp - sm ((M.take (i+1)).map occ) by omega,show facs g (M.take i)=facs g (M.take (i+1)) by omega]
        have:=m9 zl (i:=i) (by rw [rl]; exact hi) (by rw [ez,bc (by rw [rl]; exact hi),List.getElem_replicate])
        rw [←this]
        exact ih (i+1) (by omega) (by omega)
      | none =>
        simp only [hx,Option.isSome_none,Bool.false_eq_true,if_false] at e2 ez ⊢
        have eo:occ (M.getD i default)=(M.getD i default).1.Base:=by unfold occ; rw [hx]; rfl
        rw [eo] at e1
        have hb:=hk.b; have hss:=hk.s
        have hm:0≤(M.getD i default).1.Base*(M.getD i default).1.Shrink∧(M.getD i default).1.Base*(M.getD i default).1.Shrink≤1048576*1048576:=⟨Int.mul_nonneg hb.1 hss.1,Int.mul_le_mul hb.2 hss.2 hss.1 (by omega)⟩
        have ew:w64 (Int.tdiv (w64 ((M.getD i default).1.Base*(M.getD i default).1.Shrink)) 1000)=wgt false (M.getD i default).1:=by
          rw [bp (n:=(M.getD i default).1.Base*(M.getD i default).1.Shrink) (by omega) (by omega),Int.tdiv_eq_ediv_of_nonneg hm.1,bp (by omega) (by omega)]; rfl
        rw [ew,bp (n:=sp - sm ((M.take i).map occ) - (M.getD i default).1.Base) (by omega) (by omega),show sp - sm ((M.take i).map occ) - (M.getD i default).1.Base=sp - sm ((M.take (i+1)).map occ) by omega]
        have em:=jy zl (i:=i) (by rw [rl]; exact hi)
        rw [ez] at em
        have:=ih (i+1) (by omega) (by omega)
        rw [←em] at this
        rw [←this]
        cases g
        · simp only [Bool.false_eq_true,if_false]
          have:(M.getD i default).1.Shrink=fac false (M.getD i default).1:=rfl
          rw [this,bp (by omega) (by omega),← e2]
        · simp only [if_true]
          have:(M.getD i default).1.Grow=fac true (M.getD i default).1:=rfl
          have h3:wgt true (M.getD i default).1=fac true (M.getD i default).1:=rfl
          rw [set_set,this,h3,bp (by omega) (by omega),← e2]
    · obtain rfl:i=M.length:=by omega
      rw [iteF (by omega),fm]
      have mf:=ig zl
      rw [rl] at mf
      have o1:=mz hM hl M.length
      have f1:=pZ (g:=g) hM hl M.length
      rw [fm] at o1 f1
      have hroom:=room_bd (g:=g) hM hl hs
      rw [mf,hg,bp (n:=0 - (sp - sm (M.map occ))) (by omega) (by omega)]
      simp only [sB]
      have fin:∀ x,max x 0=room g sp M→(if decide (facs g M<1000)=true then jk K n v2 v7 A v78 S F (zo (M.map (opw g))) L3 (w64 (Int.tdiv (w64 (max x 0*facs g M)) 1000)) else jk K n v2 v7 A v78 S F (zo (M.map (opw g))) L3 (max x 0))=jk K n v2 v7 A v78 S F (zo (M.map (opw g))) L3 (need g sp M):=by
        intro x hx
        rw [hx]
        unfold need
        by_cases hf:facs g M<1000
        · rw [iteT hf,if_pos hf]
          have a1:0≤room g sp M*facs g M∧room g sp M*facs g M≤1125900955418624*1000:=⟨Int.mul_nonneg hroom.1 f1.1,Int.mul_le_mul hroom.2 (by omega) f1.1 (by omega)⟩
          rw [bp (n:=room g sp M*facs g M) (by omega) (by omega),Int.tdiv_eq_ediv_of_nonneg a1.1,bp (by omega) (by omega)]
        · rw [iteF hf,if_neg hf]
      cases g
      · simp only [Bool.not_false,if_true]
        exact fin _ (by unfold room; simp only [Bool.false_eq_true,if_false]; congr 1; omega)
      · simp only [Bool.not_true,Bool.false_eq_true,if_false]
        exact fin _ (by unfold room; simp only [if_true])
def nsR (g:Bool) (sp:Int) (M:List It) (S:List Int):List Int:=tab M.length fun k=>if (M.getD k default).2.isSome=true then S.getD k default else ns g (M.getD k default).1 ((parts g sp M).getD k default)
def lmR (g:Bool) (sp:Int) (M:List It):List Int:=tab M.length fun k=>if (M.getD k default).2.isSome=true then 0 else cl (M.getD k default).1 (ns g (M.getD k default).1 ((parts g sp M).getD k default))
def dfR (g:Bool) (sp:Int) (M:List It):List Int:=tab M.length fun k=>dif g (M.getD k default) ((parts g sp M).getD k default)
theorem change_R (g:Bool) (sp:Int) (M:List It):change g sp M=sm (dfR g sp M):=by
  unfold change
  congr 1
  refine List.ext_getElem (by simp [lz,dfR,tab]) (fun k h1 h2=>?_)
  have hk:k<M.length:=by simpa [dfR,tab] using h2
  simp only [List.getElem_zipWith,dfR,tab,List.getElem_map,List.getElem_range]
  rw [bc hk,bc (by rw [lz]; exact hk)]
theorem dif_bd (hM:Ok M) (sp:Int) {k:Nat} (hk:k<M.length) : -4294967296≤dif g (M.getD k default) ((parts g sp M).getD k default)∧dif g (M.getD k default) ((parts g sp M).getD k default)≤4294967296:=by
  have hk1:=hM.at hk
  have hp:=tw (g:=g) hM sp hk
  have hn:=ns_bd (g:=g) hk1 hp
  have hc:=cl_bd hk1 (ns g (M.getD k default).1 ((parts g sp M).getD k default))
  have:=hk1.l
  unfold dif
  split<;>omega
theorem dfR_bd (hM:Ok M) (hl:M.length≤1000) (sp:Int) (i:Nat) : -(1000*4294967296)≤sm ((dfR g sp M).take i)∧sm ((dfR g sp M).take i)≤1000*4294967296:=by
  have:=sm_bd (B:=4294967296) (by omega) ((dfR g sp M).take i) (fun x hx=>by
    have hx:=List.mem_of_mem_take hx
    unfold dfR tab at hx
    obtain ⟨k,hk,rfl⟩:=List.mem_map.1 hx
    exact dif_bd hM sp (List.mem_range.1 hk))
  have hll:((dfR g sp M).take i).length≤1000:=by simp [dfR,tab]; omega
  omega
theorem b_l13 (hM:Ok M) (hR:Rf M A S F) (hl:M.length≤1000) {sp:Int} (hg:decide (v7<v2)=g) (v78:Int) (L3:Int→(List Int)→(List Bool)→Option (List Int)):∀ (m i:Nat),i≤M.length→M.length<m+i →
    mn K n v2 v7 A v78 F (parts g sp M) L3 m (sm ((dfR g sp M).take i)) (i:Int) (mix i (nsR g sp M S) S) (mix i (lmR g sp M) (List.replicate M.length 0))=j4 K n v2 v7 A (change g sp M) (lmR g sp M) L3 n v78 0 (nsR g sp M S) F:=by
  have nl:(nsR g sp M S).length=S.length:=by rw [hR.ls]; simp [nsR,tab]
  have ll:(lmR g sp M).length=(List.replicate M.length (0:Int)).length:=by simp [lmR,tab]
  have rl:(List.replicate M.length (0:Int)).length=M.length:=by simp
  have dl:(dfR g sp M).length=M.length:=by simp [dfR,tab]
  have sl:=hR.ls
  intro m
  induction m with
  | zero=>intro i h1 h2; omega
  | succ m ih =>
    intro i h1 h2
    simp only [mn,rm,hR.la,hR.lf,hR.ls]
    by_cases hi:i<M.length
    · have hk:=hM.at hi
      have hp:=tw (g:=g) hM sp hi
      have hn:=ns_bd (g:=g) hk hp
      have hd:=dif_bd (g:=g) hM sp hi
      have d1:=dfR_bd (g:=g) hM hl sp i; have d2:=dfR_bd (g:=g) hM hl sp (i+1)
      have ewi:w64 ((i:Int)+1)=((i+1:Nat):Int):=wn (by omega) (by omega)
      have m1:(mix i (nsR g sp M S) S).length=M.length:=by rw [fg nl,hR.ls]
      have m2:(mix i (lmR g sp M) (List.replicate M.length 0)).length=M.length:=by rw [fg ll,rl]
      have en:(nsR g sp M S).getD i default=_:=iT hi
      have el:(lmR g sp M).getD i default=_:=iT hi
      have ed:(dfR g sp M).getD i default=_:=iT hi
      have es:sm ((dfR g sp M).take (i+1))=sm ((dfR g sp M).take i)+(dfR g sp M).getD i default:=by rw [de (by omega),dV]; simp [sm]
      have s1:=jy nl (i:=i) (by omega)
      have s2:=jy ll (i:=i) (by omega)
      have n1:=fg (i:=i+1) nl; have n2:=fg (i:=i+1) ll
      have gn:=va nl (i:=i) (by omega)
      have gl:=va ll (i:=i) (by omega)
      rw [iteT (by omega)]
      simp only [aP (show (0:Int)≤(i:Int)∧(i:Int)<(M.length:Nat) by omega),tnat,hR.f i hi,sb,hg,m1,m2,lz,List.length_set,rH,sO,ewi,hR.a i hi,hR.la]
      cases hx:(M.getD i default).2 with
      | some z =>
        have hs:(M.getD i default).2.isSome=true:=by rw [hx]; rfl
        rw [if_pos hs] at en el
        have ed2:(dfR g sp M).getD i default=0:=by rw [ed]; unfold dif; rw [if_pos hs]
        simp only [Option.isSome_some,if_true]
        rw [←m9 nl (by omega) en,← m9 ll (by omega) (by rw [el,bc (by omega),List.getElem_replicate]),show sm ((dfR g sp M).take i)=sm ((dfR g sp M).take (i+1)) by omega]
        exact ih (i+1) (by omega) (by omega)
      | none =>
        have hs:¬ (M.getD i default).2.isSome=true:=by rw [hx]; simp
        rw [if_neg hs] at en el
        have ed2:(dfR g sp M).getD i default=(lmR g sp M).getD i default - (nsR g sp M S).getD i default:=by rw [ed,en,el]; unfold dif; rw [if_neg hs]
        have hb:=hk.b
        have fin:∀ L:List Int,L=mix (i+1) (nsR g sp M S) S→(chk (inb (i:Int) L.length) (chk (inb (i:Int) (List.set (mix i (lmR g sp M) (List.replicate M.length 0)) i (min (max (List.getD L i default) (M.getD i default).1.Min) (M.getD i default).1.Max)).length) (chk (inb (i:Int) L.length)
            (mn K n v2 v7 A v78 F (parts g sp M) L3 m (w64 (sm ((dfR g sp M).take i)+w64 (List.getD (List.set (mix i (lmR g sp M) (List.replicate M.length 0)) i (min (max (List.getD L i default) (M.getD i default).1.Min) (M.getD i default).1.Max)) i default - List.getD L i default))) ((i+1:Nat):Int) L (List.set (mix i (lmR g sp M) (List.replicate M.length 0)) i (min (max (List.getD L i default) (M.getD i default).1.Min) (M.getD i default).1.Max))))))=j4 K n v2 v7 A (change g sp M) (lmR g sp M) L3 n v78 0 (nsR g sp M S) F:=by
          intro L hL
          subst hL
          have ec:min (max ((nsR g sp M S).getD i default) (M.getD i default).1.Min) (M.getD i default).1.Max=(lmR g sp M).getD i default:=by rw [en,el]; rfl
          rw [gn,ec,s2,n1,n2,hR.ls,rl,aP (by omega),aP (by omega),aP (by omega),gl,bp (n:=(lmR g sp M).getD i default - (nsR g sp M S).getD i default) (by omega) (by omega),← ed2,bp (by omega) (by omega),← es]
          exact ih (i+1) (by omega) (by omega)
        simp only [Option.isSome_none,Bool.false_eq_true,if_false]
        cases g
        · simp only [Bool.false_eq_true,if_false]
          have:w64 ((M.getD i default).1.Base - (parts false sp M).getD i default)=(nsR false sp M S).getD i default:=by
            rw [en]; unfold ns at hn ⊢; simp only [Bool.false_eq_true,if_false] at hn ⊢; exact bp (by omega) (by omega)
          rw [this]
          have f:=fin _ s1
          simp only [n1,n2,s1,s2,List.length_set,hR.ls,m2,aP (show (0:Int)≤(i:Int)∧(i:Int)<(M.length:Nat) by omega)] at f ⊢
          exact f
        · simp only [if_true]
          have:w64 ((M.getD i default).1.Base+(parts true sp M).getD i default)=(nsR true sp M S).getD i default:=by
            rw [en]; unfold ns at hn ⊢; simp only [if_true] at hn ⊢; exact bp (by omega) (by omega)
          rw [set_set,this]
          have f:=fin _ s1
          simp only [n1,n2,s1,s2,List.length_set,hR.ls,m2,aP (show (0:Int)≤(i:Int)∧(i:Int)<(M.length:Nat) by omega)] at f ⊢
          exact f
    · obtain rfl:i=M.length:=by omega
      rw [iteF (by omega),List.take_of_length_le (by omega),← change_R]
      have e1:=ig nl
      have e2:=ig ll
      rw [hR.ls] at e1; rw [rl] at e2
      rw [e1,e2]
theorem opens_mix {R:List It} (h:R.length=M.length) {i:Nat} (hi:i<M.length):opens (mix (i+1) R M)+(if (M.getD i default).2.isSome=true then 0 else 1)=opens (mix i R M)+(if (R.getD i default).2.isSome=true then 0 else 1):=by
  rw [uF h hi]
  unfold mix opens
  rw [List.drop_eq_getElem_cons hi,← bc hi,List.countP_append,List.countP_append,List.countP_cons,List.countP_cons]
  cases (M.getD i default).2.isSome<;>cases (R.getD i default).2.isSome<;>simp<;>omega
def szR (g:Bool) (sp:Int) (M:List It) (S:List Int):List Int:=tab M.length fun k=>if (M.getD k default).2.isSome=true then S.getD k default else ((round g sp M).getD k default).2.getD ((nsR g sp M S).getD k default)
def fxR (g:Bool) (sp:Int) (M:List It):List Bool:=tab M.length fun k=>((round g sp M).getD k default).2.isSome
theorem ug (g:Bool) (sp:Int) (M:List It) {k:Nat} (hk:k<M.length):(round g sp M).getD k default=step1 g (change g sp M) (M.getD k default) ((parts g sp M).getD k default):=by
  rw [bc (by rw [eU]; exact hk),s7 g sp M hk,bc hk]
theorem b_l16 (hM:Ok M) (hR:Rf M A S F) (hl:M.length≤1000) {sp:Int} (L3:Int→(List Int)→(List Bool)→Option (List Int)):∀ (m i:Nat),i≤M.length→M.length<m+i →
    j4 K n v2 v7 A (change g sp M) (lmR g sp M) L3 m ((opens (mix i (round g sp M) M):Nat):Int) (i:Int) (mix i (szR g sp M S) (nsR g sp M S)) (mix i (fxR g sp M) F)=L3 ((opens (round g sp M):Nat):Int) (szR g sp M S) (fxR g sp M):=by
  have nl:(nsR g sp M S).length=M.length:=by simp [nsR,tab]
  have zl:(szR g sp M S).length=(nsR g sp M S).length:=by rw [nl]; simp [szR,tab]
  have fl:(fxR g sp M).length=F.length:=by rw [hR.lf]; simp [fxR,tab]
  have ll:(lmR g sp M).length=M.length:=by simp [lmR,tab]
  have rl:=eU g sp M
  intro m
  induction m with
  | zero=>intro i h1 h2; omega
  | succ m ih =>
    intro i h1 h2
    simp only [j4,q9,hR.la]
    by_cases hi:i<M.length
    · have m1:(mix i (szR g sp M S) (nsR g sp M S)).length=M.length:=by rw [fg zl,nl]
      have m2:(mix i (fxR g sp M) F).length=M.length:=by rw [fg fl,hR.lf]
      have g1:=mix_at zl (i:=i) (by omega)
      have g2:=mix_at fl (i:=i) (by rw [hR.lf]; exact hi)
      have es:(szR g sp M S).getD i default=_:=iT hi
      have ef:(fxR g sp M).getD i default=_:=iT hi
      have en:(nsR g sp M S).getD i default=_:=iT hi
      have el:(lmR g sp M).getD i default=_:=iT hi
      have er:=ug g sp M hi
      have om:=opens_mix (R:=round g sp M) rl hi
      have oo:=pF (mix i (round g sp M) M)
      rw [fg rl] at oo
      have s1:=jy zl (i:=i) (by omega)
      have s2:=jy fl (i:=i) (by rw [hR.lf]; exact hi)
      have ewi:w64 ((i:Int)+1)=((i+1:Nat):Int):=wn (by omega) (by omega)
      have fin:=ih (i+1) (by omega) (by omega)
      rw [iteT (by omega)]
      simp only [aP (show (0:Int)≤(i:Int)∧(i:Int)<(M.length:Nat) by omega),tnat,m1,m2,ll,g1,g2,hR.f i hi,im,qy,ewi]
      by_cases hs:(M.getD i default).2.isSome=true
      · have er2:(round g sp M).getD i default=M.getD i default:=by rw [er]; unfold step1; rw [if_pos hs]
        rw [if_pos hs] at es en
        rw [m9 zl (by omega) (by rw [es,en]),m9 fl (by rw [hR.lf]; exact hi) (by rw [ef,er2,hR.f i hi])] at fin
        rw [er2,if_pos hs] at om
        rw [show opens (mix (i+1) (round g sp M) M)=opens (mix i (round g sp M) M) by omega] at fin
        simp only [hs,Bool.not_true,Bool.false_eq_true,if_false]
        exact fin
      · have hs2:(M.getD i default).2.isSome=false:=by simpa using hs
        rw [if_neg hs] at es en el om
        simp only [hs2,Bool.not_false,if_true]
        by_cases hf:fixq (change g sp M) (ns g (M.getD i default).1 ((parts g sp M).getD i default)) (cl (M.getD i default).1 (ns g (M.getD i default).1 ((parts g sp M).getD i default)))=true
        · have er2:(round g sp M).getD i default=((M.getD i default).1,some ((lmR g sp M).getD i default)):=by rw [er,el]; unfold step1; rw [if_neg hs,if_pos hf]
          rw [er2] at es ef om
          have es2:(szR g sp M S).getD i default=(lmR g sp M).getD i default:=es
          have ef2:(fxR g sp M).getD i default=true:=ef
          simp only [Option.isSome_some,if_true] at om
          have om2:opens (mix (i+1) (round g sp M) M)+1=opens (mix i (round g sp M) M):=by omega
          have ow:w64 (((opens (mix i (round g sp M) M):Nat):Int) - 1)=((opens (mix (i+1) (round g sp M) M):Nat):Int):=wn (by omega) (by omega)
          rw [es2] at s1; rw [ef2] at s2
          rw [←s1,← s2] at fin
          rw [ow]
          unfold fixq at hf
          rw [decide_eq_true_eq,← el,← en] at hf
          by_cases hc0:change g sp M=0
          · rw [if_pos (by rw [beq_iff_eq]; exact hc0)]; exact fin
          · rw [if_neg (by rw [beq_iff_eq]; exact hc0)]
            by_cases hc1:change g sp M>0
            · rw [iteT hc1,iteT (show (lmR g sp M).getD i default>(nsR g sp M S).getD i default by omega)]; exact fin
            · rw [iteF hc1,iteT (show change g sp M<0 by omega),iteT (show (lmR g sp M).getD i default<(nsR g sp M S).getD i default by omega)]; exact fin
        · have er2:(round g sp M).getD i default=M.getD i default:=by rw [er]; unfold step1; rw [if_neg hs,if_neg hf]
          have hx:(M.getD i default).2=none:=by cases h:(M.getD i default).2 with
            | none=>rfl
            | some z=>rw [h] at hs; simp at hs
          rw [er2] at es ef om
          rw [hx] at es
          have es2:(szR g sp M S).getD i default=(nsR g sp M S).getD i default:=es
          rw [m9 zl (by omega) es2,m9 fl (by rw [hR.lf]; exact hi) (by rw [ef,hR.f i hi])] at fin
          rw [if_neg hs] at om
          rw [show opens (mix (i+1) (round g sp M) M)=opens (mix i (round g sp M) M) by omega] at fin
          have hf2:fixq (change g sp M) (ns g (M.getD i default).1 ((parts g sp M).getD i default)) (cl (M.getD i default).1 (ns g (M.getD i default).1 ((parts g sp M).getD i default)))=false:=by simpa using hf
          unfold fixq at hf2
          rw [decide_eq_false_iff_not,← el,← en] at hf2
          rw [if_neg (by rw [beq_iff_eq]; omega)]
          simp only [Bool.false_eq_true,if_false]
          by_cases hc1:change g sp M>0
          · rw [iteT hc1,iteF (show ¬ (lmR g sp M).getD i default>(nsR g sp M S).getD i default by omega),iteF (show ¬ change g sp M<0 by omega)]; exact fin
          · rw [iteF hc1]
            by_cases hc2:change g sp M<0
            · rw [iteT hc2,iteF (show ¬ (lmR g sp M).getD i default<(nsR g sp M S).getD i default by omega)]; exact fin
            · rw [iteF hc2]; exact fin
    · obtain rfl:i=M.length:=by omega
      rw [iteF (by omega)]
      have e1:=ig zl
      have e2:=ig fl
      have e3:=ig rl
      rw [nl] at e1; rw [hR.lf] at e2
      rw [e1,e2,e3]
theorem rf_round (hR:Rf M A S F) (g:Bool) (sp:Int):Rf (round g sp M) A (szR g sp M S) (fxR g sp M):=by
  have rl:=eU g sp M
  refine ⟨by rw [rl,hR.la],by rw [rl]; simp [szR,tab],by rw [rl]; simp [fxR,tab],fun k hk=>?_,fun k hk=>?_,fun k hk z hz=>?_⟩
  · rw [rl] at hk
    rw [ug g sp M hk,hR.a k hk]; unfold step1; split
    · rfl
    · split<;>rfl
  · rw [rl] at hk
    exact iT hk
  · rw [rl] at hk
    have e:(szR g sp M S).getD k default=_:=iT hk
    rw [e]
    by_cases hs:(M.getD k default).2.isSome=true
    · rw [if_pos hs]
      have:(round g sp M).getD k default=M.getD k default:=by rw [ug g sp M hk]; unfold step1; rw [if_pos hs]
      rw [this] at hz
      exact hR.s k hk z hz
    · rw [if_neg hs,hz]; rfl
theorem b_l17 {sp:Int} (hs : -1125899906842624≤sp∧sp≤1125899906842624) (hn:10001<n) (hg:decide (v7<sp)=g):∀ (m:Nat) (M:List It) (S:List Int) (F:List Bool),opens M<m→Ok M→Rf M A S F→M.length≤1000 →
    go K n sp v7 A m ((opens M:Nat):Int) S F=some (sizes (run g sp M.length M)):=by
  intro m
  induction m with
  | zero=>intro M S F h; omega
  | succ m ih =>
    intro M S F h hM hR hl
    simp only [go,qt]
    by_cases hz:opens M=0
    · rw [iteF (by omega),qh hz]
      congr 1
      refine tab_ext (by simp [sizes,hR.ls]) (fun k hk=>?_)
      have hk:k<M.length:=by simpa [sizes] using hk
      have ho:(M.getD k default).2.isSome=true:=by
        have:=List.countP_eq_zero.1 hz (M.getD k default) (by rw [bc hk]; exact List.getElem_mem _)
        cases h:(M.getD k default).2 with
        | none=>rw [h] at this; simp at this
        | some z=>rfl
      obtain ⟨z,ez⟩:=Option.isSome_iff_exists.1 ho
      rw [hR.s k hk z ez]
      have:(sizes M).getD k default=(M.getD k default).2.getD 0:=by
        rw [bc (by simpa [sizes] using hk),bc hk]; simp [sizes]
      rw [this,ez]; rfl
    · rw [iteT (by omega),hR.la,Sh.kj (by omega) (by omega),bB,tnat]
      have h8:=b_l8 (K:=K) (n:=n) (v2:=sp) (v7:=v7) hM hR hl hs hg ((opens M:Nat):Int) (go K n sp v7 A m) n 0 (by omega) (by omega)
      rw [List.take_zero,List.map_nil,show sm []=0 from rfl,Int.sub_zero,show facs g []=0 from rfl,g8,show ((0:Nat):Int)=0 from rfl] at h8
      rw [h8]
      unfold jk
      rw [Sh.oq _ _ (by rw [zo_len]; omega) hn,sb,hR.la,Sh.kj (by omega) (by omega),bB,tnat]
      have h13:=b_l13 (K:=K) (n:=n) (v2:=sp) (v7:=v7) hM hR hl (sp:=sp) hg ((opens M:Nat):Int) (go K n sp v7 A m) n 0 (by omega) (by omega)
      rw [List.take_zero,show sm []=0 from rfl,g8,g8,show ((0:Nat):Int)=0 from rfl] at h13
      unfold parts at h13
      rw [h13]
      have h16:=b_l16 (K:=K) (n:=n) (v2:=sp) (v7:=v7) (g:=g) hM hR hl (sp:=sp) (go K n sp v7 A m) n 0 (by omega) (by omega)
      rw [g8,g8,g8,show ((0:Nat):Int)=0 from rfl] at h16
      rw [h16]
      have hro:=vd (g:=g) (sp:=sp) hz
      rw [ih (round g sp M) _ _ (by omega) (round_ok hM) (rf_round hR g sp) (by rw [eU]; exact hl)]
      congr 2
      have e1:run g sp (M.length+1) M=run g sp M.length (round g sp M):=by rw [run,if_neg hz]
      rw [eU,← e1]
      have:=pF M
      exact uN _ _ _ (by omega) (by omega)
def fx0 (g:Bool) (l:List aw):List Bool:=l.map fun x=>fix0 g (nrm x) (hyp x)
theorem rf0 (g:Bool) (l:List aw):Rf (start g l) (l.map nrm) (l.map hyp) (fx0 g l):=by
  have sl:(start g l).length=l.length:=by simp [start]
  have sat:∀ k,k<l.length→(start g l).getD k default=(nrm (l.getD k default),if fix0 g (nrm (l.getD k default)) (hyp (l.getD k default))=true then some (hyp (l.getD k default)) else none):=by
    intro k hk
    rw [bc (by omega),bc hk]; simp [start]
  refine ⟨by simp [sl],by simp [sl],by simp [sl,fx0],fun k hk=>?_,fun k hk=>?_,fun k hk z hz=>?_⟩
  · rw [sl] at hk
    rw [sat k hk,bc (by simpa using hk),bc hk]; simp
  · rw [sl] at hk
    rw [sat k hk,bc (by simpa [fx0] using hk),bc hk]
    simp only [fx0,List.getElem_map]
    cases fix0 g (nrm l[k]) (hyp l[k])<;>rfl
  · rw [sl] at hk
    rw [sat k hk] at hz
    rw [bc (by simpa using hk),List.getElem_map,← bc hk]
    split at hz
    · exact Option.some.inj hz
    · cases hz
theorem xG (g:Bool) (l:List aw):opens (start g l)=l.countP fun x=>!fix0 g (nrm x) (hyp x):=by
  unfold opens start
  rw [List.countP_map]
  refine List.countP_congr (fun x _=>?_)
  simp only [Function.comp_apply]
  cases fix0 g (nrm x) (hyp x)<;>simp
theorem b_l1 (l:List aw) (sp:Int) (hl:l.length≤1000):∀ (m i:Nat),i≤l.length→l.length<m+i →
    pN K n l sp m (sm ((l.take i).map hyp)) (i:Int) ((l.take i).map nrm) ((l.take i).map hyp)=lS K n sp (sm (l.map hyp)) (l.map nrm) (l.map hyp) n 0 0 []:=by
  intro m
  induction m with
  | zero=>intro i h1 h2; omega
  | succ m ih =>
    intro i h1 h2
    simp only [pN,qM]
    by_cases hi:i<l.length
    · have h0:=tK l hl i; have h3:=tK l hl (i+1)
      have e0:(l.take (i+1)).map hyp=(l.take i).map hyp++[hyp (l.getD i default)]:=by rw [de hi,List.map_append]; rfl
      have e2:(l.take (i+1)).map nrm=(l.take i).map nrm++[nrm (l.getD i default)]:=by rw [de hi,List.map_append]; rfl
      have e1:sm ((l.take (i+1)).map hyp)=sm ((l.take i).map hyp)+hyp (l.getD i default):=by rw [e0,dV]; simp [sm]
      have ll:((l.take i).map nrm).length=i:=by simp; omega
      have l2:((l.take i).map hyp).length=i:=by simp; omega
      have l3:((l.take i).map hyp++[hyp (l.getD i default)]).length=i+1:=by simp; omega
      have eg:((l.take i).map hyp++[hyp (l.getD i default)]).getD i default=hyp (l.getD i default):=QSort.gd (A:=(l.take i).map hyp) (B:=[]) l2.symm
      rw [iteT (by omega),aP (by omega),tnat,Normal_ok,Hyp_ok]
      simp only [sb]
      rw [ll,l2,l3,qP (by simp only [List.length_cons,List.length_nil]; omega) (by omega) (by omega),qP (by simp only [List.length_cons,List.length_nil]; omega) (by omega) (by omega),bB,bB,aP (by omega),eg,bp (by omega) (by omega),← e1,wn (n:=(i:Int)+1) (k:=i+1) (by omega) (by omega),← e0,← e2,aP (by omega)]
      exact ih (i+1) (by omega) (by omega)
    · obtain rfl:i=l.length:=by omega
      rw [iteF (by omega),fm]
theorem b_l5 (l:List aw) (sp:Int) (hl:l.length≤1000):∀ (m i:Nat),i≤l.length→l.length<m+i →
    lS K n sp (sm (l.map hyp)) (l.map nrm) (l.map hyp) m ((opens (start (grows l sp) (l.take i)):Nat):Int) (i:Int) (fx0 (grows l sp) (l.take i)) =
    go K n sp (sm (l.map hyp)) (l.map nrm) n ((opens (start (grows l sp) l):Nat):Int) (l.map hyp) (fx0 (grows l sp) l):=by
  intro m
  induction m with
  | zero=>intro i h1 h2; omega
  | succ m ih =>
    intro i h1 h2
    simp only [lS,qH,List.length_map]
    by_cases hi:i<l.length
    · have a1:(l.map nrm).getD i default=nrm (l.getD i default):=by rw [bc (by simpa using hi),List.getElem_map,bc hi]
      have a2:(l.map hyp).getD i default=hyp (l.getD i default):=by rw [bc (by simpa using hi),List.getElem_map,bc hi]
      have ewi:w64 ((i:Int)+1)=((i+1:Nat):Int):=wn (by omega) (by omega)
      have ef:fx0 (grows l sp) (l.take (i+1))=fx0 (grows l sp) (l.take i)++[fix0 (grows l sp) (nrm (l.getD i default)) (hyp (l.getD i default))]:=by unfold fx0; rw [de hi,List.map_append]; rfl
      have eo:opens (start (grows l sp) (l.take (i+1)))=opens (start (grows l sp) (l.take i))+if fix0 (grows l sp) (nrm (l.getD i default)) (hyp (l.getD i default))=true then 0 else 1:=by
        rw [xG,xG,de hi,List.countP_append]
        congr 1
        cases h:fix0 (grows l sp) (nrm (l.getD i default)) (hyp (l.getD i default))<;>simp only [List.countP_cons,List.countP_nil,h]<;>rfl
      have ob:=pF (start (grows l sp) (l.take i))
      have ol:(start (grows l sp) (l.take i)).length≤i:=by simp [start]; omega
      have fl:(fx0 (grows l sp) (l.take i)).length=i:=by simp [fx0]; omega
      have fin:=ih (i+1) (by omega) (by omega)
      have j3:∀ b,b=fix0 (grows l sp) (nrm (l.getD i default)) (hyp (l.getD i default))→mi K n sp (sm (l.map hyp)) (l.map nrm) (l.map hyp) ((opens (start (grows l sp) (l.take i)):Nat):Int) (i:Int) (fx0 (grows l sp) (l.take i)) (lS K n sp (sm (l.map hyp)) (l.map nrm) (l.map hyp) m) b=go K n sp (sm (l.map hyp)) (l.map nrm) n ((opens (start (grows l sp) l):Nat):Int) (l.map hyp) (fx0 (grows l sp) l):=by
        intro b hb
        subst hb
        simp only [mi,su]
        rw [qP (by simp only [List.length_cons,List.length_nil]; omega) (by omega) (by omega),bB,ewi,← fin,ef,eo]
        cases h:fix0 (grows l sp) (nrm (l.getD i default)) (hyp (l.getD i default))
        · simp only [Bool.not_false,if_true,Bool.false_eq_true,if_false]
          rw [wn (n:=((opens (start (grows l sp) (l.take i)):Nat):Int)+1) (k:=opens (start (grows l sp) (l.take i))+1) (by omega) (by omega)]
        · simp only [Bool.not_true,Bool.false_eq_true,if_false,if_true,Nat.add_zero]
      rw [iteT (by omega)]
      simp only [aP (show (0:Int)≤(i:Int)∧(i:Int)<(l.length:Nat) by omega),tnat,a1,a2,sx,List.length_map]
      by_cases hgr:sm (l.map hyp)<sp
      · have eg:grows l sp=true:=by unfold grows; simpa using hgr
        simp only [hgr,decide_true,if_true]
        have e2:∀ b:Bool,(b=true↔(nrm (l.getD i default)).Grow=0∨(nrm (l.getD i default)).Base>hyp (l.getD i default))→b=fix0 (grows l sp) (nrm (l.getD i default)) (hyp (l.getD i default)):=by
          intro b hb
          rw [eg]; unfold fix0; rw [if_pos rfl,Bool.eq_iff_iff,hb,decide_eq_true_eq]
        by_cases hc:(nrm (l.getD i default)).Grow=0
        · have:((nrm (l.getD i default)).Grow == 0)=true:=by rw [beq_iff_eq]; exact hc
          simp only [this,if_true]
          split<;>exact j3 _ (e2 _ ⟨fun _=>.inl hc,fun _=>rfl⟩)
        · have:((nrm (l.getD i default)).Grow == 0)=false:=by rw [beq_eq_false_iff_ne]; exact hc
          simp only [this,Bool.false_eq_true,if_false]
          split<;>exact j3 _ (e2 _ ⟨fun h=>.inr (of_decide_eq_true h),fun h=>decide_eq_true (h.resolve_left hc)⟩)
      · have eg:grows l sp=false:=by unfold grows; simpa using hgr
        have hd:decide (sm (l.map hyp)<sp)=false:=decide_eq_false hgr
        simp only [hd,Bool.false_eq_true,if_false]
        have e2:∀ b:Bool,(b=true↔(nrm (l.getD i default)).Shrink=0∨(nrm (l.getD i default)).Base<hyp (l.getD i default))→b=fix0 (grows l sp) (nrm (l.getD i default)) (hyp (l.getD i default)):=by
          intro b hb
          rw [eg]; unfold fix0; rw [if_neg (by simp),Bool.eq_iff_iff,hb,decide_eq_true_eq]
        by_cases hc:(nrm (l.getD i default)).Shrink=0
        · have:((nrm (l.getD i default)).Shrink == 0)=true:=by rw [beq_iff_eq]; exact hc
          rw [if_pos this]
          exact j3 _ (e2 _ ⟨fun _=>.inl hc,fun _=>rfl⟩)
        · have:¬ ((nrm (l.getD i default)).Shrink == 0)=true:=by rw [beq_iff_eq]; exact hc
          rw [if_neg this]
          exact j3 _ (e2 _ ⟨fun h=>.inr (of_decide_eq_true h),fun h=>decide_eq_true (h.resolve_left hc)⟩)
    · obtain rfl:i=l.length:=by omega
      rw [iteF (by omega),fm]
theorem oq (l:List aw) {sp:Int} (hl:l.length≤1000) (hs : -1125899906842624≤sp∧sp≤1125899906842624) (hn:10001<n):iW K n l sp=some (resolve l sp):=by
  unfold iW
  have:=b_l1 (K:=K) (n:=n) l sp hl n 0 (by omega) (by omega)
  rw [List.take_zero,List.map_nil,List.map_nil,show ((0:Nat):Int)=0 from rfl,show sm []=0 from rfl] at this
  rw [this]
  have:=b_l5 (K:=K) (n:=n) l sp hl n 0 (by omega) (by omega)
  rw [List.take_zero,show opens (start (grows l sp) [])=0 from rfl,show fx0 (grows l sp) []=[] from rfl,show ((0:Nat):Int)=0 from rfl] at this
  rw [this]
  have e:(start (grows l sp) l).length=l.length:=by simp [start]
  have:=pF (start (grows l sp) l)
  rw [b_l17 (g:=grows l sp) hs hn rfl n (start (grows l sp) l) _ _ (by omega) (start_ok _ _) (rf0 _ _) (by omega),e]
  rfl
end Rs
end Go.Proofs.Ytlpndemhnpajiaa
namespace Go.Proofs.Ytlpndemhnpajiaa
set_option linter.all false
open Go.RowKit
namespace Fl
open QSort (wn aP iteT iteF iteB iteC sb)
open Wd (E1)
open Fw
def pxM (l:aQ):aQ:=if l.Kind=1∨l.Kind=2 then l else { bz with Kind:=1 }
def szM (b:ab) (n:Int):ab:={ b with Style:={ b.Style with Width:=⟨1,n⟩,MinWidth:=bz,MaxWidth:=bz,Margin:=⟨pxM b.Style.Margin.a0,pxM b.Style.Margin.a1,pxM b.Style.Margin.a2,pxM b.Style.Margin.a3⟩ } }
theorem px_if {α:Type} (l:aQ) (f:aQ→α):(if (!(l.Kind == 1 || l.Kind == 2))=true then f { bz with Kind:=1 } else f l)=f (pxM l):=by
  unfold pxM
  by_cases h1:l.Kind=1
  · simp [h1]
  · by_cases h2:l.Kind=2<;>simp [h1,h2]
theorem sized_def (K:Kn) (n:Nat) (b:ab) (x:Int):qB K n b x=some (szM b x):=by
  unfold qB
  simp only [eT,Option.bind_some,Wd.len2]
  rw [px_if b.Style.Margin.a0 (fun l=>pQ K n b x ⟨l,b.Style.Margin.a1,b.Style.Margin.a2,b.Style.Margin.a3⟩)]
  unfold pQ
  simp only [eT,Option.bind_some,Wd.len2]
  rw [px_if b.Style.Margin.a1 (fun l=>nY K n b x ⟨pxM b.Style.Margin.a0,l,b.Style.Margin.a2,b.Style.Margin.a3⟩)]
  unfold nY
  simp only [eT,Option.bind_some,Wd.len2]
  rw [px_if b.Style.Margin.a2 (fun l=>pm K n b x ⟨pxM b.Style.Margin.a0,pxM b.Style.Margin.a1,l,b.Style.Margin.a3⟩)]
  unfold pm
  simp only [eT,Option.bind_some,Wd.len2]
  rw [px_if b.Style.Margin.a3 (fun l=>qS K n b x ⟨pxM b.Style.Margin.a0,pxM b.Style.Margin.a1,pxM b.Style.Margin.a2,l⟩)]
  rfl
theorem px_if2 {α:Type} (l:aQ) (f:aQ→α) (g:Bool→α) (hg:∀ b,g b=if b=true then f { bz with Kind:=1 } else f l):(if (l.Kind != 1)=true then g (l.Kind != 2) else g false)=f (pxM l):=by
  unfold pxM
  by_cases h1:l.Kind=1
  · simp [h1,hg]
  · by_cases h2:l.Kind=2<;>simp [h1,h2,hg]
theorem rsized_def (K:Kn) (n:Nat) (b:ab) (x:Int):rb K n b x=some (szM b x):=by
  unfold rb
  rw [px_if2 b.Style.Margin.a0 (fun l=>pO K n b x ⟨l,b.Style.Margin.a1,b.Style.Margin.a2,b.Style.Margin.a3⟩) (qu K n b x) (fun _=>rfl)]
  unfold pO
  rw [px_if2 b.Style.Margin.a1 (fun l=>n8 K n b x ⟨pxM b.Style.Margin.a0,l,b.Style.Margin.a2,b.Style.Margin.a3⟩) (qv K n b x ⟨pxM b.Style.Margin.a0,b.Style.Margin.a1,b.Style.Margin.a2,b.Style.Margin.a3⟩) (fun _=>rfl)]
  unfold n8
  rw [px_if2 b.Style.Margin.a2 (fun l=>ql K n b x ⟨pxM b.Style.Margin.a0,pxM b.Style.Margin.a1,l,b.Style.Margin.a3⟩) (qx K n b x ⟨pxM b.Style.Margin.a0,pxM b.Style.Margin.a1,b.Style.Margin.a2,b.Style.Margin.a3⟩) (fun _=>rfl)]
  unfold ql
  rw [px_if2 b.Style.Margin.a3 (fun l=>qZ K n b x ⟨pxM b.Style.Margin.a0,pxM b.Style.Margin.a1,pxM b.Style.Margin.a2,l⟩) (sU K n b x ⟨pxM b.Style.Margin.a0,pxM b.Style.Margin.a1,pxM b.Style.Margin.a2,b.Style.Margin.a3⟩) (fun _=>rfl)]
  rfl
theorem good_sz {d:Nat} {b:ab} (x:Int) (h:GoodB d b):GoodB d (szM b x):=by
  cases d with
  | zero=>exact h.elim
  | succ d=>exact h
def lenD (l:aQ) (c o:Int):Int:=if (lenM l c).2=true then (lenM l c).1 else o
theorem tk (K:Kn) (n:Nat) (l:aQ) (c o:Int):jN K n l c o=some (lenD l c o):=by
  unfold jN lenD; rw [eT,sb]; split<;>rfl
theorem uk (K:Kn) (n:Nat) (l:aQ) (c o:Int):f8 K n l c o=some (lenD l c o):=by
  unfold f8 lenD; rw [pi,sb]; cases (lenM l c).2<;>rfl
theorem sumM_bd (s:aE) (w:Int) : -6291456≤sumM (edgesM s w 0)∧sumM (edgesM s w 0)≤6291456:=by
  have e1:=cV s.Margin.a1 w; have e2:=cV s.Margin.a3 w; have e3:=cV s.Padding.a1 w; have e4:=cV s.Padding.a3 w
  have q1:=Wd.cY s.Border.a1; have q3:=Wd.cY s.Border.a3
  unfold sumM edgesM
  simp only []
  rw [bp (n:=0+(lenM s.Margin.a1 w).1) (by omega) (by omega),bp (n:=0+(lenM s.Margin.a1 w).1+(lenM s.Margin.a3 w).1) (by omega) (by omega),bp (n:=0+(lenM s.Margin.a1 w).1+(lenM s.Margin.a3 w).1+limM s.Border.a1) (by omega) (by omega),bp (n:=0+(lenM s.Margin.a1 w).1+(lenM s.Margin.a3 w).1+limM s.Border.a1+limM s.Border.a3) (by omega) (by omega),bp (n:=0+(lenM s.Margin.a1 w).1+(lenM s.Margin.a3 w).1+limM s.Border.a1+limM s.Border.a3+max (lenM s.Padding.a1 w).1 0) (by omega) (by omega),bp (by omega) (by omega)]
  omega
theorem clamp_bd (s:aE) (w c:Int):0≤clampM s w c∧clampM s w c≤max c 1048576:=by
  have:=cV s.MinWidth w
  unfold clampM
  simp only []
  split<;>split<;>omega
theorem used_c (s:aE) (w:Int):0≤(usedM s w).Content∧(usedM s w).Content≤8388608:=by
  have e:∃ x,(usedM s w).Content=clampM s (limM w) x∧x≤8388608:=by
    have hx:(if (lenM s.Width (limM w)).2=true then (lenM s.Width (limM w)).1 else w64 (limM w - sumM (edgesM s (limM w) 0)))≤8388608:=by
      have h1:=cV s.Width (limM w); have h2:=sumM_bd s (limM w); have h3:=Wd.cY w
      split
      · omega
      · rw [bp (by omega) (by omega)]; omega
    refine ⟨_,?_,hx⟩
    unfold usedM used1
    simp only []
    repeat (first | rfl | split)
  obtain ⟨x,hx,hb⟩:=e
  have:=clamp_bd s (limM w) x
  rw [hx]; omega
def itR (W:ab→Int×Int) (c:Int) (k:ab):aw:=⟨lenD k.Style.Basis c (lenD k.Style.Width c (w64 ((W k).2 - sumM (edgesM k.Style 0 0)))),k.Style.Grow,k.Style.Shrink,lenD k.Style.MinWidth c 0,lenD k.Style.MaxWidth c 1048576⟩
def edR (c:Int) (k:ab):Int:=sumM (edgesM k.Style c 0)
def ouR (W:ab→Int×Int) (c:Int) (k:ab):Int:=Rs.hyp (itR W c k)+edR c k
theorem ou_bd (W:ab→Int×Int) (c:Int) (k:ab) : -6291456≤ouR W c k∧ouR W c k≤7340032:=by
  have h1:=Rs.hyp_bd (itR W c k); have h2:=sumM_bd k.Style c
  unfold ouR edR; omega
theorem item_def {N:Nat} (hN:45≤N) {W:ab→Int×Int} {k:ab} (hW:∀ N,45≤N→fe (KN N) N k E1=some (W k)∧eQ (KN N) N k=some (W k)) (c:Int):sQ (KN N) N k c=some (itR W c k):=by
  unfold sQ
  rw [(hW N hN).2]
  simp only [sb,oL,n9,uk,Option.bind_some]
  rfl
def Small (B:Int) (l:List Int):Prop:=∀ x∈l,-B≤x∧x≤B
def wr (sp:Int):Int→Nat→List Int→List Int
  | _,_,[]=>[]
  | s,i,x::r=>if s+x>sp then (i:Int)::wr sp x (i+1) r else wr sp (s+x) (i+1) r
def starts (sp:Int):List Int→List Int
  | []=>[]
  | x::r=>0::wr sp x 1 r
variable {B:Int} {L:List Int}
theorem w_loop (K:Kn) (n:Nat) (sp:Int) (hB:0≤B∧B≤1073741824) (hS:Small B L) (hl:L.length≤100):∀ (m i:Nat) (s:Int) (o:List Int),1≤i→i≤L.length→L.length<m+i→o.length≤i → -(i*B)≤s→s≤i*B →
    nq K n L sp m s i o=some (o++wr sp s i (L.drop i)):=by
  intro m
  induction m with
  | zero=>intro i s o h0 h1 h2; omega
  | succ m ih =>
    intro i s o h0 h1 h2 ho hs hs2
    simp only [nq,oS]
    by_cases hi:i<L.length
    · have hx:=hS (L.getD i default) (dG hi)
      have hiB:(i:Int)*B≤100*1073741824:=Int.mul_le_mul (by omega) hB.2 hB.1 (by omega)
      have e1:((i+1:Nat):Int)*B=i*B+B:=by simp [Int.add_mul]
      have hz:¬ ((i:Int) == 0)=true:=by rw [beq_iff_eq]; omega
      rw [iteT (by omega),aP (by omega),tnat,bp (by omega) (by omega),sb,if_neg hz]
      simp only [oc,o9,tnat]
      rw [drop_at' hi]
      simp only [wr]
      rw [wn (n:=(i:Int)+1) (k:=i+1) (by omega) (by omega),cg (by simp only [List.length_cons,List.length_nil]; omega) (by omega),bB]
      by_cases hc:s+L.getD i default>sp
      · rw [iteT hc,if_pos hc,ih (i+1) (L.getD i default) (o++[(i:Int)]) (by omega) (by omega) (by omega) (by simp; omega) (by have:=Int.mul_nonneg (show (0:Int)≤i by omega) hB.1; omega) (by have:=Int.mul_nonneg (show (0:Int)≤i by omega) hB.1; omega)]
        simp
      · rw [iteF hc,if_neg hc,ih (i+1) (s+L.getD i default) o (by omega) (by omega) (by omega) (by omega) (by omega) (by omega)]
    · rw [iteF (by omega),List.drop_eq_nil_of_le (by omega)]; simp [wr]
theorem w_rloop (K:Kn) (n:Nat) (sp:Int) (hB:0≤B∧B≤1073741824) (hS:Small B L) (hl:L.length≤100):∀ (m i:Nat) (s:Int) (o:List Int),1≤i→i≤L.length→L.length<m+i→o.length≤i → -(i*B)≤s→s≤i*B →
    mu K n L sp m s i o=some (o++wr sp s i (L.drop i)):=by
  intro m
  induction m with
  | zero=>intro i s o h0 h1 h2; omega
  | succ m ih =>
    intro i s o h0 h1 h2 ho hs hs2
    simp only [mu,oy]
    by_cases hi:i<L.length
    · have hx:=hS (L.getD i default) (dG hi)
      have hiB:(i:Int)*B≤100*1073741824:=Int.mul_le_mul (by omega) hB.2 hB.1 (by omega)
      have e1:((i+1:Nat):Int)*B=i*B+B:=by simp [Int.add_mul]
      have hz:¬ ((i:Int) == 0)=true:=by rw [beq_iff_eq]; omega
      rw [iteT (by omega)]
      simp only [o7,oC,tnat]
      rw [bp (n:=s+L.getD i default) (by omega) (by omega),bp (n:=0+L.getD i default) (by omega) (by omega),if_neg hz]
      rw [drop_at' hi]
      simp only [wr]
      rw [wn (n:=(i:Int)+1) (k:=i+1) (by omega) (by omega),cg (by simp only [List.length_cons,List.length_nil]; omega) (by omega)]
      simp only [bB,aP (show (0:Int)≤(i:Int)∧(i:Int)<(L.length:Nat) by omega)]
      by_cases hc:s+L.getD i default>sp
      · rw [decide_eq_true hc,if_pos rfl,if_pos hc,Int.zero_add,ih (i+1) (L.getD i default) (o++[(i:Int)]) (by omega) (by omega) (by omega) (by simp; omega) (by have:=Int.mul_nonneg (show (0:Int)≤i by omega) hB.1; omega) (by have:=Int.mul_nonneg (show (0:Int)≤i by omega) hB.1; omega)]
        simp
      · rw [decide_eq_false hc,if_neg (by simp),if_neg hc,ih (i+1) (s+L.getD i default) o (by omega) (by omega) (by omega) (by omega) (by omega) (by omega)]
    · rw [iteF (by omega),List.drop_eq_nil_of_le (by omega)]; simp [wr]
theorem wrap_ok (K:Kn) {n:Nat} (sp:Int) (hB:0≤B∧B≤1073741824) (hS:Small B L) (hl:L.length≤100) (hn:101<n):ny K n L sp=some (starts sp L):=by
  unfold ny
  obtain ⟨m,rfl⟩:∃ m,n=m+1:=⟨n - 1,by omega⟩
  cases L with
  | nil=>rfl
  | cons x r =>
    have hx:=hS x (by simp)
    simp only [List.length_cons] at hl
    simp only [nq,oS]
    have hlt:(0:Int)<(((x::r).length:Nat):Int):=by simp only [List.length_cons]; omega
    have hw:w64 (0+List.getD (x::r) (Int.toNat 0) default)=x:=by
      show w64 (0+x)=x
      rw [Int.zero_add]; exact bp (by omega) (by omega)
    have hw2:w64 ((0:Int)+1)=((1:Nat):Int):=wn (by omega) (by omega)
    have hg:List.getD (x::r) (Int.toNat 0) default=x:=rfl
    rw [iteT hlt,aP ⟨Int.le_refl 0,hlt⟩,hw,sb,if_pos (by rfl)]
    simp only [oc,o9,hg,hw2]
    rw [cg (by simp) (by omega),bB,w_loop K (m+1) sp hB hS (by simp only [List.length_cons]; omega) m 1 x ([]++[0]) (by omega) (by simp) (by simp only [List.length_cons]; omega) (by simp) (by omega) (by omega)]
    simp [starts]
theorem rwrap_ok (K:Kn) {n:Nat} (sp:Int) (hB:0≤B∧B≤1073741824) (hS:Small B L) (hl:L.length≤100) (hn:101<n):qk K n L sp=some (starts sp L):=by
  unfold qk
  obtain ⟨m,rfl⟩:∃ m,n=m+1:=⟨n - 1,by omega⟩
  cases L with
  | nil=>rfl
  | cons x r =>
    have hx:=hS x (by simp)
    simp only [List.length_cons] at hl
    simp only [mu,oy]
    have hlt:(0:Int)<(((x::r).length:Nat):Int):=by simp only [List.length_cons]; omega
    have hw:w64 (0+List.getD (x::r) (Int.toNat 0) default)=x:=by
      show w64 (0+x)=x
      rw [Int.zero_add]; exact bp (by omega) (by omega)
    have hw2:w64 ((0:Int)+1)=((1:Nat):Int):=wn (by omega) (by omega)
    have hz:((0:Int) == 0)=true:=rfl
    rw [iteT hlt]
    simp only [aP (show (0:Int)≤0∧(0:Int)<(((x::r).length:Nat):Int) from ⟨Int.le_refl 0,hlt⟩),hw,hw2,hz,if_true,o7,oC]
    rw [cg (by simp) (by omega),bB,w_rloop K (m+1) sp hB hS (by simp only [List.length_cons]; omega) m 1 x ([]++[0]) (by omega) (by simp) (by simp only [List.length_cons]; omega) (by simp) (by omega) (by omega)]
    simp [starts]
inductive Chn (n:Nat):Nat→List Int→Prop
  | nil (a:Nat) (h:a≤n):Chn n a []
  | cons (a b:Nat) (t:List Int) (h:a≤b) (h2:Chn n b t):Chn n a ((b:Int)::t)
theorem wr_chn (sp:Int) (n:Nat):∀ (r:List Int) (a i:Nat) (s:Int),a≤i→i+r.length≤n→Chn n a (wr sp s i r)
  | [],a,i,s,h1,h2=>.nil _ (by simp at h2; omega)
  | x::r,a,i,s,h1,h2=>by
    simp only [List.length_cons] at h2
    unfold wr
    split
    · exact .cons _ _ _ h1 (wr_chn sp n r i (i+1) x (by omega) (by omega))
    · exact wr_chn sp n r a (i+1) (s+x) (by omega) (by omega)
theorem Chn.le {n a:Nat} {t:List Int} (h:Chn n a t):a≤n:=by
  induction h with
  | nil a h=>exact h
  | cons a b t h h2 ih=>omega
theorem chn_get {n a:Nat} {t:List Int} (h:Chn n a t):∀ k,k<t.length+1→∃ x y:Nat,((a:Int)::(t++[(n:Int)])).getD k default=(x:Int)∧((a:Int)::(t++[(n:Int)])).getD (k+1) default=(y:Int)∧x≤y∧y≤n:=by
  induction h with
  | nil a h =>
    intro k hk
    simp only [List.length_nil] at hk
    obtain rfl:k=0:=by omega
    exact ⟨a,n,rfl,rfl,h,Nat.le_refl _⟩
  | cons a b t h h2 ih =>
    intro k hk
    cases k with
    | zero=>exact ⟨a,b,rfl,rfl,h,h2.le⟩
    | succ k =>
      obtain ⟨x,y,e1,e2,hg⟩:=ih k (by simpa using hk)
      exact ⟨x,y,by simpa using e1,by simpa using e2,hg⟩
theorem wr_len (sp:Int):∀ (r:List Int) (s:Int) (i:Nat),(wr sp s i r).length≤r.length
  | [],s,i=>by simp [wr]
  | x::r,s,i=>by
    unfold wr
    have h1:=wr_len sp r x (i+1); have h2:=wr_len sp r (s+x) (i+1)
    split<;>simp<;>omega
structure St (n:Nat) (S:List Int):Prop where
  len:S.length≤n+1
  get:∀ k,k<S.length→∃ x y:Nat,(S++[(n:Int)]).getD k default=(x:Int)∧(S++[(n:Int)]).getD (k+1) default=(y:Int)∧x≤y∧y≤n
theorem st_one (n:Nat):St n [0]:=⟨by simp,fun k hk=>by
  have:=chn_get (n:=n) (a:=0) (t:=[]) (.nil _ (Nat.zero_le _)) k (by simpa using hk)
  simpa using this⟩
theorem st_wrap (sp:Int) (L:List Int):St L.length (starts sp L):=by
  cases L with
  | nil=>exact ⟨by simp [starts],fun k hk=>by simp [starts] at hk⟩
  | cons x r =>
    have hl:=wr_len sp r x 1
    refine ⟨by simp only [starts,List.length_cons]; omega,fun k hk=>?_⟩
    simp only [starts,List.length_cons] at hk
    have:=chn_get (n:=(x::r).length) (a:=0) (wr_chn sp (x::r).length r 0 1 x (by omega) (by simp; omega)) k (by omega)
    simpa [starts] using this
end Fl
end Go.Proofs.Ytlpndemhnpajiaa
namespace Go.Proofs.Ytlpndemhnpajiaa
set_option linter.all false
open Go.RowKit
open Wd (E1)
theorem lay_ind (d:Nat) (b:ab) (w:Int) (hg:GoodB d b):∃ f,(∀ N,d+25≤N→gf (KN N) N b w E1=some f∧eY (KN N) N b w=some f)∧Fd (d+1) f∧MB f:=by
  obtain ⟨f,h1,h2,h3⟩:=lay_eq d (d+25) b w hg (Nat.le_refl _)
  refine ⟨f,fun N hN=>⟨?_,?_⟩,h3⟩
  · exact vV (sN _ _ hN) hN b w E1 f h1
  · exact wb (sN _ _ hN) hN b w f h2
theorem env_lay {d N:Nat} {b:ab} {w:Int} {f:aa} (h:∀ N,d+25≤N→gf (KN N) N b w E1=some f∧eY (KN N) N b w=some f) (hN:d+26≤N):(KN N).dD (Fv.fn 54) b w=some f:=by
  obtain ⟨M,rfl⟩:∃ M,N=M+1:=⟨N - 1,by omega⟩
  show fF (KN M) M b w=some f
  unfold fF ff
  simp only [Option.bind_some]
  rw [show (⟨(Fv.fn 54),(Fv.fn 55),(Fv.fn 56),(Fv.fn 57)⟩:bw)=E1 from rfl,(h M (by omega)).1]; rfl
end Go.Proofs.Ytlpndemhnpajiaa
namespace Go.Proofs.Ytlpndemhnpajiaa
set_option linter.all false
open Go.RowKit
namespace Fl
open QSort (wn aP iteT iteF iteB iteC sb)
open Wd (E1)
open Fw
def Both {α:Type} (Q:α→Prop) (x y:Option α):Prop:=∃ r,x=some r∧y=some r∧Q r
def LOk (c:Int) (k:ab) (f:aa):Prop:=(∀ N,45≤N→gf (KN N) N k c E1=some f∧eY (KN N) N k c=some f)∧Fd 21 f∧MB f
theorem l_of (c:Int):∃ F:ab→aa,∀ k,GoodB 20 k→LOk c k (F k):=by
  have:∀ k,∃ f,GoodB 20 k→LOk c k f:=by
    intro k
    by_cases h:GoodB 20 k
    · obtain ⟨f,hf⟩:=lay_ind 20 k c h
      exact ⟨f,fun _=>hf⟩
    · exact ⟨default,fun h2=>absurd h2 h⟩
  exact Classical.skolem.1 this
def aftM (f:aa):Int:=if f.Empty=true then 0 else w64 (f.After.Pos+f.After.Neg)
def szOf (m:ah):Int:=w64 (m.Pos+m.Neg)
theorem after_def (K:Kn) (n:Nat) (f:aa):pj K n f=some (aftM f):=by
  unfold pj aftM; cases f.Empty<;>rfl
theorem below_def (K:Kn) (n:Nat) (f:aa):pK K n f=some (aftM f):=by
  unfold pK aftM; cases f.Empty<;>rfl
def Ds (l:List aa):Prop:=∀ f∈l,Fd 21 f
theorem Ds.app {l:List aa} {f:aa} (h:Ds l) (hf:Fd 21 f):Ds (l++[f]):=by
  intro g hg
  rcases List.mem_append.1 hg with h1 | h1
  · exact h g h1
  · simp only [List.mem_cons,List.not_mem_nil,or_false] at h1; subst h1; exact hf
section
variable {N:Nat} (hN:20010≤N) (L:List ab) (hL:L.length≤20) (hG:∀ k∈L,GoodB 20 k) (c:Int) (F:ab→aa) (hF:∀ k,GoodB 20 k→LOk c k (F k))
include hN hL hG hF
theorem place (Q:(List aa)×Int→Prop) (IT:List aw) (ED T S:List Int) (y:Int) (k from_ to:Nat) (Z:List Int) (hE:ED.length=L.length) (hft:from_≤to) (hto:to≤L.length) (hZ:Z.length=to - from_) (hk:k<100)
    (hT:T.getD k default=(from_:Int)) (L2 L3:Int→Int→List aa→Option ((List aa)×Int)) (hc:∀ y out,Ds out→out.length≤to→Both Q (L2 y ((k+1:Nat):Int) out) (L3 y ((k+1:Nat):Int) out)):∀ (m m2 j:Nat) (x h:Int) (out:List aa),j≤Z.length→Z.length<m+j→Z.length<m2+j→Ds out→out.length≤from_+j →
    Both Q (nn (KN N) N c E1 L IT ED T y (k:Int) Z L2 m x h (j:Int) out) (ne (KN N) N L c IT ED S y (k:Int) (from_:Int) (to:Int) Z L3 m2 x h ((from_+j:Nat):Int) out):=by
  intro m
  induction m with
  | zero=>intro m2 j x h out h1 h2; omega
  | succ m ih =>
    intro m2 j x h out h1 h2 h3 hD hlen
    obtain ⟨m2,rfl⟩:∃ q,m2=q+1:=⟨m2 - 1,by omega⟩
    simp only [nn,sk,ne,sn]
    by_cases hj:j<Z.length
    · have hi:from_+j<L.length:=by omega
      have hg:=hG _ (dG hi)
      have hf:=hF (szM (L.getD (from_+j) default) (Z.getD j default)) (good_sz _ hg)
      have e1:w64 (T.getD k default+(j:Int))=((from_+j:Nat):Int):=by rw [hT]; exact wn (by omega) (by omega)
      have e2:w64 (((from_+j:Nat):Int) - (from_:Int))=(j:Int):=wn (by omega) (by omega)
      have e3:w64 ((j:Int)+1)=((j+1:Nat):Int):=wn (by omega) (by omega)
      have e4:w64 (((from_+j:Nat):Int)+1)=((from_+(j+1):Nat):Int):=wn (by omega) (by omega)
      have hfit:∀ g:aa,fits (out.length+([g]:List aa).length) 584=true:=fun g=>cg (by simp only [List.length_cons,List.length_nil]; omega) (by omega)
      rw [iteT (show (j:Int)<(Z.length:Int) by omega),iteT (show ((from_+j:Nat):Int)<(to:Int) by omega)]
      simp only [tnat,e1,e2,e3,e4,aP (show (0:Int)≤(j:Int)∧(j:Int)<(Z.length:Nat) by omega),aP (show (0:Int)≤((from_+j:Nat):Int)∧((from_+j:Nat):Int)<(L.length:Nat) by omega),hE,sized_def,rsized_def,sb,show E1.Layout=(Fv.fn 54) from rfl,env_lay (d:=20) hf.1 (show 20+26≤N by omega),(hf.1 N (by omega)).2,dc,dr,after_def,below_def,hfit,bB]
      have ea:aftM { F (szM (L.getD (from_+j) default) (Z.getD j default)) with X:=w64 ((F (szM (L.getD (from_+j) default) (Z.getD j default))).X+x),Y:=w64 (y+w64 ((F (szM (L.getD (from_+j) default) (Z.getD j default))).Before.Pos+(F (szM (L.getD (from_+j) default) (Z.getD j default))).Before.Neg)) }=aftM (F (szM (L.getD (from_+j) default) (Z.getD j default))):=rfl
      rw [ea]
      exact ih m2 (j+1) _ _ _ (by omega) (by omega) (by omega) (hD.app (qw rfl hf.2.1)) (by simp; omega)
    · rw [iteF (show ¬ (j:Int)<(Z.length:Int) by omega),iteF (show ¬ ((from_+j:Nat):Int)<(to:Int) by omega)]
      rw [wn (n:=(k:Int)+1) (k:=k+1) (by omega) (by omega)]
      exact hc _ out hD (by omega)
end
def seg {α:Type} (l:List α) (a b:Nat):List α:=List.drop a (List.take b l)
theorem seg_len {α:Type} (l:List α) {a b:Nat} (h:a≤b) (h2:b≤l.length):(seg l a b).length=b - a:=by unfold seg; simp; omega
theorem seg_succ (l:List Int) {a b:Nat} (h:a≤b) (h2:b<l.length):sm (seg l a (b+1))=sm (seg l a b)+l.getD b default:=sm_step l h h2
theorem rY {B:Int} (hB:0≤B) {l:List Int} (h:Small B l) (hl:l.length≤20) (a b:Nat) : -(20*B)≤sm (seg l a b)∧sm (seg l a b)≤20*B:=by
  have:=sm_bd hB (seg l a b) (fun x hx=>h x (List.mem_of_mem_take (List.mem_of_mem_drop hx)))
  have h2:((seg l a b).length:Int)≤20:=by unfold seg; simp; omega
  have h3:=Int.mul_le_mul_of_nonneg_right h2 hB
  omega
theorem space_p (K:Kn) (n:Nat) (c:Int) (E:bw) (L:List ab) (IT:List aw) (ED T:List Int) (y k:Int) (out:List aa) (to:Int) (L2:Int→Int→List aa→Option ((List aa)×Int)) (hc:0≤c∧c≤8388608) (G:List Int) (hG:Small 6291456 G) (hl:G.length≤20):∀ (m i:Nat),i≤G.length→G.length<m+i →
    pf K n c E L IT ED T y k out to L2 m (c - sm (G.take i)) G (G.length:Int) (i:Int)=(chk (slb (T.getD k.toNat default) to IT.length) (
    (g9 K n (List.drop ((T.getD k.toNat default)).toNat (List.take (to).toNat IT)) (c - sm G)).bind fun v114 =>
    nn K n c E L IT ED T y k v114 L2 n 0 0 0 out)):=by
  intro m
  induction m with
  | zero=>intro i h1 h2; omega
  | succ m ih =>
    intro i h1 h2
    simp only [pf,rZ]
    by_cases hi:i<G.length
    · have b1:=rY (by omega) hG hl 0 i; have b2:=rY (by omega) hG hl 0 (i+1)
      have e:=Sh.tW hi
      simp only [seg,List.drop_zero] at b1 b2
      rw [iteT (by omega),aP (by omega),tnat,bp (by omega) (by omega),wn (n:=(i:Int)+1) (k:=i+1) (by omega) (by omega),show c - sm (G.take i) - G.getD i default=c - sm (G.take (i+1)) by omega]
      exact ih (i+1) (by omega) (by omega)
    · have eg:G.take i=G:=List.take_of_length_le (by omega)
      rw [iteF (by omega),eg]
theorem space_r (K:Kn) (n:Nat) (c:Int) (L:List ab) (IT:List aw) (ED S:List Int) (y k:Int) (out:List aa) (from_ to:Nat) (L3:Int→Int→List aa→Option ((List aa)×Int)) (hc:0≤c∧c≤8388608) (hE:Small 6291456 ED) (hl:ED.length≤20) (hto:to≤ED.length):∀ (m i:Nat),from_≤i→i≤to→to<m+i →
    pw K n L c IT ED S y k out (from_:Int) L3 m (to:Int) (c - sm (seg ED from_ i)) (i:Int)=(chk (slb (from_:Int) (to:Int) IT.length) (
    (iW K n (List.drop ((from_:Int)).toNat (List.take ((to:Int)).toNat IT)) (c - sm (seg ED from_ to))).bind fun v91 =>
    ne K n L c IT ED S y k (from_:Int) (to:Int) v91 L3 n 0 0 (from_:Int) out)):=by
  intro m
  induction m with
  | zero=>intro i h0 h1 h2; omega
  | succ m ih =>
    intro i h0 h1 h2
    simp only [pw,sA]
    by_cases hi:i<to
    · have b1:=rY (by omega) hE hl from_ i; have b2:=rY (by omega) hE hl from_ (i+1)
      have e:=seg_succ ED h0 (show i<ED.length by omega)
      rw [iteT (by omega),aP (by omega),tnat,bp (by omega) (by omega),wn (n:=(i:Int)+1) (k:=i+1) (by omega) (by omega),show c - sm (seg ED from_ i) - ED.getD i default=c - sm (seg ED from_ (i+1)) by omega]
      exact ih (i+1) (by omega) (by omega) (by omega)
    · obtain rfl:i=to:=by omega
      rw [iteF (by omega)]
section
variable {N:Nat} (hN:20010≤N) (L:List ab) (hL:L.length≤20) (hG:∀ k∈L,GoodB 20 k) (c:Int) (hc:0≤c∧c≤8388608) (F:ab→aa) (hF:∀ k,GoodB 20 k→LOk c k (F k)) (IT:List aw) (ED S:List Int) (hI:IT.length=L.length) (hE:ED.length=L.length) (hES:Small 6291456 ED) (hS:St L.length S)
include hN hL hG hF hc hI hE hES hS
theorem lines:∀ (m m2 k:Nat) (y:Int) (out:List aa),k≤S.length→S.length<m+k→S.length<m2+k→Ds out→out.length≤20 →
    (∀ (hk:0<k),∃ x:Nat,(S++[(L.length:Int)]).getD k default=(x:Int)∧out.length≤x)→(k=0→out=[]) →
    Both (fun r=>Ds r.1∧r.1.length≤20) (gz (KN N) N c E1 L IT ED S m y (k:Int) out) (kE (KN N) N L c IT ED S m2 y (k:Int) out):=by
  intro m
  induction m with
  | zero=>intro m2 k y out h1 h2; omega
  | succ m ih =>
    intro m2 k y out h1 h2 h3 hD hlen hx h0
    obtain ⟨m2,rfl⟩:∃ q,m2=q+1:=⟨m2 - 1,by omega⟩
    simp only [gz,rV,kE,sD]
    have hsl:=hS.len
    have ek:w64 ((k:Int)+1)=((k+1:Nat):Int):=wn (by omega) (by omega)
    have tl:(S++[(L.length:Int)]).length=S.length+1:=by simp
    rw [ek,tl]
    by_cases hk:k<S.length
    · obtain ⟨a,b,e1,e2,hab,hb⟩:=hS.get k hk
      have e1':S.getD k default=(a:Int):=by rw [←e1,bc hk,bc (by rw [tl]; omega)]; simp [hk]
      rw [iteT (show (k:Int)<(S.length:Int) by omega),aP (show (0:Int)≤(k:Int)∧(k:Int)<(S.length:Nat) by omega),sb,sb]
      have ito:(if decide (((k+1:Nat):Int)<(S.length:Int))=true then chk (inb ((k+1:Nat):Int) S.length) (kJ (KN N) N c E1 L IT ED S y (k:Int) out (gz (KN N) N c E1 L IT ED S m) (S.getD (((k+1:Nat):Int)).toNat default)) else kJ (KN N) N c E1 L IT ED S y (k:Int) out (gz (KN N) N c E1 L IT ED S m) (L.length:Int))=kJ (KN N) N c E1 L IT ED S y (k:Int) out (gz (KN N) N c E1 L IT ED S m) (b:Int):=by
        by_cases h4:k+1<S.length
        · rw [iteT (by omega),aP (by omega),tnat]
          congr 1
          rw [←e2,bc h4,bc (by rw [tl]; omega)]; simp [h4]
        · rw [iteF (by omega)]
          congr 1
          rw [←e2,bc (by rw [tl]; omega)]
          rw [List.getElem_append_right (by omega)]; simp
      rw [ito,iteT (show ((k+1:Nat):Int)<((S.length+1:Nat):Int) by omega),aP (show (0:Int)≤(k:Int)∧(k:Int)<(S.length+1:Nat) by omega),tnat,e1,sb,aP (show (0:Int)≤((k+1:Nat):Int)∧((k+1:Nat):Int)<(S.length+1:Nat) by omega),tnat,e2]
      unfold kJ
      rw [tnat,e1',tnat,tnat,Sh.oN (by omega) (by omega) (by omega),bB]
      have hseg:Small 6291456 (seg ED a b):=fun x hx=>hES x (List.mem_of_mem_take (List.mem_of_mem_drop hx))
      have hsegl:=seg_len ED hab (show b≤ED.length by omega)
      have p1:=space_p (KN N) N c E1 L IT ED S y (k:Int) out (b:Int) (gz (KN N) N c E1 L IT ED S m) hc (seg ED a b) hseg (by omega) N 0 (by omega) (by omega)
      rw [List.take_zero,show sm []=0 from rfl,Int.sub_zero,show ((0:Nat):Int)=0 from rfl,tnat,e1',tnat,tnat,Sh.oN (by omega) (by omega) (by omega),bB] at p1
      have r1:=space_r (KN N) N c L IT ED S y (k:Int) out a b (kE (KN N) N L c IT ED S m2) hc hES (by omega) (by omega) N a (Nat.le_refl _) hab (by omega)
      rw [show seg ED a a=[] from List.drop_eq_nil_of_le (by simp; omega),show sm []=0 from rfl,Int.sub_zero,tnat,tnat,Sh.oN (by omega) (by omega) (by omega),bB] at r1
      rw [show List.drop a (List.take b ED)=seg ED a b from rfl,p1,r1]
      have bd:=rY (by omega) hES (by omega) a b
      have il:(List.drop a (List.take b IT)).length=b - a:=by simp; omega
      rw [Rs.pc (List.drop a (List.take b IT)) (by omega) (by omega) (by omega) hN,Rs.oq (List.drop a (List.take b IT)) (by omega) (by omega) (by omega),sb,sb]
      have hZ:(Rs.resolve (List.drop a (List.take b IT)) (c - sm (seg ED a b))).length=b - a:=by rw [Rs.yC,il]
      have hol:out.length≤a:=by
        rcases Nat.eq_zero_or_pos k with hk0 | hk0
        · rw [h0 hk0]; simp
        · obtain ⟨x,x1,x2⟩:=hx hk0
          rw [e1] at x1; omega
      have:=place hN L hL hG c F hF (fun r=>Ds r.1∧r.1.length≤20) IT ED S S y k a b (Rs.resolve (List.drop a (List.take b IT)) (c - sm (seg ED a b))) hE hab hb hZ (by omega) e1' (gz (KN N) N c E1 L IT ED S m) (kE (KN N) N L c IT ED S m2) (fun y' out' hD' hl'=>ih m2 (k+1) y' out' (by omega) (by omega) (by omega) hD' (by omega) (fun _=>⟨b,e2,hl'⟩) (fun h=>by omega)) N N 0 0 0 out (by omega) (by omega) (by omega) hD (by omega)
      exact this
    · rw [iteF (by omega),sb,iteF (by omega)]
      exact ⟨_,rfl,rfl,hD,hlen⟩
end
end Fl
end Go.Proofs.Ytlpndemhnpajiaa
