/- Plain laws about the plain functions: words for all of them. No program in sight. -/
import Derived.Test.YtolhpahjgddjkaaCmGf
import Derived.Test.YtolhpahjgddjkaaCmGop
namespace Go.Proofs.Ytolhpahjgddjkaa
set_option linter.all false
open Go.RowKit
theorem bv {n:Int} (h1 : -9223372036854775808≤n) (h2:n≤9223372036854775807):w64 n=n:=by
  unfold w64; rw [IntKind.wrap_i64]; omega
theorem bx {α:Type} (x:Option α):chk true x=x:=rfl
theorem inb_of {i:Int} {n:Nat} (h0:0≤i) (h1:i<n):inb i n=true:=by simp [inb,h0,h1]
theorem aS {α:Type} [Inhabited α] {L:List α} {k:Nat} (h:k<L.length):L.getD k default=L[k]:=by simp [List.getD_eq_getElem?_getD,List.getElem?_eq_getElem h]
theorem fits_of {n b:Nat} (h:n*b≤140737488355328) (hb:0<b):fits n b=true:=by
  have h1:n≤n*b:=Nat.le_mul_of_pos_right n hb
  have h2:n≤9223372036854775807:=by omega
  simp only [fits,Bool.and_eq_true,decide_eq_true_eq]
  exact ⟨h2,h⟩
end Go.Proofs.Ytolhpahjgddjkaa
namespace Go.Proofs.Ytolhpahjgddjkaa
set_option linter.all false
open Go.RowKit
def mix {α:Type} (i:Nat) (N O:List α):List α:=N.take i++O.drop i
variable {α:Type} [Inhabited α] {i:Nat} {N O:List α}
theorem iv (h:N.length=O.length):(mix i N O).length=O.length:=by unfold mix; simp; omega
theorem j1:mix 0 N O=O:=by simp [mix]
theorem gT (h:N.length=O.length):mix O.length N O=N:=by unfold mix; rw [List.take_of_length_le (by omega),List.drop_eq_nil_of_le (Nat.le_refl _),List.append_nil]
theorem mix_at (h:N.length=O.length) (hi:i<O.length):(mix i N O).getD i default=O.getD i default:=by
  unfold mix
  rw [List.drop_eq_getElem_cons hi,List.getD_eq_getElem?_getD,List.getElem?_append_right (by simp; omega)]
  have:i - (N.take i).length=0:=by simp; omega
  rw [this,aS hi]; rfl
theorem mix_succ (h:N.length=O.length) (hi:i<O.length):mix (i+1) N O=N.take i++N.getD i default::O.drop (i+1):=by
  unfold mix
  rw [List.take_succ_eq_append_getElem (by omega:i<N.length),aS (by omega:i<N.length),List.append_assoc]
  rfl
theorem gZ (h:N.length=O.length) (hi:i<O.length):List.set (mix i N O) i (N.getD i default)=mix (i+1) N O:=by
  rw [mix_succ h hi]
  unfold mix
  rw [List.drop_eq_getElem_cons hi]
  have:i=(N.take i).length+0:=by simp; omega
  conv=>lhs; arg 2; rw [this]
  rw [List.set_append_right _ _ (by omega),Nat.add_sub_cancel_left,List.set_cons_zero]
def tab (n:Nat) (f:Nat→α):List α:=(List.range n).map f
theorem iP (n:Nat) (f:Nat→α):(tab n f).length=n:=by simp [tab]
theorem tab_at {n:Nat} {f:Nat→α} {k:Nat} (h:k<n):(tab n f).getD k default=f k:=by
  rw [aS (by rw [iP]; exact h)]; simp [tab]
theorem cV {L M:List α} (h:L.length=M.length) (e:∀ k,k<M.length→L.getD k default=M.getD k default):L=M:=by
  refine List.ext_getElem h (fun k h1 h2=>?_)
  have:=e k h2
  rw [aS h1,aS h2] at this; exact this
theorem kU {n:Nat} {f:Nat→α}:tab (n+1) f=tab n f++[f n]:=by simp [tab,List.range_succ]
end Go.Proofs.Ytolhpahjgddjkaa
namespace Go.Proofs.Ytolhpahjgddjkaa
set_option linter.all false
open Go.RowKit
set_option maxRecDepth 20000
theorem tnat (i:Nat):((i:Int)).toNat=i:=by omega
def sm:List Int→Int
  | []=>0
  | x::r=>x+sm r
theorem dZ:∀ (a b:List Int),sm (a++b)=sm a+sm b
  | [],b=>by simp [sm]
  | x::r,b=>by simp only [List.cons_append,sm,dZ r b]; omega
end Go.Proofs.Ytolhpahjgddjkaa
namespace Go.Proofs.Ytolhpahjgddjkaa.QSort
set_option linter.all false
open Go.RowKit
theorem au {α:Type} {i:Int} {m:Nat} {x:Option α} (h:0≤i∧i<m):chk (inb i m) x=x:=by rw [inb_of h.1 h.2]; rfl
theorem gd {A B:List Int} {x:Int} {i:Nat} (h:i=A.length):(A++x::B).getD i default=x:=by subst h; simp [List.getD_eq_getElem?_getD]
theorem gd1 {A B:List Int} {x y:Int} {i:Nat} (h:i=A.length+1):(A++x::y::B).getD i default=y:=by subst h; simp [List.getD_eq_getElem?_getD]
theorem sw {A B:List Int} {x y:Int} {i j:Nat} (h:i=A.length) (hj:j=A.length+1):List.set (List.set (A++x::y::B) j x) i y=A++y::x::B:=by subst h; subst hj; simp [List.set_append]
theorem sw' {A B:List Int} {x y:Int} {i j:Nat} (h:i=A.length) (hj:j=A.length+1):List.set (List.set (A++x::y::B) i y) j x=A++y::x::B:=by subst h; subst hj; simp [List.set_append]
theorem wn {n:Int} {k:Nat} (h:n=k) (hk:k≤4000000000):w64 n=(k:Int):=by subst h; exact bv (by omega) (by omega)
theorem half {i j:Nat} (h:i+j≤4000000000):w64 ((IntKind.wrap .u64 (w64 ((i:Int)+(j:Int)))) / 2)=(((i+j) / 2:Nat):Int):=by
  rw [wn (n:=(i:Int)+(j:Int)) (k:=i+j) (by omega) (by omega),IntKind.wrap_u64]
  exact wn (by omega) (by omega)
theorem iteT {α:Type} {p:Prop} [Decidable p] {x y:α} (h:p):(if decide p=true then x else y)=x:=by simp [h]
theorem iteF {α:Type} {p:Prop} [Decidable p] {x y:α} (h:¬ p):(if decide p=true then x else y)=y:=by simp [h]
theorem iteB {α:Type} {p:Prop} [Decidable p] {x y:α} (h:¬ p):(if (!decide p)=true then x else y)=x:=by simp [h]
theorem iteC {α:Type} {p:Prop} [Decidable p] {x y:α} (h:p):(if (!decide p)=true then x else y)=y:=by simp [h]
theorem sb {α β:Type} (x:α) (k:α→Option β):(some x).bind k=k x:=rfl
structure Cmp (K:Kn) (f:Fv) (D:Int→Prop) (key:Int→Int):Prop where
  ok:∀ a b,D a→D b→∃ c,K.bZ f a b=some c∧(c<0↔key a<key b)
def R (key:Int→Int) (a b:Int):Prop:=key a<key b∨key a=key b∧a<b
theorem R.trans {key:Int→Int} {a b c:Int} (h:R key a b) (h2:R key b c):R key a c:=by unfold R at *; omega
theorem R.irr {key:Int→Int} {a:Int} (h:R key a a):False:=by unfold R at *; omega
theorem R.asymm {key:Int→Int} {a b:Int} (h:R key a b) (h2:R key b a):False:=by unfold R at *; omega
theorem R.of_lt {key:Int→Int} {a b:Int} (h:b<a):key a<key b↔R key a b:=by unfold R; omega
theorem R.not {key:Int→Int} {a b:Int} (h:a≠b) (h2:¬ R key a b):R key b a:=by unfold R at *; omega
variable {K:Kn} {n:Nat} {f:Fv} {D:Int→Prop} {key:Int→Int}
theorem ins_l2 (hC:Cmp K f D key) (P T:List Int) (b i:Int) (L1:Int→List Int→Option (List Int)):∀ (m:Nat) (S1 S2:List Int) (x:Int),S1.length<m→(∀ y∈S1,y<x∧D y)→D x→(S1++S2).Pairwise (R key)→(∀ y∈S2,R key x y)→P.length+S1.length≤10000 →
    ∃ S',S'.Perm (x::(S1++S2))∧S'.Pairwise (R key)∧fU K n ((P.length:Nat):Int) b f i L1 m ((P.length+S1.length:Nat):Int) (P++S1++x::S2++T)=L1 (w64 (i+1)) (P++S'++T):=by
  intro m
  induction m with
  | zero=>intro S1 S2 x h; omega
  | succ m ih =>
    intro S1 S2 x hm hS hx hp h2 hl
    simp only [fU,iR]
    rcases List.eq_nil_or_concat S1 with rfl | ⟨S0,y,rfl⟩
    · refine ⟨x::S2,by simp,?_,?_⟩
      · rw [List.pairwise_cons]; exact ⟨h2,by simpa using hp⟩
      · rw [iteF (by simp)]
        simp [gj]
    · simp only [List.concat_eq_append] at *
      have hy:=hS y (by simp)
      simp only [List.length_append,List.length_cons,List.length_nil] at hm hl
      have e1:P++(S0++[y])++x::S2++T=(P++S0)++y::x::(S2++T):=by simp
      have k1:((P.length+(S0++[y]).length:Nat):Int)=((P.length+S0.length+1:Nat):Int):=by simp; omega
      have hlen:((P++S0)++y::x::(S2++T)).length≥P.length+S0.length+2:=by simp; omega
      rw [e1,k1,iteT (by omega)]
      rw [wn (n:=((P.length+S0.length+1:Nat):Int) - 1) (k:=P.length+S0.length) (by omega) (by omega)]
      rw [au (by omega),au (by omega)]
      simp only [Int.toNat_natCast]
      rw [gd1 (i:=P.length+S0.length+1) (by simp),gd (i:=P.length+S0.length) (by simp)]
      obtain ⟨c,hc,hlt⟩:=hC.ok x y hx hy.2
      rw [hc,sb]
      simp only [gj]
      by_cases hr:c<0
      · rw [iteT hr]
        rw [wn (n:=((P.length+S0.length+1:Nat):Int) - 1) (k:=P.length+S0.length) (by omega) (by omega)]
        simp only [List.length_set]
        rw [au (by omega),au (by omega),au (by omega),au (by omega)]
        simp only [Int.toNat_natCast]
        rw [gd1 (i:=P.length+S0.length+1) (by simp),gd (i:=P.length+S0.length) (by simp),sw (by simp) (by simp)]
        have hxy:R key x y:=(R.of_lt hy.1).1 (hlt.1 hr)
        obtain ⟨S',p1,p2,p3⟩:=ih S0 (y::S2) x (by omega) (fun z hz=>hS z (by simp [hz])) hx (by simpa using hp)
          (fun z hz=>by
            rcases List.mem_cons.1 hz with rfl | hz
            · exact hxy
            · exact h2 z hz) (by omega)
        refine ⟨S',by simpa using p1,p2,?_⟩
        have e3:P++S0++x::y::(S2++T)=P++S0++x::(y::S2)++T:=by simp
        rw [e3,p3]
      · rw [iteF hr]
        have hyx:R key y x:=R.not (by omega) (fun h=>hr (hlt.2 ((R.of_lt hy.1).2 h)))
        refine ⟨S0++y::x::S2,?_,?_,by simp⟩
        · exact (List.Perm.of_eq (by simp)).trans (List.perm_middle (l₁:=S0++[y]) (a:=x) (l₂:=S2))
        · simp only [List.append_assoc,List.cons_append,List.nil_append,List.pairwise_append,List.pairwise_cons,List.mem_cons] at hp ⊢
          obtain ⟨q1,⟨q2,q3⟩,q4⟩:=hp
          refine ⟨q1,⟨?_,h2,q3⟩,?_⟩
          · rintro z (rfl | hz)
            · exact hyx
            · exact q2 z hz
          · rintro u hu z (rfl | rfl | hz)
            · exact q4 u hu z (.inl rfl)
            · exact (q4 u hu y (.inl rfl)).trans hyx
            · exact q4 u hu z (.inr hz)
theorem ins_l3 (hC:Cmp K f D key) (P Q:List Int) (hn:10001<n):∀ (m:Nat) (S T:List Int),T.length<m→S≠[]→(∀ y∈S,∀ z∈T,y<z)→T.Pairwise (· < ·)→(∀ y∈S++T,D y)→S.Pairwise (R key)→P.length+S.length+T.length≤10000 →
    ∃ S',S'.Perm (S++T)∧S'.Pairwise (R key)∧d6 K n ((P.length:Nat):Int) ((P.length+S.length+T.length:Nat):Int) f m ((P.length+S.length:Nat):Int) (P++S++T++Q)=some (P++S'++Q):=by
  intro m
  induction m with
  | zero=>intro S T h; omega
  | succ m ih =>
    intro S T hm hne hST hT hD hS hl
    simp only [d6,gl]
    cases T with
    | nil=>exact ⟨S,by simp,hS,by rw [iteF (by simp)]; simp⟩
    | cons x T =>
      simp only [List.length_cons] at hm hl ⊢
      rw [iteT (by omega)]
      rw [List.pairwise_cons] at hT
      obtain ⟨S',p1,p2,p3⟩:=ins_l2 (n:=n) hC P (T++Q) ((P.length+S.length+(T.length+1):Nat):Int) ((P.length+S.length:Nat):Int)
        (d6 K n ((P.length:Nat):Int) ((P.length+S.length+(T.length+1):Nat):Int) f m) n S [] x (by omega) (fun y hy=>⟨hST y hy x (by simp),hD y (by simp [hy])⟩) (hD x (by simp)) (by simpa using hS) (by simp) (by omega)
      have e:P++S++[x]++(T++Q)=P++S++x::T++Q:=by simp
      rw [e] at p3
      rw [p3,wn (k:=P.length+(S.length+1)) (by omega) (by omega)]
      simp only [List.append_nil] at p1
      have hlen:S'.length=S.length+1:=by rw [p1.length_eq]; simp
      have hmem:∀ y,y∈S'↔y=x∨y∈S:=fun y=>by rw [p1.mem_iff]; simp
      obtain ⟨S'',q1,q2,q3⟩:=ih S' T (by omega) (by intro h; subst h; simp at hlen) (fun y hy z hz=>by
          rcases (hmem y).1 hy with rfl | hy
          · exact hT.1 z hz
          · exact hST y hy z (by simp [hz])) hT.2 (fun y hy=>by
          rcases List.mem_append.1 hy with hy | hy
          · rcases (hmem y).1 hy with rfl | hy
            · exact hD y (by simp)
            · exact hD y (by simp [hy])
          · exact hD y (by simp [hy])) p2 (by omega)
      refine ⟨S'',?_,q2,?_⟩
      · refine q1.trans ((p1.append_right T).trans ?_)
        exact (List.perm_middle (l₁:=S) (a:=x) (l₂:=T)).symm
      · rw [hlen,show P.length+(S.length+1)+T.length=P.length+S.length+(T.length+1) by omega,show P++S'++T++Q=P++S'++(T++Q) by simp] at q3
        exact q3
theorem ins_ok (hC:Cmp K f D key) (P S Q:List Int) (hn:10001<n) (hS:S.Pairwise (· < ·)) (hD:∀ y∈S,D y) (hl:P.length+S.length≤10000) :
    ∃ S',S'.Perm S∧S'.Pairwise (R key)∧fA K n (P++S++Q) ((P.length:Nat):Int) ((P.length+S.length:Nat):Int) f=some (P++S'++Q):=by
  unfold fA
  rw [wn (k:=P.length+1) (by omega) (by omega)]
  cases S with
  | nil =>
    obtain ⟨m,rfl⟩:∃ m,n=m+1:=⟨n - 1,by omega⟩
    refine ⟨[],by simp,by simp,?_⟩
    simp only [d6,gl]
    rw [iteF (by simp; omega)]
  | cons x T =>
    rw [List.pairwise_cons] at hS
    simp only [List.length_cons] at hl ⊢
    obtain ⟨S',p1,p2,p3⟩:=ins_l3 (n:=n) hC P Q hn n [x] T (by omega) (by simp) (by simpa using hS.1) hS.2 (by simpa using hD) (by simp) (by simp; omega)
    refine ⟨S',by simpa using p1,p2,?_⟩
    simp only [List.length_cons,List.length_nil,Nat.zero_add] at p3
    rw [show P.length+(T.length+1)=P.length+1+T.length by omega,show P++x::T++Q=P++[x]++T++Q by simp]
    exact p3
theorem swap_l1 (P M Q:List Int):∀ (m:Nat) (X1 Y1 X2 Y2:List Int),X2.length<m→X1.length=Y1.length→X2.length=Y2.length→(P++X1++X2++M++Y1++Y2).length≤10000 →
    fg K n ((P.length:Nat):Int) ((P.length+X1.length+X2.length+M.length:Nat):Int) ((X1.length+X2.length:Nat):Int) m ((X1.length:Nat):Int) (P++Y1++X2++M++X1++Y2++Q)=some (P++Y1++Y2++M++X1++X2++Q):=by
  intro m
  induction m with
  | zero=>intro X1 Y1 X2 Y2 h; omega
  | succ m ih =>
    intro X1 Y1 X2 Y2 hm h1 h2 hl
    simp only [fg,i8]
    cases X2 with
    | nil =>
      cases Y2 with
      | nil=>rw [iteF (by simp)]
      | cons=>simp at h2
    | cons x X2 =>
      cases Y2 with
      | nil=>simp at h2
      | cons y Y2 =>
        simp only [List.length_append,List.length_cons] at hm h1 h2 hl ⊢
        rw [iteT (by omega),wn (n:=((P.length+X1.length+(X2.length+1)+M.length:Nat):Int)+((X1.length:Nat):Int)) (k:=P.length+X1.length+(X2.length+1)+M.length+X1.length) (by omega) (by omega),
          wn (n:=((P.length:Nat):Int)+((X1.length:Nat):Int)) (k:=P.length+X1.length) (by omega) (by omega)]
        simp only [List.length_set,List.length_append,List.length_cons]
        rw [au (by omega),au (by omega),au (by omega),au (by omega)]
        simp only [Int.toNat_natCast]
        have e1:P++Y1++x::X2++M++X1++y::Y2++Q=(P++Y1)++x::(X2++M++X1++y::(Y2++Q)):=by simp
        have e2:P++Y1++x::X2++M++X1++y::Y2++Q=(P++Y1++x::X2++M++X1)++y::(Y2++Q):=by simp
        have g1:List.getD (P++Y1++x::X2++M++X1++y::Y2++Q) (P.length+X1.length) default=x:=by rw [e1]; exact gd (by simp; omega)
        have g2:List.getD (P++Y1++x::X2++M++X1++y::Y2++Q) (P.length+X1.length+(X2.length+1)+M.length+X1.length) default=y:=by rw [e2]; exact gd (by simp; omega)
        rw [g1,g2]
        have s1:List.set (P++Y1++x::X2++M++X1++y::Y2++Q) (P.length+X1.length) y=(P++Y1++y::X2++M++X1)++y::(Y2++Q):=by
          rw [e1,show P.length+X1.length=(P++Y1).length by simp; omega]; simp
        have s2:List.set ((P++Y1++y::X2++M++X1)++y::(Y2++Q)) (P.length+X1.length+(X2.length+1)+M.length+X1.length) x=P++(Y1++[y])++X2++M++(X1++[x])++Y2++Q:=by
          rw [show P.length+X1.length+(X2.length+1)+M.length+X1.length=(P++Y1++y::X2++M++X1).length by simp; omega]; simp
        rw [s1,s2,wn (n:=((X1.length:Nat):Int)+1) (k:=(X1++[x]).length) (by simp) (by simp; omega)]
        have:=ih (X1++[x]) (Y1++[y]) X2 Y2 (by omega) (by simp; omega) (by omega) (by simp; omega)
        simp only [List.length_append,List.length_cons,List.length_nil,Nat.zero_add] at this ⊢
        rw [show P.length+X1.length+(X2.length+1)+M.length=P.length+(X1.length+1)+X2.length+M.length by omega,show X1.length+(X2.length+1)=X1.length+1+X2.length by omega,this]
        simp
theorem swap_ok (P X M Y Q:List Int) (hXY:X.length=Y.length) (hl:(P++X++M++Y).length≤10000) (hn:10001<n) {b k:Int} (hb:b=((P.length+X.length+M.length:Nat):Int)) (hk:k=((X.length:Nat):Int)) :
    eU K n (P++X++M++Y++Q) ((P.length:Nat):Int) b k f=some (P++Y++M++X++Q):=by
  subst hb; subst hk
  unfold eU
  have:=swap_l1 (K:=K) (n:=n) P M Q n [] [] X Y (by simp at hl; omega) rfl hXY (by simpa using hl)
  simpa using this
theorem rot_l2 (hn:10001<n) (mid:Nat):∀ (m:Nat) (P U V Q:List Int),U.length+V.length<m→P.length+U.length=mid→0<U.length→0<V.length→(P++U++V).length≤10000 →
    fv K n (mid:Int) f m ((U.length:Nat):Int) ((V.length:Nat):Int) (P++U++V++Q)=some (P++V++U++Q):=by
  intro m
  induction m with
  | zero=>intro P U V Q h; omega
  | succ m ih =>
    intro P U V Q hm hmid hU hV hl
    simp only [List.length_append] at hl
    simp only [fv,iS]
    rw [wn (n:=(mid:Int) - ((U.length:Nat):Int)) (k:=P.length) (by omega) (by omega)]
    by_cases he:U.length=V.length
    · rw [if_neg (by simp; omega)]
      have:=swap_ok (K:=K) (n:=n) (f:=f) P U [] V Q he (by simp; omega) hn (b:=(mid:Int)) (k:=((U.length:Nat):Int)) (by simp; omega) rfl
      simp only [List.append_nil] at this
      rw [this,sb]
    · rw [if_pos (by simp; omega)]
      by_cases hgt:U.length>V.length
      · rw [iteT (by omega),wn (n:=((U.length:Nat):Int) - ((V.length:Nat):Int)) (k:=U.length - V.length) (by omega) (by omega)]
        -- U=U1++U2 with |U1| = |V|
        obtain ⟨U1,U2,rfl,hu⟩:∃ U1 U2,U=U1++U2∧U1.length=V.length:=⟨U.take V.length,U.drop V.length,by simp,by simp; omega⟩
        simp only [List.length_append] at hmid hU hl hm hgt he ⊢
        have:=swap_ok (K:=K) (n:=n) (f:=f) P U1 U2 V Q hu (by simp; omega) hn (b:=(mid:Int)) (k:=((V.length:Nat):Int)) (by simp; omega) (by omega)
        rw [show P++(U1++U2)++V++Q=P++U1++U2++V++Q by simp,this,sb]
        simp only [gu]
        have h2:=ih (P++V) U2 U1 Q (by omega) (by simp; omega) (by omega) (by omega) (by simp; omega)
        rw [show U1.length+U2.length - V.length=U2.length by omega,← hu,h2]
        simp
      · rw [iteF (by omega),wn (n:=(mid:Int)+((V.length:Nat):Int)) (k:=mid+V.length) (by omega) (by omega),wn (n:=((mid+V.length:Nat):Int) - ((U.length:Nat):Int)) (k:=mid+V.length - U.length) (by omega) (by omega),
          wn (n:=((V.length:Nat):Int) - ((U.length:Nat):Int)) (k:=V.length - U.length) (by omega) (by omega)]
        obtain ⟨V1,V2,rfl,hv⟩:∃ V1 V2,V=V1++V2∧V2.length=U.length:=⟨V.take (V.length - U.length),V.drop (V.length - U.length),by simp,by simp; omega⟩
        simp only [List.length_append] at hl hm hgt he hV ⊢
        have:=swap_ok (K:=K) (n:=n) (f:=f) P U V1 V2 Q (by omega) (by simp; omega) hn (b:=((mid+(V1.length+V2.length) - U.length:Nat):Int)) (k:=((U.length:Nat):Int)) (by omega) rfl
        rw [show P++U++(V1++V2)++Q=P++U++V1++V2++Q by simp,this,sb]
        simp only [gu]
        have h2:=ih P V2 V1 (U++Q) (by omega) (by omega) (by omega) (by omega) (by simp; omega)
        rw [show V1.length+V2.length - U.length=V1.length by omega,← hv,show P++V2++V1++U++Q=P++V2++V1++(U++Q) by simp,h2]
        simp
theorem rot_ok (P U V Q:List Int) (hn:10001<n) (hU:0<U.length) (hV:0<V.length) (hl:(P++U++V).length≤10000) :
    i7 K n (P++U++V++Q) ((P.length:Nat):Int) ((P.length+U.length:Nat):Int) ((P.length+U.length+V.length:Nat):Int) f=some (P++V++U++Q):=by
  unfold i7
  simp only [List.length_append] at hl
  rw [wn (k:=U.length) (by omega) (by omega),wn (k:=V.length) (by omega) (by omega)]
  exact rot_l2 hn _ n P U V Q (by omega) rfl hU hV (by simp; omega)
end Go.Proofs.Ytolhpahjgddjkaa.QSort
namespace Go.Proofs.Ytolhpahjgddjkaa.QSort
set_option linter.all false
open Go.RowKit
variable {K:Kn} {n:Nat} {f:Fv} {D:Int→Prop} {key:Int→Int}
def at_ (L:List Int) (k:Nat):Int:=L.getD k default
theorem at_app {P A Q:List Int} {k:Nat} (h:k<A.length) {i:Nat} (hi:i=P.length+k):(P++A++Q).getD i default=at_ A k:=by
  subst hi
  simp [at_,List.getD_eq_getElem?_getD,List.getElem?_append,h,show ¬ (P.length+k<P.length) by omega]
theorem ir {A:List Int} {k:Nat} (h:k<A.length):at_ A k∈A:=by unfold at_; rw [aS h]; exact List.getElem_mem _
theorem mem_at {A:List Int} {x:Int} (h:x∈A):∃ k,k<A.length∧at_ A k=x:=by
  obtain ⟨k,hk,e⟩:=List.getElem_of_mem h
  exact ⟨k,hk,by unfold at_; rw [aS hk,e]⟩
theorem bg {r:Int→Int→Prop} {A:List Int} (h:A.Pairwise r) {i j:Nat} (hij:i<j) (hj:j<A.length):r (at_ A i) (at_ A j):=by
  unfold at_; rw [aS (by omega:i<A.length),aS hj]
  exact List.pairwise_iff_getElem.1 h i j (by omega) hj hij
theorem at_take {A:List Int} {t k:Nat} (h:k<t):at_ (A.take t) k=at_ A k:=by simp [at_,List.getD_eq_getElem?_getD,List.getElem?_take,h]
theorem at_drop {A:List Int} {t k:Nat}:at_ (A.drop t) k=at_ A (t+k):=by simp [at_,List.getD_eq_getElem?_getD]
theorem ig {A:List Int} {t:Nat} {x:Int} (h:x∈A.take t):∃ k,k<t∧k<A.length∧at_ A k=x:=by
  obtain ⟨k,hk,e⟩:=mem_at h
  simp at hk
  exact ⟨k,by omega,by omega,by rw [←e,at_take (by omega)]⟩
theorem fL {A:List Int} {t:Nat} {x:Int} (h:x∈A.drop t):∃ k,t≤k∧k<A.length∧at_ A k=x:=by
  obtain ⟨k,hk,e⟩:=mem_at h
  simp at hk
  exact ⟨t+k,by omega,by omega,by rw [←e,at_drop]⟩
theorem put_in {x:Int} {B:List Int} {t:Nat} (hB:B.Pairwise (R key)) (h1:∀ k,k<t→k<B.length→R key (at_ B k) x) (h2:∀ k,t≤k→k<B.length→R key x (at_ B k)):(B.take t++x::B.drop t).Pairwise (R key):=by
  rw [List.pairwise_append,List.pairwise_cons]
  refine ⟨hB.take,⟨fun y hy=>?_,hB.drop⟩,fun u hu v hv=>?_⟩
  · obtain ⟨k,k1,k2,rfl⟩:=fL hy; exact h2 k k1 k2
  · obtain ⟨i,i1,i2,rfl⟩:=ig hu
    rcases List.mem_cons.1 hv with rfl | hv
    · exact h1 i i1 i2
    · obtain ⟨k,k1,k2,rfl⟩:=fL hv; exact bg hB (by omega) k2
theorem go_right (v:Int):∀ (m:Nat) (P X Q:List Int) (x:Int),X.length<m→(P++X).length≤10000→v=((P.length+X.length+1:Nat):Int) →
    fd K n v m ((P.length:Nat):Int) (P++x::X++Q)=some (P++X++x::Q):=by
  intro m
  induction m with
  | zero=>intro P X Q x h; omega
  | succ m ih =>
    intro P X Q x hm hl hv
    subst hv
    simp only [List.length_append] at hl
    simp only [fd,jl]
    rw [wn (n:=((P.length+X.length+1:Nat):Int) - 1) (k:=P.length+X.length) (by omega) (by omega)]
    cases X with
    | nil=>rw [iteF (by simp)]; simp
    | cons y X =>
      simp only [List.length_cons] at *
      rw [iteT (by omega),wn (n:=((P.length:Nat):Int)+1) (k:=P.length+1) (by omega) (by omega)]
      simp only [List.length_set,List.length_append,List.length_cons]
      rw [au (by omega),au (by omega),au (by omega),au (by omega)]
      simp only [Int.toNat_natCast]
      rw [show P++x::y::X++Q=P++x::y::(X++Q) by simp,gd1 rfl,gd rfl,sw' rfl rfl]
      have:=ih (P++[y]) X Q x (by omega) (by simp; omega) (by simp; omega)
      simp only [List.length_append,List.length_cons,List.length_nil,Nat.zero_add] at this
      rw [show P++y::x::(X++Q)=P++[y]++x::X++Q by simp,this]
      simp
theorem go_left (v:Int):∀ (m:Nat) (P X Q:List Int) (x:Int),X.length<m→(P++X).length≤10000→v=((P.length:Nat):Int) →
    eC K n v m ((P.length+X.length:Nat):Int) (P++X++x::Q)=some (P++x::X++Q):=by
  intro m
  induction m with
  | zero=>intro P X Q x h; omega
  | succ m ih =>
    intro P X Q x hm hl hv
    subst hv
    simp only [List.length_append] at hl
    simp only [eC,im]
    rcases List.eq_nil_or_concat X with rfl | ⟨X,y,rfl⟩
    · rw [iteF (by simp)]; simp
    · simp only [List.concat_eq_append] at *
      simp only [List.length_append,List.length_cons,List.length_nil] at *
      rw [iteT (by omega),wn (n:=((P.length+(X.length+(0+1)):Nat):Int) - 1) (k:=P.length+X.length) (by omega) (by omega)]
      simp only [List.length_set,List.length_append,List.length_cons,List.length_nil]
      rw [au (by omega),au (by omega),au (by omega),au (by omega)]
      simp only [Int.toNat_natCast]
      rw [show P++(X++[y])++x::Q=(P++X)++y::x::Q by simp,gd1 (i:=P.length+(X.length+(0+1))) (by simp; omega),gd (i:=P.length+X.length) (by simp),sw (by simp) (by simp; omega)]
      have:=ih P X (y::Q) x (by omega) (by omega) rfl
      rw [this]
      simp
theorem one_left (hC:Cmp K f D key) (P B Q:List Int) (x:Int) (hB:B.Pairwise (R key)) (hx:D x) (hD:∀ y∈B,D y∧x<y) (hl:P.length+1+B.length≤10000):∀ (m i j:Nat),j - i<m→i≤j→j≤B.length→(∀ k,k<i→R key (at_ B k) x)→(∀ k,j≤k→k<B.length→R key x (at_ B k)) →
    ∃ t,t≤B.length∧(∀ k,k<t→R key (at_ B k) x)∧(∀ k,t≤k→k<B.length→R key x (at_ B k))∧gz K n (P++[x]++B++Q) ((P.length:Nat):Int) f m ((P.length+1+i:Nat):Int) ((P.length+1+j:Nat):Int)=fd K n ((P.length+1+t:Nat):Int) n ((P.length:Nat):Int) (P++[x]++B++Q):=by
  intro m
  induction m with
  | zero=>intro i j h; omega
  | succ m ih =>
    intro i j hm hij hj h1 h2
    simp only [gz,jq]
    by_cases he:i<j
    · rw [iteT (by omega),half (by omega),sb]
      obtain ⟨h,hh,e⟩:∃ h,(i≤h∧h<j)∧(P.length+1+i+(P.length+1+j)) / 2=P.length+1+h:=⟨(P.length+1+i+(P.length+1+j)) / 2 - (P.length+1),by omega,by omega⟩
      rw [e]
      have hlen:(P++[x]++B++Q).length=P.length+1+B.length+Q.length:=by simp; omega
      rw [au (by omega),au (by omega)]
      simp only [Int.toNat_natCast]
      rw [at_app (P:=P++[x]) (k:=h) (by omega) (by simp),show (P++[x]++B++Q).getD P.length default=x by rw [show P++[x]++B++Q=P++x::(B++Q) by simp]; exact gd rfl]
      have hb:=hD _ (ir (A:=B) (k:=h) (by omega))
      obtain ⟨c,hc,hlt⟩:=hC.ok (at_ B h) x hb.1 hx
      rw [hc,sb]
      simp only [gQ]
      have hR:c<0↔R key (at_ B h) x:=hlt.trans (R.of_lt hb.2)
      by_cases hr:c<0
      · rw [iteT hr,wn (n:=((P.length+1+h:Nat):Int)+1) (k:=P.length+1+(h+1)) (by omega) (by omega)]
        refine ih (h+1) j (by omega) (by omega) hj (fun k hk=>?_) h2
        rcases Nat.lt_or_ge k h with hk2 | hk2
        · exact (bg hB hk2 (by omega)).trans (hR.1 hr)
        · obtain rfl:k=h:=by omega
          exact hR.1 hr
      · rw [iteF hr]
        refine ih i h (by omega) (by omega) (by omega) h1 (fun k hk hk2=>?_)
        have hxh:R key x (at_ B h):=R.not (by omega) (fun hh=>hr (hR.2 hh))
        rcases Nat.lt_or_ge h k with hk3 | hk3
        · exact hxh.trans (bg hB hk3 hk2)
        · obtain rfl:k=h:=by omega
          exact hxh
    · obtain rfl:i=j:=by omega
      exact ⟨i,hj,h1,h2,by rw [iteF (by omega)]⟩
theorem one_right (hC:Cmp K f D key) (P A Q:List Int) (x:Int) (hA:A.Pairwise (R key)) (hx:D x) (hD:∀ y∈A,D y∧y<x) (hl:P.length+1+A.length≤10000):∀ (m i j:Nat),j - i<m→i≤j→j≤A.length→(∀ k,k<i→R key (at_ A k) x)→(∀ k,j≤k→k<A.length→R key x (at_ A k)) →
    ∃ t,t≤A.length∧(∀ k,k<t→R key (at_ A k) x)∧(∀ k,t≤k→k<A.length→R key x (at_ A k))∧fi K n (P++A++x::Q) ((P.length+A.length:Nat):Int) f m ((P.length+i:Nat):Int) ((P.length+j:Nat):Int)=eC K n ((P.length+t:Nat):Int) n ((P.length+A.length:Nat):Int) (P++A++x::Q):=by
  intro m
  induction m with
  | zero=>intro i j h; omega
  | succ m ih =>
    intro i j hm hij hj h1 h2
    simp only [fi,ii]
    by_cases he:i<j
    · rw [iteT (by omega),half (by omega),sb]
      obtain ⟨h,hh,e⟩:∃ h,(i≤h∧h<j)∧(P.length+i+(P.length+j)) / 2=P.length+h:=⟨(P.length+i+(P.length+j)) / 2 - P.length,by omega,by omega⟩
      rw [e]
      have hlen:(P++A++x::Q).length=P.length+A.length+Q.length+1:=by simp; omega
      rw [au (by omega),au (by omega)]
      simp only [Int.toNat_natCast]
      rw [at_app (P:=P) (A:=A) (k:=h) (by omega) rfl,gd (A:=P++A) (by simp)]
      have hb:=hD _ (ir (A:=A) (k:=h) (by omega))
      obtain ⟨c,hc,hlt⟩:=hC.ok x (at_ A h) hx hb.1
      rw [hc,sb]
      simp only [gG]
      have hR:c<0↔R key x (at_ A h):=hlt.trans (R.of_lt hb.2)
      by_cases hr:c<0
      · rw [iteC hr]
        refine ih i h (by omega) (by omega) (by omega) h1 (fun k hk hk2=>?_)
        rcases Nat.lt_or_ge h k with hk3 | hk3
        · exact (hR.1 hr).trans (bg hA hk3 hk2)
        · obtain rfl:k=h:=by omega
          exact hR.1 hr
      · rw [iteB hr,wn (n:=((P.length+h:Nat):Int)+1) (k:=P.length+(h+1)) (by omega) (by omega)]
        refine ih (h+1) j (by omega) (by omega) hj (fun k hk=>?_) h2
        have hxh:R key (at_ A h) x:=R.not (by omega) (fun hh=>hr (hR.2 hh))
        rcases Nat.lt_or_ge k h with hk2 | hk2
        · exact (bg hA hk2 (by omega)).trans hxh
        · obtain rfl:k=h:=by omega
          exact hxh
    · obtain rfl:i=j:=by omega
      exact ⟨i,hj,h1,h2,by rw [iteF (by omega)]⟩
end Go.Proofs.Ytolhpahjgddjkaa.QSort
namespace Go.Proofs.Ytolhpahjgddjkaa.QSort
set_option linter.all false
open Go.RowKit
variable {K:Kn} {n:Nat} {f:Fv} {D:Int→Prop} {key:Int→Int}
structure Mg (key:Int→Int) (D:Int→Prop) (A B:List Int):Prop where
  l:A.Pairwise (R key)
  r:B.Pairwise (R key)
  lt:∀ x∈A,∀ y∈B,x<y
  d:∀ x∈A++B,D x
def Merges (key:Int→Int) (D:Int→Prop) (N:Nat) (g:List Int→Int→Int→Int→Option (List Int)):Prop :=
  ∀ P A B Q:List Int,0<A.length→0<B.length→A.length+B.length<N→(P++A++B).length≤10000→Mg key D A B →
    ∃ C,C.Perm (A++B)∧C.Pairwise (R key)∧g (P++A++B++Q) ((P.length:Nat):Int) ((P.length+A.length:Nat):Int) ((P.length+A.length+B.length:Nat):Int)=some (P++C++Q)
theorem part (g:List Int→Int→Int→Int→Option (List Int)) {N:Nat} (hg:Merges key D N g) (P A B Q:List Int) (hN:A.length+B.length<N) (hl:(P++A++B).length≤10000) (h:Mg key D A B) :
    ∃ C,C.Perm (A++B)∧C.Pairwise (R key)∧∀ (k:List Int→Option (List Int)),(if 0<A.length∧0<B.length then (g (P++A++B++Q) ((P.length:Nat):Int) ((P.length+A.length:Nat):Int) ((P.length+A.length+B.length:Nat):Int)).bind k else k (P++A++B++Q))=k (P++C++Q):=by
  by_cases hc:0<A.length∧0<B.length
  · obtain ⟨C,h1,h2,h3⟩:=hg P A B Q hc.1 hc.2 hN hl h
    exact ⟨C,h1,h2,fun k=>by rw [if_pos hc,h3]; rfl⟩
  · refine ⟨A++B,.refl _,?_,fun k=>by rw [if_neg hc]; simp⟩
    rcases A with _ | ⟨x,A⟩
    · simpa using h.r
    · rcases B with _ | ⟨y,B⟩
      · simpa using h.l
      · simp at hc
theorem tail_ok {N:Nat} (hn:10001<n) (P A1 A2 B1 B2 Q:List Int) (hg:Merges key D N (fun L a m b=>K.cS L a m b f)) (h:Mg key D (A1++A2) (B1++B2)) (hl:(P++A1++A2++B1++B2).length≤10000)
    (hN1:A1.length+B1.length<N) (hN2:A2.length+B2.length<N) (c1:∀ x∈A1,∀ y∈B2,R key x y) (c2:∀ x∈B1,∀ y∈A2,R key x y) {v2 v3 v4 v30 v31 v39:Int} (e2:v2=((P.length:Nat):Int)) (e3:v3=((P.length+A1.length+A2.length:Nat):Int)) (e4:v4=((P.length+A1.length+A2.length+B1.length+B2.length:Nat):Int))
    (e30:v30=((P.length+A1.length+B1.length:Nat):Int)) (e31:v31=((P.length+A1.length+B1.length+(P.length+A1.length+A2.length):Nat):Int)) (e39:v39=((P.length+A1.length:Nat):Int)) :
    ∃ C,C.Perm (A1++A2++(B1++B2))∧C.Pairwise (R key)∧(if (decide (v39<v3))=true then
      cv K n (P++A1++A2++B1++B2++Q) v2 v3 v4 f v30 v31 v39 (decide (v3<(w64 (v31 - v39))))
    else
      cv K n (P++A1++A2++B1++B2++Q) v2 v3 v4 f v30 v31 v39 false)=some (P++C++Q):=by
  simp only [List.length_append] at hl
  have e5:w64 (v31 - v39)=((P.length+A1.length+A2.length+B1.length:Nat):Int):=by rw [e31,e39]; exact wn (by omega) (by omega)
  have hpl:=List.pairwise_append.1 h.l
  have hpr:=List.pairwise_append.1 h.r
  -- the parts change places
  have rot:(if (decide (v39<v3))=true then
      cv K n (P++A1++A2++B1++B2++Q) v2 v3 v4 f v30 v31 v39 (decide (v3<(w64 (v31 - v39))))
    else
      cv K n (P++A1++A2++B1++B2++Q) v2 v3 v4 f v30 v31 v39 false)=e7 K n v2 v4 f v30 v31 v39 (P++A1++B1++A2++B2++Q):=by
    rw [e5]
    have both:∀ b:Bool,(b=true↔0<A2.length∧0<B1.length)→cv K n (P++A1++A2++B1++B2++Q) v2 v3 v4 f v30 v31 v39 b=e7 K n v2 v4 f v30 v31 v39 (P++A1++B1++A2++B2++Q):=by
      intro b hb
      unfold cv
      by_cases hc:b=true
      · rw [if_pos hc,e5]
        have hc2:=hb.1 hc
        have:=rot_ok (K:=K) (n:=n) (f:=f) (P++A1) A2 B1 (B2++Q) hn hc2.1 hc2.2 (by simp; omega)
        rw [show P++A1++A2++B1++B2++Q=P++A1++A2++B1++(B2++Q) by simp,e39,e3]
        rw [show ((P++A1).length:Nat)=P.length+A1.length by simp] at this
        rw [this,sb]
        congr 1; simp
      · rw [if_neg hc]
        have hc2:¬ (0<A2.length∧0<B1.length):=fun hh=>hc (hb.2 hh)
        congr 1
        rcases A2 with _ | ⟨x,A2⟩
        · simp
        · rcases B1 with _ | ⟨y,B1⟩
          · simp
          · simp at hc2
    by_cases hc:v39<v3
    · rw [iteT hc]
      exact both _ (by rw [decide_eq_true_eq]; omega)
    · rw [iteF hc]
      exact both _ (by simp; omega)
  rw [rot]
  -- the first half
  have m1:Mg key D A1 B1:=⟨hpl.1,hpr.1,fun x hx y hy=>h.lt x (by simp [hx]) y (by simp [hy]),fun x hx=>h.d x (by rcases List.mem_append.1 hx with q | q<;>simp [q])⟩
  have m2:Mg key D A2 B2:=⟨hpl.2.1,hpr.2.1,fun x hx y hy=>h.lt x (by simp [hx]) y (by simp [hy]),fun x hx=>h.d x (by rcases List.mem_append.1 hx with q | q<;>simp [q])⟩
  obtain ⟨C1,p1,s1,r1⟩:=part _ hg P A1 B1 (A2++B2++Q) hN1 (by simp; omega) m1
  have l1:C1.length=A1.length+B1.length:=by rw [p1.length_eq]; simp
  obtain ⟨C2,p2,s2,r2⟩:=part _ hg (P++C1) A2 B2 Q hN2 (by simp; omega) m2
  refine ⟨C1++C2,?_,?_,?_⟩
  · refine (p1.append p2).trans ?_
    simp only [List.append_assoc]
    refine List.Perm.append_left A1 ?_
    rw [←List.append_assoc,← List.append_assoc]
    exact List.perm_append_comm.append_right B2
  · rw [List.pairwise_append]
    refine ⟨s1,s2,fun x hx y hy=>?_⟩
    have hx:=(p1.mem_iff).1 hx
    have hy:=(p2.mem_iff).1 hy
    rcases List.mem_append.1 hx with hx | hx
    · rcases List.mem_append.1 hy with hy | hy
      · exact hpl.2.2 x hx y hy
      · exact c1 x hx y hy
    · rcases List.mem_append.1 hy with hy | hy
      · exact c2 x hx y hy
      · exact hpr.2.2 x hx y hy
  · -- the calls
    have j13:dq K n v4 f v30 v31 v39 (P++C1++A2++B2++Q)=some (P++C1++C2++Q):=by
      have:=r2 (fun L=>some L)
      rw [←this]
      unfold dq
      rw [e5,e30,e4]
      have k1:(P++C1).length=P.length+A1.length+B1.length:=by simp [l1]; omega
      rw [k1]
      have both:∀ b:Bool,(b=true↔0<A2.length∧0<B2.length)→fr K n ((P.length+A1.length+A2.length+B1.length+B2.length:Nat):Int) f ((P.length+A1.length+B1.length:Nat):Int) v31 v39 (P++C1++A2++B2++Q) b=if 0<A2.length∧0<B2.length then
          (K.cS (P++C1++A2++B2++Q) ((P.length+A1.length+B1.length:Nat):Int) ((P.length+A1.length+B1.length+A2.length:Nat):Int) ((P.length+A1.length+B1.length+A2.length+B2.length:Nat):Int) f).bind (fun L=>some L) else some (P++C1++A2++B2++Q):=by
        intro b hb
        unfold fr
        by_cases hc:b=true
        · rw [if_pos hc,if_pos (hb.1 hc),e5]
          simp only [iK]
          rw [show P.length+A1.length+B1.length+A2.length=P.length+A1.length+A2.length+B1.length by omega]
        · rw [if_neg hc,if_neg (fun hh=>hc (hb.2 hh))]; rfl
      by_cases hc:((P.length+A1.length+B1.length:Nat):Int)<((P.length+A1.length+A2.length+B1.length:Nat):Int)
      · rw [iteT hc]; exact both _ (by rw [decide_eq_true_eq]; omega)
      · rw [iteF hc]; exact both _ (by simp; omega)
    have:=r1 (fun L=>dq K n v4 f v30 v31 v39 L)
    rw [show P++C1++(A2++B2++Q)=P++C1++A2++B2++Q by simp,j13] at this
    rw [show P++(C1++C2)++Q=P++C1++C2++Q by simp,← this]
    unfold e7
    rw [e2,e39,e30]
    rw [show P++A1++B1++(A2++B2++Q)=P++A1++B1++A2++B2++Q by simp]
    have both : ∀ b : Bool, (b = true ↔ 0 < A1.length ∧ 0 < B1.length) → ft K n ((P.length : Nat) : Int) v4 f ((P.length + A1.length + B1.length : Nat) : Int) v31 ((P.length + A1.length : Nat) : Int) (P ++ A1 ++ B1 ++ A2 ++ B2 ++ Q) b = if 0 < A1.length ∧ 0 < B1.length then
          (K.cS (P++A1++B1++A2++B2++Q) ((P.length:Nat):Int) ((P.length+A1.length:Nat):Int) ((P.length+A1.length+B1.length:Nat):Int) f).bind (fun L=>dq K n v4 f ((P.length+A1.length+B1.length:Nat):Int) v31 ((P.length+A1.length:Nat):Int) L) else dq K n v4 f ((P.length+A1.length+B1.length:Nat):Int) v31 ((P.length+A1.length:Nat):Int) (P++A1++B1++A2++B2++Q):=by
      intro b hb
      unfold ft
      by_cases hc:b=true
      · rw [if_pos hc,if_pos (hb.1 hc)]
      · rw [if_neg hc,if_neg (fun hh=>hc (hb.2 hh))]
    by_cases hc:((P.length:Nat):Int)<((P.length+A1.length:Nat):Int)
    · rw [iteT hc]; exact both _ (by rw [decide_eq_true_eq]; omega)
    · rw [iteF hc]; exact both _ (by simp; omega)
theorem seek (hC:Cmp K f D key) (P A B Q:List Int) (h:Nat) (hM:Mg key D A B) (hl:(P++A++B).length≤10000) {v2 v4 v30:Int} (hh:h<A.length+B.length) (lo hi:Nat) (hlo:h≤B.length+lo) (hhi:hi≤A.length) (hhi2:hi≤h):∀ (m i j:Nat),j - i<m→lo≤i→i≤j→j≤hi →
    (∀ k,lo≤k→k<i→R key (at_ A k) (at_ B (h - 1 - k)))→(∀ k,j≤k→k<hi→R key (at_ B (h - 1 - k)) (at_ A k)) →
    ∃ s,lo≤s∧s≤hi∧(∀ k,lo≤k→k<s→R key (at_ A k) (at_ B (h - 1 - k)))∧(∀ k,s≤k→k<hi→R key (at_ B (h - 1 - k)) (at_ A k)) ∧
      eb K n (P++A++B++Q) v2 ((P.length+A.length:Nat):Int) v4 f v30 ((P.length+h+(P.length+A.length):Nat):Int) m ((P.length+i:Nat):Int) ((P.length+j:Nat):Int) =
      (if (decide (((P.length+s:Nat):Int)<((P.length+A.length:Nat):Int)))=true then
        cv K n (P++A++B++Q) v2 ((P.length+A.length:Nat):Int) v4 f v30 ((P.length+h+(P.length+A.length):Nat):Int) ((P.length+s:Nat):Int) (decide (((P.length+A.length:Nat):Int)<(w64 (((P.length+h+(P.length+A.length):Nat):Int) - ((P.length+s:Nat):Int)))))
      else
        cv K n (P++A++B++Q) v2 ((P.length+A.length:Nat):Int) v4 f v30 ((P.length+h+(P.length+A.length):Nat):Int) ((P.length+s:Nat):Int) false):=by
  simp only [List.length_append] at hl
  intro m
  induction m with
  | zero=>intro i j h; omega
  | succ m ih =>
    intro i j hm hli hij hj h1 h2
    simp only [eb,gN]
    by_cases he:i<j
    · rw [iteT (by omega),half (by omega),sb]
      obtain ⟨c,hc,e⟩:∃ c,(i≤c∧c<j)∧(P.length+i+(P.length+j)) / 2=P.length+c:=⟨(P.length+i+(P.length+j)) / 2 - P.length,by omega,by omega⟩
      rw [e,wn (n:=((P.length+h+(P.length+A.length):Nat):Int) - 1) (k:=P.length+h+(P.length+A.length) - 1) (by omega) (by omega),
        wn (n:=((P.length+h+(P.length+A.length) - 1:Nat):Int) - ((P.length+c:Nat):Int)) (k:=P.length+A.length+(h - 1 - c)) (by omega) (by omega)]
      have hlen:(P++A++B++Q).length=P.length+A.length+B.length+Q.length:=by simp; omega
      rw [au (by omega),au (by omega)]
      simp only [Int.toNat_natCast]
      rw [at_app (P:=P++A) (A:=B) (k:=h - 1 - c) (by omega) (by simp),show P++A++B++Q=P++A++(B++Q) by simp,at_app (P:=P) (A:=A) (k:=c) (by omega) rfl,show P++A++(B++Q)=P++A++B++Q by simp]
      have ma:=ir (A:=A) (k:=c) (by omega)
      have mb:=ir (A:=B) (k:=h - 1 - c) (by omega)
      have hlt2:=hM.lt _ ma _ mb
      obtain ⟨r,hr,hlt⟩:=hC.ok (at_ B (h - 1 - c)) (at_ A c) (hM.d _ (by simp [mb])) (hM.d _ (by simp [ma]))
      rw [hr,sb]
      simp only [ik]
      have hR:r<0↔R key (at_ B (h - 1 - c)) (at_ A c):=hlt.trans (R.of_lt hlt2)
      by_cases hr0:r<0
      · rw [iteC hr0]
        refine ih i c (by omega) hli (by omega) (by omega) h1 (fun k hk hk2=>?_)
        rcases Nat.lt_or_ge c k with hk3 | hk3
        · exact ((bg hM.r (i:=h - 1 - k) (j:=h - 1 - c) (by omega) (by omega)).trans (hR.1 hr0)).trans (bg hM.l hk3 (by omega))
        · obtain rfl:k=c:=by omega
          exact hR.1 hr0
      · rw [iteB hr0,wn (n:=((P.length+c:Nat):Int)+1) (k:=P.length+(c+1)) (by omega) (by omega)]
        refine ih (c+1) j (by omega) (by omega) (by omega) hj (fun k hk0 hk=>?_) h2
        have hxh:R key (at_ A c) (at_ B (h - 1 - c)):=R.not (by omega) (fun hh=>hr0 (hR.2 hh))
        rcases Nat.lt_or_ge k c with hk2 | hk2
        · exact ((bg hM.l hk2 (by omega)).trans hxh).trans (bg hM.r (i:=h - 1 - c) (j:=h - 1 - k) (by omega) (by omega))
        · obtain rfl:k=c:=by omega
          exact hxh
    · obtain rfl:i=j:=by omega
      exact ⟨i,hli,hj,h1,h2,by rw [iteF (by omega)]⟩
theorem merge_one (hC:Cmp K f D key) {N:Nat} (hn:10001<n) (hg:Merges key D N (fun L a m b=>K.cS L a m b f)):Merges key D (N+1) (fun L a m b=>cJ K n L a m b f):=by
  intro P A B Q hA hB hN hl hM
  have hl2:=hl
  simp only [List.length_append] at hl2
  simp only [cJ]
  rw [wn (n:=((P.length+A.length:Nat):Int) - ((P.length:Nat):Int)) (k:=A.length) (by omega) (by omega)]
  by_cases h1:A.length=1
  · rw [if_pos (by simp; omega)]
    obtain ⟨x,rfl⟩:∃ x,A=[x]:=by
      rcases A with _ | ⟨x,_ | ⟨y,A⟩⟩
      · simp at h1
      · exact ⟨x,rfl⟩
      · simp at h1
    simp only [List.length_cons,List.length_nil,Nat.zero_add] at *
    obtain ⟨t,t1,t2,t3,t4⟩:=one_left (n:=n) hC P B Q x hM.r (hM.d x (by simp)) (fun y hy=>⟨hM.d y (by simp [hy]),hM.lt x (by simp) y hy⟩) (by omega) n 0 B.length (by omega) (by omega) (Nat.le_refl _) (fun k hk=>by omega) (fun k hk hk2=>by omega)
    rw [show P.length+1+0=P.length+1 from rfl] at t4
    rw [t4]
    have:=go_right (K:=K) (n:=n) ((P.length+1+t:Nat):Int) n P (B.take t) (B.drop t++Q) x (by simp; omega) (by simp; omega) (by simp; omega)
    rw [show P++x::B.take t++(B.drop t++Q)=P++[x]++(B.take t++B.drop t)++Q by simp only [List.append_assoc,List.cons_append,List.nil_append],List.take_append_drop] at this
    refine ⟨B.take t++x::B.drop t,?_,put_in hM.r (fun k hk _=>t2 k hk) t3,by rw [this]; simp⟩
    refine List.perm_middle.trans (by simp)
  · rw [if_neg (by simp; omega)]
    rw [wn (n:=((P.length+A.length+B.length:Nat):Int) - ((P.length+A.length:Nat):Int)) (k:=B.length) (by omega) (by omega)]
    by_cases h2:B.length=1
    · rw [if_pos (by simp; omega)]
      obtain ⟨x,rfl⟩:∃ x,B=[x]:=by
        rcases B with _ | ⟨x,_ | ⟨y,B⟩⟩
        · simp at h2
        · exact ⟨x,rfl⟩
        · simp at h2
      obtain ⟨t,t1,t2,t3,t4⟩:=one_right (n:=n) hC P A Q x hM.l (hM.d x (by simp)) (fun y hy=>⟨hM.d y (by simp [hy]),hM.lt y hy x (by simp)⟩) (by simp at hl2; omega) n 0 A.length (by simp at hl2; omega) (by omega) (Nat.le_refl _) (fun k hk=>by omega) (fun k hk hk2=>by omega)
      rw [Nat.add_zero] at t4
      rw [show P++A++[x]++Q=P++A++x::Q by simp,t4]
      have:=go_left (K:=K) (n:=n) ((P.length+t:Nat):Int) n (P++A.take t) (A.drop t) Q x (by simp at hl2 ⊢; omega) (by simp at hl2 ⊢; omega) (by simp; omega)
      rw [show P++A.take t++A.drop t++x::Q=P++(A.take t++A.drop t)++x::Q by simp only [List.append_assoc],List.take_append_drop,show (P++A.take t).length+(A.drop t).length=P.length+A.length by simp; omega] at this
      refine ⟨A.take t++x::A.drop t,?_,put_in hM.l (fun k hk _=>t2 k hk) t3,by rw [this]; simp⟩
      refine List.perm_middle.trans ?_
      rw [List.take_append_drop]; exact (List.perm_append_singleton x A).symm
    · rw [if_neg (by simp; omega),half (by omega),sb]
      obtain ⟨h,hh,e⟩:∃ h,(2*h≤A.length+B.length∧A.length+B.length≤2*h+1)∧(P.length+(P.length+A.length+B.length)) / 2=P.length+h:=⟨(P.length+(P.length+A.length+B.length)) / 2 - P.length,by omega,by omega⟩
      rw [e,wn (n:=((P.length+h:Nat):Int)+((P.length+A.length:Nat):Int)) (k:=P.length+h+(P.length+A.length)) (by omega) (by omega),sb,sb]
      have key_:∀ lo hi:Nat,h≤B.length+lo→hi≤A.length→hi≤h→lo≤hi→(lo=0∨h=B.length+lo)→(hi=A.length∨hi=h) →
          ∃ C,C.Perm (A++B)∧C.Pairwise (R key)∧eb K n (P++A++B++Q) ((P.length:Nat):Int) ((P.length+A.length:Nat):Int) ((P.length+A.length+B.length:Nat):Int) f ((P.length+h:Nat):Int) ((P.length+h+(P.length+A.length):Nat):Int) n ((P.length+lo:Nat):Int) ((P.length+hi:Nat):Int)=some (P++C++Q):=by
        intro lo hi k1 k2 k3 k4 k5 k6
        obtain ⟨s,s1,s2,s3,s4,s5⟩:=seek (n:=n) hC P A B Q h hM hl (v2:=((P.length:Nat):Int)) (v4:=((P.length+A.length+B.length:Nat):Int)) (v30:=((P.length+h:Nat):Int)) (by omega) lo hi k1 k2 k3 n lo hi (by omega) (Nat.le_refl _) k4 (Nat.le_refl _) (fun k _ _=>by omega) (fun k _ _=>by omega)
        rw [s5]
        have eA:A.take s++A.drop s=A:=List.take_append_drop s A
        have eB:B.take (h - s)++B.drop (h - s)=B:=List.take_append_drop (h - s) B
        have la:(A.take s).length=s:=by simp; omega
        have lb:(B.take (h - s)).length=h - s:=by simp; omega
        have la2:(A.drop s).length=A.length - s:=by simp
        have lb2:(B.drop (h - s)).length=B.length - (h - s):=by simp
        have eL:P++A++B++Q=P++A.take s++A.drop s++B.take (h - s)++B.drop (h - s)++Q:=by
          conv=>lhs; rw [←eA,← eB]
          simp only [List.append_assoc]
        have:=tail_ok (K:=K) (n:=n) (f:=f) (N:=N) hn P (A.take s) (A.drop s) (B.take (h - s)) (B.drop (h - s)) Q hg (by rw [eA,eB]; exact hM) (by simp only [List.length_append,la,lb,la2,lb2]; omega) (by omega) (by omega)
          (fun x hx y hy=>by
            obtain ⟨i,i1,i2,rfl⟩:=ig hx
            obtain ⟨k,q1,q2,rfl⟩:=fL hy
            have m1:=s3 (s - 1) (by omega) (by omega)
            rw [show h - 1 - (s - 1)=h - s by omega] at m1
            have m2:R key (at_ A i) (at_ B (h - s)):=by
              rcases Nat.lt_or_ge i (s - 1) with q | q
              · exact (bg hM.l q (by omega)).trans m1
              · obtain rfl:i=s - 1:=by omega
                exact m1
            rcases Nat.lt_or_ge (h - s) k with q | q
            · exact m2.trans (bg hM.r q q2)
            · obtain rfl:k=h - s:=by omega
              exact m2)
          (fun x hx y hy=>by
            obtain ⟨k,q1,q2,rfl⟩:=ig hx
            obtain ⟨i,i1,i2,rfl⟩:=fL hy
            have m1:=s4 s (Nat.le_refl _) (by omega)
            have m2:R key (at_ B k) (at_ A s):=by
              rcases Nat.lt_or_ge k (h - 1 - s) with q | q
              · exact (bg hM.r q (by omega)).trans m1
              · obtain rfl:k=h - 1 - s:=by omega
                exact m1
            rcases Nat.lt_or_ge s i with q | q
            · exact m2.trans (bg hM.l q i2)
            · obtain rfl:i=s:=by omega
              exact m2)
          (v2:=((P.length:Nat):Int)) (v3:=((P.length+A.length:Nat):Int)) (v4:=((P.length+A.length+B.length:Nat):Int)) (v30:=((P.length+h:Nat):Int)) (v31:=((P.length+h+(P.length+A.length):Nat):Int)) (v39:=((P.length+s:Nat):Int)) rfl (by omega) (by omega) (by omega) (by omega) (by omega)
        rw [eA,eB] at this
        rw [eL]
        exact this
      by_cases hc:h<A.length
      · rw [if_pos (by simp; omega)]
        simp only [gp]
        rw [wn (n:=((P.length+h+(P.length+A.length):Nat):Int) - ((P.length+A.length+B.length:Nat):Int)) (k:=P.length+(h - B.length)) (by omega) (by omega)]
        exact key_ (h - B.length) h (by omega) (by omega) (by omega) (by omega) (by omega) (by omega)
      · rw [if_neg (by simp; omega)]
        simp only [gp]
        exact key_ 0 A.length (by omega) (by omega) (by omega) (by omega) (by omega) (by omega)
end Go.Proofs.Ytolhpahjgddjkaa.QSort
namespace Go.Proofs.Ytolhpahjgddjkaa.QSort
set_option linter.all false
open Go.RowKit
variable {K:Kn} {n:Nat} {f:Fv} {D:Int→Prop} {key:Int→Int}
theorem merges {c0:Nat} (hC:∀ m,c0≤m→Cmp (KN m) f D key):∀ (N lvl n:Nat),10001<n→c0+N+10002≤lvl→Merges key D N (fun L a m b=>cJ (KN lvl) n L a m b f):=by
  intro N
  induction N with
  | zero=>intro lvl n h1 h2 P A B Q hA hB hN; omega
  | succ N ih =>
    intro lvl n h1 h2
    obtain ⟨l,rfl⟩:∃ l,lvl=l+1:=⟨lvl - 1,by omega⟩
    exact merge_one (hC _ (by omega)) h1 (ih l l (by omega) (by omega))
inductive Bl (key:Int→Int) (bs:Nat):List Int→List Int→Prop
  | last (o d:List Int) (h:o.length≤bs) (p:d.Perm o) (s:d.Pairwise (R key)):Bl key bs o d
  | more (o1 d1 o2 d2:List Int) (h:o1.length=bs) (p:d1.Perm o1) (s:d1.Pairwise (R key)) (t:Bl key bs o2 d2):Bl key bs (o1++o2) (d1++d2)
theorem Bl.len {bs:Nat} {o d:List Int} (h:Bl key bs o d):d.length=o.length:=by
  induction h with
  | last o d h p s=>exact p.length_eq
  | more o1 d1 o2 d2 h p s t ih=>simp [p.length_eq,ih]
theorem blocks (hC:Cmp K f D key) (hn:10001<n):∀ (m:Nat) (P S:List Int),S.length<m→S.Pairwise (· < ·)→(∀ x∈S,D x)→P.length+S.length≤10000 →
    ∃ S',Bl key 20 S S'∧fF K n ((P.length+S.length:Nat):Int) f m ((P.length:Nat):Int) ((P.length+20:Nat):Int) (P++S)=dC K n ((P.length+S.length:Nat):Int) f n 20 (P++S'):=by
  intro m
  induction m with
  | zero=>intro P S h; omega
  | succ m ih =>
    intro P S hm hS hD hl
    simp only [fF,je]
    by_cases hc:20≤S.length
    · rw [iteT (by omega)]
      obtain ⟨S1,S2,rfl,h1⟩:∃ S1 S2,S=S1++S2∧S1.length=20:=⟨S.take 20,S.drop 20,by simp,by simp; omega⟩
      rw [List.pairwise_append] at hS
      simp only [List.length_append] at hm hl hc ⊢
      obtain ⟨S',p1,p2,p3⟩:=ins_ok (n:=n) hC P S1 S2 hn hS.1 (fun x hx=>hD x (by simp [hx])) (by omega)
      have l1:S'.length=20:=by rw [p1.length_eq,h1]
      rw [h1] at p3
      rw [show P++(S1++S2)=P++S1++S2 by simp,p3,sb,wn (k:=P.length+20+20) (by omega) (by omega)]
      obtain ⟨S'',q1,q2⟩:=ih (P++S') S2 (by omega) hS.2.1 (fun x hx=>hD x (by simp [hx])) (by simp; omega)
      simp only [List.length_append,l1] at q2
      refine ⟨S'++S'',.more _ _ _ _ h1 p1 p2 q1,?_⟩
      rw [h1,show P.length+(20+S2.length)=P.length+20+S2.length by omega,q2]
      simp
    · rw [iteF (by omega)]
      obtain ⟨S',p1,p2,p3⟩:=ins_ok (n:=n) hC P S [] hn hS hD (by omega)
      simp only [List.append_nil] at p3
      exact ⟨S',.last _ _ (by omega) p1 p2,by rw [p3,sb]⟩
theorem pass {N:Nat} (hn:10001<n) (hg:Merges key D N (fun L a m b=>cJ K n L a m b f)) (bs:Nat) (hb:0<bs) (hb2:bs≤10000) (L2:Int→List Int→Option (List Int)):∀ (m:Nat) (P S d:List Int),S.length<m→Bl key bs S d→S.Pairwise (· < ·)→(∀ x∈S,D x)→P.length+S.length≤10000→S.length<N →
    ∃ d',Bl key (2*bs) S d'∧fI K n ((P.length+S.length:Nat):Int) f ((bs:Nat):Int) L2 m ((P.length:Nat):Int) ((P.length+2*bs:Nat):Int) (P++d)=L2 ((2*bs:Nat):Int) (P++d'):=by
  intro m
  induction m with
  | zero=>intro P S d h; omega
  | succ m ih =>
    intro P S d hm hB hS hD hl hN
    have ed:=hB.len
    simp only [fI,ix,il]
    have e2:w64 (((bs:Nat):Int)*2)=((2*bs:Nat):Int):=wn (by omega) (by omega)
    have e3:w64 (2*((bs:Nat):Int))=((2*bs:Nat):Int):=wn (by omega) (by omega)
    rw [wn (n:=((P.length:Nat):Int)+((bs:Nat):Int)) (k:=P.length+bs) (by omega) (by omega),e2,e3]
    -- two blocks are merged
    have two:∀ o1 d1 o2 d2 r:List Int,o1.length=bs→d1.Perm o1→d1.Pairwise (R key)→d2.Perm o2→d2.Pairwise (R key)→0<o2.length→(∀ x∈o1,∀ y∈o2,x<y)→(∀ x∈o1++o2,D x)→P.length+(o1.length+o2.length)≤10000→o1.length+o2.length<N →
        ∃ C,C.Perm (o1++o2)∧C.Pairwise (R key)∧cJ K n (P++(d1++d2)++r) ((P.length:Nat):Int) ((P.length+bs:Nat):Int) ((P.length+(bs+o2.length):Nat):Int) f=some (P++C++r):=by
      intro o1 d1 o2 d2 r k1 k2 k3 k4 k5 k6 k7 k8 k9 k10
      have n1:d1.length=bs:=by rw [k2.length_eq,k1]
      have n2:=k4.length_eq
      obtain ⟨C,q1,q2,q3⟩:=hg P d1 d2 r (by omega) (by omega) (by omega) (by simp; omega) ⟨k3,k5,fun x hx y hy=>k7 x (k2.mem_iff.1 hx) y (k4.mem_iff.1 hy),fun x hx=>k8 x ((k2.append k4).mem_iff.1 hx)⟩
      refine ⟨C,q1.trans (k2.append k4),q2,?_⟩
      rw [n1,n2,show P.length+bs+o2.length=P.length+(bs+o2.length) by omega,show P++d1++d2++r=P++(d1++d2)++r by simp] at q3
      exact q3
    cases hB with
    | last _ _ h p s =>
      refine ⟨d,.last _ _ (by omega) p s,?_⟩
      rw [iteF (by omega),iteF (by omega)]
    | more o1 d1 o2 d2 h p s t =>
      rw [List.pairwise_append] at hS
      simp only [List.length_append] at hm hl hN ⊢
      cases t with
      | last _ _ h' p' s' =>
        by_cases hc:o2.length=bs
        · rw [iteT (by omega)]
          obtain ⟨C,q1,q2,q3⟩:=two o1 d1 o2 d2 [] h p s p' s' (by omega) hS.2.2 hD (by omega) (by omega)
          simp only [List.append_nil] at q3
          rw [hc] at q3
          rw [show ((P.length+2*bs:Nat):Int)=((P.length+(bs+bs):Nat):Int) by omega,q3,sb,wn (n:=((P.length+(bs+bs):Nat):Int)+((2*bs:Nat):Int)) (k:=P.length+(bs+bs)+2*bs) (by omega) (by omega)]
          have lC:C.length=bs+bs:=by rw [q1.length_eq]; simp; omega
          obtain ⟨d',r1,r2⟩:=ih (P++C) [] [] (by simp; omega) (.last _ _ (by simp) (.refl _) (by simp)) (by simp) (by simp) (by simp; omega) (by simp; omega)
          simp only [List.length_append,lC,List.length_nil,Nat.add_zero,List.append_nil] at r2
          refine ⟨C++d',?_,?_⟩
          · have:=Bl.more (key:=key) (bs:=2*bs) (o1++o2) C [] d' (by simp; omega) q1 q2 r1
            simpa using this
          · rw [show P.length+(o1.length+o2.length)=P.length+(bs+bs) by omega,r2]
            simp
        · rw [iteF (by omega)]
          by_cases hz:o2.length=0
          · rw [iteF (by omega)]
            have:o2=[]:=List.eq_nil_of_length_eq_zero hz
            subst this
            have:d2=[]:=p'.eq_nil
            subst this
            exact ⟨d1++[],.last _ _ (by simp; omega) (by simpa using p) (by simpa using s),rfl⟩
          · rw [iteT (by omega)]
            obtain ⟨C,q1,q2,q3⟩:=two o1 d1 o2 d2 [] h p s p' s' (by omega) hS.2.2 hD (by omega) (by omega)
            simp only [List.append_nil] at q3
            rw [h,q3,sb]
            exact ⟨C,.last _ _ (by simp; omega) q1 q2,rfl⟩
      | more o21 d21 o22 d22 h' p' s' t' =>
        have hS2:=hS.2.1
        rw [List.pairwise_append] at hS2
        simp only [List.length_append] at hm hl hN ⊢
        rw [iteT (by omega)]
        obtain ⟨C,q1,q2,q3⟩:=two o1 d1 o21 d21 d22 h p s p' s' (by omega) (fun x hx y hy=>hS.2.2 x hx y (by simp [hy])) (fun x hx=>hD x (by rcases List.mem_append.1 hx with q | q<;>simp [q])) (by omega) (by omega)
        rw [h'] at q3
        have lC:C.length=bs+bs:=by rw [q1.length_eq]; simp; omega
        rw [show P++(d1++(d21++d22))=P++(d1++d21)++d22 by simp,show ((P.length+2*bs:Nat):Int)=((P.length+(bs+bs):Nat):Int) by omega,q3,sb,wn (n:=((P.length+(bs+bs):Nat):Int)+((2*bs:Nat):Int)) (k:=P.length+(bs+bs)+2*bs) (by omega) (by omega)]
        obtain ⟨d',r1,r2⟩:=ih (P++C) o22 d22 (by omega) t' hS2.2.1 (fun x hx=>hD x (by simp [hx])) (by simp; omega) (by omega)
        simp only [List.length_append,lC] at r2
        refine ⟨C++d',?_,?_⟩
        · have:=Bl.more (key:=key) (bs:=2*bs) (o1++o21) C o22 d' (by simp; omega) q1 q2 r1
          simpa using this
        · rw [show P.length+(o1.length+(o21.length+o22.length))=P.length+(bs+bs)+o22.length by omega,r2]
          simp
theorem rounds {N:Nat} (hn:10001<n) (hg:Merges key D N (fun L a m b=>cJ K n L a m b f)) (S:List Int) (hS:S.Pairwise (· < ·)) (hD:∀ x∈S,D x) (hl:S.length≤10000) (hN:S.length<N):∀ (m bs:Nat) (d:List Int),0<bs→S.length - bs<m→Bl key bs S d →
    ∃ d',d'.Perm S∧d'.Pairwise (R key)∧dC K n ((S.length:Nat):Int) f m ((bs:Nat):Int) d=some d':=by
  intro m
  induction m with
  | zero=>intro bs d hb h; omega
  | succ m ih =>
    intro bs d hb hm hB
    simp only [dC,iU]
    by_cases hc:bs<S.length
    · rw [iteT (by omega),wn (n:=2*((bs:Nat):Int)) (k:=2*bs) (by omega) (by omega)]
      obtain ⟨d',r1,r2⟩:=pass (n:=n) hn hg bs hb (by omega) (dC K n ((S.length:Nat):Int) f m) n [] S d (by omega) hB hS hD (by simp; omega) hN
      simp only [List.length_nil,List.nil_append,Nat.zero_add] at r2
      rw [show ((0:Nat):Int)=0 from rfl] at r2
      rw [r2]
      exact ih (2*bs) d' (by omega) (by omega) r1
    · rw [iteF (by omega)]
      cases hB with
      | last _ _ h p s=>exact ⟨d,p,s,rfl⟩
      | more o1 d1 o2 d2 h p s t =>
        simp only [List.length_append] at hc
        have:o2=[]:=List.eq_nil_of_length_eq_zero (by omega)
        subst this
        have:d2=[]:=List.eq_nil_of_length_eq_zero (by rw [t.len]; rfl)
        subst this
        exact ⟨_,by simpa using p,by simpa using s,rfl⟩
theorem sort_ok {c0:Nat} (hC:∀ m,c0≤m→Cmp (KN m) f D key) {lvl n:Nat} (S:List Int) (hn:10001<n) (hlv:c0+(S.length+1)+10002≤lvl) (hS:S.Pairwise (· < ·)) (hD:∀ x∈S,D x) (hl:S.length≤10000) :
    ∃ d,d.Perm S∧d.Pairwise (R key)∧cY (KN lvl) n S f=some d:=by
  unfold cY jZ
  have hle:c0≤lvl:=by omega
  have h0:S.length<n:=by omega
  obtain ⟨S',b1,b2⟩:=blocks (K:=KN lvl) (n:=n) (hC lvl hle) hn n [] S h0 hS hD (by rw [List.length_nil,Nat.zero_add]; exact hl)
  simp only [List.length_nil,List.nil_append,Nat.zero_add] at b2
  rw [show ((0:Nat):Int)=0 from rfl,show ((20:Nat):Int)=20 from rfl] at b2
  have h1:=hlv
  have h2:S.length - 20<n:=by omega
  have hm:=merges hC (S.length+1) lvl n hn h1
  generalize KN lvl=K at *
  obtain ⟨d,d1,d2,d3⟩:=rounds (K:=K) (n:=n) (N:=S.length+1) hn hm S hS hD hl (Nat.lt_succ_self _) n 20 S' (by decide) h2 b1
  rw [show ((20:Nat):Int)=20 from rfl] at d3
  exact ⟨d,d1,d2,by rw [b2,d3,sb]⟩
end Go.Proofs.Ytolhpahjgddjkaa.QSort
namespace Go.Proofs.Ytolhpahjgddjkaa
set_option linter.all false
open Go.RowKit
namespace Sh
def idx (n:Nat):List Int:=(List.range n).map fun (k:Nat)=>(k:Int)
instance (key:Int→Int) (a b:Int):Decidable (QSort.R key a b):=by unfold QSort.R; infer_instance
theorem bV (n:Nat):(idx n).length=n:=by simp [idx]
theorem cg {n:Nat} {x:Int}:x∈idx n ↔ ∃ k:Nat,k<n∧x=k:=by
  simp only [idx,List.mem_map,List.mem_range]
  exact ⟨fun ⟨k,h,e⟩=>⟨k,h,e.symm⟩,fun ⟨k,h,e⟩=>⟨k,h,e.symm⟩⟩
theorem c7 (n:Nat):(idx n).Pairwise (· < ·):=by
  unfold idx
  rw [List.pairwise_map]
  refine List.Pairwise.imp (fun h=>?_) List.pairwise_lt_range
  omega
theorem cP (n:Nat):idx (n+1)=idx n++[(n:Int)]:=by simp [idx,List.range_succ]
def lim (n most:Int):Int:=min (max n 0) most
def mx:Int:=2147483647
theorem lim_bd {n m:Int} (h:0≤m):0≤lim n m∧lim n m≤m:=by unfold lim; omega
def q (T S w:Int):Int:=T*w / S
def r (T S w:Int):Int:=T*w % S
def left (T:Int) (W:List Int):Int:=T - sm (W.map (q T (sm W)))
def win (T:Int) (W:List Int) (k:Nat):Prop :=
  0<r T (sm W) (W.getD k default)∧(((W.take k).countP (fun w=>decide (r T (sm W) (W.getD k default)≤r T (sm W) w))+(W.drop (k+1)).countP (fun w=>decide (r T (sm W) (W.getD k default)<r T (sm W) w)):Nat):Int)<left T W
instance (T:Int) (W:List Int) (k:Nat):Decidable (win T W k):=by unfold win; infer_instance
def part (T:Int) (W:List Int) (k:Nat):Int:=q T (sm W) (W.getD k default)+if win T W k then 1 else 0
def share (T:Int) (W:List Int):List Int:=if sm W=0 then List.replicate W.length 0 else (List.range W.length).map (part T W)
theorem cQ (T:Int) (W:List Int):(share T W).length=W.length:=by unfold share; split<;>simp
def inc:List Int→List Int→List Int
  | p,[]=>p
  | p,i::l=>inc (p.set i.toNat (p.getD i.toNat default+1)) l
theorem inc_len:∀ (l p:List Int),(inc p l).length=p.length
  | [],p=>rfl
  | i::l,p=>by simp [inc,inc_len l]
theorem inc_app:∀ (l m p:List Int),inc p (l++m)=inc (inc p l) m
  | [],m,p=>rfl
  | i::l,m,p=>by simp [inc,inc_app l]
theorem sm_set:∀ (p:List Int) (k:Nat) (x:Int),k<p.length→sm (p.set k x)=sm p - p.getD k default+x
  | [],k,x,h=>by simp at h
  | y::p,0,x,h=>by simp [sm]; omega
  | y::p,k+1,x,h=>by
    have:=sm_set p k x (by simpa using h)
    simp only [List.set_cons_succ,sm,this,List.getD_cons_succ]; omega
theorem inc_sum:∀ (l p:List Int),(∀ i∈l,0≤i∧i.toNat<p.length)→sm (inc p l)=sm p+l.length
  | [],p,h=>by simp [inc]
  | i::l,p,h=>by
    simp only [inc]
    rw [inc_sum l _ (fun j hj=>by have:=h j (by simp [hj]); simpa using this),sm_set _ _ _ (h i (by simp)).2]
    simp only [List.length_cons]; omega
theorem lP {p:List Int} {i j:Nat} {x:Int} (h:i≠j):(p.set i x).getD j default=p.getD j default:=by simp [List.getD_eq_getElem?_getD,List.getElem?_set,h]
theorem lD {p:List Int} {i:Nat} {x:Int} (h:i<p.length):(p.set i x).getD i default=x:=by simp [List.getD_eq_getElem?_getD,List.getElem?_set,h]
theorem inc_at:∀ (l p:List Int) (k:Nat),l.Nodup→(∀ i∈l,0≤i)→k<p.length→(inc p l).getD k default=p.getD k default+if (k:Int)∈l then 1 else 0
  | [],p,k,_,_,_=>by simp [inc]
  | i::l,p,k,hn,h0,hk=>by
    simp only [inc]
    rw [List.nodup_cons] at hn
    rw [inc_at l _ k hn.2 (fun j hj=>h0 j (by simp [hj])) (by simpa using hk)]
    have hi:=h0 i (by simp)
    by_cases e:i.toNat=k
    · have e2:i=(k:Int):=by omega
      subst e2
      rw [Int.toNat_natCast,lD hk,if_neg hn.1,if_pos (by simp)]; omega
    · rw [lP e]
      have:((k:Int)∈i::l)↔(k:Int)∈l:=by
        rw [List.mem_cons]; constructor
        · rintro (h | h)
          · omega
          · exact h
        · exact .inr
      simp only [this]
theorem sm_perm {a b:List Int} (h:a.Perm b):sm a=sm b:=by
  induction h with
  | nil=>rfl
  | cons x _ ih=>simp [sm,ih]
  | swap x y l=>simp only [sm]; omega
  | trans _ _ h1 h2=>rw [h1,h2]
theorem sm_qr (T S:Int) (hS:0<S):∀ W:List Int,S*sm (W.map (q T S))+sm (W.map (r T S))=T*sm W
  | []=>by simp [sm]
  | w::W=>by
    have:=sm_qr T S hS W
    have h:=Int.mul_ediv_add_emod (T*w) S
    simp only [List.map_cons,sm,Int.mul_add]
    unfold q r at *
    omega
theorem co {c:Int}:∀ L:List Int,(∀ x∈L,x≤c)→sm L≤L.length*c
  | [],_=>by simp [sm]
  | x::L,h=>by
    have:=co L (fun y hy=>h y (by simp [hy])); have:=h x (by simp)
    simp only [sm,List.length_cons]
    rw [show ((L.length+1:Nat):Int)*c=L.length*c+c by simp [Int.add_mul]]; omega
theorem bE:∀ L:List Int,(∀ x∈L,0≤x)→0≤sm L
  | [],_=>by simp [sm]
  | x::L,h=>by
    have:=bE L (fun y hy=>h y (by simp [hy])); have:=h x (by simp)
    simp only [sm]; omega
theorem dk:∀ (L:List Int),(∀ x∈L,0≤x)→∀ x∈L,x≤sm L
  | [],_,_,hx=>by simp at hx
  | y::L,h,x,hx=>by
    have h1:=bE L (fun y hy=>h y (by simp [hy])); have h2:=h y (by simp)
    simp only [sm]
    rcases List.mem_cons.1 hx with rfl | hx
    · omega
    · have:=dk L (fun y hy=>h y (by simp [hy])) x hx; omega
theorem r_bd {T S w:Int} (hS:0<S):0≤r T S w∧r T S w<S:=⟨Int.emod_nonneg _ (by omega),Int.emod_lt_of_pos _ hS⟩
theorem q_bd {T S w:Int} (hS:0<S) (hT:0≤T) (hw:0≤w) (hw2:w≤S):0≤q T S w∧q T S w≤T:=by
  refine ⟨Int.ediv_nonneg (Int.mul_nonneg hT hw) (by omega),?_⟩
  unfold q
  have h:T*w≤T*S:=Int.mul_le_mul_of_nonneg_left hw2 hT
  calc T*w / S≤T*S / S:=Int.ediv_le_ediv hS h
    _=T:=Int.mul_ediv_cancel _ (by omega)
theorem left_mul (T:Int) (W:List Int) (hS:0<sm W):sm W*left T W=sm (W.map (r T (sm W))):=by
  have:=sm_qr T (sm W) hS W
  unfold left
  rw [Int.mul_sub,Int.mul_comm (sm W) T]; omega
theorem ij (T:Int) (W:List Int) (hS:0<sm W):0≤left T W∧left T W≤W.length:=by
  have h:=left_mul T W hS
  have h0:0≤sm (W.map (r T (sm W))):=bE _ (fun x hx=>by
    obtain ⟨w,_,rfl⟩:=List.mem_map.1 hx; exact (r_bd hS).1)
  have h1:sm (W.map (r T (sm W)))≤(W.map (r T (sm W))).length*sm W:=co _ (fun x hx=>by
    obtain ⟨w,_,rfl⟩:=List.mem_map.1 hx; have:=(r_bd (T:=T) (w:=w) hS).2; omega)
  rw [List.length_map,← h,Int.mul_comm] at h1
  refine ⟨?_,Int.le_of_mul_le_mul_right h1 hS⟩
  rw [←h] at h0
  rcases Int.lt_or_le (left T W) 0 with h | h
  · have:=Int.mul_neg_of_pos_of_neg hS h; omega
  · exact h
def key (rs:List Int) (a:Int):Int := - rs.getD a.toNat default
structure Ord (rs d:List Int):Prop where
  p:d.Perm (idx rs.length)
  s:d.Pairwise (QSort.R (key rs))
theorem Ord.nodup {rs d:List Int} (h:Ord rs d):d.Nodup:=by
  refine List.Pairwise.imp (fun hh e=>?_) h.s
  subst e; exact hh.irr
theorem Ord.mem {rs d:List Int} (h:Ord rs d) {x:Int}:x∈d ↔ ∃ k:Nat,k<rs.length∧x=k:=by rw [h.p.mem_iff,cg]
theorem Ord.len {rs d:List Int} (h:Ord rs d):d.length=rs.length:=by rw [h.p.length_eq,bV]
theorem jv (rs:List Int) (p:Int→Bool):∀ n,n≤rs.length→(idx n).countP (fun a=>p (rs.getD a.toNat default))=(rs.take n).countP p
  | 0,_=>by simp [idx]
  | n+1,h=>by
    rw [cP,List.countP_append,jv rs p n (by omega),List.take_succ_eq_append_getElem (by omega),List.countP_append]
    simp [List.getD_eq_getElem?_getD,List.getElem?_eq_getElem (show n<rs.length by omega)]
theorem rank {rs d:List Int} (h:Ord rs d) {t k:Nat} (ht:t<d.length) (hk:d.getD t default=(k:Int)):(rs.take k).countP (fun w=>decide (rs.getD k default≤w))+(rs.drop (k+1)).countP (fun w=>decide (rs.getD k default<w))=t:=by
  have ek:k<rs.length:=by
    have:d.getD t default∈d:=by rw [aS ht]; exact List.getElem_mem _
    rw [hk] at this
    obtain ⟨j,h1,h2⟩:=h.mem.1 this
    omega
  -- in the sorted order there are t ahead of k
  have c1:d.countP (fun a=>decide (QSort.R (key rs) a k))=t:=by
    have e:d=d.take t++d.drop t:=(List.take_append_drop t d).symm
    have e2:d.drop t=(k:Int)::d.drop (t+1):=by rw [List.drop_eq_getElem_cons ht,← aS ht,hk]
    rw [e2] at e
    have hs:=h.s
    rw [e,List.pairwise_append,List.pairwise_cons] at hs
    rw [e,List.countP_append,List.countP_cons]
    have z1:(d.take t).countP (fun a=>decide (QSort.R (key rs) a k))=t:=by
      rw [List.countP_eq_length.2 (fun a ha=>by simpa using hs.2.2 a ha k (by simp))]; simp; omega
    have z2:(d.drop (t+1)).countP (fun a=>decide (QSort.R (key rs) a k))=0:=by
      rw [List.countP_eq_zero]; intro a ha hh
      exact (hs.2.1.1 a ha).asymm (by simpa using hh)
    have z3:(if decide (QSort.R (key rs) (k:Int) k)=true then 1 else 0)=0:=by
      rw [if_neg]; intro hh; exact (by simpa using hh:QSort.R (key rs) (k:Int) k).irr
    rw [z1,z2,z3]
    omega
  rw [h.p.countP_eq] at c1
  -- the indices below k,k,those above
  have e:idx rs.length=idx k++(k:Int)::(idx rs.length).drop (k+1):=by
    have h1:(idx rs.length).take k=idx k:=by unfold idx; rw [←List.map_take,List.take_range,Nat.min_eq_left (Nat.le_of_lt ek)]
    have h2:k<(idx rs.length).length:=by rw [bV]; exact ek
    conv=>lhs; rw [←List.take_append_drop k (idx rs.length),h1,List.drop_eq_getElem_cons h2]
    congr 2
    simp [idx]
  have a1:(idx k).countP (fun a=>decide (QSort.R (key rs) a k))=(rs.take k).countP (fun w=>decide (rs.getD k default≤w)):=by
    rw [←jv rs (fun w=>decide (rs.getD k default≤w)) k (by omega)]
    refine List.countP_congr (fun a ha=>?_)
    obtain ⟨j,hj,rfl⟩:=cg.1 ha
    simp only [decide_eq_true_eq]
    simp only [QSort.R,key,Int.toNat_natCast]
    omega
  have a2:((idx rs.length).drop (k+1)).countP (fun a=>decide (QSort.R (key rs) a k))=(rs.drop (k+1)).countP (fun w=>decide (rs.getD k default<w)):=by
    have b1:=jv rs (fun w=>decide (rs.getD k default<w)) rs.length (Nat.le_refl _)
    have b2:=jv rs (fun w=>decide (rs.getD k default<w)) (k+1) (by omega)
    rw [List.take_length] at b1
    have b3:rs.countP (fun w=>decide (rs.getD k default<w))=(rs.take (k+1)).countP (fun w=>decide (rs.getD k default<w))+(rs.drop (k+1)).countP (fun w=>decide (rs.getD k default<w)):=by
      rw [←List.countP_append,List.take_append_drop]
    have b4:idx rs.length=idx (k+1)++(idx rs.length).drop (k+1):=by
      rw [cP]; conv=>lhs; rw [e]
      simp
    rw [b4,List.countP_append,b2] at b1
    have b5:((idx rs.length).drop (k+1)).countP (fun a=>decide (QSort.R (key rs) a k))=((idx rs.length).drop (k+1)).countP (fun a=>(fun w=>decide (rs.getD k default<w)) (rs.getD a.toNat default)):=by
      refine List.countP_congr (fun a ha=>?_)
      have:(k:Int)<a:=by
        have hp:=c7 rs.length
        rw [e,List.pairwise_append,List.pairwise_cons] at hp
        exact hp.2.1.1 a ha
      have h0:0≤a:=by omega
      obtain ⟨j,rfl⟩:∃ j:Nat,a=j:=⟨a.toNat,by omega⟩
      simp only [decide_eq_true_eq]
      simp only [QSort.R,key,Int.toNat_natCast]
      omega
    rw [b5]; dsimp only at b1 b2 b3 ⊢; omega
  have a3:(if decide (QSort.R (key rs) (k:Int) k)=true then 1 else 0)=0:=by
    rw [if_neg]; intro hh; exact (by simpa using hh:QSort.R (key rs) (k:Int) k).irr
  rw [e,List.countP_append,List.countP_cons,a1,a2,a3] at c1
  omega
theorem iM (T S:Int) (W:List Int) {k:Nat} (h:k<W.length):(W.map (r T S)).getD k default=r T S (W.getD k default):=by simp [List.getD_eq_getElem?_getD,h]
theorem kO (T:Int) (W d:List Int) (hW:∀ w∈W,0≤w) (hS:sm W≠0) (h:Ord (W.map (r T (sm W))) d):share T W=inc (W.map (q T (sm W))) (d.take (left T W).toNat):=by
  have hS0:0<sm W:=by have:=bE W hW; omega
  have hlb:=ij T W hS0
  have hlm:=left_mul T W hS0
  have hdl:d.length=W.length:=by rw [h.len,List.length_map]
  unfold share
  rw [if_neg hS]
  refine List.ext_getElem (by rw [inc_len]; simp) (fun k h1 h2=>?_)
  have hk:k<W.length:=by simpa using h1
  rw [←aS h2,inc_at _ _ _ (h.nodup.sublist (List.take_sublist _ _)) (fun i hi=>by
    obtain ⟨j,_,rfl⟩:=h.mem.1 (List.mem_of_mem_take hi); omega) (by simpa using hk)]
  simp only [List.getElem_map,List.getElem_range,part]
  have e1:(W.map (q T (sm W))).getD k default=q T (sm W) (W.getD k default):=by simp [List.getD_eq_getElem?_getD,hk]
  rw [e1]
  congr 1
  -- where is k in the order?
  obtain ⟨t,ht,et⟩:=QSort.mem_at (A:=d) (x:=(k:Int)) (h.mem.2 ⟨k,by simpa using hk,rfl⟩)
  have hr:=rank h ht et
  rw [iM _ _ _ hk,← List.map_take,← List.map_drop,List.countP_map,List.countP_map] at hr
  have hmem:((k:Int)∈d.take (left T W).toNat)↔t<(left T W).toNat:=by
    constructor
    · intro hm
      obtain ⟨t',k1,k2,k3⟩:=QSort.ig hm
      have:t'=t:=by
        rcases Nat.lt_trichotomy t t' with hh | hh | hh
        · have:=QSort.bg h.s hh k2; rw [et,k3] at this; exact absurd this (fun x=>x.irr)
        · exact hh.symm
        · have:=QSort.bg h.s hh ht; rw [et,k3] at this; exact absurd this (fun x=>x.irr)
      omega
    · intro hm
      have:d.take (left T W).toNat=d.take (left T W).toNat:=rfl
      have h3:t<(d.take (left T W).toNat).length:=by simp; omega
      have:=QSort.ir h3
      rwa [QSort.at_take hm,et] at this
  have hwin:win T W k↔t<(left T W).toNat:=by
    unfold win
    simp only [Function.comp_def] at hr
    rw [hr]
    constructor
    · intro hh; omega
    · intro hh
      refine ⟨?_,by omega⟩
      -- a rest of 0 does not win: all behind it are 0,too
      rcases Int.lt_or_le 0 (r T (sm W) (W.getD k default)) with hp | hp
      · exact hp
      · exfalso
        have eperm:sm (d.map fun a=>(W.map (r T (sm W))).getD a.toNat default)=sm (W.map (r T (sm W))):=by
          rw [sm_perm (h.p.map _)]
          congr 1
          refine List.ext_getElem (by simp [idx]) (fun i i1 i2=>?_)
          simp only [List.getElem_map,idx,List.getElem_range,Int.toNat_natCast,iM T (sm W) W (show i<W.length by simpa using i2)]
          rw [aS (show i<W.length by simpa using i2)]
        have esp:d=d.take t++d.drop t:=(List.take_append_drop t d).symm
        have smsp:sm (d.map fun a=>(W.map (r T (sm W))).getD a.toNat default)=sm ((d.take t).map fun a=>(W.map (r T (sm W))).getD a.toNat default)+sm ((d.drop t).map fun a=>(W.map (r T (sm W))).getD a.toNat default):=by
          conv=>lhs; rw [esp]
          rw [List.map_append,dZ]
        have val:∀ a∈d,0≤(W.map (r T (sm W))).getD a.toNat default∧(W.map (r T (sm W))).getD a.toNat default≤sm W - 1:=by
          intro a ha
          obtain ⟨j,hj,rfl⟩:=h.mem.1 ha
          rw [List.length_map] at hj
          rw [Int.toNat_natCast,iM T (sm W) W hj]
          have:=r_bd (T:=T) (w:=W.getD j default) hS0; omega
        have s1:sm ((d.take t).map fun a=>(W.map (r T (sm W))).getD a.toNat default)≤t*(sm W - 1):=by
          have:=co (c:=sm W - 1) ((d.take t).map fun a=>(W.map (r T (sm W))).getD a.toNat default) (fun x hx=>by
            obtain ⟨a,ha,rfl⟩:=List.mem_map.1 hx; exact (val a (List.mem_of_mem_take ha)).2)
          rw [List.length_map,List.length_take,Nat.min_eq_left (by omega)] at this
          exact this
        have s2:sm ((d.drop t).map fun a=>(W.map (r T (sm W))).getD a.toNat default)≤(((d.drop t).map fun a=>(W.map (r T (sm W))).getD a.toNat default).length:Int)*0:=by
          refine co _ (fun x hx=>?_)
          obtain ⟨a,ha,rfl⟩:=List.mem_map.1 hx
          obtain ⟨i,i1,i2,rfl⟩:=QSort.fL ha
          have ek:(W.map (r T (sm W))).getD k default≤0:=by rw [iM T (sm W) W hk]; exact hp
          rcases Nat.lt_or_ge t i with q | q
          · have:=QSort.bg h.s q i2
            rw [et] at this
            unfold QSort.R key at this
            rw [Int.toNat_natCast] at this
            omega
          · obtain rfl:i=t:=by omega
            rw [et,Int.toNat_natCast]; exact ek
        rw [Int.mul_zero] at s2
        have:sm W*left T W≤t*(sm W - 1):=by rw [hlm,← eperm,smsp]; omega
        have h4:sm W*((t:Int)+1)≤sm W*left T W:=Int.mul_le_mul_of_nonneg_left (by omega) (by omega)
        rw [Int.mul_add,Int.mul_one,Int.mul_comm (sm W) t] at h4
        rw [Int.mul_sub,Int.mul_one] at this
        omega
  by_cases hw:win T W k
  · rw [if_pos hw,if_pos (hmem.2 (hwin.1 hw))]
  · rw [if_neg hw,if_neg (fun hh=>hw (hwin.2 (hmem.1 hh)))]
end Sh
end Go.Proofs.Ytolhpahjgddjkaa
namespace Go.Proofs.Ytolhpahjgddjkaa
set_option linter.all false
open Go.RowKit
namespace Sh
open QSort (wn au iteT iteF sb)
variable {K:Kn} {n:Nat}
def wts (L:List Int):List Int:=L.map fun w=>lim w mx
theorem aX (L:List Int):(wts L).length=L.length:=by simp [wts]
theorem bX (L:List Int):∀ w∈wts L,0≤w∧w≤2147483647:=by
  intro w hw
  obtain ⟨x,_,rfl⟩:=List.mem_map.1 hw
  exact lim_bd (m:=mx) (by decide)
theorem fq {L:List Int} {k:Nat} (h:k<L.length):(wts L).getD k default=lim (L.getD k default) mx:=by simp [wts,List.getD_eq_getElem?_getD,h]
theorem sm_wts {L:List Int} (h:L.length≤10000):0≤sm (wts L)∧sm (wts L)≤21474836470000:=by
  refine ⟨bE _ (fun w hw=>(bX L w hw).1),?_⟩
  have:=co (c:=2147483647) (wts L) (fun w hw=>(bX L w hw).2)
  rw [aX] at this; omega
theorem sm_take {W:List Int} (h:∀ w∈W,0≤w) (i:Nat):0≤sm (W.take i)∧sm (W.take i)≤sm W:=by
  have h1:=bE (W.take i) (fun w hw=>h w (List.mem_of_mem_take hw))
  have h2:=bE (W.drop i) (fun w hw=>h w (List.mem_of_mem_drop hw))
  have:sm W=sm (W.take i)+sm (W.drop i):=by rw [←dZ,List.take_append_drop]
  omega
theorem eu {W:List Int} {i:Nat} (h:i<W.length):sm (W.take (i+1))=sm (W.take i)+W.getD i default:=by
  rw [List.take_succ_eq_append_getElem h,dZ,aS h]; simp [sm]
theorem iQ {A:List Int} {k i:Nat} {y z:Int} (h:i=A.length):List.set (A++List.replicate (k+1) z) i y=(A++[y])++List.replicate k z:=by
  subst h; simp [List.replicate_succ]
theorem get_rep {A:List Int} {k i:Nat} {y z:Int} (h:i=A.length):List.getD ((A++[y])++List.replicate k z) i default=y:=by
  subst h; simp [List.getD_eq_getElem?_getD]
theorem mul_bd {a b:Int} (h0:0≤a) (h1:a≤2147483647) (h2:0≤b) (h3:b≤2147483647):0≤a*b∧a*b≤4611686014132420609:=by
  refine ⟨Int.mul_nonneg h0 h2,?_⟩
  have:=Int.mul_le_mul h1 h3 h2 (by omega:(0:Int)≤2147483647)
  omega
theorem fN (g:Int→Int) {W:List Int} {i:Nat} (h:i<W.length):(W.take (i+1)).map g=(W.take i).map g++[g (W.getD i default)]:=by
  rw [List.take_succ_eq_append_getElem h,List.map_append,aS h]; rfl
theorem left_part {T:Int} {W:List Int} (hT:0≤T) (hW:∀ w∈W,0≤w) (hS:0<sm W) (i:Nat):0≤sm ((W.take i).map (q T (sm W)))∧sm ((W.take i).map (q T (sm W)))≤T:=by
  have hq:∀ x∈W.map (q T (sm W)),0≤x:=fun x hx=>by
    obtain ⟨w,hw,rfl⟩:=List.mem_map.1 hx
    exact (q_bd hS hT (hW w hw) (dk W hW w hw)).1
  have:=sm_take hq i
  rw [←List.map_take] at this
  have h2:=(ij T W hS).1
  unfold left at h2
  omega
theorem f_sum (L:List Int) (T:Int) (z1 z2 z3:List Int) (hL:L.length≤10000):∀ (m i:Nat),i≤L.length→L.length<m+i →
    gr K n L T z1 z2 z3 m (sm ((wts L).take i)) (i:Int)=if (sm (wts L) == 0)=true then some z1 else eP K n L T (sm (wts L)) n T 0 z1 z2 z3:=by
  intro m
  induction m with
  | zero=>intro i h1 h2; omega
  | succ m ih =>
    intro i h1 h2
    simp only [gr,jh]
    by_cases hi:i<L.length
    · have hb:=sm_wts hL
      have hs:=sm_take (W:=wts L) (fun w hw=>(bX L w hw).1) (i+1)
      have e:=eu (W:=wts L) (i:=i) (by rw [aX]; exact hi)
      have el:=fq hi
      rw [iteT (by omega),au (by omega),tnat]
      simp only [dN,sb]
      rw [wn (n:=(i:Int)+1) (k:=i+1) (by omega) (by omega)]
      rw [show w64 (sm ((wts L).take i)+min (max (L.getD i default) 0) 2147483647)=sm ((wts L).take (i+1)) by
        rw [e,el]; exact bv (by rw [e,el] at hs; unfold lim mx at hs; omega) (by rw [e,el] at hs; unfold lim mx at hs; omega)]
      exact ih (i+1) (by omega) (by omega)
    · rw [iteF (by omega),List.take_of_length_le (by rw [aX]; omega)]
theorem f_parts (L:List Int) (T:Int) (hT:0≤T∧T≤2147483647) (hL:L.length≤10000) (hS:0<sm (wts L)):∀ (m i:Nat),i≤L.length→L.length<m+i →
    eP K n L T (sm (wts L)) m (T - sm (((wts L).take i).map (q T (sm (wts L))))) (i:Int) (((wts L).take i).map (q T (sm (wts L)))++List.replicate (L.length - i) 0) (((wts L).take i).map (r T (sm (wts L)))++List.replicate (L.length - i) 0) (idx i++List.replicate (L.length - i) 0) =
    (cY K n (idx L.length) (Fv.c59 ((wts L).map (r T (sm (wts L)))))).bind fun v22 =>
    chk (slb (0:Int) (left T (wts L)) v22.length) (
    eG K n n (List.drop ((0:Int)).toNat (List.take (left T (wts L)).toNat v22)) ((List.drop ((0:Int)).toNat (List.take (left T (wts L)).toNat v22)).length:Int) 0 ((wts L).map (q T (sm (wts L))))):=by
  intro m
  induction m with
  | zero=>intro i h1 h2; omega
  | succ m ih =>
    intro i h1 h2
    simp only [eP,iT]
    by_cases hi:i<L.length
    · have hW:=fun w hw=>(bX L w hw).1
      have hlp:=left_part hT.1 hW hS
      have el:=fq hi
      obtain ⟨k,ek⟩:∃ k,L.length - i=k+1:=⟨L.length - i - 1,by omega⟩
      have hw:=bX L ((wts L).getD i default) (by rw [aS (by rw [aX]; exact hi)]; exact List.getElem_mem _)
      have hm:=mul_bd hT.1 hT.2 hw.1 hw.2
      rw [iteT (by omega),au (by omega),tnat]
      simp only [dN,sb]
      have ew:min (max (L.getD i default) 0) 2147483647=(wts L).getD i default:=by rw [el]; rfl
      rw [ew,bv (n:=T*(wts L).getD i default) (by omega) (by omega)]
      have hz:(sm (wts L) != 0)=true:=by simp; omega
      rw [hz,bx,bx]
      have la:(((wts L).take i).map (q T (sm (wts L)))++List.replicate (L.length - i) 0).length=L.length:=by simp [aX]; omega
      have lb:(((wts L).take i).map (r T (sm (wts L)))++List.replicate (L.length - i) 0).length=L.length:=by simp [aX]; omega
      have lc:(idx i++List.replicate (L.length - i) 0).length=L.length:=by simp [bV]; omega
      rw [la,lb,lc,au (by omega),au (by omega),au (by omega)]
      simp only [List.length_set]
      rw [la,au (by omega),ek]
      have l1:i=(((wts L).take i).map (q T (sm (wts L)))).length:=by simp [aX]; omega
      have l2:i=(((wts L).take i).map (r T (sm (wts L)))).length:=by simp [aX]; omega
      rw [iQ l1,iQ l2,iQ (bV i).symm,get_rep l1]
      have hq:=q_bd hS hT.1 hw.1 (dk _ hW _ (by rw [aS (by rw [aX]; exact hi)]; exact List.getElem_mem _))
      have ed:w64 (Int.tdiv (T*(wts L).getD i default) (sm (wts L)))=q T (sm (wts L)) ((wts L).getD i default):=by
        rw [Int.tdiv_eq_ediv_of_nonneg hm.1]
        exact bv (by show _≤q _ _ _; omega) (by show q _ _ _≤_; omega)
      have er:Int.tmod (T*(wts L).getD i default) (sm (wts L))=r T (sm (wts L)) ((wts L).getD i default):=by
        rw [Int.tmod_eq_emod_of_nonneg hm.1]; rfl
      rw [ed,er,← fN _ (by rw [aX]; exact hi),← fN _ (by rw [aX]; exact hi),← cP]
      have e1:w64 (T - sm (((wts L).take i).map (q T (sm (wts L)))) - q T (sm (wts L)) ((wts L).getD i default))=T - sm (((wts L).take (i+1)).map (q T (sm (wts L)))):=by
        rw [fN _ (by rw [aX]; exact hi),dZ]
        simp only [sm]
        have a1:=hlp i
        rw [bv (by omega) (by omega)]; omega
      rw [e1,wn (n:=(i:Int)+1) (k:=i+1) (by omega) (by omega)]
      have:=ih (i+1) (by omega) (by omega)
      rw [show L.length - (i+1)=k by omega] at this
      exact this
    · have:i=L.length:=by omega
      subst this
      rw [iteF (by omega)]
      have ew:(wts L).take L.length=wts L:=List.take_of_length_le (by rw [aX]; omega)
      rw [ew]
      simp only [Nat.sub_self,List.replicate_zero,List.append_nil]
      rfl
theorem f_inc (l:List Int) (hl:l.length≤10000):∀ (m i:Nat) (p:List Int),i≤l.length→l.length<m+i→(∀ x∈l,0≤x∧x.toNat<p.length)→(∀ x∈p,0≤x∧x+l.length≤4611686018427387904+i) →
    eG K n m l (l.length:Int) (i:Int) p=some (inc p (l.drop i)):=by
  intro m
  induction m with
  | zero=>intro i p h1 h2; omega
  | succ m ih =>
    intro i p h1 h2 hx hp
    simp only [eG,iC]
    by_cases hi:i<l.length
    · have hm:=hx (l.getD i default) (by rw [aS hi]; exact List.getElem_mem _)
      have hpx:=hp (p.getD (l.getD i default).toNat default) (by rw [aS hm.2]; exact List.getElem_mem _)
      rw [iteT (by omega),au (by omega),tnat,au (by omega),au (by omega),wn (n:=(i:Int)+1) (k:=i+1) (by omega) (by omega),bv (by omega) (by omega)]
      rw [ih (i+1) _ (by omega) (by omega) (by simpa using hx) (fun x hx2=>by
        rcases List.mem_or_eq_of_mem_set hx2 with h | h
        · have:=hp x h; omega
        · subst h; omega)]
      rw [List.drop_eq_getElem_cons hi,← aS hi]
      rfl
    · rw [iteF (by omega),List.drop_eq_nil_of_le (by omega)]
      rfl
theorem cmp_ok (rs:List Int) (m:Nat):QSort.Cmp (KN (m+1)) (Fv.c59 rs) (fun a=>0≤a∧a<rs.length) (key rs):=by
  refine ⟨fun a b ha hb=>?_⟩
  show ∃ c,gC (KN m) m a b rs=some c∧_
  unfold gC
  rw [au hb,au ha]
  simp only [gb,gc,sb,bne_self_eq_false,Bool.false_eq_true,if_false,key]
  by_cases h1:rs.getD b.toNat default<rs.getD a.toNat default
  · rw [iteT h1]; exact ⟨-1,rfl,by omega⟩
  · rw [iteF h1]
    by_cases h2:rs.getD b.toNat default>rs.getD a.toNat default
    · rw [iteT h2]; exact ⟨1,rfl,by omega⟩
    · rw [iteF h2]; exact ⟨0,rfl,by omega⟩
theorem sorted (rs:List Int) {lvl n:Nat} (hn:10001<n) (hl:rs.length≤10000) (hlv:20010≤lvl):∃ d,Ord rs d∧cY (KN lvl) n (idx rs.length) (Fv.c59 rs)=some d:=by
  obtain ⟨d,h1,h2,h3⟩:=QSort.sort_ok (c0:=1) (f:=Fv.c59 rs) (D:=fun a=>0≤a∧a<rs.length) (key:=key rs) (fun m hm=>by
    obtain ⟨k,rfl⟩:∃ k,m=k+1:=⟨m - 1,by omega⟩
    exact cmp_ok rs k) (lvl:=lvl) (n:=n) (idx rs.length) hn (by rw [bV]; omega) (c7 _) (fun x hx=>by
      obtain ⟨k,hk,rfl⟩:=cg.1 hx; omega) (by rw [bV]; exact hl)
  exact ⟨d,⟨h1,h2⟩,h3⟩
theorem jn {a b:Int} {n:Nat} (h0:0≤a) (h1:a≤b) (h2:b≤n):slb a b n=true:=by simp [slb,h0,h1,h2]
theorem f0 {n b:Nat} (h:n*b≤140737488355328) (h2:n≤4611686018427387904):mkb (n:Int) b=true:=by
  simp only [mkb,Bool.and_eq_true,decide_eq_true_eq,Int.toNat_natCast]; omega
theorem flex_ok {lvl n:Nat} (T:Int) (L:List Int) (hL:L.length≤10000) (hn:10001<n) (hlv:20010≤lvl):fE (KN lvl) n T L=some (share (lim T mx) (wts L)):=by
  unfold fE
  have hT:0≤lim T mx∧lim T mx≤2147483647:=lim_bd (m:=mx) (by decide)
  simp only [dN,sb,f0 (show L.length*8≤140737488355328 by omega) (by omega),bx,tnat]
  have h1:=f_sum (K:=KN lvl) (n:=n) L (lim T mx) (List.replicate L.length 0) (List.replicate L.length 0) (List.replicate L.length 0) hL n 0 (by omega) (by omega)
  rw [show sm ((wts L).take 0)=0 from rfl,show ((0:Nat):Int)=0 from rfl] at h1
  rw [show min (max T 0) 2147483647=lim T mx from rfl,h1]
  have hsm:=sm_wts hL
  by_cases hz:sm (wts L)=0
  · rw [if_pos (by simp [hz])]
    unfold share
    rw [if_pos hz,aX]
  · rw [if_neg (by simp [hz])]
    have hS:0<sm (wts L):=by omega
    have h2:=f_parts (K:=KN lvl) (n:=n) L (lim T mx) hT hL hS n 0 (by omega) (by omega)
    simp only [List.take_zero,List.map_nil,List.nil_append,Nat.sub_zero,sm,Int.sub_zero,show idx 0=[] from rfl] at h2
    rw [show ((0:Nat):Int)=0 from rfl] at h2
    rw [h2]
    obtain ⟨d,o1,o2⟩:=sorted ((wts L).map (r (lim T mx) (sm (wts L)))) (lvl:=lvl) (n:=n) hn (by simp [aX,hL]) hlv
    rw [List.length_map,aX] at o2
    rw [o2,sb]
    have hd:d.length=L.length:=by rw [o1.len,List.length_map,aX]
    have hlb:=ij (lim T mx) (wts L) hS
    rw [aX] at hlb
    rw [jn (by omega) hlb.1 (by rw [hd]; exact hlb.2),bx]
    rw [show (0:Int).toNat=0 from rfl,List.drop_zero]
    rw [kO (lim T mx) (wts L) d (fun w hw=>(bX L w hw).1) (by omega) o1]
    have:=f_inc (K:=KN lvl) (n:=n) (d.take (left (lim T mx) (wts L)).toNat) (by simp; omega) n 0 ((wts L).map (q (lim T mx) (sm (wts L)))) (by omega) (by simp; omega) (fun x hx=>by
      obtain ⟨k,hk,rfl⟩:=o1.mem.1 (List.mem_of_mem_take hx)
      simp at hk; simp; omega) (fun x hx=>by
      obtain ⟨w,hw,rfl⟩:=List.mem_map.1 hx
      have:=q_bd hS hT.1 (bX L w hw).1 (dk _ (fun w hw=>(bX L w hw).1) w hw)
      have h3:(d.take (left (lim T mx) (wts L)).toNat).length≤10000:=by simp; omega
      omega)
    rw [show ((0:Nat):Int)=0 from rfl,List.drop_zero] at this
    exact this
theorem r_sum (L:List Int) (T:Int) (hL:L.length≤10000):∀ (m i:Nat),i≤L.length→L.length<m+i →
    gk K n L T m (sm ((wts L).take i)) (i:Int)=if (sm (wts L) == 0)=true then some (List.replicate L.length 0) else e9 K n L T (sm (wts L)) n T 0 (List.replicate L.length 0) (List.replicate L.length 0):=by
  intro m
  induction m with
  | zero=>intro i h1 h2; omega
  | succ m ih =>
    intro i h1 h2
    simp only [gk,js]
    by_cases hi:i<L.length
    · have hb:=sm_wts hL
      have hs:=sm_take (W:=wts L) (fun w hw=>(bX L w hw).1) (i+1)
      have e:=eu (W:=wts L) (i:=i) (by rw [aX]; exact hi)
      have el:=fq hi
      rw [iteT (by omega),au (by omega),tnat]
      simp only [dY,sb]
      rw [wn (n:=(i:Int)+1) (k:=i+1) (by omega) (by omega)]
      rw [show w64 (sm ((wts L).take i)+min (max (L.getD i default) 0) 2147483647)=sm ((wts L).take (i+1)) by
        rw [e,el]; exact bv (by rw [e,el] at hs; unfold lim mx at hs; omega) (by rw [e,el] at hs; unfold lim mx at hs; omega)]
      exact ih (i+1) (by omega) (by omega)
    · rw [iteF (by omega),List.take_of_length_le (by rw [aX]; omega)]
      simp only [f0 (show L.length*8≤140737488355328 by omega) (by omega),bx,tnat,sb]
theorem r_parts (L:List Int) (T:Int) (hT:0≤T∧T≤2147483647) (hL:L.length≤10000) (hS:0<sm (wts L)):∀ (m i:Nat),i≤L.length→L.length<m+i →
    e9 K n L T (sm (wts L)) m (T - sm (((wts L).take i).map (q T (sm (wts L))))) (i:Int) (((wts L).take i).map (q T (sm (wts L)))++List.replicate (L.length - i) 0) (((wts L).take i).map (r T (sm (wts L)))++List.replicate (L.length - i) 0) =
    dv K n n (left T (wts L)) ((wts L).map (q T (sm (wts L)))) ((wts L).map (r T (sm (wts L)))):=by
  intro m
  induction m with
  | zero=>intro i h1 h2; omega
  | succ m ih =>
    intro i h1 h2
    simp only [e9,ip]
    by_cases hi:i<L.length
    · have hW:=fun w hw=>(bX L w hw).1
      have hlp:=left_part hT.1 hW hS
      have el:=fq hi
      obtain ⟨k,ek⟩:∃ k,L.length - i=k+1:=⟨L.length - i - 1,by omega⟩
      have hw:=bX L ((wts L).getD i default) (by rw [aS (by rw [aX]; exact hi)]; exact List.getElem_mem _)
      have hm:=mul_bd hT.1 hT.2 hw.1 hw.2
      rw [iteT (by omega),au (by omega),tnat]
      simp only [dY,sb]
      have ew:min (max (L.getD i default) 0) 2147483647=(wts L).getD i default:=by rw [el]; rfl
      rw [ew,bv (n:=T*(wts L).getD i default) (by omega) (by omega)]
      have hz:(sm (wts L) != 0)=true:=by simp; omega
      rw [hz,bx,bx]
      have la:(((wts L).take i).map (q T (sm (wts L)))++List.replicate (L.length - i) 0).length=L.length:=by simp [aX]; omega
      have lb:(((wts L).take i).map (r T (sm (wts L)))++List.replicate (L.length - i) 0).length=L.length:=by simp [aX]; omega
      simp only [List.length_set]
      rw [la,lb,au (by omega),au (by omega),au (by omega),ek]
      have l1:i=(((wts L).take i).map (q T (sm (wts L)))).length:=by simp [aX]; omega
      have l2:i=(((wts L).take i).map (r T (sm (wts L)))).length:=by simp [aX]; omega
      rw [iQ l1,iQ l2,get_rep l1]
      have hq:=q_bd hS hT.1 hw.1 (dk _ hW _ (by rw [aS (by rw [aX]; exact hi)]; exact List.getElem_mem _))
      have ed:w64 (Int.tdiv (T*(wts L).getD i default) (sm (wts L)))=q T (sm (wts L)) ((wts L).getD i default):=by
        rw [Int.tdiv_eq_ediv_of_nonneg hm.1]
        exact bv (by show _≤q _ _ _; omega) (by show q _ _ _≤_; omega)
      have er:Int.tmod (T*(wts L).getD i default) (sm (wts L))=r T (sm (wts L)) ((wts L).getD i default):=by
        rw [Int.tmod_eq_emod_of_nonneg hm.1]; rfl
      rw [ed,er,← fN _ (by rw [aX]; exact hi),← fN _ (by rw [aX]; exact hi)]
      have e1:w64 (T - sm (((wts L).take i).map (q T (sm (wts L)))) - q T (sm (wts L)) ((wts L).getD i default))=T - sm (((wts L).take (i+1)).map (q T (sm (wts L)))):=by
        rw [fN _ (by rw [aX]; exact hi),dZ]
        simp only [sm]
        have a1:=hlp i
        rw [bv (by omega) (by omega)]; omega
      rw [e1,wn (n:=(i:Int)+1) (k:=i+1) (by omega) (by omega)]
      have:=ih (i+1) (by omega) (by omega)
      rw [show L.length - (i+1)=k by omega] at this
      exact this
    · have:i=L.length:=by omega
      subst this
      rw [iteF (by omega)]
      have ew:(wts L).take L.length=wts L:=List.take_of_length_le (by rw [aX]; omega)
      rw [ew]
      simp only [Nat.sub_self,List.replicate_zero,List.append_nil]
      rfl
structure Best (rs:List Int) (i b:Nat):Prop where
  lt:b<i
  before:∀ k,k<b→rs.getD k default<rs.getD b default
  all:∀ k,k<i→rs.getD k default≤rs.getD b default
theorem best_one (rs:List Int):Best rs 1 0:=⟨by omega,fun k hk=>by omega,fun k hk=>by
  have:k=0:=by omega
  subst this; exact Int.le_refl _⟩
theorem r_best (v27:Int) (p rs:List Int) (L3:Int→List Int→List Int→Option (List Int)) (hl:rs.length≤10000):∀ (m i b:Nat),i≤rs.length→rs.length<m+i→Best rs i b →
    ∃ b',Best rs rs.length b'∧gi K n v27 p rs L3 m (b:Int) (i:Int)=(chk (inb (b':Int) p.length) (
    chk (inb (b':Int) p.length) (
    (some (List.set p b' (w64 ((List.getD p b' default)+1)))).bind fun v36 =>
    chk (inb (b':Int) rs.length) (
    L3 (w64 (v27 - 1)) v36 (List.set rs b' (-1)))))):=by
  intro m
  induction m with
  | zero=>intro i b h1 h2; omega
  | succ m ih =>
    intro i b h1 h2 hb
    have hlt:=hb.lt
    simp only [gi,hE]
    by_cases hi:i<rs.length
    · rw [iteT (by omega),au (by omega),au (by omega),tnat,tnat]
      simp only [sb,gX]
      rw [wn (n:=(i:Int)+1) (k:=i+1) (by omega) (by omega)]
      by_cases hc:rs.getD i default>rs.getD b default
      · rw [iteT hc]
        refine ih (i+1) i (by omega) (by omega) ⟨by omega,fun k hk=>?_,fun k hk=>?_⟩
        · have:=hb.all k hk; omega
        · rcases Nat.lt_or_ge k i with q | q
          · have:=hb.all k q; omega
          · obtain rfl:k=i:=by omega
            exact Int.le_refl _
      · rw [iteF hc]
        refine ih (i+1) b (by omega) (by omega) ⟨by omega,hb.before,fun k hk=>?_⟩
        rcases Nat.lt_or_ge k i with q | q
        · exact hb.all k q
        · obtain rfl:k=i:=by omega
          omega
    · rw [iteF (by omega)]
      have:i=rs.length:=by omega
      subst this
      exact ⟨b,hb,by simp only [tnat]⟩
def mark (rs l:List Int):List Int:=l.foldl (fun a i=>a.set i.toNat (-1)) rs
theorem mark_len (l:List Int):∀ rs:List Int,(mark rs l).length=rs.length:=by
  induction l with
  | nil=>intro rs; rfl
  | cons i l ih=>intro rs; show (mark (rs.set i.toNat (-1)) l).length=_; rw [ih]; simp
theorem kV (l:List Int):∀ (rs:List Int) (k:Nat),(∀ i∈l,0≤i)→(k:Int) ∉ l→(mark rs l).getD k default=rs.getD k default:=by
  induction l with
  | nil=>intro rs k _ _; rfl
  | cons i l ih =>
    intro rs k h0 hk
    show (mark (rs.set i.toNat (-1)) l).getD k default=_
    have:=h0 i (by simp)
    rw [ih _ k (fun j hj=>h0 j (by simp [hj])) (fun h=>hk (by simp [h])),lP (fun e=>hk (by simp; omega))]
theorem mark_in (l:List Int):∀ (rs:List Int) (k:Nat),(∀ i∈l,0≤i)→(k:Int)∈l→k<rs.length→(mark rs l).getD k default = -1:=by
  induction l with
  | nil=>intro rs k _ h; simp at h
  | cons i l ih =>
    intro rs k h0 hk hl
    show (mark (rs.set i.toNat (-1)) l).getD k default=_
    by_cases hm:(k:Int)∈l
    · exact ih _ k (fun j hj=>h0 j (by simp [hj])) hm (by simpa using hl)
    · rw [kV l _ k (fun j hj=>h0 j (by simp [hj])) hm]
      have:i=(k:Int):=by rcases List.mem_cons.1 hk with h | h; exact h.symm; exact absurd h hm
      subst this
      rw [Int.toNat_natCast,lD hl]
theorem mark_app (rs l m:List Int):mark rs (l++m)=mark (mark rs l) m:=by simp [mark]
theorem best_is {rs d:List Int} (h:Ord rs d) (h0:∀ k,k<rs.length→0≤rs.getD k default) {t b:Nat} (ht:t<d.length) (hb:Best (mark rs (d.take t)) rs.length b):d.getD t default=(b:Int):=by
  have hnn:∀ i∈d.take t,0≤i:=fun i hi=>by obtain ⟨j,_,rfl⟩:=h.mem.1 (List.mem_of_mem_take hi); omega
  have hm:d.getD t default∈d:=by rw [aS ht]; exact List.getElem_mem _
  obtain ⟨e,he,ee⟩:=h.mem.1 hm
  have nd:=h.nodup
  have enot:(e:Int) ∉ d.take t:=by
    intro hh
    obtain ⟨i,i1,i2,i3⟩:=QSort.ig hh
    have:=QSort.bg h.s i1 ht
    unfold QSort.at_ at this i3
    rw [i3,ee] at this
    exact this.irr
  have ve:(mark rs (d.take t)).getD e default=rs.getD e default:=kV _ _ _ hnn enot
  have hle:=hb.all e he
  rw [ve] at hle
  by_cases hbt:(b:Int)∈d.take t
  · have:=mark_in (d.take t) rs b hnn hbt hb.lt
    have:=h0 e he
    omega
  · have vb:(mark rs (d.take t)).getD b default=rs.getD b default:=kV _ _ _ hnn hbt
    rw [vb] at hle
    by_cases hbe:b=e
    · rw [ee,hbe]
    · exfalso
      have hbd:(b:Int)∈d:=h.mem.2 ⟨b,hb.lt,rfl⟩
      have hbd2:(b:Int)∈d.drop (t+1):=by
        have e1:d=d.take t++d.drop t:=(List.take_append_drop t d).symm
        have e2:d.drop t=d.getD t default::d.drop (t+1):=by rw [List.drop_eq_getElem_cons ht,← aS ht]
        rw [e2] at e1
        rw [e1] at hbd
        rcases List.mem_append.1 hbd with q | q
        · exact absurd q hbt
        · rcases List.mem_cons.1 q with q | q
          · exfalso; rw [ee] at q; omega
          · exact q
      obtain ⟨i,i1,i2,i3⟩:=QSort.fL hbd2
      have hR:=QSort.bg h.s (i:=t) (j:=i) (by omega) i2
      unfold QSort.at_ at hR i3
      rw [i3,ee] at hR
      unfold QSort.R key at hR
      rw [Int.toNat_natCast,Int.toNat_natCast] at hR
      have hbf:=hb.before
      rcases Nat.lt_or_ge e b with q | q
      · have:=hbf e q; rw [ve,vb] at this; omega
      · omega
theorem r_rounds {rs d p:List Int} (h:Ord rs d) (h0:∀ k,k<rs.length→0≤rs.getD k default) (hl:rs.length≤10000) (hp:p.length=rs.length) (hn:10001<n) (l:Nat) (hld:l≤d.length) (hpb:∀ x∈p,0≤x∧x≤4611686018427387904):∀ (m t:Nat),t≤l→l<m+t →
    dv K n m ((l - t:Nat):Int) (inc p (d.take t)) (mark rs (d.take t))=some (inc p (d.take l)):=by
  intro m
  induction m with
  | zero=>intro t h1 h2; omega
  | succ m ih =>
    intro t h1 h2
    simp only [dv,ia]
    have hdl:=h.len
    by_cases ht:t<l
    · rw [iteT (by omega)]
      have hr0:0<rs.length:=by omega
      have ml:=mark_len (d.take t) rs
      obtain ⟨b,hb,e⟩:=r_best (K:=K) (n:=n) ((l - t:Nat):Int) (inc p (d.take t)) (mark rs (d.take t)) (dv K n m) (by rw [ml]; exact hl) n 1 0 (by omega) (by omega) (best_one _)
      rw [show ((0:Nat):Int)=0 from rfl,show ((1:Nat):Int)=1 from rfl] at e
      rw [e]
      rw [ml] at hb
      have hbi:=best_is h h0 (by omega) hb
      have hblt:=hb.lt
      rw [inc_len,hp,ml,au (by omega),au (by omega),sb,au (by omega)]
      rw [wn (n:=((l - t:Nat):Int) - 1) (k:=l - (t+1)) (by omega) (by omega)]
      have hnd:(d.take t).Nodup:=h.nodup.sublist (List.take_sublist _ _)
      have hnn:∀ i∈d.take t,0≤i:=fun i hi=>by obtain ⟨j,_,rfl⟩:=h.mem.1 (List.mem_of_mem_take hi); omega
      have hv:=inc_at (d.take t) p b hnd hnn (by omega)
      have hpv:=hpb (p.getD b default) (by rw [aS (by omega)]; exact List.getElem_mem _)
      have hw:w64 ((inc p (d.take t)).getD b default+1)=(inc p (d.take t)).getD b default+1:=by
        refine bv ?_ ?_<;>(rw [hv]; split<;>omega)
      have es:d.take (t+1)=d.take t++[(b:Int)]:=by
        rw [List.take_succ_eq_append_getElem (by omega),← aS (by omega),hbi]
      have e1:List.set (inc p (d.take t)) b ((inc p (d.take t)).getD b default+1)=inc p (d.take (t+1)):=by
        rw [es,inc_app]; rfl
      have e2:List.set (mark rs (d.take t)) b (-1)=mark rs (d.take (t+1)):=by
        rw [es,mark_app]; rfl
      rw [hw,e1,e2]
      exact ih (t+1) (by omega) (by omega)
    · have:t=l:=by omega
      subst this
      rw [iteF (by omega)]
theorem ref_ok {K:Kn} {n:Nat} (T:Int) (L:List Int) (hL:L.length≤10000) (hn:10001<n):gK K n T L=some (share (lim T mx) (wts L)):=by
  unfold gK
  have hT:0≤lim T mx∧lim T mx≤2147483647:=lim_bd (m:=mx) (by decide)
  simp only [dY,sb]
  have h1:=r_sum (K:=K) (n:=n) L (lim T mx) hL n 0 (by omega) (by omega)
  rw [show sm ((wts L).take 0)=0 from rfl,show ((0:Nat):Int)=0 from rfl] at h1
  rw [show min (max T 0) 2147483647=lim T mx from rfl,h1]
  have hsm:=sm_wts hL
  by_cases hz:sm (wts L)=0
  · rw [if_pos (by simp [hz])]
    unfold share
    rw [if_pos hz,aX]
  · rw [if_neg (by simp [hz])]
    have hS:0<sm (wts L):=by omega
    have h2:=r_parts (K:=K) (n:=n) L (lim T mx) hT hL hS n 0 (by omega) (by omega)
    simp only [List.take_zero,List.map_nil,List.nil_append,Nat.sub_zero,sm,Int.sub_zero] at h2
    rw [show ((0:Nat):Int)=0 from rfl] at h2
    rw [h2]
    obtain ⟨d,o1,o2⟩:=sorted ((wts L).map (r (lim T mx) (sm (wts L)))) (lvl:=20010) (n:=10002) (by omega) (by simp [aX,hL]) (Nat.le_refl _)
    have hd:d.length=L.length:=by rw [o1.len,List.length_map,aX]
    have hlb:=ij (lim T mx) (wts L) hS
    rw [aX] at hlb
    rw [kO (lim T mx) (wts L) d (fun w hw=>(bX L w hw).1) (by omega) o1]
    have:=r_rounds (K:=K) (n:=n) (p:=(wts L).map (q (lim T mx) (sm (wts L)))) o1 (fun k hk=>by
      rw [List.length_map] at hk
      rw [iM _ _ _ hk]; exact (r_bd hS).1) (by simp [aX,hL]) (by simp) hn (left (lim T mx) (wts L)).toNat (by omega) (fun x hx=>by
      obtain ⟨w,hw,rfl⟩:=List.mem_map.1 hx
      have:=q_bd hS hT.1 (bX L w hw).1 (dk _ (fun w hw=>(bX L w hw).1) w hw)
      omega) n 0 (by omega) (by omega)
    rw [show (((left (lim T mx) (wts L)).toNat - 0:Nat):Int)=left (lim T mx) (wts L) by omega] at this
    exact this
end Sh
end Go.Proofs.Ytolhpahjgddjkaa
namespace Go.Proofs.Ytolhpahjgddjkaa
set_option linter.all false
open Go.RowKit
namespace Sh
theorem share_at {T:Int} {W:List Int} (hS:sm W≠0) {k:Nat} (hk:k<W.length):(share T W).getD k default=part T W k:=by
  rw [aS (by rw [cQ]; exact hk)]
  unfold share
  simp [hS]
theorem share_nil {T:Int} {W:List Int} (hS:sm W=0):share T W=List.replicate W.length 0:=by unfold share; rw [if_pos hS]
theorem sm_rep:∀ n:Nat,sm (List.replicate n 0)=0
  | 0=>rfl
  | n+1=>by simp [List.replicate_succ,sm,sm_rep n]
theorem share_sum {T:Int} {W:List Int} (hW:∀ w∈W,0≤w) (hS:sm W≠0) (hl:W.length≤10000):sm (share T W)=T:=by
  have hS0:0<sm W:=by have:=bE W hW; omega
  obtain ⟨d,o1,o2⟩:=sorted (W.map (r T (sm W))) (lvl:=20010) (n:=10002) (by omega) (by simpa using hl) (Nat.le_refl _)
  have hlb:=ij T W hS0
  have hd:d.length=W.length:=by rw [o1.len,List.length_map]
  rw [kO T W d hW hS o1,inc_sum _ _ (fun i hi=>by
    obtain ⟨j,hj,rfl⟩:=o1.mem.1 (List.mem_of_mem_take hi)
    simp at hj ⊢; omega)]
  have:(d.take (left T W).toNat).length=(left T W).toNat:=by simp; omega
  rw [this]
  unfold left at *
  omega
theorem part_bd {T:Int} {W:List Int} (hW:∀ w∈W,0≤w) (hT:0≤T) (hS:0<sm W) {k:Nat} (hk:k<W.length):0≤part T W k∧part T W k≤T+1:=by
  have hm:W.getD k default∈W:=by rw [aS hk]; exact List.getElem_mem _
  have:=q_bd hS hT (hW _ hm) (dk W hW _ hm)
  unfold part
  split<;>omega
end Sh
end Go.Proofs.Ytolhpahjgddjkaa
namespace Go.Proofs.Ytolhpahjgddjkaa.Tb
set_option linter.all false
open Go.RowKit
open Sh (share wts lim mx bE co aX fq bX cQ sm_rep)
open QSort (wn au iteT iteF sb)
set_option maxRecDepth 20000
def sz (x:Int):Int:=min (max x 0) 1048576
theorem dT (x:Int):0≤sz x∧sz x≤1048576:=by unfold sz; omega
variable {K:Kn} {n:Nat}
theorem limit_ok (x:Int):c9 K n x=some (sz x):=rfl
theorem jR (x:Int):eS K n x=some (sz x):=rfl
theorem width_ok (x:Int):gY K n x=some (sz x):=rfl
def pos (L:List Int):Bool:=L.any fun w=>decide (w>0)
theorem index_ok {lvl n:Nat} (L:List Int) (hl:L.length≤10000):∀ (m i:Nat),i≤L.length→L.length<m+i →
    ∃ x,fH (KN (lvl+1)) n L (Fv.fn 62) m (i:Int)=some x∧decide (x≥0)=pos (L.drop i):=by
  intro m
  induction m with
  | zero=>intro i h1 h2; omega
  | succ m ih =>
    intro i h1 h2
    simp only [fH,gP]
    by_cases hi:i<L.length
    · rw [iteT (by omega),au (by omega),tnat]
      have e:(KN (lvl+1)).gH (Fv.fn 62) (L.getD i default)=some (decide (L.getD i default>0)):=rfl
      rw [e,sb,List.drop_eq_getElem_cons hi]
      have e2:pos (L[i]::L.drop (i+1))=(decide (L.getD i default>0) || pos (L.drop (i+1))):=by rw [aS hi]; rfl
      by_cases hp:L.getD i default>0
      · rw [iteT hp,e2]; exact ⟨_,rfl,by simp only [hp,decide_true,Bool.true_or,decide_eq_true_eq]; omega⟩
      · rw [iteF hp,e2,wn (n:=(i:Int)+1) (k:=i+1) (by omega) (by omega)]
        obtain ⟨x,e3,e4⟩:=ih (i+1) (by omega) (by omega)
        exact ⟨x,e3,by rw [e4]; simp only [hp,decide_false,Bool.false_or]⟩
    · rw [iteF (by omega),List.drop_eq_nil_of_le (by omega)]
      exact ⟨_,rfl,rfl⟩
theorem contains_ok {lvl n:Nat} (L:List Int) (hl:L.length≤10000) (hn:10000<n) (hlv:0<lvl):gO (KN lvl) n L (Fv.fn 62)=some (pos L):=by
  obtain ⟨k,rfl⟩:∃ k,lvl=k+1:=⟨lvl - 1,by omega⟩
  unfold gO kg
  obtain ⟨x,e,e2⟩:=index_ok (lvl:=k) (n:=n) L hl n 0 (by omega) (by omega)
  rw [show ((0:Nat):Int)=0 from rfl] at e
  rw [e,sb,e2]; rfl
theorem and_low {x:Nat} (h:x≤10000):iand .u64 (x:Int) 4294967295=(x:Int):=by
  unfold iand
  have e1:BitVec.ofInt (IntKind.bits .u64) (x:Int)=BitVec.ofNat 64 x:=BitVec.ofInt_natCast 64 x
  have e2:BitVec.ofInt (IntKind.bits .u64) (4294967295:Int)=BitVec.ofNat 64 4294967295:=rfl
  have e3:(BitVec.ofNat 64 x &&& BitVec.ofNat 64 4294967295).toNat=x:=by
    rw [BitVec.toNat_and,BitVec.toNat_ofNat,BitVec.toNat_ofNat,Nat.mod_eq_of_lt (by omega),Nat.mod_eq_of_lt (by omega),show (4294967295:Nat)=2 ^ 32 - 1 from rfl,Nat.and_two_pow_sub_one_eq_mod]
    omega
  have e4:(BitVec.ofInt (IntKind.bits .u64) (x:Int) &&& BitVec.ofInt (IntKind.bits .u64) (4294967295:Int)).toNat=x:=by rw [e1,e2]; exact e3
  rw [e4,IntKind.wrap_u64]; omega
theorem mul_ok {c:Nat} (h:c≤10000):gA K n 1 (c:Int)=some ((0:Int),(c:Int)):=by
  unfold gA jY
  have a1:iand .u64 (1:Int) 4294967295=1:=and_low (x:=1) (by omega)
  have a0:iand .u64 (0:Int) 4294967295=0:=and_low (x:=0) (by omega)
  have w0:IntKind.wrap .u64 0=0:=by rw [IntKind.wrap_u64]; rfl
  have wc:IntKind.wrap .u64 (c:Int)=c:=by rw [IntKind.wrap_u64]; omega
  have d1:(1:Int) / 4294967296=0:=by decide
  have dc:(c:Int) / 4294967296=0:=by omega
  simp only [Option.bind_some,and_low h,a1,d1,dc,Int.zero_mul,Int.mul_zero,Int.one_mul,w0,wc,Int.add_zero,a0,Int.zero_add,Int.zero_ediv]
theorem rep_loop (c:Nat) (hc:c≤10000):∀ (m a:Nat),0<a→a≤c→c<m+a →
    gy K n m (a:Int) (List.replicate a 1++List.replicate (c - a) 0)=some (List.replicate c 1):=by
  intro m
  induction m with
  | zero=>intro i h1 h2; omega
  | succ m ih =>
    intro a h0 h1 h2
    have hl:(List.replicate a (1:Int)++List.replicate (c - a) 0).length=c:=by simp; omega
    simp only [gy,jk,hl]
    by_cases hi:a<c
    · rw [iteT (by omega),Sh.jn (by omega) (by omega) (by omega),bx,Sh.jn (by omega) (by omega) (by omega),bx]
      have e1:cpb ((a:Int)).toNat (((c:Int)).toNat - ((a:Int)).toNat) c ((0:Int).toNat) (((a:Int)).toNat - (0:Int).toNat) c=true:=by
        simp only [cpb,Bool.and_eq_true,decide_eq_true_eq]; omega
      rw [e1,bx]
      have e2:cpy (List.replicate a (1:Int)++List.replicate (c - a) 0) ((a:Int)).toNat (((c:Int)).toNat - ((a:Int)).toNat) (List.replicate a (1:Int)++List.replicate (c - a) 0) ((0:Int).toNat) (((a:Int)).toNat - (0:Int).toNat)=List.replicate (a+min a (c - a)) (1:Int)++List.replicate (c - (a+min a (c - a))) 0:=by
        simp only [tnat,Int.toNat_zero,Nat.sub_zero]
        unfold cpy
        rw [List.drop_zero,List.take_append_of_le_length (by simp),List.take_append_of_le_length (by simp; omega),List.take_replicate,List.take_replicate,Nat.min_self,show List.drop (a+min a (c - a)) (List.replicate a (1:Int)++List.replicate (c - a) 0)=List.replicate (c - (a+min a (c - a))) 0 by
          rw [List.drop_append,List.drop_eq_nil_of_le (by simp),List.nil_append,List.drop_replicate]; congr 1; simp; omega,← List.append_assoc,List.replicate_append_replicate]
        congr 2
        omega
      rw [e2]
      have e3:w64 ((a:Int)+((min (((a:Int)).toNat - (0:Int).toNat) (((c:Int)).toNat - ((a:Int)).toNat):Nat):Int))=((a+min a (c - a):Nat):Int):=by
        simp only [tnat,Int.toNat_zero,Nat.sub_zero]
        exact wn (by omega) (by omega)
      rw [e3]
      exact ih (a+min a (c - a)) (by omega) (by omega) (by omega)
    · obtain rfl:a=c:=by omega
      rw [iteF (by omega),Nat.sub_self,List.replicate_zero,List.append_nil]
theorem repeat_ok {n:Nat} (c:Nat) (hc:c≤10000) (hn:10000<n):gI K n [1] (c:Int)=some (List.replicate c 1):=by
  unfold gI
  have w1:IntKind.wrap .u64 (((([1]:List Int).length:Nat)):Int)=1:=by rw [IntKind.wrap_u64]; rfl
  have wc:IntKind.wrap .u64 (c:Int)=c:=by rw [IntKind.wrap_u64]; omega
  rw [iteF (by omega),w1,wc,mul_ok hc,sb,iteF (by simp)]
  unfold gL
  have hw:w64 (c:Int)=c:=bv (by omega) (by omega)
  simp only [hw,tnat,Option.bind_some,List.length_replicate,show decide ((c:Int)>9223372036854775807)=false by simp; omega,Bool.false_eq_true,if_false]
  rw [Sh.f0 (by omega) (by omega),bx,show cpb 0 c c 0 ([1]:List Int).length ([1]:List Int).length=true by simp [cpb],bx]
  by_cases h0:c=0
  · subst h0
    obtain ⟨k,rfl⟩:∃ k,n=k+1:=⟨n - 1,by omega⟩
    rfl
  · have e:cpy (List.replicate c (0:Int)) 0 c [1] 0 ([1]:List Int).length=List.replicate 1 (1:Int)++List.replicate (c - 1) 0:=by
      obtain ⟨k,rfl⟩:∃ k,c=k+1:=⟨c - 1,by omega⟩
      simp [cpy,List.replicate_succ]
    rw [e,show ((min ([1]:List Int).length c:Nat):Int)=((1:Nat):Int) by simp; omega]
    exact rep_loop c hc n 1 (by omega) (by omega) (by omega)
def eqw (W:List Int):List Int:=if pos W=true then W else List.replicate W.length 1
theorem dt (W:List Int):(eqw W).length=W.length:=by unfold eqw; split<;>simp
theorem tshare_ok {lvl n:Nat} (T:Int) (W:List Int) (hl:W.length≤10000) (hn:10001<n) (hlv:20010≤lvl):dQ (KN lvl) n T W=some (share (lim T mx) (wts (eqw W))):=by
  unfold dQ ib
  rw [contains_ok W hl (by omega) (by omega),sb]
  unfold eqw
  cases hp:pos W
  · simp only [Bool.not_false,if_true,Bool.false_eq_true,if_false]
    rw [repeat_ok W.length hl (by omega),sb,Sh.flex_ok T (List.replicate W.length 1) (by simpa using hl) (by omega) (by omega)]; rfl
  · simp only [Bool.not_true,Bool.false_eq_true,if_false,if_true]
    rw [Sh.flex_ok T W hl (by omega) (by omega)]; rfl
end Go.Proofs.Ytolhpahjgddjkaa.Tb
namespace Go.Proofs.Ytolhpahjgddjkaa.Tb
set_option linter.all false
open Go.RowKit
open Sh (share wts lim mx bE co aX fq bX cQ sm_rep)
open QSort (wn au iteT iteF sb)
set_option maxRecDepth 20000
variable {K:Kn} {n:Nat}
def adds (A P:List Int):List Int:=tab A.length fun k=>A.getD k default+P.getD k default
theorem cz (A P:List Int):(adds A P).length=A.length:=iP _ _
theorem ja {A P:List Int} {k:Nat} (h:k<A.length):(adds A P).getD k default=A.getD k default+P.getD k default:=tab_at h
theorem map_at {f:aa→Int} {L:List aa} {k:Nat} (h:k<L.length):(L.map f).getD k default=f (L.getD k default):=by simp [List.getD_eq_getElem?_getD,h]
theorem wts_id {W:List Int} (h:∀ w∈W,0≤w∧w≤2147483647):wts W=W:=by
  unfold wts
  conv=>rhs; rw [←List.map_id W]
  refine List.map_congr_left (fun w hw=>?_)
  have:=h w hw
  unfold lim mx; simp; omega
theorem gv {W:List Int} (h:∀ w∈W,0≤w∧w≤2147483647):∀ w∈eqw W,0≤w∧w≤2147483647:=by
  unfold eqw; split
  · exact h
  · intro w hw; have:=(List.mem_replicate.1 hw).2; omega
theorem share_bd {T:Int} {W:List Int} (hT:0≤T∧T≤1048576) (hW:∀ w∈W,0≤w) (k:Nat) (hk:k<W.length):0≤(share T W).getD k default∧(share T W).getD k default≤1048577:=by
  by_cases hS:sm W=0
  · rw [Sh.share_nil hS]; simp [List.getD_eq_getElem?_getD,hk]
  · rw [Sh.share_at hS hk]
    have:=Sh.part_bd hW hT.1 (by have:=bE W hW; omega) hk
    omega
def zer (L:List Int):Bool:=L.all fun b=>b == 0
theorem zer_pos {L:List Int} (h:∀ w∈L,0≤w):zer L=!pos L:=by
  unfold zer pos
  induction L with
  | nil=>rfl
  | cons x r ih =>
    have:=h x (by simp)
    simp only [List.all_cons,List.any_cons,Bool.not_or,ih (fun y hy=>h y (by simp [hy]))]
    congr 1
    by_cases hx:x=0
    · subst hx; rfl
    · rw [beq_false_of_ne hx,show decide (x>0)=true by simp; omega]; rfl
end Go.Proofs.Ytolhpahjgddjkaa.Tb
namespace Go.Proofs.Ytolhpahjgddjkaa.Tb
set_option linter.all false
open Go.RowKit
open Sh (idx bV cg c7 cP)
open QSort (wn au iteT iteF sb R)
set_option maxRecDepth 20000
variable {K:Kn} {n:Nat}
def grp (key:Int→Int) (V:List Int):Nat→List Int
  | 0=>[]
  | N+1=>grp key V N++V.filter fun i=>key i == ((N+1:Nat):Int)
theorem iX {key:Int→Int} {V:List Int} {x:Int}:∀ {N:Nat},x∈grp key V N→x∈V∧key x≤N
  | 0,h=>by simp [grp] at h
  | N+1,h=>by
    simp only [grp,List.mem_append,List.mem_filter,beq_iff_eq] at h
    rcases h with h | h
    · have:=iX h; exact ⟨this.1,by omega⟩
    · exact ⟨h.1,by omega⟩
theorem jU {key:Int→Int} {V:List Int} (hk:∀ v∈V,1≤key v):∀ N:Nat,(grp key V N).Perm (V.filter fun i=>decide (key i≤N))
  | 0=>by
    have:V.filter (fun i=>decide (key i≤((0:Nat):Int)))=[]:=by
      rw [List.filter_eq_nil_iff]; intro a ha; have:=hk a ha; simp; omega
    rw [this]; exact List.Perm.refl _
  | N+1=>by
    have h1:=(jU hk N).append_right (V.filter fun i=>key i == ((N+1:Nat):Int))
    refine h1.trans ?_
    have h2:=List.filter_append_perm (fun i=>decide (key i≤(N:Int))) (V.filter fun i=>decide (key i≤((N+1:Nat):Int)))
    rw [List.filter_filter,List.filter_filter] at h2
    have e1:V.filter (fun a=>decide (key a≤(N:Int)) && decide (key a≤((N+1:Nat):Int)))=V.filter fun i=>decide (key i≤(N:Int)) :=
      List.filter_congr fun x _=>by
        by_cases h:key x≤(N:Int)
        · have:key x≤((N+1:Nat):Int):=by omega
          simp only [h,this,decide_true,Bool.and_true]
        · simp only [h,decide_false,Bool.false_and]
    have e2:V.filter (fun a=>(!decide (key a≤(N:Int))) && decide (key a≤((N+1:Nat):Int)))=V.filter fun i=>key i == ((N+1:Nat):Int) :=
      List.filter_congr fun x _=>by
        by_cases h:key x=((N+1:Nat):Int)
        · have h3:¬ key x≤(N:Int):=by omega
          have h4:key x≤((N+1:Nat):Int):=by omega
          rw [beq_iff_eq.2 h]; simp only [h3,h4,decide_false,decide_true,Bool.not_false,Bool.and_true]
        · rw [beq_false_of_ne h]
          by_cases h3:key x≤(N:Int)
          · simp only [h3,decide_true,Bool.not_true,Bool.false_and]
          · have h4:¬ key x≤((N+1:Nat):Int):=by omega
            simp only [h4,decide_false,Bool.and_false]
    rw [e1,e2] at h2
    exact h2
theorem grp_pair {key:Int→Int} {V:List Int} (hV:V.Pairwise (· < ·)):∀ N:Nat,(grp key V N).Pairwise (R key)
  | 0=>List.Pairwise.nil
  | N+1=>by
    refine List.pairwise_append.2 ⟨grp_pair hV N,?_,fun a ha b hb=>?_⟩
    · refine List.Pairwise.imp_of_mem ?_ (hV.filter _)
      intro a b ha hb hab
      have h1:=(List.mem_filter.1 ha).2; have h2:=(List.mem_filter.1 hb).2
      simp only [beq_iff_eq] at h1 h2
      right; exact ⟨by omega,hab⟩
    · have h1:=(iX ha).2; have h2:=(List.mem_filter.1 hb).2
      simp only [beq_iff_eq] at h2
      left; omega
theorem grp_eq {key:Int→Int} {V d:List Int} {N:Nat} (hp:d.Perm V) (hs:d.Pairwise (R key)) (hV:V.Pairwise (· < ·)) (hk:∀ v∈V,1≤key v∧key v≤N):d=grp key V N:=by
  have h:=jU (fun v hv=>(hk v hv).1) N
  have e:V.filter (fun i=>decide (key i≤(N:Int)))=V:=List.filter_eq_self.2 fun a ha=>by have:=(hk a ha).2; simpa using this
  rw [e] at h
  exact List.Perm.eq_of_pairwise (fun a b _ _ h1 h2=>(h1.asymm h2).elim) hs (grp_pair hV N) (hp.trans h.symm)
def okp (p:ab):Bool:=decide (p.Row≥0) && (decide (p.Col≥0) && (decide (p.Rows≥1) && decide (p.Cols≥1)))
def plc (L:List ab) (i:Int):ab:=L.getD i.toNat default
def val (L:List ab) (q:ab→Bool) (c:Nat):List Int:=(idx (min L.length c)).filter fun i=>okp (plc L i) && q (plc L i)
theorem jT {L:List ab} {q:ab→Bool} {c:Nat} {x:Int} (h:x∈val L q c):0≤x∧x.toNat<L.length∧x.toNat<c∧okp (plc L x)=true∧q (plc L x)=true:=by
  obtain ⟨h1,h2⟩:=List.mem_filter.1 h
  obtain ⟨k,hk,rfl⟩:=cg.1 h1
  simp only [Bool.and_eq_true] at h2
  exact ⟨by omega,by omega,by omega,h2.1,h2.2⟩
theorem val_lt (L:List ab) (q:ab→Bool) (c:Nat):(val L q c).Pairwise (· < ·):=(c7 _).filter _
theorem jO (L:List ab) (q:ab→Bool) (c:Nat):(val L q c).length≤L.length:=by
  have:=List.length_filter_le (fun i=>okp (plc L i) && q (plc L i)) (idx (min L.length c))
  rw [bV] at this; unfold val; omega
theorem span_l3 {lvl n:Nat} {f s:Fv} {q:ab→Bool} {sp:ab→Int} (hq:∀ p,K.fP f p=some (q p)) (L:List ab) (c:Nat) (hl:L.length≤10000):∀ (m i:Nat),i≤L.length→L.length<m+i →
    d7 K n L (c:Int) f s m (i:Int) (val (L.take i) q c)=(cY K n (val L q c) (Fv.c65 s L)).bind fun v=>some v:=by
  have hv:∀ i:Nat,i<L.length→val (L.take (i+1)) q c=val (L.take i) q c++(if i<c∧okp (L.getD i default)=true∧q (L.getD i default)=true then [(i:Int)] else []):=by
    intro i hi
    have pe:∀ (a:Nat) (k:Nat),k<a→a≤L.length→plc (L.take a) (k:Int)=L.getD k default:=by
      intro a k hk ha
      unfold plc; rw [tnat,List.getD_eq_getElem?_getD,List.getElem?_take_of_lt hk,List.getD_eq_getElem?_getD]
    have fe:∀ a b:Nat,b≤a→a≤L.length→(idx b).filter (fun i=>okp (plc (L.take a) i) && q (plc (L.take a) i))=(idx b).filter (fun i=>okp (plc L i) && q (plc L i)):=by
      intro a b hb ha
      refine List.filter_congr fun x hx=>?_
      obtain ⟨k,hk,rfl⟩:=cg.1 hx
      rw [pe a k (by omega) ha]; unfold plc; rw [tnat]
    unfold val
    rw [List.length_take,List.length_take,fe (i+1) _ (by omega) (by omega),fe i _ (by omega) (by omega)]
    by_cases hc:i<c
    · rw [show min (min (i+1) L.length) c=i+1 by omega,show min (min i L.length) c=i by omega,cP,List.filter_append]
      congr 1
      have:plc L (i:Int)=L.getD i default:=by unfold plc; rw [tnat]
      generalize L.getD i default=p at this
      cases h1:okp p<;>cases h2:q p<;>simp [List.filter,this,h1,h2,hc]
    · rw [show min (min (i+1) L.length) c=c by omega,show min (min i L.length) c=c by omega,if_neg (by omega),List.append_nil]
  intro m
  induction m with
  | zero=>intro i h1 h2; omega
  | succ m ih =>
    intro i h1 h2
    simp only [d7,gJ]
    by_cases hi:i<L.length
    · rw [iteT (by omega),au (by omega)]
      simp only [tnat]
      have hs:=hv i hi
      have hnext:=ih (i+1) (by omega) (by omega)
      have hF:¬ (i<c∧okp (L.getD i default)=true∧q (L.getD i default)=true)→cD K n L (c:Int) f s (i:Int) (val (L.take i) q c) (d7 K n L (c:Int) f s m) false=(cY K n (val L q c) (Fv.c65 s L)).bind fun v=>some v:=by
        intro h
        rw [if_neg h,List.append_nil] at hs
        rw [hs] at hnext
        simp only [cD,fp,Bool.false_eq_true,if_false]
        rw [wn (n:=(i:Int)+1) (k:=i+1) (by omega) (by omega)]; exact hnext
      have ho:∀ p:ab,okp p=true↔p.Row≥0∧p.Col≥0∧p.Rows≥1∧p.Cols≥1:=fun p=>by simp [okp]
      by_cases k1:(i:Int)<(c:Int)
      · rw [iteT k1]
        by_cases k2:(L.getD i default).Row≥0
        · rw [iteT k2]
          by_cases k3:(L.getD i default).Col≥0
          · rw [iteT k3]
            by_cases k4:(L.getD i default).Rows≥1
            · rw [iteT k4]
              by_cases k5:(L.getD i default).Cols≥1
              · rw [iteT k5,hq,sb]
                cases h6:q (L.getD i default)
                · exact hF (fun h=>by rw [h6] at h; exact absurd h.2.2 (by decide))
                · rw [if_pos ⟨by omega,(ho _).2 ⟨k2,k3,k4,k5⟩,h6⟩] at hs
                  simp only [cD,fp,if_true]
                  have hb:=jO (L.take i) q c
                  rw [List.length_take] at hb
                  rw [fits_of (by simp; omega) (by omega),bx,← hs,wn (n:=(i:Int)+1) (k:=i+1) (by omega) (by omega)]
                  exact hnext
              · rw [iteF k5]; exact hF (fun h=>k5 ((ho _).1 h.2.1).2.2.2)
            · rw [iteF k4]; exact hF (fun h=>k4 ((ho _).1 h.2.1).2.2.1)
          · rw [iteF k3]; exact hF (fun h=>k3 ((ho _).1 h.2.1).2.1)
        · rw [iteF k2]; exact hF (fun h=>k2 ((ho _).1 h.2.1).1)
      · rw [iteF k1]; exact hF (fun h=>k1 (by omega))
    · obtain rfl:i=L.length:=by omega
      rw [iteF (by omega),List.take_length]
theorem span_cmp {s:Fv} {sp:ab→Int} (L:List ab) (m:Nat) (hs:∀ p,(KN m).cX s p=some (sp p)):QSort.Cmp (KN (m+1)) (Fv.c65 s L) (fun a=>0≤a∧a<L.length) (fun i=>sp (plc L i)):=by
  refine ⟨fun a b ha hb=>?_⟩
  show ∃ c,iz (KN m) m a b s L=some c∧_
  unfold iz
  rw [au ha,hs,sb,au hb,hs,sb]
  simp only [gb,gc,sb,bne_self_eq_false,Bool.false_eq_true,if_false]
  show ∃ c,_∧(c<0↔sp (plc L a)<sp (plc L b))
  change ∃ c,Option.bind (if decide (sp (plc L a)<sp (plc L b))=true then some (-1) else if decide (sp (plc L a)>sp (plc L b))=true then some 1 else some 0) _=some c∧_
  by_cases h1:sp (plc L a)<sp (plc L b)
  · rw [iteT h1]; exact ⟨-1,rfl,by omega⟩
  · rw [iteF h1]
    by_cases h2:sp (plc L a)>sp (plc L b)
    · rw [iteT h2]; exact ⟨1,rfl,by omega⟩
    · rw [iteF h2]; exact ⟨0,rfl,by omega⟩
theorem spanning_ok {lvl n:Nat} {f s:Fv} {q:ab→Bool} {sp:ab→Int} (hq:∀ p,(KN lvl).fP f p=some (q p)) (hs:∀ m p,(KN (m+1)).cX s p=some (sp p)) (L:List ab) (c N:Nat) (hl:L.length≤10000) (hn:10001<n) (hlv:20020≤lvl)
    (hk:∀ p,okp p=true→q p=true→1≤sp p∧sp p≤N):jp (KN lvl) n L (c:Int) f s=some (grp (fun i=>sp (plc L i)) (val L q c) N):=by
  unfold jp
  have h:=span_l3 (K:=KN lvl) (lvl:=lvl) (n:=n) (s:=s) (sp:=sp) hq L c hl n 0 (by omega) (by omega)
  rw [show val (L.take 0) q c=[] by simp [val,idx],show ((0:Nat):Int)=0 from rfl] at h
  rw [h]
  have hv:=jO L q c
  obtain ⟨d,h1,h2,h3⟩:=QSort.sort_ok (c0:=2) (f:=Fv.c65 s L) (D:=fun a=>0≤a∧a<L.length) (key:=fun i=>sp (plc L i)) (fun m hm=>by
    obtain ⟨k,rfl⟩:∃ k,m=k+2:=⟨m - 2,by omega⟩
    exact span_cmp L (k+1) (hs k)) (lvl:=lvl) (n:=n) (val L q c) hn (by omega) (val_lt L q c) (fun x hx=>by have:=jT hx; omega) (by omega)
  rw [h3,sb,grp_eq (N:=N) h1 h2 (val_lt L q c) (fun v hv=>by have:=jT hv; exact hk _ this.2.2.2.1 this.2.2.2.2)]
end Go.Proofs.Ytolhpahjgddjkaa.Tb
namespace Go.Proofs.Ytolhpahjgddjkaa.Tb
set_option linter.all false
open Go.RowKit
open Sh (idx bV cg c7 cP bE co)
open QSort (wn au iteT iteF sb R)
set_option maxRecDepth 20000
variable {K:Kn} {n:Nat}
def wsum (out:List Int) (a:Nat):Nat→Int
  | 0=>0
  | b+1=>wsum out a b+out.getD (a+b) default
def Ok (c:Int) (rows:Nat) (out:List Int):Prop:=out.length=rows∧∀ x∈out,0≤x∧x≤c
theorem Ok.at {c:Int} {rows:Nat} {out:List Int} (h:Ok c rows out) {k:Nat} (hk:k<rows):0≤out.getD k default∧out.getD k default≤c:=by
  have hk':k<out.length:=by rw [h.1]; exact hk
  rw [aS hk']; exact h.2 _ (List.getElem_mem _)
theorem Ok.set {c:Int} {rows:Nat} {out:List Int} (h:Ok c rows out) {k:Nat} {x:Int} (hx:0≤x∧x≤c):Ok c rows (List.set out k x):=by
  refine ⟨by simp [h.1],fun y hy=>?_⟩
  rcases List.mem_or_eq_of_mem_set hy with h1 | h1
  · exact h.2 y h1
  · subst h1; exact hx
theorem fT {c:Int} {rows:Nat} {out:List Int} (h:Ok c rows out) {a:Nat}:∀ b,a+b≤rows→0≤wsum out a b∧wsum out a b≤b*c
  | 0,_=>by simp [wsum]
  | b+1,hb=>by
    have h1:=fT h (a:=a) b (by omega); have h2:=h.at (k:=a+b) (by omega)
    have e:((b+1:Nat):Int)*c=b*c+c:=by rw [Int.natCast_succ,Int.add_mul,Int.one_mul]
    simp only [wsum]; omega
theorem jM {x y:List Int} (h:∀ k,x.getD k default≤y.getD k default) (a:Nat):∀ b,wsum x a b≤wsum y a b
  | 0=>by simp [wsum]
  | b+1=>by have:=jM h a b; have:=h (a+b); simp only [wsum]; omega
theorem wsum_sm (x:List Int) (a:Nat):∀ b,a+b≤x.length→sm ((x.drop a).take b)=wsum x a b
  | 0,_=>by simp [wsum,sm]
  | b+1,h=>by
    have hb:b<(x.drop a).length:=by simp; omega
    rw [Sh.eu hb,wsum_sm x a b (by omega)]
    simp only [wsum]; congr 1
    simp [List.getD_eq_getElem?_getD,List.getElem?_drop]
def qh (rows:Int) (p:ab):Bool:=decide (p.Row<rows) && decide (p.Rows≤w64 (rows - p.Row))
structure Vh (rows:Nat) (L:List ab) (H:List Int) (i:Int):Prop where
  i0:0≤i
  iL:i.toNat<L.length
  iH:i.toNat<H.length
  r0:0≤(plc L i).Row
  r1:1≤(plc L i).Rows
  r2:(plc L i).Row+(plc L i).Rows≤rows
theorem ga {p:ab} (h:okp p=true):p.Row≥0∧p.Col≥0∧p.Rows≥1∧p.Cols≥1:=by simpa [okp] using h
theorem qh_of {rows:Nat} {p:ab} (hr:rows≤10000) (h1:okp p=true) (h2:qh rows p=true):p.Row+p.Rows≤rows:=by
  have:=ga h1
  unfold qh at h2
  simp only [Bool.and_eq_true,decide_eq_true_eq] at h2
  rw [bv (by omega) (by omega)] at h2; omega
theorem Vh.of {rows:Nat} {L:List ab} {H:List Int} (hr:rows≤10000) {i:Int} (h:i∈val L (qh rows) H.length):Vh rows L H i:=by
  obtain ⟨h1,h2,h3,h4,h5⟩:=jT h
  have:=ga h4
  exact ⟨h1,h2,h3,by omega,by omega,qh_of hr h4 h5⟩
theorem grp_len {key:Int→Int} {V:List Int} (hk:∀ v∈V,1≤key v) (N:Nat):(grp key V N).length≤V.length:=by
  rw [(jU hk N).length_eq]; exact List.length_filter_le _ _
end Go.Proofs.Ytolhpahjgddjkaa.Tb
namespace Go.Proofs.Ytolhpahjgddjkaa.Tb
set_option linter.all false
open Go.RowKit
open Sh (idx bV cg c7 cP bE co)
open QSort (wn au iteT iteF sb R)
set_option maxRecDepth 20000
variable {K:Kn} {n:Nat}
theorem idx_drop {M i:Nat} (h:i<M):(idx M).drop i=(i:Int)::(idx M).drop (i+1):=by
  rw [List.drop_eq_getElem_cons (by rw [bV]; exact h)]
  congr 1; simp [idx]
theorem inside_ok (a b c:Int):g9 K n a b c=some (decide (a≥0) && (decide (b≥1) && (decide (a<c) && decide (b≤w64 (c - a))))):=by
  unfold g9 ey
  by_cases h1:a≥0<;>by_cases h2:b≥1<;>by_cases h3:a<c<;>simp [h1,h2,h3]
def small (x:Int):Prop := -1048576≤x∧x≤1048576
structure Few (L:List ab) (v:Int):Prop where
  s:∀ p∈L,small p.Row∧small p.Col∧small p.Rows∧small p.Cols
  l:L.length≤30
  v:v≤30
theorem few_l2 (L:List ab) (v i:Int) (L1:Int→Option Bool):∀ (m t:Nat),t≤4→4<m+t →
    eF K n L v i L1 m 4 (t:Int)=some false∨((∀ k,t≤k→k<4→small ([(L.getD i.toNat default).Row,(L.getD i.toNat default).Col,(L.getD i.toNat default).Rows,(L.getD i.toNat default).Cols].getD k default))∧eF K n L v i L1 m 4 (t:Int)=L1 (w64 (i+1))):=by
  intro m
  induction m with
  | zero=>intro t h1 h2; omega
  | succ m ih =>
    intro t h1 h2
    simp only [eF,iy]
    by_cases ht:t<4
    · rw [iteT (by omega),au (by simp; omega),sb,tnat]
      generalize [(L.getD i.toNat default).Row,(L.getD i.toNat default).Col,(L.getD i.toNat default).Rows,(L.getD i.toNat default).Cols]=l at *
      by_cases k1:l.getD t default < -1048576
      · left; rw [iteT k1]; rfl
      · rw [iteF k1]
        unfold ji
        by_cases k2:l.getD t default>1048576
        · left; rw [iteT k2]
        · rw [iteF k2,wn (n:=(t:Int)+1) (k:=t+1) (by omega) (by omega)]
          rcases ih (t+1) (by omega) (by omega) with h | ⟨h,e⟩
          · exact .inl h
          · right
            refine ⟨fun k hk hk4=>?_,e⟩
            by_cases hkt:k=t
            · subst hkt; unfold small; omega
            · exact h k (by omega) hk4
    · obtain rfl:t=4:=by omega
      right
      exact ⟨fun k hk hk4=>by omega,by rw [iteF (by omega)]⟩
theorem few_tot {n:Nat} (L:List ab) (v:Int) (hL:L.length≤9223372036854775807) (hn:L.length+10<n):∃ b,jC K n L v=some b∧(b=true→Few L v):=by
  have loop:∀ (m i:Nat),i≤L.length→L.length<m+i→∃ b,eY K n L v m (i:Int)=some b∧(b=true→(∀ p∈L.drop i,small p.Row∧small p.Col∧small p.Rows∧small p.Cols)∧L.length≤30∧v≤30):=by
    intro m
    induction m with
    | zero=>intro i h1 h2; omega
    | succ m ih =>
      intro i h1 h2
      simp only [eY,iB]
      by_cases hi:i<L.length
      · rw [iteT (by omega),au (by omega)]
        rcases few_l2 (K:=K) (n:=n) L v (i:Int) (eY K n L v m) n 0 (by omega) (by omega) with h | ⟨h,e⟩
        · rw [show ((0:Nat):Int)=0 from rfl] at h
          refine ⟨false,h,fun e=>by cases e⟩
        · rw [show ((0:Nat):Int)=0 from rfl,bv (n:=(i:Int)+1) (by omega) (by omega),show (i:Int)+1=((i+1:Nat):Int) by omega] at e
          obtain ⟨b,e2,f⟩:=ih (i+1) (by omega) (by omega)
          refine ⟨b,e.trans e2,fun hb=>?_⟩
          have f:=f hb
          refine ⟨fun p hp=>?_,f.2⟩
          rw [List.drop_eq_getElem_cons hi] at hp
          rcases List.mem_cons.1 hp with hp | hp
          · have g0:=h 0 (by omega) (by omega); have g1:=h 1 (by omega) (by omega); have g2:=h 2 (by omega) (by omega); have g3:=h 3 (by omega) (by omega)
            rw [tnat,aS hi,← hp] at g0 g1 g2 g3
            exact ⟨g0,g1,g2,g3⟩
          · exact f.1 p hp
      · obtain rfl:i=L.length:=by omega
        rw [iteF (by omega)]
        unfold iY
        by_cases h3:(L.length:Int)≤30
        · rw [iteT h3]
          exact ⟨_,rfl,fun hb=>⟨fun p hp=>by simp at hp,by omega,of_decide_eq_true hb⟩⟩
        · rw [iteF h3]; exact ⟨_,rfl,fun hb=>by cases hb⟩
  obtain ⟨b,e,f⟩:=loop n 0 (by omega) (by omega)
  exact ⟨b,e,fun hb=>⟨(f hb).1,(f hb).2.1,(f hb).2.2⟩⟩
end Go.Proofs.Ytolhpahjgddjkaa.Tb
namespace Go.Proofs.Ytolhpahjgddjkaa.Tb
set_option linter.all false
open Go.RowKit
open Sh (idx bV cg c7 cP bE co share wts lim mx cQ)
open QSort (wn au iteT iteF sb R)
set_option maxRecDepth 20000
variable {K:Kn} {n:Nat}
def win {α:Type} [Inhabited α] (l:List α) (c s:Nat):List α:=tab s fun k=>l.getD (c+k) default
theorem aU {α:Type} [Inhabited α] (l:List α) (c s:Nat):(win l c s).length=s:=iP _ _
theorem cA {α:Type} [Inhabited α] {l:List α} {c s k:Nat} (h:k<s):(win l c s).getD k default=l.getD (c+k) default:=tab_at h
theorem gS (l:List Int) (c:Nat):∀ s,sm (win l c s)=wsum l c s
  | 0=>rfl
  | s+1=>by unfold win at *; rw [kU,dZ]; have:=gS l c s; unfold win at this; rw [this]; simp [sm,wsum]
def pw {α:Type} [Inhabited α] (l:List α) (c:Nat) (N:List α):List α:=tab l.length fun k=>if c≤k∧k<c+N.length then N.getD (k - c) default else l.getD k default
section
variable {α:Type} [Inhabited α]
theorem bD (l:List α) (c:Nat) (N:List α):(pw l c N).length=l.length:=iP _ _
theorem bg {l:List α} {c k:Nat} {N:List α} (hk:k<l.length):(pw l c N).getD k default=if c≤k∧k<c+N.length then N.getD (k - c) default else l.getD k default:=tab_at hk
theorem pw_zero (l:List α) (c:Nat) (N:List α):pw l c (N.take 0)=l:=by
  refine cV (bD _ _ _) (fun k hk=>?_)
  rw [bg hk,if_neg (by rw [List.length_take]; omega)]
theorem set_at {l:List α} {e k:Nat} {x:α} (hk:k<l.length):(l.set e x).getD k default=if k=e then x else l.getD k default:=by
  by_cases h:k=e
  · subst h; rw [if_pos rfl]; simp [List.getD_eq_getElem?_getD,hk]
  · rw [if_neg h]; simp [List.getD_eq_getElem?_getD,List.getElem?_set,Ne.symm h]
theorem take_at {N:List α} {t k:Nat} (h:k<t):(N.take t).getD k default=N.getD k default:=by
  rw [List.getD_eq_getElem?_getD,List.getElem?_take_of_lt h,List.getD_eq_getElem?_getD]
theorem pw_set {l:List α} {c t:Nat} {N:List α} (ht:t<N.length) (hc:c+N.length≤l.length):List.set (pw l c (N.take t)) (c+t) (N.getD t default)=pw l c (N.take (t+1)):=by
  refine cV (by simp [bD]) (fun k hk=>?_)
  rw [bD] at hk
  rw [set_at (by rw [bD]; exact hk),bg hk,bg hk,List.length_take,List.length_take]
  by_cases h:k=c+t
  · subst h; rw [if_pos rfl,if_pos (by omega),Nat.add_sub_cancel_left,take_at (by omega)]
  · rw [if_neg h]
    by_cases h2:c≤k∧k<c+t
    · rw [if_pos (by omega),if_pos (by omega),take_at (by omega),take_at (by omega)]
    · rw [if_neg (by omega),if_neg (by omega)]
theorem pw_at_out {l:List α} {c t k:Nat} {N:List α} (h:c+t≤k) (hk:k<l.length):(pw l c (N.take t)).getD k default=l.getD k default:=by
  rw [bg hk,if_neg (by rw [List.length_take]; omega)]
end
def nwin (l w:List Int) (d:Int):List Int:=if d - sm l>0 then adds l (share (d - sm l) (eqw w)) else l
def Bd (l:List Int):Prop:=∀ x∈l,0≤x∧x≤1048576
theorem Bd.at {l:List Int} (h:Bd l) {k:Nat} (hk:k<l.length):0≤l.getD k default∧l.getD k default≤1048576:=by rw [aS hk]; exact h _ (List.getElem_mem _)
theorem Bd.wts {l:List Int} (h:Bd l):∀ w∈l,0≤w∧w≤2147483647:=fun w hw=>by have:=h w hw; omega
theorem Bd.mk {l:List Int} (h:∀ k,k<l.length→0≤l.getD k default∧l.getD k default≤1048576):Bd l:=by
  intro x hx
  obtain ⟨k,hk,rfl⟩:=List.mem_iff_getElem.1 hx
  have:=h k hk
  rwa [aS hk] at this
theorem jF (l w:List Int) (d:Int):(nwin l w d).length=l.length:=by unfold nwin; split; exact cz _ _; rfl
theorem sm_tab (A P:List Int):∀ i,i≤A.length→i≤P.length→sm (tab i fun k=>A.getD k default+P.getD k default)=sm (A.take i)+sm (P.take i):=by
  intro i
  induction i with
  | zero=>intro _ _; rfl
  | succ i ih =>
    intro h1 h2
    rw [kU,dZ,ih (by omega) (by omega),Sh.eu (by omega),Sh.eu (by omega)]; simp [sm]; omega
theorem sm_adds {A P:List Int} (h:A.length=P.length):sm (adds A P)=sm A+sm P:=by
  unfold adds; rw [sm_tab A P A.length (by omega) (by omega),List.take_length,h,List.take_length]
theorem sm_ones:∀ k:Nat,sm (List.replicate k 1)=k
  | 0=>rfl
  | k+1=>by simp only [List.replicate_succ,sm,sm_ones k]; omega
theorem eqw_sm {W:List Int} (hW:∀ w∈W,0≤w) (h:W≠[]):sm (eqw W)≠0:=by
  unfold eqw
  split
  · rename_i hp
    obtain ⟨x,hx,h2⟩:=List.any_eq_true.1 hp
    have h3:=Sh.dk W hW x hx
    have:x>0:=by simpa using h2
    omega
  · rw [sm_ones]
    have:=List.length_pos_iff.2 h
    omega
theorem nwin_ok {l w:List Int} {d:Int} (hl:Bd l) (hw:Bd w) (he:l.length=w.length) (h0:0<l.length) (h1:l.length≤10000) (hd:d≤1048576) :
    (∀ k,k<l.length→l.getD k default≤(nwin l w d).getD k default)∧d≤sm (nwin l w d)∧Bd (nwin l w d):=by
  unfold nwin
  have s0:=bE l (fun x hx=>(hl x hx).1)
  by_cases h:d - sm l>0
  · rw [if_pos h]
    have hp:∀ k,k<l.length→0≤(share (d - sm l) (eqw w)).getD k default:=fun k hk=>(share_bd (T:=d - sm l) ⟨by omega,by omega⟩ (fun x hx=>(gv hw.wts x hx).1) k (by rw [dt]; omega)).1
    have hs:sm (adds l (share (d - sm l) (eqw w)))=d:=by
      rw [sm_adds (by rw [cQ,dt]; exact he),Sh.share_sum (fun x hx=>(gv hw.wts x hx).1) (eqw_sm (fun x hx=>(hw x hx).1) (fun e=>by rw [e] at he; simp at he; rw [he] at h0; simp at h0)) (by rw [dt]; omega)]
      omega
    have hg:∀ k,k<l.length→l.getD k default≤(adds l (share (d - sm l) (eqw w))).getD k default:=fun k hk=>by rw [ja hk]; have:=hp k hk; omega
    have hn:∀ x∈adds l (share (d - sm l) (eqw w)),0≤x:=by
      intro x hx
      obtain ⟨k,hk,rfl⟩:=List.mem_iff_getElem.1 hx
      rw [←aS]; rw [cz] at hk
      have:=hg k hk; have:=hl.at hk; omega
    refine ⟨hg,by omega,fun x hx=>⟨hn x hx,?_⟩⟩
    have:=Sh.dk _ hn x hx; omega
  · rw [if_neg h]; exact ⟨fun k _=>Int.le_refl _,by omega,hl⟩
theorem len_one {l:List Int} (h:l.length=1):l=[l.getD 0 default]:=by
  match l,h with
  | [x],_=>rfl
theorem nwin_one {x y d:Int} (hx:0≤x∧x≤1048576) (hy:0≤y∧y≤1048576) (hd:d≤1048576):nwin [x] [y] d=[max x d]:=by
  have e:=len_one (l:=nwin [x] [y] d) (by rw [jF]; rfl)
  rw [e]
  unfold nwin
  rw [show sm [x]=x by simp [sm]]
  by_cases h:d - x>0
  · rw [if_pos h,ja (by simp)]
    have hw:Bd [y]:=fun z hz=>by simp at hz; subst hz; exact hy
    have hs:=Sh.share_sum (T:=d - x) (W:=eqw [y]) (fun z hz=>(gv hw.wts z hz).1) (eqw_sm (fun z hz=>(hw z hz).1) (by simp)) (by rw [dt]; simp)
    have hl:=len_one (l:=share (d - x) (eqw [y])) (by rw [cQ,dt]; rfl)
    rw [hl] at hs
    simp only [sm] at hs
    have hs':(share (d - x) (eqw [y])).getD 0 default=d - x:=by omega
    rw [hs']
    show [x+(d - x)]=_
    congr 1; omega
  · rw [if_neg h]; show [x]=_; congr 1; omega
def lst (C:List aa):List Int:=C.map (·.Least)
def mst (C:List aa):List Int:=C.map (·.Most)
theorem bL (C:List aa):(lst C).length=C.length:=by simp [lst]
theorem bH (C:List aa):(mst C).length=C.length:=by simp [mst]
theorem cU {C:List aa} {k:Nat} (h:k<C.length):(lst C).getD k default=(C.getD k default).Least:=map_at h
theorem cR {C:List aa} {k:Nat} (h:k<C.length):(mst C).getD k default=(C.getD k default).Most:=map_at h
def zipc (a b:List Int):List aa:=tab a.length fun k=>⟨a.getD k default,b.getD k default⟩
theorem e8 (a b:List Int):(zipc a b).length=a.length:=iP _ _
theorem zipc_at {a b:List Int} {k:Nat} (h:k<a.length):(zipc a b).getD k default=⟨a.getD k default,b.getD k default⟩:=tab_at h
def dA (L:List ab) (W C:List aa) (i:Int):List Int:=nwin (win (lst C) (plc L i).Col.toNat (plc L i).Cols.toNat) (win (mst C) (plc L i).Col.toNat (plc L i).Cols.toNat) (sz (W.getD i.toNat default).Least)
def dB (L:List ab) (W C:List aa) (i:Int):List Int:=nwin (win (mst C) (plc L i).Col.toNat (plc L i).Cols.toNat) (dA L W C i) (sz (W.getD i.toNat default).Most)
def dstep (L:List ab) (W C:List aa) (i:Int):List aa:=pw C (plc L i).Col.toNat (zipc (dA L W C i) (dB L W C i))
def qd (cols:Int) (p:ab):Bool:=decide (p.Col<cols) && decide (p.Cols≤w64 (cols - p.Col))
theorem qd_ok (v:Int) (p:ab):gV K n p v=some (qd v p):=by
  unfold gV gF qd
  by_cases h:p.Col<v
  · rw [iteT h]; simp only [h,decide_true,Bool.true_and]
  · rw [iteF h]; simp only [h,decide_false,Bool.false_and]
structure Vd (cols:Nat) (L:List ab) (W:List aa) (i:Int):Prop where
  i0:0≤i
  iL:i.toNat<L.length
  iW:i.toNat<W.length
  r0:0≤(plc L i).Col
  r1:1≤(plc L i).Cols
  r2:(plc L i).Col+(plc L i).Cols≤cols
theorem qd_of {cols:Nat} {p:ab} (hr:cols≤10000) (h1:okp p=true) (h2:qd cols p=true):p.Col+p.Cols≤cols:=by
  have:=ga h1
  unfold qd at h2
  simp only [Bool.and_eq_true,decide_eq_true_eq] at h2
  rw [bv (by omega) (by omega)] at h2; omega
theorem Vd.of {cols:Nat} {L:List ab} {W:List aa} (hr:cols≤10000) {i:Int} (h:i∈val L (qd cols) W.length):Vd cols L W i:=by
  obtain ⟨h1,h2,h3,h4,h5⟩:=jT h
  have:=ga h4
  exact ⟨h1,h2,h3,by omega,by omega,qd_of hr h4 h5⟩
structure OkC (cols:Nat) (C:List aa):Prop where
  len:C.length=cols
  l:Bd (lst C)
  m:Bd (mst C)
theorem eQ {l:List Int} (h:Bd l) {c s:Nat} (hc:c+s≤l.length):Bd (win l c s):=Bd.mk fun k hk=>by
  rw [aU] at hk; rw [cA hk]; exact h.at (by omega)
theorem lst_pw (C:List aa) (c:Nat) (N:List aa):lst (pw C c N)=pw (lst C) c (lst N):=by
  refine cV (by rw [bL,bD,bD,bL]) (fun k hk=>?_)
  rw [bD,bL] at hk
  rw [cU (by rw [bD]; exact hk),bg hk,bg (by rw [bL]; exact hk),bL]
  split
  · rename_i h; rw [cU (by omega)]
  · rw [cU hk]
theorem mst_pw (C:List aa) (c:Nat) (N:List aa):mst (pw C c N)=pw (mst C) c (mst N):=by
  refine cV (by rw [bH,bD,bD,bH]) (fun k hk=>?_)
  rw [bD,bH] at hk
  rw [cR (by rw [bD]; exact hk),bg hk,bg (by rw [bH]; exact hk),bH]
  split
  · rename_i h; rw [cR (by omega)]
  · rw [cR hk]
theorem lst_zip (a b:List Int):lst (zipc a b)=a:=cV (by rw [bL,e8]) (fun k hk=>by rw [cU (by rw [e8]; exact hk),zipc_at hk])
theorem mst_zip {a b:List Int} (h:a.length=b.length):mst (zipc a b)=b:=cV (by rw [bH,e8,h]) (fun k hk=>by rw [cR (by rw [e8,h]; exact hk),zipc_at (by omega)])
theorem dA_len (L:List ab) (W C:List aa) (i:Int):(dA L W C i).length=(plc L i).Cols.toNat:=by unfold dA; rw [jF,aU]
theorem dB_len (L:List ab) (W C:List aa) (i:Int):(dB L W C i).length=(plc L i).Cols.toNat:=by unfold dB; rw [jF,aU]
theorem jG (L:List ab) (W C:List aa) (i:Int):lst (dstep L W C i)=pw (lst C) (plc L i).Col.toNat (dA L W C i):=by unfold dstep; rw [lst_pw,lst_zip]
theorem jK (L:List ab) (W C:List aa) (i:Int):mst (dstep L W C i)=pw (mst C) (plc L i).Col.toNat (dB L W C i):=by unfold dstep; rw [mst_pw,mst_zip (by rw [dA_len,dB_len])]
theorem dstep_len (L:List ab) (W C:List aa) (i:Int):(dstep L W C i).length=C.length:=bD _ _ _
theorem dA_ok {cols:Nat} {L:List ab} {W C:List aa} {i:Int} (hr:cols≤10000) (h:Vd cols L W i) (hC:OkC cols C) :
    (∀ k,k<(plc L i).Cols.toNat→(lst C).getD ((plc L i).Col.toNat+k) default≤(dA L W C i).getD k default)∧sz (W.getD i.toNat default).Least≤sm (dA L W C i)∧Bd (dA L W C i):=by
  have r0:=h.r0; have r1:=h.r1; have r2:=h.r2
  have b1:=eQ hC.l (c:=(plc L i).Col.toNat) (s:=(plc L i).Cols.toNat) (by rw [bL,hC.len]; omega)
  have b2:=eQ hC.m (c:=(plc L i).Col.toNat) (s:=(plc L i).Cols.toNat) (by rw [bH,hC.len]; omega)
  obtain ⟨h1,h2,h3⟩:=nwin_ok (d:=sz (W.getD i.toNat default).Least) b1 b2 (by rw [aU,aU]) (by rw [aU]; omega) (by rw [aU]; omega) (dT _).2
  refine ⟨fun k hk=>?_,h2,h3⟩
  have:=h1 k (by rw [aU]; exact hk)
  rwa [cA hk] at this
theorem dB_ok {cols:Nat} {L:List ab} {W C:List aa} {i:Int} (hr:cols≤10000) (h:Vd cols L W i) (hC:OkC cols C) :
    (∀ k,k<(plc L i).Cols.toNat→(mst C).getD ((plc L i).Col.toNat+k) default≤(dB L W C i).getD k default)∧sz (W.getD i.toNat default).Most≤sm (dB L W C i)∧Bd (dB L W C i):=by
  have r0:=h.r0; have r1:=h.r1; have r2:=h.r2
  have b2:=eQ hC.m (c:=(plc L i).Col.toNat) (s:=(plc L i).Cols.toNat) (by rw [bH,hC.len]; omega)
  obtain ⟨h1,h2,h3⟩:=nwin_ok (d:=sz (W.getD i.toNat default).Most) b2 (dA_ok hr h hC).2.2 (by rw [aU,dA_len]) (by rw [aU]; omega) (by rw [aU]; omega) (dT _).2
  refine ⟨fun k hk=>?_,h2,h3⟩
  have:=h1 k (by rw [aU]; exact hk)
  rwa [cA hk] at this
theorem pw_bd {l N:List Int} {c:Nat} (hl:Bd l) (hN:Bd N):Bd (pw l c N):=Bd.mk fun k hk=>by
  rw [bD] at hk; rw [bg hk]
  split
  · exact hN.at (by omega)
  · exact hl.at hk
theorem pw_ge {l N:List Int} {c:Nat} (hc:c+N.length≤l.length) (h:∀ k,k<N.length→l.getD (c+k) default≤N.getD k default) (k:Nat):l.getD k default≤(pw l c N).getD k default:=by
  by_cases hk:k<l.length
  · rw [bg hk]
    split
    · have:=h (k - c) (by omega)
      rwa [show c+(k - c)=k by omega] at this
    · exact Int.le_refl _
  · have e1:l.getD k default=default:=by rw [List.getD_eq_getElem?_getD,List.getElem?_eq_none (by omega)]; rfl
    have e2:(pw l c N).getD k default=default:=by rw [List.getD_eq_getElem?_getD,List.getElem?_eq_none (by rw [bD]; omega)]; rfl
    rw [e1,e2]; exact Int.le_refl _
theorem pw_wsum {l N:List Int} {c:Nat} (hc:c+N.length≤l.length):wsum (pw l c N) c N.length=sm N:=by
  rw [←gS]; congr 1
  refine cV (aU _ _ _) (fun k hk=>?_)
  rw [cA hk,bg (by omega),if_pos (by omega),Nat.add_sub_cancel_left]
theorem kN {cols:Nat} {L:List ab} {W C:List aa} {i:Int} (hr:cols≤10000) (h:Vd cols L W i) (hC:OkC cols C) :
    OkC cols (dstep L W C i)∧(∀ k,(lst C).getD k default≤(lst (dstep L W C i)).getD k default)∧(∀ k,(mst C).getD k default≤(mst (dstep L W C i)).getD k default) ∧
    sz (W.getD i.toNat default).Least≤wsum (lst (dstep L W C i)) (plc L i).Col.toNat (plc L i).Cols.toNat∧sz (W.getD i.toNat default).Most≤wsum (mst (dstep L W C i)) (plc L i).Col.toNat (plc L i).Cols.toNat:=by
  have r0:=h.r0; have r1:=h.r1; have r2:=h.r2
  obtain ⟨a1,a2,a3⟩:=dA_ok hr h hC; obtain ⟨b1,b2,b3⟩:=dB_ok hr h hC
  have hla:=dA_len L W C i; have hlb:=dB_len L W C i
  have ca:(plc L i).Col.toNat+(dA L W C i).length≤(lst C).length:=by rw [hla,bL,hC.len]; omega
  have cb:(plc L i).Col.toNat+(dB L W C i).length≤(mst C).length:=by rw [hlb,bH,hC.len]; omega
  rw [jG,jK]
  refine ⟨⟨by rw [dstep_len,hC.len],?_,?_⟩,pw_ge ca (fun k hk=>a1 k (by omega)),pw_ge cb (fun k hk=>b1 k (by omega)),?_,?_⟩
  · rw [jG]; exact pw_bd hC.l a3
  · rw [jK]; exact pw_bd hC.m b3
  · rw [←hla,pw_wsum ca]; exact a2
  · rw [←hlb,pw_wsum cb]; exact b2
theorem kQ {cols:Nat} {L:List ab} {W:List aa} (hr:cols≤10000):∀ (d:List Int) (C:List aa),(∀ i∈d,Vd cols L W i)→OkC cols C →
    OkC cols (d.foldl (dstep L W) C)∧(∀ k,(lst C).getD k default≤(lst (d.foldl (dstep L W) C)).getD k default)∧(∀ k,(mst C).getD k default≤(mst (d.foldl (dstep L W) C)).getD k default) ∧
    ∀ i∈d,sz (W.getD i.toNat default).Least≤wsum (lst (d.foldl (dstep L W) C)) (plc L i).Col.toNat (plc L i).Cols.toNat∧sz (W.getD i.toNat default).Most≤wsum (mst (d.foldl (dstep L W) C)) (plc L i).Col.toNat (plc L i).Cols.toNat
  | [],C,_,hC=>⟨hC,fun k=>Int.le_refl _,fun k=>Int.le_refl _,fun i hi=>by cases hi⟩
  | i::d,C,hd,hC=>by
    obtain ⟨h1,h2,h3,h4,h5⟩:=kN hr (hd i (by simp)) hC
    obtain ⟨k1,k2,k3,k4⟩:=kQ hr d _ (fun j hj=>hd j (by simp [hj])) h1
    refine ⟨k1,fun k=>Int.le_trans (h2 k) (k2 k),fun k=>Int.le_trans (h3 k) (k3 k),fun j hj=>?_⟩
    rcases List.mem_cons.1 hj with e | hj
    · subst e; exact ⟨Int.le_trans h4 (jM k2 _ _),Int.le_trans h5 (jM k3 _ _)⟩
    · exact k4 j hj
end Go.Proofs.Ytolhpahjgddjkaa.Tb
namespace Go.Proofs.Ytolhpahjgddjkaa.Tb
set_option linter.all false
open Go.RowKit
open Sh (idx bV cg c7 cP bE co share wts lim mx cQ)
open QSort (wn au iteT iteF sb R)
set_option maxRecDepth 20000
variable {K:Kn} {n:Nat}
theorem tsh {lvl n:Nat} {T:Int} {w:List Int} (hT:0<T∧T≤1048576) (hw:Bd w) (hl:w.length≤10000) (hn:10001<n) (hlv:20010≤lvl):dQ (KN lvl) n T w=some (share T (eqw w)):=by
  rw [tshare_ok T w hl hn hlv,wts_id (gv hw.wts)]
  congr 2; unfold lim mx; omega
theorem add_bd {l w:List Int} {T:Int} (hl:Bd l) (hw:Bd w) (he:l.length=w.length) (hT:0<T∧T≤1048576):∀ k,k<l.length → -4611686018427387904≤l.getD k default+(share T (eqw w)).getD k default∧l.getD k default+(share T (eqw w)).getD k default≤4611686018427387904:=fun k hk=>by
  have h1:=hl.at hk
  have h2:=share_bd (T:=T) ⟨by omega,hT.2⟩ (fun x hx=>(gv hw.wts x hx).1) k (by rw [dt]; omega)
  omega
section
variable (L:List ab) (W:List aa) (d:List Int) (v33:Int) (C:List aa) (L1:Int→List aa→Option (List aa))
theorem dm_l6 (p:ab) (a b:List Int) (c s:Nat) (hc:p.Col=c) (hs:p.Cols=s) (ha:a.length=s) (hb:b.length=s) (hC:c+s≤C.length) (hr:C.length≤10000):∀ (m t:Nat),t≤s→s<m+t →
    go K n L W d v33 p a b L1 m (s:Int) (t:Int) (pw C c ((zipc a b).take t))=L1 (w64 (v33+1)) (pw C c (zipc a b)):=by
  intro m
  induction m with
  | zero=>intro t h1 h2; omega
  | succ m ih =>
    intro t h1 h2
    simp only [go,ic,hc,hs,tnat]
    rw [wn (n:=(c:Int)+(s:Int)) (k:=c+s) (by omega) (by omega),tnat,Nat.add_sub_cancel_left]
    by_cases ht:t<s
    · rw [iteT (by omega),au (by omega),au (by omega),au (by omega),show decide (c+t<(pw C c ((zipc a b).take t)).length)=true from decide_eq_true (by rw [bD]; omega),bx]
      rw [show (⟨a.getD t default,b.getD t default⟩:aa)=(zipc a b).getD t default by rw [zipc_at (by omega)],pw_set (by rw [e8]; omega) (by rw [e8]; omega),wn (n:=(t:Int)+1) (k:=t+1) (by omega) (by omega)]
      exact ih (t+1) (by omega) (by omega)
    · obtain rfl:t=s:=by omega
      rw [iteF (by omega),List.take_of_length_le (by rw [e8]; omega)]
      rfl
theorem dm_j5 (p:ab) (a b:List Int) (c s:Nat) (hc:p.Col=c) (hs:p.Cols=s) (ha:a.length=s) (hb:b.length=s) (hC:c+s≤C.length) (hr:C.length≤10000) (hn:10001<n):eN K n L W d v33 C p a L1 b=L1 (w64 (v33+1)) (pw C c (zipc a b)):=by
  unfold eN
  simp only [hc,hs,tnat]
  rw [wn (n:=(c:Int)+(s:Int)) (k:=c+s) (by omega) (by omega),tnat,Nat.add_sub_cancel_left]
  have:=dm_l6 (K:=K) (n:=n) L W d v33 C L1 p a b c s hc hs ha hb hC hr n 0 (by omega) (by omega)
  rw [pw_zero] at this
  exact this
theorem dm_l4 (p:ab) (a P b:List Int) (hP:b.length=P.length) (hl:b.length≤10000) (hb:∀ k,k<b.length → -4611686018427387904≤b.getD k default+P.getD k default∧b.getD k default+P.getD k default≤4611686018427387904):∀ (m i:Nat),i≤b.length→b.length<m+i →
    gn K n L W d v33 C p a P L1 m (i:Int) (mix i (adds b P) b)=eN K n L W d v33 C p a L1 (adds b P):=by
  intro m
  induction m with
  | zero=>intro i h1 h2; omega
  | succ m ih =>
    intro i h1 h2
    simp only [gn,iA]
    have hm:=iv (i:=i) (cz b P)
    by_cases hi:i<b.length
    · rw [iteT (by omega),au (by omega),hm,au (by omega),au (by omega)]
      simp only [tnat]
      have:=hb i hi
      rw [mix_at (cz b P) hi,show w64 (b.getD i default+P.getD i default)=(adds b P).getD i default by rw [ja hi]; exact bv (by omega) (by omega),gZ (cz b P) hi,wn (n:=(i:Int)+1) (k:=i+1) (by omega) (by omega)]
      exact ih (i+1) (by omega) (by omega)
    · obtain rfl:i=b.length:=by omega
      rw [iteF (by omega),gT (cz b P)]
theorem dm_l2 (p:ab) (v43 v44:Int) (v46 P b:List Int) (hP:b.length=P.length) (hl:b.length≤10000) (hb:∀ k,k<b.length → -4611686018427387904≤b.getD k default+P.getD k default∧b.getD k default+P.getD k default≤4611686018427387904):∀ (m i:Nat),i≤b.length→b.length<m+i →
    fR K n L W d v33 C p v43 v44 v46 P L1 m (i:Int) (mix i (adds b P) b)=dG K n L W d v33 C p v43 v44 v46 L1 (adds b P):=by
  intro m
  induction m with
  | zero=>intro i h1 h2; omega
  | succ m ih =>
    intro i h1 h2
    simp only [fR,jd]
    have hm:=iv (i:=i) (cz b P)
    by_cases hi:i<b.length
    · rw [iteT (by omega),au (by omega),hm,au (by omega),au (by omega)]
      simp only [tnat]
      have:=hb i hi
      rw [mix_at (cz b P) hi,show w64 (b.getD i default+P.getD i default)=(adds b P).getD i default by rw [ja hi]; exact bv (by omega) (by omega),gZ (cz b P) hi,wn (n:=(i:Int)+1) (k:=i+1) (by omega) (by omega)]
      exact ih (i+1) (by omega) (by omega)
    · obtain rfl:i=b.length:=by omega
      rw [iteF (by omega),gT (cz b P)]
theorem dm_j3 {lvl n:Nat} (p:ab) (v43 dm:Int) (a b:List Int) (c s:Nat) (hc:p.Col=c) (hs:p.Cols=s) (s1:1≤s) (ha:a.length=s) (hb:b.length=s) (ba:Bd a) (bb:Bd b) (hdm:dm≤1048576) (hC:c+s≤C.length) (hr:C.length≤10000) (hn:10001<n) (hlv:20010≤lvl) :
    dG (KN lvl) n L W d v33 C p v43 (dm - sm b) b L1 a=L1 (w64 (v33+1)) (pw C c (zipc a (nwin b a dm))):=by
  unfold dG nwin
  have s0:=bE b (fun x hx=>(bb x hx).1)
  by_cases h:dm - sm b>0
  · rw [iteT h,if_pos h,tsh ⟨by omega,by omega⟩ ba (by omega) hn hlv,sb]
    have hp:b.length=(share (dm - sm b) (eqw a)).length:=by rw [cQ,dt]; omega
    have:=dm_l4 (K:=KN lvl) (n:=n) L W d v33 C L1 p a (share (dm - sm b) (eqw a)) b hp (by omega) (add_bd bb ba (by omega) ⟨by omega,by omega⟩) n 0 (by omega) (by omega)
    rw [j1,show ((0:Nat):Int)=0 from rfl] at this
    rw [this]
    exact dm_j5 L W d v33 C L1 p a _ c s hc hs ha (by rw [cz]; omega) hC hr hn
  · rw [iteF h,if_neg h]
    exact dm_j5 L W d v33 C L1 p a _ c s hc hs ha hb hC hr hn
theorem dm_l1 {lvl n:Nat} (p:ab) (dl dm:Int) (c s:Nat) (hc:p.Col=c) (hs:p.Cols=s) (s1:1≤s) (bl:Bd (lst C)) (bm:Bd (mst C)) (hdl:dl≤1048576) (hdm:dm≤1048576) (hd0:0≤dl) (hd1:0≤dm) (hC:c+s≤C.length) (hr:C.length≤10000) (hn:10001<n) (hlv:20010≤lvl) (L2:Int→List aa→Option (List aa)):∀ (m t:Nat),t≤s→s<m+t →
    fu (KN lvl) n L W d v33 C p L1 m (s:Int) (t:Int) (dl - wsum (lst C) c t) (dm - wsum (mst C) c t) (mix t (win (lst C) c s) (List.replicate s 0)) (mix t (win (mst C) c s) (List.replicate s 0)) =
      L1 (w64 (v33+1)) (pw C c (zipc (nwin (win (lst C) c s) (win (mst C) c s) dl) (nwin (win (mst C) c s) (nwin (win (lst C) c s) (win (mst C) c s) dl) dm))):=by
  have zl:(List.replicate s (0:Int)).length=s:=by simp
  have e1:(win (lst C) c s).length=(List.replicate s (0:Int)).length:=by rw [aU,zl]
  have e2:(win (mst C) c s).length=(List.replicate s (0:Int)).length:=by rw [aU,zl]
  have ol:Ok 1048576 C.length (lst C):=⟨bL C,bl⟩
  have om:Ok 1048576 C.length (mst C):=⟨bH C,bm⟩
  have wl:=eQ bl (c:=c) (s:=s) (by rw [bL]; exact hC)
  have wm:=eQ bm (c:=c) (s:=s) (by rw [bH]; exact hC)
  intro m
  induction m with
  | zero=>intro t h1 h2; omega
  | succ m ih =>
    intro t h1 h2
    simp only [fu,iZ,hc,hs,tnat]
    rw [wn (n:=(c:Int)+(s:Int)) (k:=c+s) (by omega) (by omega),tnat,Nat.add_sub_cancel_left]
    have m1:=iv (i:=t) e1; have m2:=iv (i:=t) e2
    rw [zl] at m1 m2
    by_cases ht:t<s
    · have ht':t<(List.replicate s (0:Int)).length:=by omega
      have b1:=fT ol (a:=c) t (by omega); have b2:=fT om (a:=c) t (by omega)
      have b3:=ol.at (k:=c+t) (by omega); have b4:=om.at (k:=c+t) (by omega)
      have hbb:(t:Int)*1048576≤10000*1048576:=Int.mul_le_mul_of_nonneg_right (by omega) (by omega)
      rw [iteT (by omega),au (by omega),show decide (c+t<C.length)=true from decide_eq_true (by omega),bx,sb,m1,au (by omega),m2,au (by omega)]
      rw [←cU (show c+t<C.length by omega),← cR (show c+t<C.length by omega)]
      rw [←cA (l:=lst C) (c:=c) ht,← cA (l:=mst C) (c:=c) ht,gZ e1 ht',gZ e2 ht',cA ht,cA ht]
      rw [bv (n:=dl - wsum (lst C) c t - (lst C).getD (c+t) default) (by omega) (by omega),bv (n:=dm - wsum (mst C) c t - (mst C).getD (c+t) default) (by omega) (by omega)]
      rw [show dl - wsum (lst C) c t - (lst C).getD (c+t) default=dl - wsum (lst C) c (t+1) by simp only [wsum]; omega,show dm - wsum (mst C) c t - (mst C).getD (c+t) default=dm - wsum (mst C) c (t+1) by simp only [wsum]; omega,wn (n:=(t:Int)+1) (k:=t+1) (by omega) (by omega)]
      exact ih (t+1) (by omega) (by omega)
    · obtain rfl:t=s:=by omega
      have f1:=gT e1; have f2:=gT e2
      rw [zl] at f1 f2
      rw [iteF (by omega),f1,f2,← gS,← gS]
      have s0:=bE _ (fun x hx=>(wl x hx).1)
      have hj:∀ a:List Int,a.length=t→Bd a→dG (KN lvl) n L W d v33 C p (dl - sm (win (lst C) c t)) (dm - sm (win (mst C) c t)) (win (mst C) c t) L1 a=L1 (w64 (v33+1)) (pw C c (zipc a (nwin (win (mst C) c t) a dm))):=fun a ha ba =>
        dm_j3 L W d v33 C L1 p _ dm a _ c t hc hs s1 ha (aU _ _ _) ba wm hdm hC hr hn hlv
      have hnw:=nwin_ok (l:=win (lst C) c t) (w:=win (mst C) c t) (d:=dl) wl wm (by rw [aU,aU]) (by rw [aU]; omega) (by rw [aU]; omega) hdl
      have hnl:=jF (win (lst C) c t) (win (mst C) c t) dl
      by_cases h:dl - sm (win (lst C) c t)>0
      · have en:nwin (win (lst C) c t) (win (mst C) c t) dl=adds (win (lst C) c t) (share (dl - sm (win (lst C) c t)) (eqw (win (mst C) c t))):=by unfold nwin; rw [if_pos h]
        rw [iteT h,tsh ⟨by omega,by omega⟩ wm (by rw [aU]; omega) hn hlv,sb]
        have hp:(win (lst C) c t).length=(share (dl - sm (win (lst C) c t)) (eqw (win (mst C) c t))).length:=by rw [cQ,dt,aU,aU]
        have:=dm_l2 (K:=KN lvl) (n:=n) L W d v33 C L1 p (dl - sm (win (lst C) c t)) (dm - sm (win (mst C) c t)) (win (mst C) c t) _ (win (lst C) c t) hp (by rw [aU]; omega) (add_bd wl wm (by rw [aU,aU]) ⟨by omega,by omega⟩) n 0 (by omega) (by rw [aU]; omega)
        rw [j1,show ((0:Nat):Int)=0 from rfl,← en] at this
        rw [this]
        exact hj _ (by rw [hnl,aU]) hnw.2.2
      · have en:nwin (win (lst C) c t) (win (mst C) c t) dl=win (lst C) c t:=by unfold nwin; rw [if_neg h]
        rw [iteF h,en]
        exact hj _ (aU _ _ _) wl
end
theorem pw_one {α:Type} [Inhabited α] {l N:List α} {c:Nat} {x:α} (hN:N=[x]) (hc:c<l.length):pw l c N=List.set l c x:=by
  subst hN
  refine cV (by rw [bD,List.length_set]) (fun k hk=>?_)
  rw [List.length_set] at hk
  rw [bg hk,set_at hk]
  by_cases h:k=c
  · subst h; rw [if_pos rfl,if_pos (by simp),Nat.sub_self]; rfl
  · rw [if_neg h,if_neg (by simp; omega)]
theorem dA_one {cols:Nat} {L:List ab} {W C:List aa} {i:Int} (h:Vd cols L W i) (hC:OkC cols C) (h1:(plc L i).Cols=1):dA L W C i=[max ((lst C).getD (plc L i).Col.toNat default) (sz (W.getD i.toNat default).Least)]∧dB L W C i=[max ((mst C).getD (plc L i).Col.toNat default) (sz (W.getD i.toNat default).Most)]:=by
  have r0:=h.r0; have r2:=h.r2
  have b1:=hC.l.at (k:=(plc L i).Col.toNat) (by rw [bL,hC.len]; omega)
  have b2:=hC.m.at (k:=(plc L i).Col.toNat) (by rw [bH,hC.len]; omega)
  have z1:=dT (W.getD i.toNat default).Least; have z2:=dT (W.getD i.toNat default).Most
  have ea:dA L W C i=[max ((lst C).getD (plc L i).Col.toNat default) (sz (W.getD i.toNat default).Least)]:=by
    unfold dA; rw [h1]; show nwin [_] [_] _=_; exact nwin_one (by simpa using b1) (by simpa using b2) z1.2
  refine ⟨ea,?_⟩
  unfold dB; rw [ea,h1]; show nwin [_] [_] _=_; exact nwin_one (by simpa using b2) (by omega) z2.2
theorem dstep_one {cols:Nat} {L:List ab} {W C:List aa} {i:Int} (h:Vd cols L W i) (hC:OkC cols C) (h1:(plc L i).Cols=1) :
    dstep L W C i=List.set C (plc L i).Col.toNat ⟨max (C.getD (plc L i).Col.toNat default).Least (sz (W.getD i.toNat default).Least),max (C.getD (plc L i).Col.toNat default).Most (sz (W.getD i.toNat default).Most)⟩:=by
  obtain ⟨e1,e2⟩:=dA_one h hC h1
  have r0:=h.r0; have r2:=h.r2
  have hk:(plc L i).Col.toNat<C.length:=by rw [hC.len]; omega
  unfold dstep
  rw [cU hk] at e1; rw [cR hk] at e2
  rw [e1,e2]
  exact pw_one rfl hk
def fin (c:aa):aa:=⟨c.Least,max c.Most c.Least⟩
theorem dm_l9 (C:List aa) (hl:C.length≤10000):∀ (m i:Nat),i≤C.length→C.length<m+i→gx K n C m (i:Int) (mix i (C.map fin) C)=some (C.map fin):=by
  have e:(C.map fin).length=C.length:=by simp
  intro m
  induction m with
  | zero=>intro i h1 h2; omega
  | succ m ih =>
    intro i h1 h2
    simp only [gx,iq]
    by_cases hi:i<C.length
    · rw [iteT (by omega),iv e,au (by omega),au (by omega),au (by omega)]
      simp only [tnat]
      rw [mix_at e hi]
      have:=gZ e hi
      rw [show (C.map fin).getD i default=fin (C.getD i default) by simp [List.getD_eq_getElem?_getD,hi]] at this
      rw [show ({ C.getD i default with Most:=max (C.getD i default).Most (C.getD i default).Least }:aa)=fin (C.getD i default) from rfl,this,wn (n:=(i:Int)+1) (k:=i+1) (by omega) (by omega)]
      exact ih (i+1) (by omega) (by omega)
    · obtain rfl:i=C.length:=by omega
      rw [iteF (by omega),gT e]
theorem dm_l8 {lvl n:Nat} {cols:Nat} {L:List ab} {W:List aa} {d:List Int} (hr:cols≤10000) (hn:10001<n) (hlv:20010≤lvl) (hd:∀ i∈d,Vd cols L W i) (hl:d.length≤10000):∀ (m t:Nat) (C:List aa),t≤d.length→d.length<m+t→OkC cols C →
    eM (KN lvl) n L W d m (t:Int) C=some (((d.drop t).foldl (dstep L W) C).map fin):=by
  intro m
  induction m with
  | zero=>intro t C h1 h2; omega
  | succ m ih =>
    intro t C h1 h2 hC
    simp only [eM,jo]
    by_cases ht:t<d.length
    · have hi:d.getD t default∈d:=by rw [aS ht]; exact List.getElem_mem _
      have hv:=hd _ hi
      have ed:d.drop t=d.getD t default::d.drop (t+1):=by rw [List.drop_eq_getElem_cons ht,aS ht]
      rw [iteT (by omega),au (by omega)]
      simp only [tnat]
      rw [ed,List.foldl_cons]
      generalize d.getD t default=i at *
      have i0:=hv.i0; have iL:=hv.iL; have iW:=hv.iW; have r0:=hv.r0; have r1:=hv.r1; have r2:=hv.r2
      have hs:=(kN hr hv hC).1
      have hnext:=ih (t+1) (dstep L W C i) (by omega) (by omega) hs
      have hlen:=hC.len
      rw [au (by omega),au (by omega),limit_ok,sb,au (by omega),limit_ok,sb,sb,show List.getD L i.toNat default=plc L i from rfl]
      rw [wn (n:=(plc L i).Col+(plc L i).Cols) (k:=(plc L i).Col.toNat+(plc L i).Cols.toNat) (by omega) (by omega),Sh.jn (by omega) (by omega) (by omega),bx]
      simp only [tnat,Int.toNat_zero,Nat.add_zero,Nat.add_sub_cancel_left]
      by_cases h1s:(plc L i).Cols=1
      · rw [show ((plc L i).Cols == 1)=true by rw [h1s]; rfl,if_pos rfl]
        have:(plc L i).Cols.toNat=1:=by omega
        rw [this,au (by omega),show decide ((plc L i).Col.toNat<C.length)=true from decide_eq_true (by omega),bx,au (by omega),au (by omega)]
        unfold iG
        rw [←dstep_one hv hC h1s,wn (n:=(t:Int)+1) (k:=t+1) (by omega) (by omega)]
        exact hnext
      · have:((plc L i).Cols == 1)=false:=by rw [beq_eq_false_iff_ne]; exact h1s
        rw [this,if_neg (by decide)]
        obtain ⟨c,ec⟩:∃ c:Nat,(plc L i).Col=c:=⟨(plc L i).Col.toNat,by omega⟩
        obtain ⟨s,es⟩:∃ s:Nat,(plc L i).Cols=s:=⟨(plc L i).Cols.toNat,by omega⟩
        have z1:=dT (W.getD i.toNat default).Least; have z2:=dT (W.getD i.toNat default).Most
        have h1:=dm_l1 (lvl:=lvl) (n:=n) L W d (t:Int) C (eM (KN lvl) n L W d m) (plc L i) (sz (W.getD i.toNat default).Least) (sz (W.getD i.toNat default).Most) c s ec es (by omega) hC.l hC.m z1.2 z2.2 z1.1 z2.1 (by omega) (by omega) hn hlv (fun _ _=>none) n 0 (by omega) (by omega)
        simp only [wsum,Int.sub_zero,j1] at h1
        have ts:(plc L i).Cols.toNat=s:=by omega
        have tc:(plc L i).Col.toNat=c:=by omega
        have eD:dstep L W C i=pw C c (zipc (nwin (win (lst C) c s) (win (mst C) c s) (sz (W.getD i.toNat default).Least)) (nwin (win (mst C) c s) (nwin (win (lst C) c s) (win (mst C) c s) (sz (W.getD i.toNat default).Least)) (sz (W.getD i.toNat default).Most))):=by
          unfold dstep dB dA; rw [ts,tc]
        rw [ts,es,Sh.f0 (by omega) (by omega),bx,bx]
        rw [show ((0:Nat):Int)=0 from rfl] at h1
        rw [h1,wn (n:=(t:Int)+1) (k:=t+1) (by omega) (by omega),← eD]
        exact hnext
    · obtain rfl:t=d.length:=by omega
      rw [iteF (by omega),List.drop_length]
      have:=dm_l9 (K:=KN lvl) (n:=n) C (by rw [hC.len]; omega) n 0 (by omega) (by have:=hC.len; omega)
      rw [j1] at this
      exact this
def demands (L:List ab) (W:List aa) (cols:Nat):List aa:=(grp (fun i=>(plc L i).Cols) (val L (qd cols) W.length) cols).foldl (dstep L W) (List.replicate cols ct)
theorem bd_rep {x:Int} (hx:0≤x∧x≤1048576) (k:Nat):Bd (List.replicate k x):=fun y hy=>by have:=(List.mem_replicate.1 hy).2; omega
theorem OkC.rep (cols:Nat):OkC cols (List.replicate cols ct):=⟨by simp,by unfold lst; rw [List.map_replicate]; exact bd_rep (by decide) _,by unfold mst; rw [List.map_replicate]; exact bd_rep (by decide) _⟩
theorem demands_ok {lvl n:Nat} (L:List ab) (W:List aa) (cols:Int) (hr:cols≤10000) (hL:L.length≤10000) (hn:10001<n) (hlv:20020≤lvl):hH (KN lvl) n L W cols=some ((demands L W (max cols 0).toNat).map fin):=by
  unfold hH
  obtain ⟨r,er⟩:∃ r:Nat,max cols 0=r:=⟨(max cols 0).toNat,by omega⟩
  rw [er,Sh.f0 (by omega) (by omega),bx,sb,tnat]
  obtain ⟨k,rfl⟩:∃ k,lvl=k+1:=⟨lvl - 1,by omega⟩
  rw [spanning_ok (lvl:=k+1) (f:=Fv.c36 (r:Int)) (s:=Fv.fn 37) (q:=qd r) (sp:=fun p=>p.Cols) (fun p=>qd_ok (K:=KN k) (n:=k) (r:Int) p) (fun m p=>rfl) L W.length r hL hn hlv (fun p h1 h2=>by
    have:=ga h1; have:=qd_of (by omega) h1 h2; omega),sb]
  have hd:∀ i∈grp (fun i=>(plc L i).Cols) (val L (qd r) W.length) r,Vd r L W i:=fun i hi=>Vd.of (by omega) (iX hi).1
  have hlen:=grp_len (key:=fun i=>(plc L i).Cols) (V:=val L (qd r) W.length) (fun v hv=>(Vd.of (by omega) hv).r1) r
  exact dm_l8 (lvl:=k+1) (n:=n) (cols:=r) (by omega) hn (by omega) hd (by have:=jO L (qd r) W.length; omega) n 0 _ (by omega) (by have:=jO L (qd r) W.length; omega) (OkC.rep r)
end Go.Proofs.Ytolhpahjgddjkaa.Tb
namespace Go.Proofs.Ytolhpahjgddjkaa.Tb
set_option linter.all false
open Go.RowKit
open Sh (idx bV cg c7 cP bE co share wts lim mx cQ)
open QSort (wn au iteT iteF sb R)
set_option maxRecDepth 20000
variable {K:Kn} {n:Nat}
theorem eqw_at {w:List Int} (hw:Bd w) {t:Nat} (ht:t<w.length):(eqw w).getD t default=if zer w=true then 1 else w.getD t default:=by
  rw [zer_pos (fun x hx=>(hw x hx).1)]
  unfold eqw
  cases pos w
  · simp [List.getD_eq_getElem?_getD,ht]
  · rfl
theorem zer_win (w:List Int) (c t:Nat):zer (win w c (t+1))=(zer (win w c t) && (w.getD (c+t) default == 0)):=by
  unfold win; rw [kU]; simp only [zer,List.all_append,List.all_cons,List.all_nil,Bool.and_true]
theorem snoc_at {N:List Int} {t:Nat} (h:t<N.length):N.take t++[N.getD t default]=N.take (t+1):=by
  rw [List.take_succ_eq_append_getElem h,aS h]
theorem ra_l5 (l P:List Int) (c s:Nat) (hP:P.length=s) (hC:c+s≤l.length) (hr:l.length≤10000) (hb:∀ k,k<s → -4611686018427387904≤(win l c s).getD k default+P.getD k default∧(win l c s).getD k default+P.getD k default≤4611686018427387904):∀ (m t:Nat),t≤s→s<m+t →
    fB K n (c:Int) (s:Int) P m (t:Int) (pw l c ((adds (win l c s) P).take t))=some (pw l c (adds (win l c s) P)):=by
  have al:(adds (win l c s) P).length=s:=by rw [cz,aU]
  intro m
  induction m with
  | zero=>intro t h1 h2; omega
  | succ m ih =>
    intro t h1 h2
    simp only [fB,iD]
    by_cases ht:t<s
    · have hbt:=hb t ht
      rw [iteT (by omega),wn (n:=(c:Int)+(t:Int)) (k:=c+t) (by omega) (by omega),au (by rw [bD]; omega),au (by omega),au (by rw [bD]; omega),tnat,tnat]
      rw [pw_at_out (Nat.le_refl _) (by omega),← cA (l:=l) (c:=c) ht,show w64 ((win l c s).getD t default+P.getD t default)=(adds (win l c s) P).getD t default by rw [ja (by rw [aU]; exact ht)]; exact bv (by omega) (by omega)]
      rw [pw_set (by omega) (by omega),wn (n:=(t:Int)+1) (k:=t+1) (by omega) (by omega)]
      exact ih (t+1) (by omega) (by omega)
    · obtain rfl:t=s:=by omega
      rw [iteF (by omega),List.take_of_length_le (by omega)]
theorem ra_l4 (l w:List Int) (d:Int) (c s:Nat) (s1:1≤s) (bl:Bd l) (bw:Bd w) (hwl:w.length=l.length) (hC:c+s≤l.length) (hr:l.length≤10000) (hn:10001<n) (hd:d≤1048576) (hm:d - sm (win l c s)>0):∀ (m t:Nat),t≤s→s<m+t →
    d8 K n l (c:Int) (s:Int) w (d - sm (win l c s)) (zer (win w c s)) m ((c+t:Nat):Int) ((eqw (win w c s)).take t)=some (pw l c (nwin (win l c s) (win w c s) d)):=by
  have wl:=eQ bl (c:=c) (s:=s) hC
  have ww:=eQ bw (c:=c) (s:=s) (by omega)
  have el:(eqw (win w c s)).length=s:=by rw [dt,aU]
  have s0:=bE _ (fun x hx=>(wl x hx).1)
  intro m
  induction m with
  | zero=>intro t h1 h2; omega
  | succ m ih =>
    intro t h1 h2
    simp only [d8,iw]
    rw [wn (n:=(c:Int)+(s:Int)) (k:=c+s) (by omega) (by omega)]
    by_cases ht:t<s
    · have hj:∀ x,x=(eqw (win w c s)).getD t default→gf K n l (c:Int) (s:Int) w (d - sm (win l c s)) (zer (win w c s)) ((c+t:Nat):Int) ((eqw (win w c s)).take t) (d8 K n l (c:Int) (s:Int) w (d - sm (win l c s)) (zer (win w c s)) m) x=some (pw l c (nwin (win l c s) (win w c s) d)):=by
        rintro x rfl
        unfold gf
        rw [fits_of (by simp; omega) (by omega),bx,snoc_at (by omega),wn (n:=((c+t:Nat):Int)+1) (k:=c+(t+1)) (by omega) (by omega)]
        exact ih (t+1) (by omega) (by omega)
      have ea:=eqw_at ww (t:=t) (by rw [aU]; exact ht)
      rw [cA ht] at ea
      rw [iteT (by omega),au (by omega),tnat]
      cases hz:zer (win w c s)
      · rw [hz] at ea hj
        rw [if_neg (by decide)] at ea ⊢
        exact hj _ ea.symm
      · rw [hz] at ea hj
        rw [if_pos rfl] at ea ⊢
        exact hj _ ea.symm
    · obtain rfl:t=s:=by omega
      have he:=Sh.ref_ok (K:=K) (n:=n) (d - sm (win l c t)) (eqw (win w c t)) (by omega) hn
      rw [iteF (by omega),List.take_of_length_le (by omega),he,sb,wts_id (gv ww.wts),show lim (d - sm (win l c t)) mx=d - sm (win l c t) by unfold lim mx; omega]
      have hl5:=ra_l5 (K:=K) (n:=n) l (share (d - sm (win l c t)) (eqw (win w c t))) c t (by rw [cQ,el]) hC hr (fun k hk=>add_bd wl ww (by rw [aU,aU]) ⟨by omega,by omega⟩ k (by rw [aU]; exact hk)) n 0 (by omega) (by omega)
      rw [pw_zero,show ((0:Nat):Int)=0 from rfl] at hl5
      rw [hl5]
      unfold nwin; rw [if_pos hm]
theorem radd_ok (l w:List Int) (d:Int) (c s:Nat) (s1:1≤s) (bl:Bd l) (bw:Bd w) (hwl:w.length=l.length) (hC:c+s≤l.length) (hr:l.length≤10000) (hn:10001<n) (hd:0≤d∧d≤1048576):jf K n l (c:Int) (s:Int) d w=some (pw l c (nwin (win l c s) (win w c s) d)):=by
  have ol:Ok 1048576 l.length l:=⟨rfl,bl⟩
  have loop:∀ (m t:Nat),t≤s→s<m+t→gg K n l (c:Int) (s:Int) w m (d - wsum l c t) (zer (win w c t)) ((c+t:Nat):Int)=some (pw l c (nwin (win l c s) (win w c s) d)):=by
    intro m
    induction m with
    | zero=>intro t h1 h2; omega
    | succ m ih =>
      intro t h1 h2
      simp only [gg,jb]
      rw [wn (n:=(c:Int)+(s:Int)) (k:=c+s) (by omega) (by omega)]
      by_cases ht:t<s
      · have b1:=fT ol (a:=c) t (by omega)
        have b3:=ol.at (k:=c+t) (by omega)
        have hbb:(t:Int)*1048576≤10000*1048576:=Int.mul_le_mul_of_nonneg_right (by omega) (by omega)
        rw [iteT (by omega),au (by omega),sb,au (by omega),tnat,bv (n:=d - wsum l c t - l.getD (c+t) default) (by omega) (by omega),show d - wsum l c t - l.getD (c+t) default=d - wsum l c (t+1) by simp only [wsum]; omega]
        have hnext:=ih (t+1) (by omega) (by omega)
        rw [zer_win] at hnext
        unfold jm
        rw [wn (n:=((c+t:Nat):Int)+1) (k:=c+(t+1)) (by omega) (by omega)]
        by_cases hw:w.getD (c+t) default=0
        · rw [show (w.getD (c+t) default != 0)=false by rw [hw]; rfl,if_neg (by decide)]
          rw [beq_iff_eq.2 hw,Bool.and_true] at hnext; exact hnext
        · rw [show (w.getD (c+t) default != 0)=true from bne_iff_ne.2 hw,if_pos rfl]
          rw [beq_false_of_ne hw,Bool.and_false] at hnext; exact hnext
      · obtain rfl:t=s:=by omega
        rw [iteF (by omega),← gS]
        by_cases h:d - sm (win l c t)≤0
        · rw [iteT h]
          unfold nwin; rw [if_neg (by omega)]
          congr 1
          refine cV (bD _ _ _).symm (fun k hk=>?_)
          rw [bD] at hk
          rw [bg hk,aU]
          split
          · rw [cA (by omega),show c+(k - c)=k by omega]
          · rfl
        · rw [iteF h]
          have:=ra_l4 (K:=K) (n:=n) l w d c t s1 bl bw hwl hC hr hn hd.2 (by omega) n 0 (by omega) (by omega)
          rw [List.take_zero] at this
          exact this
  have:=loop n 0 (by omega) (by omega)
  simp only [wsum,Int.sub_zero,Nat.add_zero] at this
  exact this
theorem win_pw {l N:List Int} {c:Nat} (hc:c+N.length≤l.length):win (pw l c N) c N.length=N:=by
  refine cV (aU _ _ _) (fun k hk=>?_)
  rw [cA hk,bg (by omega),if_pos (by omega),Nat.add_sub_cancel_left]
theorem rd_l4 {cols:Nat} {L:List ab} {W:List aa} (v3:Int) (hv3:max v3 0=cols) (hr:cols≤10000) (hL:L.length≤10000) (hn:10001<n) (r:Nat) (L1:Int→List Int→List Int→Option (List aa)):∀ (m i:Nat) (C:List aa),i≤min L.length W.length→L.length<m+i→OkC cols C →
    dx K n L W v3 (r:Int) L1 m (i:Int) (lst C) (mst C)=L1 (w64 (r+1)) (lst ((((idx (min L.length W.length)).drop i).filter fun i=>((plc L i).Cols == (r:Int)) && (okp (plc L i) && qd cols (plc L i))).foldl (dstep L W) C)) (mst ((((idx (min L.length W.length)).drop i).filter fun i=>((plc L i).Cols == (r:Int)) && (okp (plc L i) && qd cols (plc L i))).foldl (dstep L W) C)):=by
  intro m
  induction m with
  | zero=>intro i C h1 h2; omega
  | succ m ih =>
    intro i C h1 h2 hC
    simp only [dx,g8]
    by_cases hi:i<min L.length W.length
    · have ep:List.getD L i default=plc L (i:Int):=by unfold plc; rw [tnat]
      rw [iteT (by omega),idx_drop hi,show decide ((i:Int)<(W.length:Int))=true from decide_eq_true (by omega),List.filter_cons]
      generalize hF:(((plc L (i:Int)).Cols == (r:Int)) && (okp (plc L (i:Int)) && qd cols (plc L (i:Int))))=F
      have hn2:=ih (i+1) C (by omega) (by omega) hC
      unfold eO
      rw [if_pos rfl,au (by omega),tnat,ep,hv3,inside_ok,sb]
      have hT:F=false→dr K n L W v3 (r:Int) (i:Int) (lst C) (mst C) L1 (dx K n L W v3 (r:Int) L1 m) true=L1 (w64 (r+1)) (lst ((if F=true then (i:Int)::((idx (min L.length W.length)).drop (i+1)).filter (fun i=>((plc L i).Cols == (r:Int)) && (okp (plc L i) && qd cols (plc L i))) else ((idx (min L.length W.length)).drop (i+1)).filter (fun i=>((plc L i).Cols == (r:Int)) && (okp (plc L i) && qd cols (plc L i)))).foldl (dstep L W) C)) (mst ((if F=true then (i:Int)::((idx (min L.length W.length)).drop (i+1)).filter (fun i=>((plc L i).Cols == (r:Int)) && (okp (plc L i) && qd cols (plc L i))) else ((idx (min L.length W.length)).drop (i+1)).filter (fun i=>((plc L i).Cols == (r:Int)) && (okp (plc L i) && qd cols (plc L i)))).foldl (dstep L W) C)):=by
        intro h
        rw [h,if_neg (by decide)]
        unfold dr ff
        rw [if_pos rfl,wn (n:=(i:Int)+1) (k:=i+1) (by omega) (by omega)]
        exact hn2
      have hno:okp (plc L (i:Int))=false→F=false:=fun h=>by rw [←hF,h]; simp
      have okf:∀ p:ab,¬ (p.Row≥0∧p.Col≥0∧p.Rows≥1∧p.Cols≥1)→okp p=false:=fun p h=>by
        cases h2:okp p
        · rfl
        · exact absurd (ga h2) h
      by_cases k1:(plc L (i:Int)).Cols=(r:Int)
      · have:((plc L (i:Int)).Cols != (r:Int))=false:=by simp [k1]
        rw [this,if_neg (by decide)]
        by_cases k2:(plc L (i:Int)).Rows<1
        · rw [iteT k2]; exact hT (hno (okf _ (by omega)))
        · rw [iteF k2]
          by_cases k3:(plc L (i:Int)).Row<0
          · rw [iteT k3]; exact hT (hno (okf _ (by omega)))
          · rw [iteF k3]
            have e:(decide ((plc L (i:Int)).Col≥0) && (decide ((plc L (i:Int)).Cols≥1) && (decide ((plc L (i:Int)).Col<(cols:Int)) && decide ((plc L (i:Int)).Cols≤w64 ((cols:Int) - (plc L (i:Int)).Col)))))=(okp (plc L (i:Int)) && qd cols (plc L (i:Int))):=by
              unfold okp qd
              rw [show decide ((plc L (i:Int)).Row≥0)=true from decide_eq_true (by omega),show decide ((plc L (i:Int)).Rows≥1)=true from decide_eq_true (by omega)]
              simp only [Bool.true_and,Bool.and_assoc]
            rw [e]
            cases hq:(okp (plc L (i:Int)) && qd cols (plc L (i:Int)))
            · exact hT (by rw [←hF,hq,Bool.and_false])
            · have hF':F=true:=by rw [←hF,hq,beq_iff_eq.2 k1]; rfl
              have hv:Vd cols L W (i:Int):=Vd.of hr (List.mem_filter.2 ⟨cg.2 ⟨i,by omega,rfl⟩,hq⟩)
              have r0:=hv.r0; have r1:=hv.r1; have r2:=hv.r2
              have hlen:=hC.len
              have hs:=(kN hr hv hC).1
              have hn3:=ih (i+1) (dstep L W C (i:Int)) (by omega) (by omega) hs
              rw [hF',if_pos rfl,List.foldl_cons,← hn3]
              have ll:=bL C; have ml:=bH C
              unfold dr
              rw [Bool.not_true,if_neg (by decide),show List.getD L ((i:Int)).toNat default=plc L (i:Int) from rfl]
              unfold ff
              by_cases h1:(plc L (i:Int)).Cols=1
              · have hr1:((r:Int) == 1)=true:=by rw [←k1,h1]; rfl
                obtain ⟨e1,e2⟩:=dA_one hv hC h1
                rw [tnat] at e1 e2
                rw [hr1,if_pos rfl,au (by omega),au (by omega),jR,sb,au (by omega),sb,au (by omega),au (by omega),jR,sb,au (by omega)]
                simp only [tnat]
                rw [jG,jK,pw_one e1 (by omega),pw_one e2 (by omega),wn (n:=(i:Int)+1) (k:=i+1) (by omega) (by omega)]
              · have hr1:((r:Int) == 1)=false:=by rw [beq_eq_false_iff_ne,← k1]; exact h1
                rw [hr1,if_neg (by decide),au (by omega),jR,sb]
                obtain ⟨c,ec⟩:∃ c:Nat,(plc L (i:Int)).Col=c:=⟨(plc L (i:Int)).Col.toNat,by omega⟩
                have tc:(plc L (i:Int)).Col.toNat=c:=by omega
                have ts:(plc L (i:Int)).Cols.toNat=r:=by omega
                rw [ec]
                have e1:=radd_ok (K:=K) (n:=n) (lst C) (mst C) (sz (W.getD i default).Least) c r (by omega) hC.l hC.m (by omega) (by omega) (by omega) hn (dT _)
                have e3:nwin (win (lst C) c r) (win (mst C) c r) (sz (W.getD i default).Least)=dA L W C (i:Int):=by unfold dA; rw [tc,ts,tnat]
                rw [e3] at e1
                simp only [tnat]
                rw [e1,sb,au (by omega),jR,sb]
                have hda:=dA_ok hr hv hC
                have hdl:=dA_len L W C (i:Int)
                have e2:=radd_ok (K:=K) (n:=n) (mst C) (pw (lst C) c (dA L W C (i:Int))) (sz (W.getD i default).Most) c r (by omega) hC.m (pw_bd hC.l hda.2.2) (by rw [bD]; omega) (by omega) (by omega) hn (dT _)
                have e4:=win_pw (l:=lst C) (N:=dA L W C (i:Int)) (c:=c) (by omega)
                rw [hdl,ts] at e4
                rw [e4] at e2
                have e5:nwin (win (mst C) c r) (dA L W C (i:Int)) (sz (W.getD i default).Most)=dB L W C (i:Int):=by unfold dB; rw [tc,ts,tnat]
                rw [e5] at e2
                rw [e2,sb,jG,jK,tc,wn (n:=(i:Int)+1) (k:=i+1) (by omega) (by omega)]
      · have:((plc L (i:Int)).Cols != (r:Int))=true:=by simp [k1]
        rw [this,if_pos rfl]
        exact hT (by rw [←hF,beq_false_of_ne k1,Bool.false_and])
    · obtain rfl:i=min L.length W.length:=by omega
      have hd:(idx (min L.length W.length)).drop (min L.length W.length)=[]:=List.drop_eq_nil_of_le (by rw [bV]; exact Nat.le_refl _)
      rw [hd]
      have hj:eO K n L W v3 (r:Int) ((min L.length W.length:Nat):Int) (lst C) (mst C) L1 (dx K n L W v3 (r:Int) L1 m) false=L1 (w64 (r+1)) (lst C) (mst C):=by
        unfold eO; rw [if_neg (by decide)]
      by_cases h:((min L.length W.length:Nat):Int)<(L.length:Int)
      · rw [iteT h,show decide (((min L.length W.length:Nat):Int)<(W.length:Int))=false from decide_eq_false (by omega)]; exact hj
      · rw [iteF h]; exact hj
theorem rd_l6 (C:List aa) (v3:Int) (hv3:max v3 0=C.length) (hr:C.length≤10000):∀ (m i:Nat),i≤C.length→C.length<m+i→gh K n v3 (lst C) (mst C) m (i:Int) ((C.map fin).take i)=some (C.map fin):=by
  intro m
  induction m with
  | zero=>intro i h1 h2; omega
  | succ m ih =>
    intro i h1 h2
    simp only [gh,gE]
    have ll:=bL C; have ml:=bH C
    rw [hv3]
    by_cases hi:i<C.length
    · rw [iteT (by omega),au (by omega),au (by omega),au (by omega),fits_of (by simp; omega) (by omega),bx,tnat,cU hi,cR hi]
      have e:(C.map fin).take i++[(⟨(C.getD i default).Least,max (C.getD i default).Most (C.getD i default).Least⟩:aa)]=(C.map fin).take (i+1):=by
        rw [List.take_succ_eq_append_getElem (by simpa using hi),List.getElem_map,aS hi]; rfl
      rw [e,wn (n:=(i:Int)+1) (k:=i+1) (by omega) (by omega)]
      exact ih (i+1) (by omega) (by omega)
    · obtain rfl:i=C.length:=by omega
      rw [iteF (by omega),List.take_of_length_le (by simp)]
theorem rdemands_ok {n:Nat} (L:List ab) (W:List aa) (v3:Int) (hr:v3≤10000) (hL:L.length≤10000) (hn:10001<n):gR K n L W v3=some ((demands L W (max v3 0).toNat).map fin):=by
  unfold gR
  obtain ⟨r,er⟩:∃ r:Nat,max v3 0=r:=⟨(max v3 0).toNat,by omega⟩
  rw [er,Sh.f0 (by omega) (by omega),bx,sb,bx,tnat]
  have hr':r≤10000:=by omega
  have loop:∀ (m k:Nat),k≤r→r<m+k →
      eg K n L W v3 m ((k+1:Nat):Int) (lst ((grp (fun i=>(plc L i).Cols) (val L (qd r) W.length) k).foldl (dstep L W) (List.replicate r ct))) (mst ((grp (fun i=>(plc L i).Cols) (val L (qd r) W.length) k).foldl (dstep L W) (List.replicate r ct)))=some ((demands L W r).map fin):=by
    intro m
    induction m with
    | zero=>intro k h1 h2; omega
    | succ m ih =>
      intro k h1 h2
      have hd:∀ i∈grp (fun i=>(plc L i).Cols) (val L (qd r) W.length) k,Vd r L W i:=fun i hi=>Vd.of hr' (iX hi).1
      have hf:=(kQ hr' _ _ hd (OkC.rep r)).1
      simp only [eg,g6]
      rw [er]
      by_cases hk:k<r
      · rw [iteT (by omega)]
        have:=rd_l4 (K:=K) (n:=n) (W:=W) v3 er hr' hL hn (k+1) (eg K n L W v3 m) n 0 _ (by omega) (by omega) hf
        rw [List.drop_zero,show ((0:Nat):Int)=0 from rfl] at this
        rw [this,wn (n:=((k+1:Nat):Int)+1) (k:=k+1+1) (by omega) (by omega)]
        have e:=ih (k+1) (by omega) (by omega)
        simp only [grp,List.foldl_append] at e
        unfold val at e ⊢
        rw [List.filter_filter] at e
        exact e
      · obtain rfl:k=r:=by omega
        rw [iteF (by omega)]
        have:=rd_l6 (K:=K) (n:=n) _ v3 (by rw [er,hf.len]) (by rw [hf.len]; exact hr') n 0 (by omega) (by rw [hf.len]; omega)
        rw [List.take_zero] at this
        exact this
  have:=loop n 0 (by omega) (by omega)
  have e1:lst (List.replicate r ct)=List.replicate r 0:=by unfold lst; rw [List.map_replicate]; rfl
  have e2:mst (List.replicate r ct)=List.replicate r 0:=by unfold mst; rw [List.map_replicate]; rfl
  simp only [grp,List.foldl_nil,e1,e2] at this
  exact this
end Go.Proofs.Ytolhpahjgddjkaa.Tb
namespace Go.Proofs.Ytolhpahjgddjkaa.QTableDemands
set_option linter.all false
open Go.RowKit
open Tb
open Sh (idx bV cg c7 cP bE co)
open QSort (wn au iteT iteF sb R)
set_option maxRecDepth 20000
theorem fit_ok (k:Nat):gW (KN (k+12)) (k+12)=some true:=by kernel_rfl
theorem fit_ok' {n:Nat} (h:12≤n):gW (KN n) n=some true:=by
  obtain ⟨k,rfl⟩:∃ k,n=k+12:=⟨n - 12,by omega⟩
  exact fit_ok k
variable {K:Kn} {n:Nat}
theorem mem_grp {key:Int→Int} {V:List Int} {N:Nat} {x:Int} (hk:∀ v∈V,1≤key v) (h:x∈V) (h2:key x≤N):x∈grp key V N :=
  (jU hk N).mem_iff.2 (List.mem_filter.2 ⟨h,decide_eq_true h2⟩)
theorem lst_drop (D:List aa) (a b:Nat):lst (List.drop a (List.take b D))=List.drop a (List.take b (lst D)):=by unfold lst; rw [List.map_drop,List.map_take]
theorem mst_drop (D:List aa) (a b:Nat):mst (List.drop a (List.take b D))=List.drop a (List.take b (mst D)):=by unfold mst; rw [List.map_drop,List.map_take]
theorem sm_win (l:List Int) (c s:Nat) (h:c+s≤l.length) (t:Nat) (ht:t≤s):sm ((List.drop c (List.take (c+s) l)).take t)=wsum l c t:=by
  rw [List.drop_take,List.take_take,show min t (c+s - c)=t by omega]
  exact wsum_sm l c t (by omega)
theorem l7 (L:List ab) (W D:List aa) (cols:Nat) (hr:cols≤30) (hn:30<n) (hf:∀ p∈L,small p.Row∧small p.Col∧small p.Rows∧small p.Cols) (hL:L.length≤30) (hD:OkC cols D)
    (hs:∀ i∈val L (qd cols) W.length,sz (W.getD i.toNat default).Least≤wsum (lst D) (plc L i).Col.toNat (plc L i).Cols.toNat∧sz (W.getD i.toNat default).Most≤wsum (mst D) (plc L i).Col.toNat (plc L i).Cols.toNat):∀ (m i:Nat),i≤L.length→L.length<m+i→dj K n L W D m (i:Int)=some true:=by
  have ol:Ok 1048576 cols (lst D):=⟨by rw [bL,hD.len],hD.l⟩
  have om:Ok 1048576 cols (mst D):=⟨by rw [bH,hD.len],hD.m⟩
  intro m
  induction m with
  | zero=>intro i h1 h2; omega
  | succ m ih =>
    intro i h1 h2
    simp only [dj,gB]
    by_cases hi:i<L.length
    · have hnext:=ih (i+1) (by omega) (by omega)
      rw [iteT (by omega),au (by omega),tnat]
      have hp:=hf (L.getD i default) (by rw [aS hi]; exact List.getElem_mem _)
      have ep:plc L (i:Int)=L.getD i default:=by unfold plc; rw [tnat]
      have h6:fh K n L W D (i:Int) (dj K n L W D m)=some true:=by
        unfold fh
        rw [wn (n:=(i:Int)+1) (k:=i+1) (by omega) (by omega)]; exact hnext
      have hT:cM K n L W D (i:Int) (dj K n L W D m) true=some true:=by
        unfold cM
        rw [if_pos rfl]; exact h6
      by_cases k0:(i:Int)≥(W.length:Int)
      · rw [iteT k0]; exact hT
      rw [iteF k0]
      by_cases k1:(L.getD i default).Row<0
      · rw [iteT k1]; exact hT
      rw [iteF k1]
      by_cases k2:(L.getD i default).Rows<1
      · rw [iteT k2]; exact hT
      rw [iteF k2]
      by_cases k3:(L.getD i default).Col<0
      · rw [iteT k3]; exact hT
      rw [iteF k3]
      by_cases k4:(L.getD i default).Cols<1
      · rw [iteT k4]; exact hT
      rw [iteF k4]
      obtain ⟨⟨a1,a2⟩,⟨b1,b2⟩,⟨c1,c2⟩,⟨d1,d2⟩⟩:=hp
      rw [bv (by omega) (by omega),hD.len]
      by_cases k5:(L.getD i default).Col+(L.getD i default).Cols>(cols:Int)
      · rw [show decide ((L.getD i default).Col+(L.getD i default).Cols>(cols:Int))=true from decide_eq_true k5]; exact hT
      rw [show decide ((L.getD i default).Col+(L.getD i default).Cols>(cols:Int))=false from decide_eq_false k5]
      unfold cM
      rw [if_neg (by decide),tnat,bv (by omega) (by omega),Sh.jn (by omega) (by omega) (by rw [hD.len]; omega),bx]
      have hv:(i:Int)∈val L (qd cols) W.length:=by
        refine List.mem_filter.2 ⟨cg.2 ⟨i,by omega,rfl⟩,?_⟩
        rw [ep]; unfold okp qd
        rw [bv (by omega) (by omega)]
        simp only [Bool.and_eq_true,decide_eq_true_eq]; omega
      have hsi:=hs _ hv
      rw [tnat,ep] at hsi
      obtain ⟨c,ec⟩:∃ c:Nat,(L.getD i default).Col=c:=⟨(L.getD i default).Col.toNat,by omega⟩
      obtain ⟨s,es⟩:∃ s:Nat,(L.getD i default).Cols=s:=⟨(L.getD i default).Cols.toNat,by omega⟩
      rw [ec,es] at hsi ⊢
      rw [show ((c:Int)+(s:Int)).toNat=c+s by omega]
      simp only [tnat] at hsi ⊢
      have hlen:=hD.len
      have hcs:c+s≤cols:=by omega
      generalize hw:List.drop c (List.take (c+s) D)=Wn
      have hWl:Wn.length=s:=by rw [←hw,List.length_drop,List.length_take,hlen]; omega
      have hWa:∀ t,t≤s→sm ((lst Wn).take t)=wsum (lst D) c t:=fun t ht=>by rw [←hw,lst_drop]; exact sm_win _ c s (by rw [bL]; omega) t ht
      have hWb:∀ t,t≤s→sm ((mst Wn).take t)=wsum (mst D) c t:=fun t ht=>by rw [←hw,mst_drop]; exact sm_win _ c s (by rw [bH]; omega) t ht
      have l4:∀ (m2 t:Nat),t≤s→s<m2+t→fm K n L W D (i:Int) (dj K n L W D m) m2 (wsum (lst D) c t) (wsum (mst D) c t) Wn (s:Int) (t:Int)=some true:=by
        intro m2
        induction m2 with
        | zero=>intro t h3 h4; omega
        | succ m2 ih2 =>
          intro t h3 h4
          simp only [fm,hJ]
          by_cases ht:t<s
          · have hb1:=fT ol (a:=c) (t+1) (by omega)
            have hb2:=fT om (a:=c) (t+1) (by omega)
            have hbb:((t+1:Nat):Int)*1048576≤10000*1048576:=Int.mul_le_mul_of_nonneg_right (by omega) (by omega)
            have s1:=hWa (t+1) (by omega); have s2:=hWb (t+1) (by omega)
            rw [Sh.eu (by rw [bL]; omega),hWa t (by omega),cU (by omega)] at s1
            rw [Sh.eu (by rw [bH]; omega),hWb t (by omega),cR (by omega)] at s2
            rw [iteT (by omega),au (by omega),tnat,s1,s2,wn (n:=(t:Int)+1) (k:=t+1) (by omega) (by omega),bv (by omega) (by omega),bv (by omega) (by omega)]
            exact ih2 (t+1) (by omega) (by omega)
          · obtain rfl:t=s:=by omega
            rw [iteF (by omega),au (by omega),tnat,width_ok,sb,iteF (by omega),au (by omega),width_ok,sb]
            unfold jc
            rw [iteF (by omega)]; exact h6
      rw [hWl]
      exact l4 n 0 (by omega) (by omega)
    · obtain rfl:i=L.length:=by omega
      rw [iteF (by omega)]
theorem q_refl (x:aa):df x x=true:=by simp [df]
theorem fin_at {C:List aa} {k:Nat} (h:k<C.length):(C.map fin).getD k default=fin (C.getD k default):=by simp [List.getD_eq_getElem?_getD,h]
theorem holds (x0:List ab) (x1:List aa) (x2:Int) (h0:HasT Try.prog 28 ((eSl am) x0)) (h1:HasT Try.prog 32 ((eSl ag) x1)) (h2:HasT Try.prog 3 ((eInt .i64) x2)):∃ n,kj (KN n) n x0 x1 x2=some true:=by
  obtain ⟨l,hl,hm,_⟩:=h0.sl_inv Try.underlying28
  simp only [eSl,List.cons.injEq,AV.sl.injEq,and_true] at hl
  have hlen:l.length=x0.length:=by rw [←hl,List.length_map]
  have hm':l.length≤9223372036854775807:=hm
  refine ⟨x0.length+20030,?_⟩
  generalize hN:x0.length+20030=N
  unfold kj
  rw [fit_ok' (by omega),sb]
  obtain ⟨b,e,hf⟩:=few_tot (K:=KN N) (n:=N) x0 x2 (by omega) (by omega)
  rw [Bool.not_true,if_neg (by decide),e,sb]
  cases b
  · rfl
  obtain ⟨hs,hl30,hv⟩:=hf rfl
  rw [Bool.not_true,if_neg (by decide),demands_ok x0 x1 x2 (by omega) (by omega) (by omega) (by omega),sb,rdemands_ok x0 x1 x2 (by omega) (by omega) (by omega),sb]
  obtain ⟨r,er⟩:∃ r:Nat,max x2 0=r:=⟨(max x2 0).toNat,by omega⟩
  have hr:r≤30:=by omega
  rw [er,tnat]
  have hd:∀ i∈grp (fun i=>(plc x0 i).Cols) (val x0 (qd r) x1.length) r,Vd r x0 x1 i:=fun i hi=>Vd.of (by omega) (iX hi).1
  obtain ⟨f1,_,_,f4⟩:=kQ (by omega) _ _ hd (OkC.rep r)
  rw [show (grp (fun i=>(plc x0 i).Cols) (val x0 (qd r) x1.length) r).foldl (dstep x0 x1) (List.replicate r ct)=demands x0 x1 r from rfl] at f1 f4
  generalize demands x0 x1 r=C at *
  have hC:=f1.len
  have eL:lst (C.map fin)=lst C:=by unfold lst; rw [List.map_map]; rfl
  have gM:∀ k,k<C.length→(mst (C.map fin)).getD k default=max ((mst C).getD k default) ((lst C).getD k default):=fun k hk=>by
    rw [cR (by simpa using hk),fin_at hk,cR hk,cU hk]; rfl
  have oD:OkC r (C.map fin):=⟨by simp [hC],by rw [eL]; exact f1.l,Bd.mk fun k hk=>by
    have hk':k<C.length:=by simpa [mst] using hk
    rw [gM k hk']
    have:=f1.l.at (k:=k) (by rw [bL]; exact hk'); have:=f1.m.at (k:=k) (by rw [bH]; exact hk')
    omega⟩
  have gm:∀ k,(mst C).getD k default≤(mst (C.map fin)).getD k default:=fun k=>by
    by_cases hk:k<C.length
    · rw [gM k hk]; omega
    · have e1:(mst C).getD k default=default:=by rw [List.getD_eq_getElem?_getD,List.getElem?_eq_none (by rw [bH]; omega)]; rfl
      have e2:(mst (C.map fin)).getD k default=default:=by rw [List.getD_eq_getElem?_getD,List.getElem?_eq_none (by rw [bH]; simp; omega)]; rfl
      rw [e1,e2]; exact Int.le_refl _
  have hlm:(C.map fin).length=C.length:=by simp
  have hfin:∀ i∈val x0 (qd r) x1.length,sz (x1.getD i.toNat default).Least≤wsum (lst (C.map fin)) (plc x0 i).Col.toNat (plc x0 i).Cols.toNat∧sz (x1.getD i.toNat default).Most≤wsum (mst (C.map fin)) (plc x0 i).Col.toNat (plc x0 i).Cols.toNat:=fun i hi=>by
    have hv:=Vd.of (W:=x1) (by omega) hi
    have:=f4 i (mem_grp (key:=fun i=>(plc x0 i).Cols) (fun v hv=>(Vd.of (W:=x1) (by omega) hv).r1) hi (by
      have h1:=hv.r0; have h2:=hv.r2
      show (plc x0 i).Cols≤r
      omega))
    rw [eL]
    exact ⟨this.1,Int.le_trans this.2 (jM gm _ _)⟩
  simp only [bne_self_eq_false,Bool.false_eq_true,if_false]
  have l2:∀ (m i:Nat),i≤C.length→C.length<m+i→fz (KN N) N x0 x1 (C.map fin) (C.map fin) m (i:Int)=some true:=by
    intro m
    induction m with
    | zero=>intro i h1 h2; omega
    | succ m ih =>
      intro i h1 h2
      simp only [fz,iE]
      rw [hlm]
      by_cases hi:i<C.length
      · have b1:=f1.l.at (k:=i) (by rw [bL]; exact hi)
        rw [cU hi] at b1
        rw [iteT (by omega),au (by omega),au (by omega),tnat,q_refl,Bool.not_true,if_neg (by decide),fin_at hi]
        have e1:(fin (C.getD i default)).Least=(C.getD i default).Least:=rfl
        have e2:(fin (C.getD i default)).Most=max (C.getD i default).Most (C.getD i default).Least:=rfl
        rw [iteF (by rw [e1]; omega),show decide ((fin (C.getD i default)).Most<(fin (C.getD i default)).Least)=false from decide_eq_false (by rw [e1,e2]; omega)]
        unfold fD
        rw [if_neg (by decide),wn (n:=(i:Int)+1) (k:=i+1) (by omega) (by omega)]
        exact ih (i+1) (by omega) (by omega)
      · rw [iteF (by omega)]
        exact l7 x0 x1 (C.map fin) r hr (by omega) hs hl30 oD hfin N 0 (by omega) (by omega)
  exact l2 N 0 (by omega) (by omega)
end Go.Proofs.Ytolhpahjgddjkaa.QTableDemands
