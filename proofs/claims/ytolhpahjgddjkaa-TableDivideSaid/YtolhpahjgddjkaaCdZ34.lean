/- Plain laws about the plain functions: words for all of them. No program in sight. -/
import Derived.Test.YtolhpahjgddjkaaCdGf
import Derived.Test.YtolhpahjgddjkaaCdGop
namespace Go.Proofs.Ytolhpahjgddjkaa
set_option linter.all false
open Go.RowKit
theorem aW {n:Int} (h1 : -9223372036854775808≤n) (h2:n≤9223372036854775807):w64 n=n:=by
  unfold w64; rw [IntKind.wrap_i64]; omega
theorem bw {α:Type} (x:Option α):chk true x=x:=rfl
theorem inb_of {i:Int} {n:Nat} (h0:0≤i) (h1:i<n):inb i n=true:=by simp [inb,h0,h1]
theorem aQ {α:Type} [Inhabited α] {L:List α} {k:Nat} (h:k<L.length):L.getD k default=L[k]:=by simp [List.getD_eq_getElem?_getD,List.getElem?_eq_getElem h]
theorem fits_of {n b:Nat} (h:n*b≤140737488355328) (hb:0<b):fits n b=true:=by
  have h1:n≤n*b:=Nat.le_mul_of_pos_right n hb
  have h2:n≤9223372036854775807:=by omega
  simp only [fits,Bool.and_eq_true,decide_eq_true_eq]
  exact ⟨h2,h⟩
end Go.Proofs.Ytolhpahjgddjkaa
namespace Go.Proofs.Ytolhpahjgddjkaa
set_option linter.all false
open Go.RowKit
def mix {α:Type} (i:Nat) (N O:List α):List α:=N.take i++O.drop i
variable {α:Type} [Inhabited α] {i:Nat} {N O:List α}
theorem cJ (h:N.length=O.length):(mix i N O).length=O.length:=by unfold mix; simp; omega
theorem gO:mix 0 N O=O:=by simp [mix]
theorem hI (h:N.length=O.length):mix O.length N O=N:=by unfold mix; rw [List.take_of_length_le (by omega),List.drop_eq_nil_of_le (Nat.le_refl _),List.append_nil]
theorem mix_at (h:N.length=O.length) (hi:i<O.length):(mix i N O).getD i default=O.getD i default:=by
  unfold mix
  rw [List.drop_eq_getElem_cons hi,List.getD_eq_getElem?_getD,List.getElem?_append_right (by simp; omega)]
  have:i - (N.take i).length=0:=by simp; omega
  rw [this,aQ hi]; rfl
theorem mix_lt (h:N.length=O.length) {k:Nat} (hk:k<i) (hi:i≤O.length):(mix i N O).getD k default=N.getD k default:=by
  unfold mix
  rw [List.getD_eq_getElem?_getD,List.getElem?_append_left (by simp; omega),List.getElem?_take_of_lt hk,List.getD_eq_getElem?_getD]
theorem mix_succ (h:N.length=O.length) (hi:i<O.length):mix (i+1) N O=N.take i++N.getD i default::O.drop (i+1):=by
  unfold mix
  rw [List.take_succ_eq_append_getElem (by omega:i<N.length),aQ (by omega:i<N.length),List.append_assoc]
  rfl
theorem eK (h:N.length=O.length) (hi:i<O.length):List.set (mix i N O) i (N.getD i default)=mix (i+1) N O:=by
  rw [mix_succ h hi]
  unfold mix
  rw [List.drop_eq_getElem_cons hi]
  have:i=(N.take i).length+0:=by simp; omega
  conv=>lhs; arg 2; rw [this]
  rw [List.set_append_right _ _ (by omega),Nat.add_sub_cancel_left,List.set_cons_zero]
theorem jg (h:N.length=O.length) (hi:i<O.length):(mix (i+1) N O).getD i default=N.getD i default:=mix_lt h (by omega) (by omega)
def tab (n:Nat) (f:Nat→α):List α:=(List.range n).map f
theorem tab_len (n:Nat) (f:Nat→α):(tab n f).length=n:=by simp [tab]
theorem tab_at {n:Nat} {f:Nat→α} {k:Nat} (h:k<n):(tab n f).getD k default=f k:=by
  rw [aQ (by rw [tab_len]; exact h)]; simp [tab]
theorem tab_succ {n:Nat} {f:Nat→α}:tab (n+1) f=tab n f++[f n]:=by simp [tab,List.range_succ]
end Go.Proofs.Ytolhpahjgddjkaa
namespace Go.Proofs.Ytolhpahjgddjkaa
set_option linter.all false
open Go.RowKit
set_option maxRecDepth 20000
theorem tnat (i:Nat):((i:Int)).toNat=i:=by omega
def sm:List Int→Int
  | []=>0
  | x::r=>x+sm r
theorem dC:∀ (a b:List Int),sm (a++b)=sm a+sm b
  | [],b=>by simp [sm]
  | x::r,b=>by simp only [List.cons_append,sm,dC r b]; omega
theorem sm_bd {B:Int} (hB:0≤B):∀ (a:List Int),(∀ x∈a,-B≤x∧x≤B) → -(a.length*B)≤sm a∧sm a≤a.length*B
  | [],_=>by simp [sm]
  | x::r,h=>by
    have h1:=h x (by simp)
    have h2:=sm_bd hB r (fun y hy=>h y (by simp [hy]))
    have e:((x::r).length:Int)*B=r.length*B+B:=by simp [Int.add_mul]
    simp only [sm]; rw [e]; omega
end Go.Proofs.Ytolhpahjgddjkaa
namespace Go.Proofs.Ytolhpahjgddjkaa.QSort
set_option linter.all false
open Go.RowKit
theorem aq {α:Type} {i:Int} {m:Nat} {x:Option α} (h:0≤i∧i<m):chk (inb i m) x=x:=by rw [inb_of h.1 h.2]; rfl
theorem gd {A B:List Int} {x:Int} {i:Nat} (h:i=A.length):(A++x::B).getD i default=x:=by subst h; simp [List.getD_eq_getElem?_getD]
theorem gd1 {A B:List Int} {x y:Int} {i:Nat} (h:i=A.length+1):(A++x::y::B).getD i default=y:=by subst h; simp [List.getD_eq_getElem?_getD]
theorem sw {A B:List Int} {x y:Int} {i j:Nat} (h:i=A.length) (hj:j=A.length+1):List.set (List.set (A++x::y::B) j x) i y=A++y::x::B:=by subst h; subst hj; simp [List.set_append]
theorem sw' {A B:List Int} {x y:Int} {i j:Nat} (h:i=A.length) (hj:j=A.length+1):List.set (List.set (A++x::y::B) i y) j x=A++y::x::B:=by subst h; subst hj; simp [List.set_append]
theorem wn {n:Int} {k:Nat} (h:n=k) (hk:k≤4000000000):w64 n=(k:Int):=by subst h; exact aW (by omega) (by omega)
theorem half {i j:Nat} (h:i+j≤4000000000):w64 ((IntKind.wrap .u64 (w64 ((i:Int)+(j:Int)))) / 2)=(((i+j) / 2:Nat):Int):=by
  rw [wn (n:=(i:Int)+(j:Int)) (k:=i+j) (by omega) (by omega),IntKind.wrap_u64]
  exact wn (by omega) (by omega)
theorem iteT {α:Type} {p:Prop} [Decidable p] {x y:α} (h:p):(if decide p=true then x else y)=x:=by simp [h]
theorem iteF {α:Type} {p:Prop} [Decidable p] {x y:α} (h:¬ p):(if decide p=true then x else y)=y:=by simp [h]
theorem iteB {α:Type} {p:Prop} [Decidable p] {x y:α} (h:¬ p):(if (!decide p)=true then x else y)=x:=by simp [h]
theorem iteC {α:Type} {p:Prop} [Decidable p] {x y:α} (h:p):(if (!decide p)=true then x else y)=y:=by simp [h]
theorem sb {α β:Type} (x:α) (k:α→Option β):(some x).bind k=k x:=rfl
structure Cmp (K:Kn) (f:Fv) (D:Int→Prop) (key:Int→Int):Prop where
  ok:∀ a b,D a→D b→∃ c,K.bM f a b=some c∧(c<0↔key a<key b)
def R (key:Int→Int) (a b:Int):Prop:=key a<key b∨key a=key b∧a<b
theorem R.trans {key:Int→Int} {a b c:Int} (h:R key a b) (h2:R key b c):R key a c:=by unfold R at *; omega
theorem R.irr {key:Int→Int} {a:Int} (h:R key a a):False:=by unfold R at *; omega
theorem R.asymm {key:Int→Int} {a b:Int} (h:R key a b) (h2:R key b a):False:=by unfold R at *; omega
theorem R.of_lt {key:Int→Int} {a b:Int} (h:b<a):key a<key b↔R key a b:=by unfold R; omega
theorem R.not {key:Int→Int} {a b:Int} (h:a≠b) (h2:¬ R key a b):R key b a:=by unfold R at *; omega
variable {K:Kn} {n:Nat} {f:Fv} {D:Int→Prop} {key:Int→Int}
theorem ins_l2 (hC:Cmp K f D key) (P T:List Int) (b i:Int) (L1:Int→List Int→Option (List Int)):∀ (m:Nat) (S1 S2:List Int) (x:Int),S1.length<m→(∀ y∈S1,y<x∧D y)→D x→(S1++S2).Pairwise (R key)→(∀ y∈S2,R key x y)→P.length+S1.length≤10000 →
    ∃ S',S'.Perm (x::(S1++S2))∧S'.Pairwise (R key)∧ef K n ((P.length:Nat):Int) b f i L1 m ((P.length+S1.length:Nat):Int) (P++S1++x::S2++T)=L1 (w64 (i+1)) (P++S'++T):=by
  intro m
  induction m with
  | zero=>intro S1 S2 x h; omega
  | succ m ih =>
    intro S1 S2 x hm hS hx hp h2 hl
    simp only [ef,fk]
    rcases List.eq_nil_or_concat S1 with rfl | ⟨S0,y,rfl⟩
    · refine ⟨x::S2,by simp,?_,?_⟩
      · rw [List.pairwise_cons]; exact ⟨h2,by simpa using hp⟩
      · rw [iteF (by simp)]
        simp [ff]
    · simp only [List.concat_eq_append] at *
      have hy:=hS y (by simp)
      simp only [List.length_append,List.length_cons,List.length_nil] at hm hl
      have e1:P++(S0++[y])++x::S2++T=(P++S0)++y::x::(S2++T):=by simp
      have k1:((P.length+(S0++[y]).length:Nat):Int)=((P.length+S0.length+1:Nat):Int):=by simp; omega
      have hlen:((P++S0)++y::x::(S2++T)).length≥P.length+S0.length+2:=by simp; omega
      rw [e1,k1,iteT (by omega)]
      rw [wn (n:=((P.length+S0.length+1:Nat):Int) - 1) (k:=P.length+S0.length) (by omega) (by omega)]
      rw [aq (by omega),aq (by omega)]
      simp only [Int.toNat_natCast]
      rw [gd1 (i:=P.length+S0.length+1) (by simp),gd (i:=P.length+S0.length) (by simp)]
      obtain ⟨c,hc,hlt⟩:=hC.ok x y hx hy.2
      rw [hc,sb]
      simp only [ff]
      by_cases hr:c<0
      · rw [iteT hr]
        rw [wn (n:=((P.length+S0.length+1:Nat):Int) - 1) (k:=P.length+S0.length) (by omega) (by omega)]
        simp only [List.length_set]
        rw [aq (by omega),aq (by omega),aq (by omega),aq (by omega)]
        simp only [Int.toNat_natCast]
        rw [gd1 (i:=P.length+S0.length+1) (by simp),gd (i:=P.length+S0.length) (by simp),sw (by simp) (by simp)]
        have hxy:R key x y:=(R.of_lt hy.1).1 (hlt.1 hr)
        obtain ⟨S',p1,p2,p3⟩:=ih S0 (y::S2) x (by omega) (fun z hz=>hS z (by simp [hz])) hx (by simpa using hp)
          (fun z hz=>by
            rcases List.mem_cons.1 hz with rfl | hz
            · exact hxy
            · exact h2 z hz) (by omega)
        refine ⟨S',by simpa using p1,p2,?_⟩
        have e3:P++S0++x::y::(S2++T)=P++S0++x::(y::S2)++T:=by simp
        rw [e3,p3]
      · rw [iteF hr]
        have hyx:R key y x:=R.not (by omega) (fun h=>hr (hlt.2 ((R.of_lt hy.1).2 h)))
        refine ⟨S0++y::x::S2,?_,?_,by simp⟩
        · exact (List.Perm.of_eq (by simp)).trans (List.perm_middle (l₁:=S0++[y]) (a:=x) (l₂:=S2))
        · simp only [List.append_assoc,List.cons_append,List.nil_append,List.pairwise_append,List.pairwise_cons,List.mem_cons] at hp ⊢
          obtain ⟨q1,⟨q2,q3⟩,q4⟩:=hp
          refine ⟨q1,⟨?_,h2,q3⟩,?_⟩
          · rintro z (rfl | hz)
            · exact hyx
            · exact q2 z hz
          · rintro u hu z (rfl | rfl | hz)
            · exact q4 u hu z (.inl rfl)
            · exact (q4 u hu y (.inl rfl)).trans hyx
            · exact q4 u hu z (.inr hz)
theorem ins_l3 (hC:Cmp K f D key) (P Q:List Int) (hn:10001<n):∀ (m:Nat) (S T:List Int),T.length<m→S≠[]→(∀ y∈S,∀ z∈T,y<z)→T.Pairwise (· < ·)→(∀ y∈S++T,D y)→S.Pairwise (R key)→P.length+S.length+T.length≤10000 →
    ∃ S',S'.Perm (S++T)∧S'.Pairwise (R key)∧cW K n ((P.length:Nat):Int) ((P.length+S.length+T.length:Nat):Int) f m ((P.length+S.length:Nat):Int) (P++S++T++Q)=some (P++S'++Q):=by
  intro m
  induction m with
  | zero=>intro S T h; omega
  | succ m ih =>
    intro S T hm hne hST hT hD hS hl
    simp only [cW,eJ]
    cases T with
    | nil=>exact ⟨S,by simp,hS,by rw [iteF (by simp)]; simp⟩
    | cons x T =>
      simp only [List.length_cons] at hm hl ⊢
      rw [iteT (by omega)]
      rw [List.pairwise_cons] at hT
      obtain ⟨S',p1,p2,p3⟩:=ins_l2 (n:=n) hC P (T++Q) ((P.length+S.length+(T.length+1):Nat):Int) ((P.length+S.length:Nat):Int)
        (cW K n ((P.length:Nat):Int) ((P.length+S.length+(T.length+1):Nat):Int) f m) n S [] x (by omega) (fun y hy=>⟨hST y hy x (by simp),hD y (by simp [hy])⟩) (hD x (by simp)) (by simpa using hS) (by simp) (by omega)
      have e:P++S++[x]++(T++Q)=P++S++x::T++Q:=by simp
      rw [e] at p3
      rw [p3,wn (k:=P.length+(S.length+1)) (by omega) (by omega)]
      simp only [List.append_nil] at p1
      have hlen:S'.length=S.length+1:=by rw [p1.length_eq]; simp
      have hmem:∀ y,y∈S'↔y=x∨y∈S:=fun y=>by rw [p1.mem_iff]; simp
      obtain ⟨S'',q1,q2,q3⟩:=ih S' T (by omega) (by intro h; subst h; simp at hlen) (fun y hy z hz=>by
          rcases (hmem y).1 hy with rfl | hy
          · exact hT.1 z hz
          · exact hST y hy z (by simp [hz])) hT.2 (fun y hy=>by
          rcases List.mem_append.1 hy with hy | hy
          · rcases (hmem y).1 hy with rfl | hy
            · exact hD y (by simp)
            · exact hD y (by simp [hy])
          · exact hD y (by simp [hy])) p2 (by omega)
      refine ⟨S'',?_,q2,?_⟩
      · refine q1.trans ((p1.append_right T).trans ?_)
        exact (List.perm_middle (l₁:=S) (a:=x) (l₂:=T)).symm
      · rw [hlen,show P.length+(S.length+1)+T.length=P.length+S.length+(T.length+1) by omega,show P++S'++T++Q=P++S'++(T++Q) by simp] at q3
        exact q3
theorem ins_ok (hC:Cmp K f D key) (P S Q:List Int) (hn:10001<n) (hS:S.Pairwise (· < ·)) (hD:∀ y∈S,D y) (hl:P.length+S.length≤10000) :
    ∃ S',S'.Perm S∧S'.Pairwise (R key)∧eE K n (P++S++Q) ((P.length:Nat):Int) ((P.length+S.length:Nat):Int) f=some (P++S'++Q):=by
  unfold eE
  rw [wn (k:=P.length+1) (by omega) (by omega)]
  cases S with
  | nil =>
    obtain ⟨m,rfl⟩:∃ m,n=m+1:=⟨n - 1,by omega⟩
    refine ⟨[],by simp,by simp,?_⟩
    simp only [cW,eJ]
    rw [iteF (by simp; omega)]
  | cons x T =>
    rw [List.pairwise_cons] at hS
    simp only [List.length_cons] at hl ⊢
    obtain ⟨S',p1,p2,p3⟩:=ins_l3 (n:=n) hC P Q hn n [x] T (by omega) (by simp) (by simpa using hS.1) hS.2 (by simpa using hD) (by simp) (by simp; omega)
    refine ⟨S',by simpa using p1,p2,?_⟩
    simp only [List.length_cons,List.length_nil,Nat.zero_add] at p3
    rw [show P.length+(T.length+1)=P.length+1+T.length by omega,show P++x::T++Q=P++[x]++T++Q by simp]
    exact p3
theorem swap_l1 (P M Q:List Int):∀ (m:Nat) (X1 Y1 X2 Y2:List Int),X2.length<m→X1.length=Y1.length→X2.length=Y2.length→(P++X1++X2++M++Y1++Y2).length≤10000 →
    eW K n ((P.length:Nat):Int) ((P.length+X1.length+X2.length+M.length:Nat):Int) ((X1.length+X2.length:Nat):Int) m ((X1.length:Nat):Int) (P++Y1++X2++M++X1++Y2++Q)=some (P++Y1++Y2++M++X1++X2++Q):=by
  intro m
  induction m with
  | zero=>intro X1 Y1 X2 Y2 h; omega
  | succ m ih =>
    intro X1 Y1 X2 Y2 hm h1 h2 hl
    simp only [eW,fL]
    cases X2 with
    | nil =>
      cases Y2 with
      | nil=>rw [iteF (by simp)]
      | cons=>simp at h2
    | cons x X2 =>
      cases Y2 with
      | nil=>simp at h2
      | cons y Y2 =>
        simp only [List.length_append,List.length_cons] at hm h1 h2 hl ⊢
        rw [iteT (by omega),wn (n:=((P.length+X1.length+(X2.length+1)+M.length:Nat):Int)+((X1.length:Nat):Int)) (k:=P.length+X1.length+(X2.length+1)+M.length+X1.length) (by omega) (by omega),
          wn (n:=((P.length:Nat):Int)+((X1.length:Nat):Int)) (k:=P.length+X1.length) (by omega) (by omega)]
        simp only [List.length_set,List.length_append,List.length_cons]
        rw [aq (by omega),aq (by omega),aq (by omega),aq (by omega)]
        simp only [Int.toNat_natCast]
        have e1:P++Y1++x::X2++M++X1++y::Y2++Q=(P++Y1)++x::(X2++M++X1++y::(Y2++Q)):=by simp
        have e2:P++Y1++x::X2++M++X1++y::Y2++Q=(P++Y1++x::X2++M++X1)++y::(Y2++Q):=by simp
        have g1:List.getD (P++Y1++x::X2++M++X1++y::Y2++Q) (P.length+X1.length) default=x:=by rw [e1]; exact gd (by simp; omega)
        have g2:List.getD (P++Y1++x::X2++M++X1++y::Y2++Q) (P.length+X1.length+(X2.length+1)+M.length+X1.length) default=y:=by rw [e2]; exact gd (by simp; omega)
        rw [g1,g2]
        have s1:List.set (P++Y1++x::X2++M++X1++y::Y2++Q) (P.length+X1.length) y=(P++Y1++y::X2++M++X1)++y::(Y2++Q):=by
          rw [e1,show P.length+X1.length=(P++Y1).length by simp; omega]; simp
        have s2:List.set ((P++Y1++y::X2++M++X1)++y::(Y2++Q)) (P.length+X1.length+(X2.length+1)+M.length+X1.length) x=P++(Y1++[y])++X2++M++(X1++[x])++Y2++Q:=by
          rw [show P.length+X1.length+(X2.length+1)+M.length+X1.length=(P++Y1++y::X2++M++X1).length by simp; omega]; simp
        rw [s1,s2,wn (n:=((X1.length:Nat):Int)+1) (k:=(X1++[x]).length) (by simp) (by simp; omega)]
        have:=ih (X1++[x]) (Y1++[y]) X2 Y2 (by omega) (by simp; omega) (by omega) (by simp; omega)
        simp only [List.length_append,List.length_cons,List.length_nil,Nat.zero_add] at this ⊢
        rw [show P.length+X1.length+(X2.length+1)+M.length=P.length+(X1.length+1)+X2.length+M.length by omega,show X1.length+(X2.length+1)=X1.length+1+X2.length by omega,this]
        simp
theorem swap_ok (P X M Y Q:List Int) (hXY:X.length=Y.length) (hl:(P++X++M++Y).length≤10000) (hn:10001<n) {b k:Int} (hb:b=((P.length+X.length+M.length:Nat):Int)) (hk:k=((X.length:Nat):Int)) :
    dP K n (P++X++M++Y++Q) ((P.length:Nat):Int) b k f=some (P++Y++M++X++Q):=by
  subst hb; subst hk
  unfold dP
  have:=swap_l1 (K:=K) (n:=n) P M Q n [] [] X Y (by simp at hl; omega) rfl hXY (by simpa using hl)
  simpa using this
theorem rot_l2 (hn:10001<n) (mid:Nat):∀ (m:Nat) (P U V Q:List Int),U.length+V.length<m→P.length+U.length=mid→0<U.length→0<V.length→(P++U++V).length≤10000 →
    ez K n (mid:Int) f m ((U.length:Nat):Int) ((V.length:Nat):Int) (P++U++V++Q)=some (P++V++U++Q):=by
  intro m
  induction m with
  | zero=>intro P U V Q h; omega
  | succ m ih =>
    intro P U V Q hm hmid hU hV hl
    simp only [List.length_append] at hl
    simp only [ez,fJ]
    rw [wn (n:=(mid:Int) - ((U.length:Nat):Int)) (k:=P.length) (by omega) (by omega)]
    by_cases he:U.length=V.length
    · rw [if_neg (by simp; omega)]
      have:=swap_ok (K:=K) (n:=n) (f:=f) P U [] V Q he (by simp; omega) hn (b:=(mid:Int)) (k:=((U.length:Nat):Int)) (by simp; omega) rfl
      simp only [List.append_nil] at this
      rw [this,sb]
    · rw [if_pos (by simp; omega)]
      by_cases hgt:U.length>V.length
      · rw [iteT (by omega),wn (n:=((U.length:Nat):Int) - ((V.length:Nat):Int)) (k:=U.length - V.length) (by omega) (by omega)]
        -- U=U1++U2 with |U1| = |V|
        obtain ⟨U1,U2,rfl,hu⟩:∃ U1 U2,U=U1++U2∧U1.length=V.length:=⟨U.take V.length,U.drop V.length,by simp,by simp; omega⟩
        simp only [List.length_append] at hmid hU hl hm hgt he ⊢
        have:=swap_ok (K:=K) (n:=n) (f:=f) P U1 U2 V Q hu (by simp; omega) hn (b:=(mid:Int)) (k:=((V.length:Nat):Int)) (by simp; omega) (by omega)
        rw [show P++(U1++U2)++V++Q=P++U1++U2++V++Q by simp,this,sb]
        simp only [eF]
        have h2:=ih (P++V) U2 U1 Q (by omega) (by simp; omega) (by omega) (by omega) (by simp; omega)
        rw [show U1.length+U2.length - V.length=U2.length by omega,← hu,h2]
        simp
      · rw [iteF (by omega),wn (n:=(mid:Int)+((V.length:Nat):Int)) (k:=mid+V.length) (by omega) (by omega),wn (n:=((mid+V.length:Nat):Int) - ((U.length:Nat):Int)) (k:=mid+V.length - U.length) (by omega) (by omega),
          wn (n:=((V.length:Nat):Int) - ((U.length:Nat):Int)) (k:=V.length - U.length) (by omega) (by omega)]
        obtain ⟨V1,V2,rfl,hv⟩:∃ V1 V2,V=V1++V2∧V2.length=U.length:=⟨V.take (V.length - U.length),V.drop (V.length - U.length),by simp,by simp; omega⟩
        simp only [List.length_append] at hl hm hgt he hV ⊢
        have:=swap_ok (K:=K) (n:=n) (f:=f) P U V1 V2 Q (by omega) (by simp; omega) hn (b:=((mid+(V1.length+V2.length) - U.length:Nat):Int)) (k:=((U.length:Nat):Int)) (by omega) rfl
        rw [show P++U++(V1++V2)++Q=P++U++V1++V2++Q by simp,this,sb]
        simp only [eF]
        have h2:=ih P V2 V1 (U++Q) (by omega) (by omega) (by omega) (by omega) (by simp; omega)
        rw [show V1.length+V2.length - U.length=V1.length by omega,← hv,show P++V2++V1++U++Q=P++V2++V1++(U++Q) by simp,h2]
        simp
theorem rot_ok (P U V Q:List Int) (hn:10001<n) (hU:0<U.length) (hV:0<V.length) (hl:(P++U++V).length≤10000) :
    gp K n (P++U++V++Q) ((P.length:Nat):Int) ((P.length+U.length:Nat):Int) ((P.length+U.length+V.length:Nat):Int) f=some (P++V++U++Q):=by
  unfold gp
  simp only [List.length_append] at hl
  rw [wn (k:=U.length) (by omega) (by omega),wn (k:=V.length) (by omega) (by omega)]
  exact rot_l2 hn _ n P U V Q (by omega) rfl hU hV (by simp; omega)
end Go.Proofs.Ytolhpahjgddjkaa.QSort
namespace Go.Proofs.Ytolhpahjgddjkaa.QSort
set_option linter.all false
open Go.RowKit
variable {K:Kn} {n:Nat} {f:Fv} {D:Int→Prop} {key:Int→Int}
def at_ (L:List Int) (k:Nat):Int:=L.getD k default
theorem at_app {P A Q:List Int} {k:Nat} (h:k<A.length) {i:Nat} (hi:i=P.length+k):(P++A++Q).getD i default=at_ A k:=by
  subst hi
  simp [at_,List.getD_eq_getElem?_getD,List.getElem?_append,h,show ¬ (P.length+k<P.length) by omega]
theorem gk {A:List Int} {k:Nat} (h:k<A.length):at_ A k∈A:=by unfold at_; rw [aQ h]; exact List.getElem_mem _
theorem mem_at {A:List Int} {x:Int} (h:x∈A):∃ k,k<A.length∧at_ A k=x:=by
  obtain ⟨k,hk,e⟩:=List.getElem_of_mem h
  exact ⟨k,hk,by unfold at_; rw [aQ hk,e]⟩
theorem br {r:Int→Int→Prop} {A:List Int} (h:A.Pairwise r) {i j:Nat} (hij:i<j) (hj:j<A.length):r (at_ A i) (at_ A j):=by
  unfold at_; rw [aQ (by omega:i<A.length),aQ hj]
  exact List.pairwise_iff_getElem.1 h i j (by omega) hj hij
theorem at_take {A:List Int} {t k:Nat} (h:k<t):at_ (A.take t) k=at_ A k:=by simp [at_,List.getD_eq_getElem?_getD,List.getElem?_take,h]
theorem at_drop {A:List Int} {t k:Nat}:at_ (A.drop t) k=at_ A (t+k):=by simp [at_,List.getD_eq_getElem?_getD]
theorem fr {A:List Int} {t:Nat} {x:Int} (h:x∈A.take t):∃ k,k<t∧k<A.length∧at_ A k=x:=by
  obtain ⟨k,hk,e⟩:=mem_at h
  simp at hk
  exact ⟨k,by omega,by omega,by rw [←e,at_take (by omega)]⟩
theorem fe {A:List Int} {t:Nat} {x:Int} (h:x∈A.drop t):∃ k,t≤k∧k<A.length∧at_ A k=x:=by
  obtain ⟨k,hk,e⟩:=mem_at h
  simp at hk
  exact ⟨t+k,by omega,by omega,by rw [←e,at_drop]⟩
theorem put_in {x:Int} {B:List Int} {t:Nat} (hB:B.Pairwise (R key)) (h1:∀ k,k<t→k<B.length→R key (at_ B k) x) (h2:∀ k,t≤k→k<B.length→R key x (at_ B k)):(B.take t++x::B.drop t).Pairwise (R key):=by
  rw [List.pairwise_append,List.pairwise_cons]
  refine ⟨hB.take,⟨fun y hy=>?_,hB.drop⟩,fun u hu v hv=>?_⟩
  · obtain ⟨k,k1,k2,rfl⟩:=fe hy; exact h2 k k1 k2
  · obtain ⟨i,i1,i2,rfl⟩:=fr hu
    rcases List.mem_cons.1 hv with rfl | hv
    · exact h1 i i1 i2
    · obtain ⟨k,k1,k2,rfl⟩:=fe hv; exact br hB (by omega) k2
theorem go_right (v:Int):∀ (m:Nat) (P X Q:List Int) (x:Int),X.length<m→(P++X).length≤10000→v=((P.length+X.length+1:Nat):Int) →
    dt K n v m ((P.length:Nat):Int) (P++x::X++Q)=some (P++X++x::Q):=by
  intro m
  induction m with
  | zero=>intro P X Q x h; omega
  | succ m ih =>
    intro P X Q x hm hl hv
    subst hv
    simp only [List.length_append] at hl
    simp only [dt,gv]
    rw [wn (n:=((P.length+X.length+1:Nat):Int) - 1) (k:=P.length+X.length) (by omega) (by omega)]
    cases X with
    | nil=>rw [iteF (by simp)]; simp
    | cons y X =>
      simp only [List.length_cons] at *
      rw [iteT (by omega),wn (n:=((P.length:Nat):Int)+1) (k:=P.length+1) (by omega) (by omega)]
      simp only [List.length_set,List.length_append,List.length_cons]
      rw [aq (by omega),aq (by omega),aq (by omega),aq (by omega)]
      simp only [Int.toNat_natCast]
      rw [show P++x::y::X++Q=P++x::y::(X++Q) by simp,gd1 rfl,gd rfl,sw' rfl rfl]
      have:=ih (P++[y]) X Q x (by omega) (by simp; omega) (by simp; omega)
      simp only [List.length_append,List.length_cons,List.length_nil,Nat.zero_add] at this
      rw [show P++y::x::(X++Q)=P++[y]++x::X++Q by simp,this]
      simp
theorem go_left (v:Int):∀ (m:Nat) (P X Q:List Int) (x:Int),X.length<m→(P++X).length≤10000→v=((P.length:Nat):Int) →
    dM K n v m ((P.length+X.length:Nat):Int) (P++X++x::Q)=some (P++x::X++Q):=by
  intro m
  induction m with
  | zero=>intro P X Q x h; omega
  | succ m ih =>
    intro P X Q x hm hl hv
    subst hv
    simp only [List.length_append] at hl
    simp only [dM,fy]
    rcases List.eq_nil_or_concat X with rfl | ⟨X,y,rfl⟩
    · rw [iteF (by simp)]; simp
    · simp only [List.concat_eq_append] at *
      simp only [List.length_append,List.length_cons,List.length_nil] at *
      rw [iteT (by omega),wn (n:=((P.length+(X.length+(0+1)):Nat):Int) - 1) (k:=P.length+X.length) (by omega) (by omega)]
      simp only [List.length_set,List.length_append,List.length_cons,List.length_nil]
      rw [aq (by omega),aq (by omega),aq (by omega),aq (by omega)]
      simp only [Int.toNat_natCast]
      rw [show P++(X++[y])++x::Q=(P++X)++y::x::Q by simp,gd1 (i:=P.length+(X.length+(0+1))) (by simp; omega),gd (i:=P.length+X.length) (by simp),sw (by simp) (by simp; omega)]
      have:=ih P X (y::Q) x (by omega) (by omega) rfl
      rw [this]
      simp
theorem one_left (hC:Cmp K f D key) (P B Q:List Int) (x:Int) (hB:B.Pairwise (R key)) (hx:D x) (hD:∀ y∈B,D y∧x<y) (hl:P.length+1+B.length≤10000):∀ (m i j:Nat),j - i<m→i≤j→j≤B.length→(∀ k,k<i→R key (at_ B k) x)→(∀ k,j≤k→k<B.length→R key x (at_ B k)) →
    ∃ t,t≤B.length∧(∀ k,k<t→R key (at_ B k) x)∧(∀ k,t≤k→k<B.length→R key x (at_ B k))∧eg K n (P++[x]++B++Q) ((P.length:Nat):Int) f m ((P.length+1+i:Nat):Int) ((P.length+1+j:Nat):Int)=dt K n ((P.length+1+t:Nat):Int) n ((P.length:Nat):Int) (P++[x]++B++Q):=by
  intro m
  induction m with
  | zero=>intro i j h; omega
  | succ m ih =>
    intro i j hm hij hj h1 h2
    simp only [eg,gb]
    by_cases he:i<j
    · rw [iteT (by omega),half (by omega),sb]
      obtain ⟨h,hh,e⟩:∃ h,(i≤h∧h<j)∧(P.length+1+i+(P.length+1+j)) / 2=P.length+1+h:=⟨(P.length+1+i+(P.length+1+j)) / 2 - (P.length+1),by omega,by omega⟩
      rw [e]
      have hlen:(P++[x]++B++Q).length=P.length+1+B.length+Q.length:=by simp; omega
      rw [aq (by omega),aq (by omega)]
      simp only [Int.toNat_natCast]
      rw [at_app (P:=P++[x]) (k:=h) (by omega) (by simp),show (P++[x]++B++Q).getD P.length default=x by rw [show P++[x]++B++Q=P++x::(B++Q) by simp]; exact gd rfl]
      have hb:=hD _ (gk (A:=B) (k:=h) (by omega))
      obtain ⟨c,hc,hlt⟩:=hC.ok (at_ B h) x hb.1 hx
      rw [hc,sb]
      simp only [gl]
      have hR:c<0↔R key (at_ B h) x:=hlt.trans (R.of_lt hb.2)
      by_cases hr:c<0
      · rw [iteT hr,wn (n:=((P.length+1+h:Nat):Int)+1) (k:=P.length+1+(h+1)) (by omega) (by omega)]
        refine ih (h+1) j (by omega) (by omega) hj (fun k hk=>?_) h2
        rcases Nat.lt_or_ge k h with hk2 | hk2
        · exact (br hB hk2 (by omega)).trans (hR.1 hr)
        · obtain rfl:k=h:=by omega
          exact hR.1 hr
      · rw [iteF hr]
        refine ih i h (by omega) (by omega) (by omega) h1 (fun k hk hk2=>?_)
        have hxh:R key x (at_ B h):=R.not (by omega) (fun hh=>hr (hR.2 hh))
        rcases Nat.lt_or_ge h k with hk3 | hk3
        · exact hxh.trans (br hB hk3 hk2)
        · obtain rfl:k=h:=by omega
          exact hxh
    · obtain rfl:i=j:=by omega
      exact ⟨i,hj,h1,h2,by rw [iteF (by omega)]⟩
theorem one_right (hC:Cmp K f D key) (P A Q:List Int) (x:Int) (hA:A.Pairwise (R key)) (hx:D x) (hD:∀ y∈A,D y∧y<x) (hl:P.length+1+A.length≤10000):∀ (m i j:Nat),j - i<m→i≤j→j≤A.length→(∀ k,k<i→R key (at_ A k) x)→(∀ k,j≤k→k<A.length→R key x (at_ A k)) →
    ∃ t,t≤A.length∧(∀ k,k<t→R key (at_ A k) x)∧(∀ k,t≤k→k<A.length→R key x (at_ A k))∧en K n (P++A++x::Q) ((P.length+A.length:Nat):Int) f m ((P.length+i:Nat):Int) ((P.length+j:Nat):Int)=dM K n ((P.length+t:Nat):Int) n ((P.length+A.length:Nat):Int) (P++A++x::Q):=by
  intro m
  induction m with
  | zero=>intro i j h; omega
  | succ m ih =>
    intro i j hm hij hj h1 h2
    simp only [en,fp]
    by_cases he:i<j
    · rw [iteT (by omega),half (by omega),sb]
      obtain ⟨h,hh,e⟩:∃ h,(i≤h∧h<j)∧(P.length+i+(P.length+j)) / 2=P.length+h:=⟨(P.length+i+(P.length+j)) / 2 - P.length,by omega,by omega⟩
      rw [e]
      have hlen:(P++A++x::Q).length=P.length+A.length+Q.length+1:=by simp; omega
      rw [aq (by omega),aq (by omega)]
      simp only [Int.toNat_natCast]
      rw [at_app (P:=P) (A:=A) (k:=h) (by omega) rfl,gd (A:=P++A) (by simp)]
      have hb:=hD _ (gk (A:=A) (k:=h) (by omega))
      obtain ⟨c,hc,hlt⟩:=hC.ok x (at_ A h) hx hb.1
      rw [hc,sb]
      simp only [fD]
      have hR:c<0↔R key x (at_ A h):=hlt.trans (R.of_lt hb.2)
      by_cases hr:c<0
      · rw [iteC hr]
        refine ih i h (by omega) (by omega) (by omega) h1 (fun k hk hk2=>?_)
        rcases Nat.lt_or_ge h k with hk3 | hk3
        · exact (hR.1 hr).trans (br hA hk3 hk2)
        · obtain rfl:k=h:=by omega
          exact hR.1 hr
      · rw [iteB hr,wn (n:=((P.length+h:Nat):Int)+1) (k:=P.length+(h+1)) (by omega) (by omega)]
        refine ih (h+1) j (by omega) (by omega) hj (fun k hk=>?_) h2
        have hxh:R key (at_ A h) x:=R.not (by omega) (fun hh=>hr (hR.2 hh))
        rcases Nat.lt_or_ge k h with hk2 | hk2
        · exact (br hA hk2 (by omega)).trans hxh
        · obtain rfl:k=h:=by omega
          exact hxh
    · obtain rfl:i=j:=by omega
      exact ⟨i,hj,h1,h2,by rw [iteF (by omega)]⟩
end Go.Proofs.Ytolhpahjgddjkaa.QSort
namespace Go.Proofs.Ytolhpahjgddjkaa.QSort
set_option linter.all false
open Go.RowKit
variable {K:Kn} {n:Nat} {f:Fv} {D:Int→Prop} {key:Int→Int}
structure Mg (key:Int→Int) (D:Int→Prop) (A B:List Int):Prop where
  l:A.Pairwise (R key)
  r:B.Pairwise (R key)
  lt:∀ x∈A,∀ y∈B,x<y
  d:∀ x∈A++B,D x
def Merges (key:Int→Int) (D:Int→Prop) (N:Nat) (g:List Int→Int→Int→Int→Option (List Int)):Prop :=
  ∀ P A B Q:List Int,0<A.length→0<B.length→A.length+B.length<N→(P++A++B).length≤10000→Mg key D A B →
    ∃ C,C.Perm (A++B)∧C.Pairwise (R key)∧g (P++A++B++Q) ((P.length:Nat):Int) ((P.length+A.length:Nat):Int) ((P.length+A.length+B.length:Nat):Int)=some (P++C++Q)
theorem part (g:List Int→Int→Int→Int→Option (List Int)) {N:Nat} (hg:Merges key D N g) (P A B Q:List Int) (hN:A.length+B.length<N) (hl:(P++A++B).length≤10000) (h:Mg key D A B) :
    ∃ C,C.Perm (A++B)∧C.Pairwise (R key)∧∀ (k:List Int→Option (List Int)),(if 0<A.length∧0<B.length then (g (P++A++B++Q) ((P.length:Nat):Int) ((P.length+A.length:Nat):Int) ((P.length+A.length+B.length:Nat):Int)).bind k else k (P++A++B++Q))=k (P++C++Q):=by
  by_cases hc:0<A.length∧0<B.length
  · obtain ⟨C,h1,h2,h3⟩:=hg P A B Q hc.1 hc.2 hN hl h
    exact ⟨C,h1,h2,fun k=>by rw [if_pos hc,h3]; rfl⟩
  · refine ⟨A++B,.refl _,?_,fun k=>by rw [if_neg hc]; simp⟩
    rcases A with _ | ⟨x,A⟩
    · simpa using h.r
    · rcases B with _ | ⟨y,B⟩
      · simpa using h.l
      · simp at hc
theorem tail_ok {N:Nat} (hn:10001<n) (P A1 A2 B1 B2 Q:List Int) (hg:Merges key D N (fun L a m b=>K.co L a m b f)) (h:Mg key D (A1++A2) (B1++B2)) (hl:(P++A1++A2++B1++B2).length≤10000)
    (hN1:A1.length+B1.length<N) (hN2:A2.length+B2.length<N) (c1:∀ x∈A1,∀ y∈B2,R key x y) (c2:∀ x∈B1,∀ y∈A2,R key x y) {v2 v3 v4 v30 v31 v39:Int} (e2:v2=((P.length:Nat):Int)) (e3:v3=((P.length+A1.length+A2.length:Nat):Int)) (e4:v4=((P.length+A1.length+A2.length+B1.length+B2.length:Nat):Int))
    (e30:v30=((P.length+A1.length+B1.length:Nat):Int)) (e31:v31=((P.length+A1.length+B1.length+(P.length+A1.length+A2.length):Nat):Int)) (e39:v39=((P.length+A1.length:Nat):Int)) :
    ∃ C,C.Perm (A1++A2++(B1++B2))∧C.Pairwise (R key)∧(if (decide (v39<v3))=true then
      bW K n (P++A1++A2++B1++B2++Q) v2 v3 v4 f v30 v31 v39 (decide (v3<(w64 (v31 - v39))))
    else
      bW K n (P++A1++A2++B1++B2++Q) v2 v3 v4 f v30 v31 v39 false)=some (P++C++Q):=by
  simp only [List.length_append] at hl
  have e5:w64 (v31 - v39)=((P.length+A1.length+A2.length+B1.length:Nat):Int):=by rw [e31,e39]; exact wn (by omega) (by omega)
  have hpl:=List.pairwise_append.1 h.l
  have hpr:=List.pairwise_append.1 h.r
  -- the parts change places
  have rot:(if (decide (v39<v3))=true then
      bW K n (P++A1++A2++B1++B2++Q) v2 v3 v4 f v30 v31 v39 (decide (v3<(w64 (v31 - v39))))
    else
      bW K n (P++A1++A2++B1++B2++Q) v2 v3 v4 f v30 v31 v39 false)=dn K n v2 v4 f v30 v31 v39 (P++A1++B1++A2++B2++Q):=by
    rw [e5]
    have both:∀ b:Bool,(b=true↔0<A2.length∧0<B1.length)→bW K n (P++A1++A2++B1++B2++Q) v2 v3 v4 f v30 v31 v39 b=dn K n v2 v4 f v30 v31 v39 (P++A1++B1++A2++B2++Q):=by
      intro b hb
      unfold bW
      by_cases hc:b=true
      · rw [if_pos hc,e5]
        have hc2:=hb.1 hc
        have:=rot_ok (K:=K) (n:=n) (f:=f) (P++A1) A2 B1 (B2++Q) hn hc2.1 hc2.2 (by simp; omega)
        rw [show P++A1++A2++B1++B2++Q=P++A1++A2++B1++(B2++Q) by simp,e39,e3]
        rw [show ((P++A1).length:Nat)=P.length+A1.length by simp] at this
        rw [this,sb]
        congr 1; simp
      · rw [if_neg hc]
        have hc2:¬ (0<A2.length∧0<B1.length):=fun hh=>hc (hb.2 hh)
        congr 1
        rcases A2 with _ | ⟨x,A2⟩
        · simp
        · rcases B1 with _ | ⟨y,B1⟩
          · simp
          · simp at hc2
    by_cases hc:v39<v3
    · rw [iteT hc]
      exact both _ (by rw [decide_eq_true_eq]; omega)
    · rw [iteF hc]
      exact both _ (by simp; omega)
  rw [rot]
  -- the first half
  have m1:Mg key D A1 B1:=⟨hpl.1,hpr.1,fun x hx y hy=>h.lt x (by simp [hx]) y (by simp [hy]),fun x hx=>h.d x (by rcases List.mem_append.1 hx with q | q<;>simp [q])⟩
  have m2:Mg key D A2 B2:=⟨hpl.2.1,hpr.2.1,fun x hx y hy=>h.lt x (by simp [hx]) y (by simp [hy]),fun x hx=>h.d x (by rcases List.mem_append.1 hx with q | q<;>simp [q])⟩
  obtain ⟨C1,p1,s1,r1⟩:=part _ hg P A1 B1 (A2++B2++Q) hN1 (by simp; omega) m1
  have l1:C1.length=A1.length+B1.length:=by rw [p1.length_eq]; simp
  obtain ⟨C2,p2,s2,r2⟩:=part _ hg (P++C1) A2 B2 Q hN2 (by simp; omega) m2
  refine ⟨C1++C2,?_,?_,?_⟩
  · refine (p1.append p2).trans ?_
    simp only [List.append_assoc]
    refine List.Perm.append_left A1 ?_
    rw [←List.append_assoc,← List.append_assoc]
    exact List.perm_append_comm.append_right B2
  · rw [List.pairwise_append]
    refine ⟨s1,s2,fun x hx y hy=>?_⟩
    have hx:=(p1.mem_iff).1 hx
    have hy:=(p2.mem_iff).1 hy
    rcases List.mem_append.1 hx with hx | hx
    · rcases List.mem_append.1 hy with hy | hy
      · exact hpl.2.2 x hx y hy
      · exact c1 x hx y hy
    · rcases List.mem_append.1 hy with hy | hy
      · exact c2 x hx y hy
      · exact hpr.2.2 x hx y hy
  · -- the calls
    have j13:cH K n v4 f v30 v31 v39 (P++C1++A2++B2++Q)=some (P++C1++C2++Q):=by
      have:=r2 (fun L=>some L)
      rw [←this]
      unfold cH
      rw [e5,e30,e4]
      have k1:(P++C1).length=P.length+A1.length+B1.length:=by simp [l1]; omega
      rw [k1]
      have both:∀ b:Bool,(b=true↔0<A2.length∧0<B2.length)→dU K n ((P.length+A1.length+A2.length+B1.length+B2.length:Nat):Int) f ((P.length+A1.length+B1.length:Nat):Int) v31 v39 (P++C1++A2++B2++Q) b=if 0<A2.length∧0<B2.length then
          (K.co (P++C1++A2++B2++Q) ((P.length+A1.length+B1.length:Nat):Int) ((P.length+A1.length+B1.length+A2.length:Nat):Int) ((P.length+A1.length+B1.length+A2.length+B2.length:Nat):Int) f).bind (fun L=>some L) else some (P++C1++A2++B2++Q):=by
        intro b hb
        unfold dU
        by_cases hc:b=true
        · rw [if_pos hc,if_pos (hb.1 hc),e5]
          simp only [gw]
          rw [show P.length+A1.length+B1.length+A2.length=P.length+A1.length+A2.length+B1.length by omega]
        · rw [if_neg hc,if_neg (fun hh=>hc (hb.2 hh))]; rfl
      by_cases hc:((P.length+A1.length+B1.length:Nat):Int)<((P.length+A1.length+A2.length+B1.length:Nat):Int)
      · rw [iteT hc]; exact both _ (by rw [decide_eq_true_eq]; omega)
      · rw [iteF hc]; exact both _ (by simp; omega)
    have:=r1 (fun L=>cH K n v4 f v30 v31 v39 L)
    rw [show P++C1++(A2++B2++Q)=P++C1++A2++B2++Q by simp,j13] at this
    rw [show P++(C1++C2)++Q=P++C1++C2++Q by simp,← this]
    unfold dn
    rw [e2,e39,e30]
    rw [show P++A1++B1++(A2++B2++Q)=P++A1++B1++A2++B2++Q by simp]
    have both : ∀ b : Bool, (b = true ↔ 0 < A1.length ∧ 0 < B1.length) → dW K n ((P.length : Nat) : Int) v4 f ((P.length + A1.length + B1.length : Nat) : Int) v31 ((P.length + A1.length : Nat) : Int) (P ++ A1 ++ B1 ++ A2 ++ B2 ++ Q) b = if 0 < A1.length ∧ 0 < B1.length then
          (K.co (P++A1++B1++A2++B2++Q) ((P.length:Nat):Int) ((P.length+A1.length:Nat):Int) ((P.length+A1.length+B1.length:Nat):Int) f).bind (fun L=>cH K n v4 f ((P.length+A1.length+B1.length:Nat):Int) v31 ((P.length+A1.length:Nat):Int) L) else cH K n v4 f ((P.length+A1.length+B1.length:Nat):Int) v31 ((P.length+A1.length:Nat):Int) (P++A1++B1++A2++B2++Q):=by
      intro b hb
      unfold dW
      by_cases hc:b=true
      · rw [if_pos hc,if_pos (hb.1 hc)]
      · rw [if_neg hc,if_neg (fun hh=>hc (hb.2 hh))]
    by_cases hc:((P.length:Nat):Int)<((P.length+A1.length:Nat):Int)
    · rw [iteT hc]; exact both _ (by rw [decide_eq_true_eq]; omega)
    · rw [iteF hc]; exact both _ (by simp; omega)
theorem seek (hC:Cmp K f D key) (P A B Q:List Int) (h:Nat) (hM:Mg key D A B) (hl:(P++A++B).length≤10000) {v2 v4 v30:Int} (hh:h<A.length+B.length) (lo hi:Nat) (hlo:h≤B.length+lo) (hhi:hi≤A.length) (hhi2:hi≤h):∀ (m i j:Nat),j - i<m→lo≤i→i≤j→j≤hi →
    (∀ k,lo≤k→k<i→R key (at_ A k) (at_ B (h - 1 - k)))→(∀ k,j≤k→k<hi→R key (at_ B (h - 1 - k)) (at_ A k)) →
    ∃ s,lo≤s∧s≤hi∧(∀ k,lo≤k→k<s→R key (at_ A k) (at_ B (h - 1 - k)))∧(∀ k,s≤k→k<hi→R key (at_ B (h - 1 - k)) (at_ A k)) ∧
      dk K n (P++A++B++Q) v2 ((P.length+A.length:Nat):Int) v4 f v30 ((P.length+h+(P.length+A.length):Nat):Int) m ((P.length+i:Nat):Int) ((P.length+j:Nat):Int) =
      (if (decide (((P.length+s:Nat):Int)<((P.length+A.length:Nat):Int)))=true then
        bW K n (P++A++B++Q) v2 ((P.length+A.length:Nat):Int) v4 f v30 ((P.length+h+(P.length+A.length):Nat):Int) ((P.length+s:Nat):Int) (decide (((P.length+A.length:Nat):Int)<(w64 (((P.length+h+(P.length+A.length):Nat):Int) - ((P.length+s:Nat):Int)))))
      else
        bW K n (P++A++B++Q) v2 ((P.length+A.length:Nat):Int) v4 f v30 ((P.length+h+(P.length+A.length):Nat):Int) ((P.length+s:Nat):Int) false):=by
  simp only [List.length_append] at hl
  intro m
  induction m with
  | zero=>intro i j h; omega
  | succ m ih =>
    intro i j hm hli hij hj h1 h2
    simp only [dk,gE]
    by_cases he:i<j
    · rw [iteT (by omega),half (by omega),sb]
      obtain ⟨c,hc,e⟩:∃ c,(i≤c∧c<j)∧(P.length+i+(P.length+j)) / 2=P.length+c:=⟨(P.length+i+(P.length+j)) / 2 - P.length,by omega,by omega⟩
      rw [e,wn (n:=((P.length+h+(P.length+A.length):Nat):Int) - 1) (k:=P.length+h+(P.length+A.length) - 1) (by omega) (by omega),
        wn (n:=((P.length+h+(P.length+A.length) - 1:Nat):Int) - ((P.length+c:Nat):Int)) (k:=P.length+A.length+(h - 1 - c)) (by omega) (by omega)]
      have hlen:(P++A++B++Q).length=P.length+A.length+B.length+Q.length:=by simp; omega
      rw [aq (by omega),aq (by omega)]
      simp only [Int.toNat_natCast]
      rw [at_app (P:=P++A) (A:=B) (k:=h - 1 - c) (by omega) (by simp),show P++A++B++Q=P++A++(B++Q) by simp,at_app (P:=P) (A:=A) (k:=c) (by omega) rfl,show P++A++(B++Q)=P++A++B++Q by simp]
      have ma:=gk (A:=A) (k:=c) (by omega)
      have mb:=gk (A:=B) (k:=h - 1 - c) (by omega)
      have hlt2:=hM.lt _ ma _ mb
      obtain ⟨r,hr,hlt⟩:=hC.ok (at_ B (h - 1 - c)) (at_ A c) (hM.d _ (by simp [mb])) (hM.d _ (by simp [ma]))
      rw [hr,sb]
      simp only [gr]
      have hR:r<0↔R key (at_ B (h - 1 - c)) (at_ A c):=hlt.trans (R.of_lt hlt2)
      by_cases hr0:r<0
      · rw [iteC hr0]
        refine ih i c (by omega) hli (by omega) (by omega) h1 (fun k hk hk2=>?_)
        rcases Nat.lt_or_ge c k with hk3 | hk3
        · exact ((br hM.r (i:=h - 1 - k) (j:=h - 1 - c) (by omega) (by omega)).trans (hR.1 hr0)).trans (br hM.l hk3 (by omega))
        · obtain rfl:k=c:=by omega
          exact hR.1 hr0
      · rw [iteB hr0,wn (n:=((P.length+c:Nat):Int)+1) (k:=P.length+(c+1)) (by omega) (by omega)]
        refine ih (c+1) j (by omega) (by omega) (by omega) hj (fun k hk0 hk=>?_) h2
        have hxh:R key (at_ A c) (at_ B (h - 1 - c)):=R.not (by omega) (fun hh=>hr0 (hR.2 hh))
        rcases Nat.lt_or_ge k c with hk2 | hk2
        · exact ((br hM.l hk2 (by omega)).trans hxh).trans (br hM.r (i:=h - 1 - c) (j:=h - 1 - k) (by omega) (by omega))
        · obtain rfl:k=c:=by omega
          exact hxh
    · obtain rfl:i=j:=by omega
      exact ⟨i,hli,hj,h1,h2,by rw [iteF (by omega)]⟩
theorem merge_one (hC:Cmp K f D key) {N:Nat} (hn:10001<n) (hg:Merges key D N (fun L a m b=>K.co L a m b f)):Merges key D (N+1) (fun L a m b=>b9 K n L a m b f):=by
  intro P A B Q hA hB hN hl hM
  have hl2:=hl
  simp only [List.length_append] at hl2
  simp only [b9]
  rw [wn (n:=((P.length+A.length:Nat):Int) - ((P.length:Nat):Int)) (k:=A.length) (by omega) (by omega)]
  by_cases h1:A.length=1
  · rw [if_pos (by simp; omega)]
    obtain ⟨x,rfl⟩:∃ x,A=[x]:=by
      rcases A with _ | ⟨x,_ | ⟨y,A⟩⟩
      · simp at h1
      · exact ⟨x,rfl⟩
      · simp at h1
    simp only [List.length_cons,List.length_nil,Nat.zero_add] at *
    obtain ⟨t,t1,t2,t3,t4⟩:=one_left (n:=n) hC P B Q x hM.r (hM.d x (by simp)) (fun y hy=>⟨hM.d y (by simp [hy]),hM.lt x (by simp) y hy⟩) (by omega) n 0 B.length (by omega) (by omega) (Nat.le_refl _) (fun k hk=>by omega) (fun k hk hk2=>by omega)
    rw [show P.length+1+0=P.length+1 from rfl] at t4
    rw [t4]
    have:=go_right (K:=K) (n:=n) ((P.length+1+t:Nat):Int) n P (B.take t) (B.drop t++Q) x (by simp; omega) (by simp; omega) (by simp; omega)
    rw [show P++x::B.take t++(B.drop t++Q)=P++[x]++(B.take t++B.drop t)++Q by simp only [List.append_assoc,List.cons_append,List.nil_append],List.take_append_drop] at this
    refine ⟨B.take t++x::B.drop t,?_,put_in hM.r (fun k hk _=>t2 k hk) t3,by rw [this]; simp⟩
    refine List.perm_middle.trans (by simp)
  · rw [if_neg (by simp; omega)]
    rw [wn (n:=((P.length+A.length+B.length:Nat):Int) - ((P.length+A.length:Nat):Int)) (k:=B.length) (by omega) (by omega)]
    by_cases h2:B.length=1
    · rw [if_pos (by simp; omega)]
      obtain ⟨x,rfl⟩:∃ x,B=[x]:=by
        rcases B with _ | ⟨x,_ | ⟨y,B⟩⟩
        · simp at h2
        · exact ⟨x,rfl⟩
        · simp at h2
      obtain ⟨t,t1,t2,t3,t4⟩:=one_right (n:=n) hC P A Q x hM.l (hM.d x (by simp)) (fun y hy=>⟨hM.d y (by simp [hy]),hM.lt y hy x (by simp)⟩) (by simp at hl2; omega) n 0 A.length (by simp at hl2; omega) (by omega) (Nat.le_refl _) (fun k hk=>by omega) (fun k hk hk2=>by omega)
      rw [Nat.add_zero] at t4
      rw [show P++A++[x]++Q=P++A++x::Q by simp,t4]
      have:=go_left (K:=K) (n:=n) ((P.length+t:Nat):Int) n (P++A.take t) (A.drop t) Q x (by simp at hl2 ⊢; omega) (by simp at hl2 ⊢; omega) (by simp; omega)
      rw [show P++A.take t++A.drop t++x::Q=P++(A.take t++A.drop t)++x::Q by simp only [List.append_assoc],List.take_append_drop,show (P++A.take t).length+(A.drop t).length=P.length+A.length by simp; omega] at this
      refine ⟨A.take t++x::A.drop t,?_,put_in hM.l (fun k hk _=>t2 k hk) t3,by rw [this]; simp⟩
      refine List.perm_middle.trans ?_
      rw [List.take_append_drop]; exact (List.perm_append_singleton x A).symm
    · rw [if_neg (by simp; omega),half (by omega),sb]
      obtain ⟨h,hh,e⟩:∃ h,(2*h≤A.length+B.length∧A.length+B.length≤2*h+1)∧(P.length+(P.length+A.length+B.length)) / 2=P.length+h:=⟨(P.length+(P.length+A.length+B.length)) / 2 - P.length,by omega,by omega⟩
      rw [e,wn (n:=((P.length+h:Nat):Int)+((P.length+A.length:Nat):Int)) (k:=P.length+h+(P.length+A.length)) (by omega) (by omega),sb,sb]
      have key_:∀ lo hi:Nat,h≤B.length+lo→hi≤A.length→hi≤h→lo≤hi→(lo=0∨h=B.length+lo)→(hi=A.length∨hi=h) →
          ∃ C,C.Perm (A++B)∧C.Pairwise (R key)∧dk K n (P++A++B++Q) ((P.length:Nat):Int) ((P.length+A.length:Nat):Int) ((P.length+A.length+B.length:Nat):Int) f ((P.length+h:Nat):Int) ((P.length+h+(P.length+A.length):Nat):Int) n ((P.length+lo:Nat):Int) ((P.length+hi:Nat):Int)=some (P++C++Q):=by
        intro lo hi k1 k2 k3 k4 k5 k6
        obtain ⟨s,s1,s2,s3,s4,s5⟩:=seek (n:=n) hC P A B Q h hM hl (v2:=((P.length:Nat):Int)) (v4:=((P.length+A.length+B.length:Nat):Int)) (v30:=((P.length+h:Nat):Int)) (by omega) lo hi k1 k2 k3 n lo hi (by omega) (Nat.le_refl _) k4 (Nat.le_refl _) (fun k _ _=>by omega) (fun k _ _=>by omega)
        rw [s5]
        have eA:A.take s++A.drop s=A:=List.take_append_drop s A
        have eB:B.take (h - s)++B.drop (h - s)=B:=List.take_append_drop (h - s) B
        have la:(A.take s).length=s:=by simp; omega
        have lb:(B.take (h - s)).length=h - s:=by simp; omega
        have la2:(A.drop s).length=A.length - s:=by simp
        have lb2:(B.drop (h - s)).length=B.length - (h - s):=by simp
        have eL:P++A++B++Q=P++A.take s++A.drop s++B.take (h - s)++B.drop (h - s)++Q:=by
          conv=>lhs; rw [←eA,← eB]
          simp only [List.append_assoc]
        have:=tail_ok (K:=K) (n:=n) (f:=f) (N:=N) hn P (A.take s) (A.drop s) (B.take (h - s)) (B.drop (h - s)) Q hg (by rw [eA,eB]; exact hM) (by simp only [List.length_append,la,lb,la2,lb2]; omega) (by omega) (by omega)
          (fun x hx y hy=>by
            obtain ⟨i,i1,i2,rfl⟩:=fr hx
            obtain ⟨k,q1,q2,rfl⟩:=fe hy
            have m1:=s3 (s - 1) (by omega) (by omega)
            rw [show h - 1 - (s - 1)=h - s by omega] at m1
            have m2:R key (at_ A i) (at_ B (h - s)):=by
              rcases Nat.lt_or_ge i (s - 1) with q | q
              · exact (br hM.l q (by omega)).trans m1
              · obtain rfl:i=s - 1:=by omega
                exact m1
            rcases Nat.lt_or_ge (h - s) k with q | q
            · exact m2.trans (br hM.r q q2)
            · obtain rfl:k=h - s:=by omega
              exact m2)
          (fun x hx y hy=>by
            obtain ⟨k,q1,q2,rfl⟩:=fr hx
            obtain ⟨i,i1,i2,rfl⟩:=fe hy
            have m1:=s4 s (Nat.le_refl _) (by omega)
            have m2:R key (at_ B k) (at_ A s):=by
              rcases Nat.lt_or_ge k (h - 1 - s) with q | q
              · exact (br hM.r q (by omega)).trans m1
              · obtain rfl:k=h - 1 - s:=by omega
                exact m1
            rcases Nat.lt_or_ge s i with q | q
            · exact m2.trans (br hM.l q i2)
            · obtain rfl:i=s:=by omega
              exact m2)
          (v2:=((P.length:Nat):Int)) (v3:=((P.length+A.length:Nat):Int)) (v4:=((P.length+A.length+B.length:Nat):Int)) (v30:=((P.length+h:Nat):Int)) (v31:=((P.length+h+(P.length+A.length):Nat):Int)) (v39:=((P.length+s:Nat):Int)) rfl (by omega) (by omega) (by omega) (by omega) (by omega)
        rw [eA,eB] at this
        rw [eL]
        exact this
      by_cases hc:h<A.length
      · rw [if_pos (by simp; omega)]
        simp only [dQ]
        rw [wn (n:=((P.length+h+(P.length+A.length):Nat):Int) - ((P.length+A.length+B.length:Nat):Int)) (k:=P.length+(h - B.length)) (by omega) (by omega)]
        exact key_ (h - B.length) h (by omega) (by omega) (by omega) (by omega) (by omega) (by omega)
      · rw [if_neg (by simp; omega)]
        simp only [dQ]
        exact key_ 0 A.length (by omega) (by omega) (by omega) (by omega) (by omega) (by omega)
end Go.Proofs.Ytolhpahjgddjkaa.QSort
namespace Go.Proofs.Ytolhpahjgddjkaa.QSort
set_option linter.all false
open Go.RowKit
variable {K:Kn} {n:Nat} {f:Fv} {D:Int→Prop} {key:Int→Int}
theorem merges {c0:Nat} (hC:∀ m,c0≤m→Cmp (KN m) f D key):∀ (N lvl n:Nat),10001<n→c0+N+10002≤lvl→Merges key D N (fun L a m b=>b9 (KN lvl) n L a m b f):=by
  intro N
  induction N with
  | zero=>intro lvl n h1 h2 P A B Q hA hB hN; omega
  | succ N ih =>
    intro lvl n h1 h2
    obtain ⟨l,rfl⟩:∃ l,lvl=l+1:=⟨lvl - 1,by omega⟩
    exact merge_one (hC _ (by omega)) h1 (ih l l (by omega) (by omega))
inductive Bl (key:Int→Int) (bs:Nat):List Int→List Int→Prop
  | last (o d:List Int) (h:o.length≤bs) (p:d.Perm o) (s:d.Pairwise (R key)):Bl key bs o d
  | more (o1 d1 o2 d2:List Int) (h:o1.length=bs) (p:d1.Perm o1) (s:d1.Pairwise (R key)) (t:Bl key bs o2 d2):Bl key bs (o1++o2) (d1++d2)
theorem Bl.len {bs:Nat} {o d:List Int} (h:Bl key bs o d):d.length=o.length:=by
  induction h with
  | last o d h p s=>exact p.length_eq
  | more o1 d1 o2 d2 h p s t ih=>simp [p.length_eq,ih]
theorem blocks (hC:Cmp K f D key) (hn:10001<n):∀ (m:Nat) (P S:List Int),S.length<m→S.Pairwise (· < ·)→(∀ x∈S,D x)→P.length+S.length≤10000 →
    ∃ S',Bl key 20 S S'∧eN K n ((P.length+S.length:Nat):Int) f m ((P.length:Nat):Int) ((P.length+20:Nat):Int) (P++S)=cN K n ((P.length+S.length:Nat):Int) f n 20 (P++S'):=by
  intro m
  induction m with
  | zero=>intro P S h; omega
  | succ m ih =>
    intro P S hm hS hD hl
    simp only [eN,ge]
    by_cases hc:20≤S.length
    · rw [iteT (by omega)]
      obtain ⟨S1,S2,rfl,h1⟩:∃ S1 S2,S=S1++S2∧S1.length=20:=⟨S.take 20,S.drop 20,by simp,by simp; omega⟩
      rw [List.pairwise_append] at hS
      simp only [List.length_append] at hm hl hc ⊢
      obtain ⟨S',p1,p2,p3⟩:=ins_ok (n:=n) hC P S1 S2 hn hS.1 (fun x hx=>hD x (by simp [hx])) (by omega)
      have l1:S'.length=20:=by rw [p1.length_eq,h1]
      rw [h1] at p3
      rw [show P++(S1++S2)=P++S1++S2 by simp,p3,sb,wn (k:=P.length+20+20) (by omega) (by omega)]
      obtain ⟨S'',q1,q2⟩:=ih (P++S') S2 (by omega) hS.2.1 (fun x hx=>hD x (by simp [hx])) (by simp; omega)
      simp only [List.length_append,l1] at q2
      refine ⟨S'++S'',.more _ _ _ _ h1 p1 p2 q1,?_⟩
      rw [h1,show P.length+(20+S2.length)=P.length+20+S2.length by omega,q2]
      simp
    · rw [iteF (by omega)]
      obtain ⟨S',p1,p2,p3⟩:=ins_ok (n:=n) hC P S [] hn hS hD (by omega)
      simp only [List.append_nil] at p3
      exact ⟨S',.last _ _ (by omega) p1 p2,by rw [p3,sb]⟩
theorem pass {N:Nat} (hn:10001<n) (hg:Merges key D N (fun L a m b=>b9 K n L a m b f)) (bs:Nat) (hb:0<bs) (hb2:bs≤10000) (L2:Int→List Int→Option (List Int)):∀ (m:Nat) (P S d:List Int),S.length<m→Bl key bs S d→S.Pairwise (· < ·)→(∀ x∈S,D x)→P.length+S.length≤10000→S.length<N →
    ∃ d',Bl key (2*bs) S d'∧fg K n ((P.length+S.length:Nat):Int) f ((bs:Nat):Int) L2 m ((P.length:Nat):Int) ((P.length+2*bs:Nat):Int) (P++d)=L2 ((2*bs:Nat):Int) (P++d'):=by
  intro m
  induction m with
  | zero=>intro P S d h; omega
  | succ m ih =>
    intro P S d hm hB hS hD hl hN
    have ed:=hB.len
    simp only [fg,gj,gg]
    have e2:w64 (((bs:Nat):Int)*2)=((2*bs:Nat):Int):=wn (by omega) (by omega)
    have e3:w64 (2*((bs:Nat):Int))=((2*bs:Nat):Int):=wn (by omega) (by omega)
    rw [wn (n:=((P.length:Nat):Int)+((bs:Nat):Int)) (k:=P.length+bs) (by omega) (by omega),e2,e3]
    -- two blocks are merged
    have two:∀ o1 d1 o2 d2 r:List Int,o1.length=bs→d1.Perm o1→d1.Pairwise (R key)→d2.Perm o2→d2.Pairwise (R key)→0<o2.length→(∀ x∈o1,∀ y∈o2,x<y)→(∀ x∈o1++o2,D x)→P.length+(o1.length+o2.length)≤10000→o1.length+o2.length<N →
        ∃ C,C.Perm (o1++o2)∧C.Pairwise (R key)∧b9 K n (P++(d1++d2)++r) ((P.length:Nat):Int) ((P.length+bs:Nat):Int) ((P.length+(bs+o2.length):Nat):Int) f=some (P++C++r):=by
      intro o1 d1 o2 d2 r k1 k2 k3 k4 k5 k6 k7 k8 k9 k10
      have n1:d1.length=bs:=by rw [k2.length_eq,k1]
      have n2:=k4.length_eq
      obtain ⟨C,q1,q2,q3⟩:=hg P d1 d2 r (by omega) (by omega) (by omega) (by simp; omega) ⟨k3,k5,fun x hx y hy=>k7 x (k2.mem_iff.1 hx) y (k4.mem_iff.1 hy),fun x hx=>k8 x ((k2.append k4).mem_iff.1 hx)⟩
      refine ⟨C,q1.trans (k2.append k4),q2,?_⟩
      rw [n1,n2,show P.length+bs+o2.length=P.length+(bs+o2.length) by omega,show P++d1++d2++r=P++(d1++d2)++r by simp] at q3
      exact q3
    cases hB with
    | last _ _ h p s =>
      refine ⟨d,.last _ _ (by omega) p s,?_⟩
      rw [iteF (by omega),iteF (by omega)]
    | more o1 d1 o2 d2 h p s t =>
      rw [List.pairwise_append] at hS
      simp only [List.length_append] at hm hl hN ⊢
      cases t with
      | last _ _ h' p' s' =>
        by_cases hc:o2.length=bs
        · rw [iteT (by omega)]
          obtain ⟨C,q1,q2,q3⟩:=two o1 d1 o2 d2 [] h p s p' s' (by omega) hS.2.2 hD (by omega) (by omega)
          simp only [List.append_nil] at q3
          rw [hc] at q3
          rw [show ((P.length+2*bs:Nat):Int)=((P.length+(bs+bs):Nat):Int) by omega,q3,sb,wn (n:=((P.length+(bs+bs):Nat):Int)+((2*bs:Nat):Int)) (k:=P.length+(bs+bs)+2*bs) (by omega) (by omega)]
          have lC:C.length=bs+bs:=by rw [q1.length_eq]; simp; omega
          obtain ⟨d',r1,r2⟩:=ih (P++C) [] [] (by simp; omega) (.last _ _ (by simp) (.refl _) (by simp)) (by simp) (by simp) (by simp; omega) (by simp; omega)
          simp only [List.length_append,lC,List.length_nil,Nat.add_zero,List.append_nil] at r2
          refine ⟨C++d',?_,?_⟩
          · have:=Bl.more (key:=key) (bs:=2*bs) (o1++o2) C [] d' (by simp; omega) q1 q2 r1
            simpa using this
          · rw [show P.length+(o1.length+o2.length)=P.length+(bs+bs) by omega,r2]
            simp
        · rw [iteF (by omega)]
          by_cases hz:o2.length=0
          · rw [iteF (by omega)]
            have:o2=[]:=List.eq_nil_of_length_eq_zero hz
            subst this
            have:d2=[]:=p'.eq_nil
            subst this
            exact ⟨d1++[],.last _ _ (by simp; omega) (by simpa using p) (by simpa using s),rfl⟩
          · rw [iteT (by omega)]
            obtain ⟨C,q1,q2,q3⟩:=two o1 d1 o2 d2 [] h p s p' s' (by omega) hS.2.2 hD (by omega) (by omega)
            simp only [List.append_nil] at q3
            rw [h,q3,sb]
            exact ⟨C,.last _ _ (by simp; omega) q1 q2,rfl⟩
      | more o21 d21 o22 d22 h' p' s' t' =>
        have hS2:=hS.2.1
        rw [List.pairwise_append] at hS2
        simp only [List.length_append] at hm hl hN ⊢
        rw [iteT (by omega)]
        obtain ⟨C,q1,q2,q3⟩:=two o1 d1 o21 d21 d22 h p s p' s' (by omega) (fun x hx y hy=>hS.2.2 x hx y (by simp [hy])) (fun x hx=>hD x (by rcases List.mem_append.1 hx with q | q<;>simp [q])) (by omega) (by omega)
        rw [h'] at q3
        have lC:C.length=bs+bs:=by rw [q1.length_eq]; simp; omega
        rw [show P++(d1++(d21++d22))=P++(d1++d21)++d22 by simp,show ((P.length+2*bs:Nat):Int)=((P.length+(bs+bs):Nat):Int) by omega,q3,sb,wn (n:=((P.length+(bs+bs):Nat):Int)+((2*bs:Nat):Int)) (k:=P.length+(bs+bs)+2*bs) (by omega) (by omega)]
        obtain ⟨d',r1,r2⟩:=ih (P++C) o22 d22 (by omega) t' hS2.2.1 (fun x hx=>hD x (by simp [hx])) (by simp; omega) (by omega)
        simp only [List.length_append,lC] at r2
        refine ⟨C++d',?_,?_⟩
        · have:=Bl.more (key:=key) (bs:=2*bs) (o1++o21) C o22 d' (by simp; omega) q1 q2 r1
          simpa using this
        · rw [show P.length+(o1.length+(o21.length+o22.length))=P.length+(bs+bs)+o22.length by omega,r2]
          simp
theorem rounds {N:Nat} (hn:10001<n) (hg:Merges key D N (fun L a m b=>b9 K n L a m b f)) (S:List Int) (hS:S.Pairwise (· < ·)) (hD:∀ x∈S,D x) (hl:S.length≤10000) (hN:S.length<N):∀ (m bs:Nat) (d:List Int),0<bs→S.length - bs<m→Bl key bs S d →
    ∃ d',d'.Perm S∧d'.Pairwise (R key)∧cN K n ((S.length:Nat):Int) f m ((bs:Nat):Int) d=some d':=by
  intro m
  induction m with
  | zero=>intro bs d hb h; omega
  | succ m ih =>
    intro bs d hb hm hB
    simp only [cN,fq]
    by_cases hc:bs<S.length
    · rw [iteT (by omega),wn (n:=2*((bs:Nat):Int)) (k:=2*bs) (by omega) (by omega)]
      obtain ⟨d',r1,r2⟩:=pass (n:=n) hn hg bs hb (by omega) (cN K n ((S.length:Nat):Int) f m) n [] S d (by omega) hB hS hD (by simp; omega) hN
      simp only [List.length_nil,List.nil_append,Nat.zero_add] at r2
      rw [show ((0:Nat):Int)=0 from rfl] at r2
      rw [r2]
      exact ih (2*bs) d' (by omega) (by omega) r1
    · rw [iteF (by omega)]
      cases hB with
      | last _ _ h p s=>exact ⟨d,p,s,rfl⟩
      | more o1 d1 o2 d2 h p s t =>
        simp only [List.length_append] at hc
        have:o2=[]:=List.eq_nil_of_length_eq_zero (by omega)
        subst this
        have:d2=[]:=List.eq_nil_of_length_eq_zero (by rw [t.len]; rfl)
        subst this
        exact ⟨_,by simpa using p,by simpa using s,rfl⟩
theorem sort_ok {c0:Nat} (hC:∀ m,c0≤m→Cmp (KN m) f D key) {lvl n:Nat} (S:List Int) (hn:10001<n) (hlv:c0+(S.length+1)+10002≤lvl) (hS:S.Pairwise (· < ·)) (hD:∀ x∈S,D x) (hl:S.length≤10000) :
    ∃ d,d.Perm S∧d.Pairwise (R key)∧dD (KN lvl) n S f=some d:=by
  unfold dD ik
  have hle:c0≤lvl:=by omega
  have h0:S.length<n:=by omega
  obtain ⟨S',b1,b2⟩:=blocks (K:=KN lvl) (n:=n) (hC lvl hle) hn n [] S h0 hS hD (by rw [List.length_nil,Nat.zero_add]; exact hl)
  simp only [List.length_nil,List.nil_append,Nat.zero_add] at b2
  rw [show ((0:Nat):Int)=0 from rfl,show ((20:Nat):Int)=20 from rfl] at b2
  have h1:=hlv
  have h2:S.length - 20<n:=by omega
  have hm:=merges hC (S.length+1) lvl n hn h1
  generalize KN lvl=K at *
  obtain ⟨d,d1,d2,d3⟩:=rounds (K:=K) (n:=n) (N:=S.length+1) hn hm S hS hD hl (Nat.lt_succ_self _) n 20 S' (by decide) h2 b1
  rw [show ((20:Nat):Int)=20 from rfl] at d3
  exact ⟨d,d1,d2,by rw [b2,d3,sb]⟩
end Go.Proofs.Ytolhpahjgddjkaa.QSort
namespace Go.Proofs.Ytolhpahjgddjkaa
set_option linter.all false
open Go.RowKit
namespace Sh
def idx (n:Nat):List Int:=(List.range n).map fun (k:Nat)=>(k:Int)
instance (key:Int→Int) (a b:Int):Decidable (QSort.R key a b):=by unfold QSort.R; infer_instance
theorem eY (n:Nat):(idx n).length=n:=by simp [idx]
theorem idx_mem {n:Nat} {x:Int}:x∈idx n ↔ ∃ k:Nat,k<n∧x=k:=by
  simp only [idx,List.mem_map,List.mem_range]
  exact ⟨fun ⟨k,h,e⟩=>⟨k,h,e.symm⟩,fun ⟨k,h,e⟩=>⟨k,h,e.symm⟩⟩
theorem idx_lt (n:Nat):(idx n).Pairwise (· < ·):=by
  unfold idx
  rw [List.pairwise_map]
  refine List.Pairwise.imp (fun h=>?_) List.pairwise_lt_range
  omega
theorem iP (n:Nat):idx (n+1)=idx n++[(n:Int)]:=by simp [idx,List.range_succ]
def lim (n most:Int):Int:=min (max n 0) most
def mx:Int:=2147483647
theorem lim_bd {n m:Int} (h:0≤m):0≤lim n m∧lim n m≤m:=by unfold lim; omega
def q (T S w:Int):Int:=T*w / S
def r (T S w:Int):Int:=T*w % S
def left (T:Int) (W:List Int):Int:=T - sm (W.map (q T (sm W)))
def win (T:Int) (W:List Int) (k:Nat):Prop :=
  0<r T (sm W) (W.getD k default)∧(((W.take k).countP (fun w=>decide (r T (sm W) (W.getD k default)≤r T (sm W) w))+(W.drop (k+1)).countP (fun w=>decide (r T (sm W) (W.getD k default)<r T (sm W) w)):Nat):Int)<left T W
instance (T:Int) (W:List Int) (k:Nat):Decidable (win T W k):=by unfold win; infer_instance
def part (T:Int) (W:List Int) (k:Nat):Int:=q T (sm W) (W.getD k default)+if win T W k then 1 else 0
def share (T:Int) (W:List Int):List Int:=if sm W=0 then List.replicate W.length 0 else (List.range W.length).map (part T W)
theorem cr (T:Int) (W:List Int):(share T W).length=W.length:=by unfold share; split<;>simp
def inc:List Int→List Int→List Int
  | p,[]=>p
  | p,i::l=>inc (p.set i.toNat (p.getD i.toNat default+1)) l
theorem inc_len:∀ (l p:List Int),(inc p l).length=p.length
  | [],p=>rfl
  | i::l,p=>by simp [inc,inc_len l]
theorem inc_app:∀ (l m p:List Int),inc p (l++m)=inc (inc p l) m
  | [],m,p=>rfl
  | i::l,m,p=>by simp [inc,inc_app l]
theorem sm_set:∀ (p:List Int) (k:Nat) (x:Int),k<p.length→sm (p.set k x)=sm p - p.getD k default+x
  | [],k,x,h=>by simp at h
  | y::p,0,x,h=>by simp [sm]; omega
  | y::p,k+1,x,h=>by
    have:=sm_set p k x (by simpa using h)
    simp only [List.set_cons_succ,sm,this,List.getD_cons_succ]; omega
theorem inc_sum:∀ (l p:List Int),(∀ i∈l,0≤i∧i.toNat<p.length)→sm (inc p l)=sm p+l.length
  | [],p,h=>by simp [inc]
  | i::l,p,h=>by
    simp only [inc]
    rw [inc_sum l _ (fun j hj=>by have:=h j (by simp [hj]); simpa using this),sm_set _ _ _ (h i (by simp)).2]
    simp only [List.length_cons]; omega
theorem jj {p:List Int} {i j:Nat} {x:Int} (h:i≠j):(p.set i x).getD j default=p.getD j default:=by simp [List.getD_eq_getElem?_getD,List.getElem?_set,h]
theorem jc {p:List Int} {i:Nat} {x:Int} (h:i<p.length):(p.set i x).getD i default=x:=by simp [List.getD_eq_getElem?_getD,List.getElem?_set,h]
theorem inc_at:∀ (l p:List Int) (k:Nat),l.Nodup→(∀ i∈l,0≤i)→k<p.length→(inc p l).getD k default=p.getD k default+if (k:Int)∈l then 1 else 0
  | [],p,k,_,_,_=>by simp [inc]
  | i::l,p,k,hn,h0,hk=>by
    simp only [inc]
    rw [List.nodup_cons] at hn
    rw [inc_at l _ k hn.2 (fun j hj=>h0 j (by simp [hj])) (by simpa using hk)]
    have hi:=h0 i (by simp)
    by_cases e:i.toNat=k
    · have e2:i=(k:Int):=by omega
      subst e2
      rw [Int.toNat_natCast,jc hk,if_neg hn.1,if_pos (by simp)]; omega
    · rw [jj e]
      have:((k:Int)∈i::l)↔(k:Int)∈l:=by
        rw [List.mem_cons]; constructor
        · rintro (h | h)
          · omega
          · exact h
        · exact .inr
      simp only [this]
theorem sm_perm {a b:List Int} (h:a.Perm b):sm a=sm b:=by
  induction h with
  | nil=>rfl
  | cons x _ ih=>simp [sm,ih]
  | swap x y l=>simp only [sm]; omega
  | trans _ _ h1 h2=>rw [h1,h2]
theorem sm_qr (T S:Int) (hS:0<S):∀ W:List Int,S*sm (W.map (q T S))+sm (W.map (r T S))=T*sm W
  | []=>by simp [sm]
  | w::W=>by
    have:=sm_qr T S hS W
    have h:=Int.mul_ediv_add_emod (T*w) S
    simp only [List.map_cons,sm,Int.mul_add]
    unfold q r at *
    omega
theorem cF {c:Int}:∀ L:List Int,(∀ x∈L,x≤c)→sm L≤L.length*c
  | [],_=>by simp [sm]
  | x::L,h=>by
    have:=cF L (fun y hy=>h y (by simp [hy])); have:=h x (by simp)
    simp only [sm,List.length_cons]
    rw [show ((L.length+1:Nat):Int)*c=L.length*c+c by simp [Int.add_mul]]; omega
theorem bH:∀ L:List Int,(∀ x∈L,0≤x)→0≤sm L
  | [],_=>by simp [sm]
  | x::L,h=>by
    have:=bH L (fun y hy=>h y (by simp [hy])); have:=h x (by simp)
    simp only [sm]; omega
theorem c6:∀ (L:List Int),(∀ x∈L,0≤x)→∀ x∈L,x≤sm L
  | [],_,_,hx=>by simp at hx
  | y::L,h,x,hx=>by
    have h1:=bH L (fun y hy=>h y (by simp [hy])); have h2:=h y (by simp)
    simp only [sm]
    rcases List.mem_cons.1 hx with rfl | hx
    · omega
    · have:=c6 L (fun y hy=>h y (by simp [hy])) x hx; omega
theorem r_bd {T S w:Int} (hS:0<S):0≤r T S w∧r T S w<S:=⟨Int.emod_nonneg _ (by omega),Int.emod_lt_of_pos _ hS⟩
theorem q_bd {T S w:Int} (hS:0<S) (hT:0≤T) (hw:0≤w) (hw2:w≤S):0≤q T S w∧q T S w≤T:=by
  refine ⟨Int.ediv_nonneg (Int.mul_nonneg hT hw) (by omega),?_⟩
  unfold q
  have h:T*w≤T*S:=Int.mul_le_mul_of_nonneg_left hw2 hT
  calc T*w / S≤T*S / S:=Int.ediv_le_ediv hS h
    _=T:=Int.mul_ediv_cancel _ (by omega)
theorem left_mul (T:Int) (W:List Int) (hS:0<sm W):sm W*left T W=sm (W.map (r T (sm W))):=by
  have:=sm_qr T (sm W) hS W
  unfold left
  rw [Int.mul_sub,Int.mul_comm (sm W) T]; omega
theorem fC (T:Int) (W:List Int) (hS:0<sm W):0≤left T W∧left T W≤W.length:=by
  have h:=left_mul T W hS
  have h0:0≤sm (W.map (r T (sm W))):=bH _ (fun x hx=>by
    obtain ⟨w,_,rfl⟩:=List.mem_map.1 hx; exact (r_bd hS).1)
  have h1:sm (W.map (r T (sm W)))≤(W.map (r T (sm W))).length*sm W:=cF _ (fun x hx=>by
    obtain ⟨w,_,rfl⟩:=List.mem_map.1 hx; have:=(r_bd (T:=T) (w:=w) hS).2; omega)
  rw [List.length_map,← h,Int.mul_comm] at h1
  refine ⟨?_,Int.le_of_mul_le_mul_right h1 hS⟩
  rw [←h] at h0
  rcases Int.lt_or_le (left T W) 0 with h | h
  · have:=Int.mul_neg_of_pos_of_neg hS h; omega
  · exact h
def key (rs:List Int) (a:Int):Int := - rs.getD a.toNat default
structure Ord (rs d:List Int):Prop where
  p:d.Perm (idx rs.length)
  s:d.Pairwise (QSort.R (key rs))
theorem Ord.nodup {rs d:List Int} (h:Ord rs d):d.Nodup:=by
  refine List.Pairwise.imp (fun hh e=>?_) h.s
  subst e; exact hh.irr
theorem Ord.mem {rs d:List Int} (h:Ord rs d) {x:Int}:x∈d ↔ ∃ k:Nat,k<rs.length∧x=k:=by rw [h.p.mem_iff,idx_mem]
theorem Ord.len {rs d:List Int} (h:Ord rs d):d.length=rs.length:=by rw [h.p.length_eq,eY]
theorem gJ (rs:List Int) (p:Int→Bool):∀ n,n≤rs.length→(idx n).countP (fun a=>p (rs.getD a.toNat default))=(rs.take n).countP p
  | 0,_=>by simp [idx]
  | n+1,h=>by
    rw [iP,List.countP_append,gJ rs p n (by omega),List.take_succ_eq_append_getElem (by omega),List.countP_append]
    simp [List.getD_eq_getElem?_getD,List.getElem?_eq_getElem (show n<rs.length by omega)]
theorem rank {rs d:List Int} (h:Ord rs d) {t k:Nat} (ht:t<d.length) (hk:d.getD t default=(k:Int)):(rs.take k).countP (fun w=>decide (rs.getD k default≤w))+(rs.drop (k+1)).countP (fun w=>decide (rs.getD k default<w))=t:=by
  have ek:k<rs.length:=by
    have:d.getD t default∈d:=by rw [aQ ht]; exact List.getElem_mem _
    rw [hk] at this
    obtain ⟨j,h1,h2⟩:=h.mem.1 this
    omega
  -- in the sorted order there are t ahead of k
  have c1:d.countP (fun a=>decide (QSort.R (key rs) a k))=t:=by
    have e:d=d.take t++d.drop t:=(List.take_append_drop t d).symm
    have e2:d.drop t=(k:Int)::d.drop (t+1):=by rw [List.drop_eq_getElem_cons ht,← aQ ht,hk]
    rw [e2] at e
    have hs:=h.s
    rw [e,List.pairwise_append,List.pairwise_cons] at hs
    rw [e,List.countP_append,List.countP_cons]
    have z1:(d.take t).countP (fun a=>decide (QSort.R (key rs) a k))=t:=by
      rw [List.countP_eq_length.2 (fun a ha=>by simpa using hs.2.2 a ha k (by simp))]; simp; omega
    have z2:(d.drop (t+1)).countP (fun a=>decide (QSort.R (key rs) a k))=0:=by
      rw [List.countP_eq_zero]; intro a ha hh
      exact (hs.2.1.1 a ha).asymm (by simpa using hh)
    have z3:(if decide (QSort.R (key rs) (k:Int) k)=true then 1 else 0)=0:=by
      rw [if_neg]; intro hh; exact (by simpa using hh:QSort.R (key rs) (k:Int) k).irr
    rw [z1,z2,z3]
    omega
  rw [h.p.countP_eq] at c1
  -- the indices below k,k,those above
  have e:idx rs.length=idx k++(k:Int)::(idx rs.length).drop (k+1):=by
    have h1:(idx rs.length).take k=idx k:=by unfold idx; rw [←List.map_take,List.take_range,Nat.min_eq_left (Nat.le_of_lt ek)]
    have h2:k<(idx rs.length).length:=by rw [eY]; exact ek
    conv=>lhs; rw [←List.take_append_drop k (idx rs.length),h1,List.drop_eq_getElem_cons h2]
    congr 2
    simp [idx]
  have a1:(idx k).countP (fun a=>decide (QSort.R (key rs) a k))=(rs.take k).countP (fun w=>decide (rs.getD k default≤w)):=by
    rw [←gJ rs (fun w=>decide (rs.getD k default≤w)) k (by omega)]
    refine List.countP_congr (fun a ha=>?_)
    obtain ⟨j,hj,rfl⟩:=idx_mem.1 ha
    simp only [decide_eq_true_eq]
    simp only [QSort.R,key,Int.toNat_natCast]
    omega
  have a2:((idx rs.length).drop (k+1)).countP (fun a=>decide (QSort.R (key rs) a k))=(rs.drop (k+1)).countP (fun w=>decide (rs.getD k default<w)):=by
    have b1:=gJ rs (fun w=>decide (rs.getD k default<w)) rs.length (Nat.le_refl _)
    have b2:=gJ rs (fun w=>decide (rs.getD k default<w)) (k+1) (by omega)
    rw [List.take_length] at b1
    have b3:rs.countP (fun w=>decide (rs.getD k default<w))=(rs.take (k+1)).countP (fun w=>decide (rs.getD k default<w))+(rs.drop (k+1)).countP (fun w=>decide (rs.getD k default<w)):=by
      rw [←List.countP_append,List.take_append_drop]
    have b4:idx rs.length=idx (k+1)++(idx rs.length).drop (k+1):=by
      rw [iP]; conv=>lhs; rw [e]
      simp
    rw [b4,List.countP_append,b2] at b1
    have b5:((idx rs.length).drop (k+1)).countP (fun a=>decide (QSort.R (key rs) a k))=((idx rs.length).drop (k+1)).countP (fun a=>(fun w=>decide (rs.getD k default<w)) (rs.getD a.toNat default)):=by
      refine List.countP_congr (fun a ha=>?_)
      have:(k:Int)<a:=by
        have hp:=idx_lt rs.length
        rw [e,List.pairwise_append,List.pairwise_cons] at hp
        exact hp.2.1.1 a ha
      have h0:0≤a:=by omega
      obtain ⟨j,rfl⟩:∃ j:Nat,a=j:=⟨a.toNat,by omega⟩
      simp only [decide_eq_true_eq]
      simp only [QSort.R,key,Int.toNat_natCast]
      omega
    rw [b5]; dsimp only at b1 b2 b3 ⊢; omega
  have a3:(if decide (QSort.R (key rs) (k:Int) k)=true then 1 else 0)=0:=by
    rw [if_neg]; intro hh; exact (by simpa using hh:QSort.R (key rs) (k:Int) k).irr
  rw [e,List.countP_append,List.countP_cons,a1,a2,a3] at c1
  omega
theorem fY (T S:Int) (W:List Int) {k:Nat} (h:k<W.length):(W.map (r T S)).getD k default=r T S (W.getD k default):=by simp [List.getD_eq_getElem?_getD,h]
theorem iC (T:Int) (W d:List Int) (hW:∀ w∈W,0≤w) (hS:sm W≠0) (h:Ord (W.map (r T (sm W))) d):share T W=inc (W.map (q T (sm W))) (d.take (left T W).toNat):=by
  have hS0:0<sm W:=by have:=bH W hW; omega
  have hlb:=fC T W hS0
  have hlm:=left_mul T W hS0
  have hdl:d.length=W.length:=by rw [h.len,List.length_map]
  unfold share
  rw [if_neg hS]
  refine List.ext_getElem (by rw [inc_len]; simp) (fun k h1 h2=>?_)
  have hk:k<W.length:=by simpa using h1
  rw [←aQ h2,inc_at _ _ _ (h.nodup.sublist (List.take_sublist _ _)) (fun i hi=>by
    obtain ⟨j,_,rfl⟩:=h.mem.1 (List.mem_of_mem_take hi); omega) (by simpa using hk)]
  simp only [List.getElem_map,List.getElem_range,part]
  have e1:(W.map (q T (sm W))).getD k default=q T (sm W) (W.getD k default):=by simp [List.getD_eq_getElem?_getD,hk]
  rw [e1]
  congr 1
  -- where is k in the order?
  obtain ⟨t,ht,et⟩:=QSort.mem_at (A:=d) (x:=(k:Int)) (h.mem.2 ⟨k,by simpa using hk,rfl⟩)
  have hr:=rank h ht et
  rw [fY _ _ _ hk,← List.map_take,← List.map_drop,List.countP_map,List.countP_map] at hr
  have hmem:((k:Int)∈d.take (left T W).toNat)↔t<(left T W).toNat:=by
    constructor
    · intro hm
      obtain ⟨t',k1,k2,k3⟩:=QSort.fr hm
      have:t'=t:=by
        rcases Nat.lt_trichotomy t t' with hh | hh | hh
        · have:=QSort.br h.s hh k2; rw [et,k3] at this; exact absurd this (fun x=>x.irr)
        · exact hh.symm
        · have:=QSort.br h.s hh ht; rw [et,k3] at this; exact absurd this (fun x=>x.irr)
      omega
    · intro hm
      have:d.take (left T W).toNat=d.take (left T W).toNat:=rfl
      have h3:t<(d.take (left T W).toNat).length:=by simp; omega
      have:=QSort.gk h3
      rwa [QSort.at_take hm,et] at this
  have hwin:win T W k↔t<(left T W).toNat:=by
    unfold win
    simp only [Function.comp_def] at hr
    rw [hr]
    constructor
    · intro hh; omega
    · intro hh
      refine ⟨?_,by omega⟩
      -- a rest of 0 does not win: all behind it are 0,too
      rcases Int.lt_or_le 0 (r T (sm W) (W.getD k default)) with hp | hp
      · exact hp
      · exfalso
        have eperm:sm (d.map fun a=>(W.map (r T (sm W))).getD a.toNat default)=sm (W.map (r T (sm W))):=by
          rw [sm_perm (h.p.map _)]
          congr 1
          refine List.ext_getElem (by simp [idx]) (fun i i1 i2=>?_)
          simp only [List.getElem_map,idx,List.getElem_range,Int.toNat_natCast,fY T (sm W) W (show i<W.length by simpa using i2)]
          rw [aQ (show i<W.length by simpa using i2)]
        have esp:d=d.take t++d.drop t:=(List.take_append_drop t d).symm
        have smsp:sm (d.map fun a=>(W.map (r T (sm W))).getD a.toNat default)=sm ((d.take t).map fun a=>(W.map (r T (sm W))).getD a.toNat default)+sm ((d.drop t).map fun a=>(W.map (r T (sm W))).getD a.toNat default):=by
          conv=>lhs; rw [esp]
          rw [List.map_append,dC]
        have val:∀ a∈d,0≤(W.map (r T (sm W))).getD a.toNat default∧(W.map (r T (sm W))).getD a.toNat default≤sm W - 1:=by
          intro a ha
          obtain ⟨j,hj,rfl⟩:=h.mem.1 ha
          rw [List.length_map] at hj
          rw [Int.toNat_natCast,fY T (sm W) W hj]
          have:=r_bd (T:=T) (w:=W.getD j default) hS0; omega
        have s1:sm ((d.take t).map fun a=>(W.map (r T (sm W))).getD a.toNat default)≤t*(sm W - 1):=by
          have:=cF (c:=sm W - 1) ((d.take t).map fun a=>(W.map (r T (sm W))).getD a.toNat default) (fun x hx=>by
            obtain ⟨a,ha,rfl⟩:=List.mem_map.1 hx; exact (val a (List.mem_of_mem_take ha)).2)
          rw [List.length_map,List.length_take,Nat.min_eq_left (by omega)] at this
          exact this
        have s2:sm ((d.drop t).map fun a=>(W.map (r T (sm W))).getD a.toNat default)≤(((d.drop t).map fun a=>(W.map (r T (sm W))).getD a.toNat default).length:Int)*0:=by
          refine cF _ (fun x hx=>?_)
          obtain ⟨a,ha,rfl⟩:=List.mem_map.1 hx
          obtain ⟨i,i1,i2,rfl⟩:=QSort.fe ha
          have ek:(W.map (r T (sm W))).getD k default≤0:=by rw [fY T (sm W) W hk]; exact hp
          rcases Nat.lt_or_ge t i with q | q
          · have:=QSort.br h.s q i2
            rw [et] at this
            unfold QSort.R key at this
            rw [Int.toNat_natCast] at this
            omega
          · obtain rfl:i=t:=by omega
            rw [et,Int.toNat_natCast]; exact ek
        rw [Int.mul_zero] at s2
        have:sm W*left T W≤t*(sm W - 1):=by rw [hlm,← eperm,smsp]; omega
        have h4:sm W*((t:Int)+1)≤sm W*left T W:=Int.mul_le_mul_of_nonneg_left (by omega) (by omega)
        rw [Int.mul_add,Int.mul_one,Int.mul_comm (sm W) t] at h4
        rw [Int.mul_sub,Int.mul_one] at this
        omega
  by_cases hw:win T W k
  · rw [if_pos hw,if_pos (hmem.2 (hwin.1 hw))]
  · rw [if_neg hw,if_neg (fun hh=>hw (hwin.2 (hmem.1 hh)))]
end Sh
end Go.Proofs.Ytolhpahjgddjkaa
namespace Go.Proofs.Ytolhpahjgddjkaa
set_option linter.all false
open Go.RowKit
namespace Sh
open QSort (wn aq iteT iteF sb)
variable {K:Kn} {n:Nat}
def wts (L:List Int):List Int:=L.map fun w=>lim w mx
theorem aJ (L:List Int):(wts L).length=L.length:=by simp [wts]
theorem bu (L:List Int):∀ w∈wts L,0≤w∧w≤2147483647:=by
  intro w hw
  obtain ⟨x,_,rfl⟩:=List.mem_map.1 hw
  exact lim_bd (m:=mx) (by decide)
theorem dm {L:List Int} {k:Nat} (h:k<L.length):(wts L).getD k default=lim (L.getD k default) mx:=by simp [wts,List.getD_eq_getElem?_getD,h]
theorem sm_wts {L:List Int} (h:L.length≤10000):0≤sm (wts L)∧sm (wts L)≤21474836470000:=by
  refine ⟨bH _ (fun w hw=>(bu L w hw).1),?_⟩
  have:=cF (c:=2147483647) (wts L) (fun w hw=>(bu L w hw).2)
  rw [aJ] at this; omega
theorem sm_take {W:List Int} (h:∀ w∈W,0≤w) (i:Nat):0≤sm (W.take i)∧sm (W.take i)≤sm W:=by
  have h1:=bH (W.take i) (fun w hw=>h w (List.mem_of_mem_take hw))
  have h2:=bH (W.drop i) (fun w hw=>h w (List.mem_of_mem_drop hw))
  have:sm W=sm (W.take i)+sm (W.drop i):=by rw [←dC,List.take_append_drop]
  omega
theorem d5 {W:List Int} {i:Nat} (h:i<W.length):sm (W.take (i+1))=sm (W.take i)+W.getD i default:=by
  rw [List.take_succ_eq_append_getElem h,dC,aQ h]; simp [sm]
theorem fv {A:List Int} {k i:Nat} {y z:Int} (h:i=A.length):List.set (A++List.replicate (k+1) z) i y=(A++[y])++List.replicate k z:=by
  subst h; simp [List.replicate_succ]
theorem get_rep {A:List Int} {k i:Nat} {y z:Int} (h:i=A.length):List.getD ((A++[y])++List.replicate k z) i default=y:=by
  subst h; simp [List.getD_eq_getElem?_getD]
theorem mul_bd {a b:Int} (h0:0≤a) (h1:a≤2147483647) (h2:0≤b) (h3:b≤2147483647):0≤a*b∧a*b≤4611686014132420609:=by
  refine ⟨Int.mul_nonneg h0 h2,?_⟩
  have:=Int.mul_le_mul h1 h3 h2 (by omega:(0:Int)≤2147483647)
  omega
theorem d9 (g:Int→Int) {W:List Int} {i:Nat} (h:i<W.length):(W.take (i+1)).map g=(W.take i).map g++[g (W.getD i default)]:=by
  rw [List.take_succ_eq_append_getElem h,List.map_append,aQ h]; rfl
theorem left_part {T:Int} {W:List Int} (hT:0≤T) (hW:∀ w∈W,0≤w) (hS:0<sm W) (i:Nat):0≤sm ((W.take i).map (q T (sm W)))∧sm ((W.take i).map (q T (sm W)))≤T:=by
  have hq:∀ x∈W.map (q T (sm W)),0≤x:=fun x hx=>by
    obtain ⟨w,hw,rfl⟩:=List.mem_map.1 hx
    exact (q_bd hS hT (hW w hw) (c6 W hW w hw)).1
  have:=sm_take hq i
  rw [←List.map_take] at this
  have h2:=(fC T W hS).1
  unfold left at h2
  omega
theorem f_sum (L:List Int) (T:Int) (z1 z2 z3:List Int) (hL:L.length≤10000):∀ (m i:Nat),i≤L.length→L.length<m+i →
    d6 K n L T z1 z2 z3 m (sm ((wts L).take i)) (i:Int)=if (sm (wts L) == 0)=true then some z1 else du K n L T (sm (wts L)) n T 0 z1 z2 z3:=by
  intro m
  induction m with
  | zero=>intro i h1 h2; omega
  | succ m ih =>
    intro i h1 h2
    simp only [d6,gi]
    by_cases hi:i<L.length
    · have hb:=sm_wts hL
      have hs:=sm_take (W:=wts L) (fun w hw=>(bu L w hw).1) (i+1)
      have e:=d5 (W:=wts L) (i:=i) (by rw [aJ]; exact hi)
      have el:=dm hi
      rw [iteT (by omega),aq (by omega),tnat]
      simp only [cQ,sb]
      rw [wn (n:=(i:Int)+1) (k:=i+1) (by omega) (by omega)]
      rw [show w64 (sm ((wts L).take i)+min (max (L.getD i default) 0) 2147483647)=sm ((wts L).take (i+1)) by
        rw [e,el]; exact aW (by rw [e,el] at hs; unfold lim mx at hs; omega) (by rw [e,el] at hs; unfold lim mx at hs; omega)]
      exact ih (i+1) (by omega) (by omega)
    · rw [iteF (by omega),List.take_of_length_le (by rw [aJ]; omega)]
theorem f_parts (L:List Int) (T:Int) (hT:0≤T∧T≤2147483647) (hL:L.length≤10000) (hS:0<sm (wts L)):∀ (m i:Nat),i≤L.length→L.length<m+i →
    du K n L T (sm (wts L)) m (T - sm (((wts L).take i).map (q T (sm (wts L))))) (i:Int) (((wts L).take i).map (q T (sm (wts L)))++List.replicate (L.length - i) 0) (((wts L).take i).map (r T (sm (wts L)))++List.replicate (L.length - i) 0) (idx i++List.replicate (L.length - i) 0) =
    (dD K n (idx L.length) (Fv.c59 ((wts L).map (r T (sm (wts L)))))).bind fun v22 =>
    chk (slb (0:Int) (left T (wts L)) v22.length) (
    dB K n n (List.drop ((0:Int)).toNat (List.take (left T (wts L)).toNat v22)) ((List.drop ((0:Int)).toNat (List.take (left T (wts L)).toNat v22)).length:Int) 0 ((wts L).map (q T (sm (wts L))))):=by
  intro m
  induction m with
  | zero=>intro i h1 h2; omega
  | succ m ih =>
    intro i h1 h2
    simp only [du,fW]
    by_cases hi:i<L.length
    · have hW:=fun w hw=>(bu L w hw).1
      have hlp:=left_part hT.1 hW hS
      have el:=dm hi
      obtain ⟨k,ek⟩:∃ k,L.length - i=k+1:=⟨L.length - i - 1,by omega⟩
      have hw:=bu L ((wts L).getD i default) (by rw [aQ (by rw [aJ]; exact hi)]; exact List.getElem_mem _)
      have hm:=mul_bd hT.1 hT.2 hw.1 hw.2
      rw [iteT (by omega),aq (by omega),tnat]
      simp only [cQ,sb]
      have ew:min (max (L.getD i default) 0) 2147483647=(wts L).getD i default:=by rw [el]; rfl
      rw [ew,aW (n:=T*(wts L).getD i default) (by omega) (by omega)]
      have hz:(sm (wts L) != 0)=true:=by simp; omega
      rw [hz,bw,bw]
      have la:(((wts L).take i).map (q T (sm (wts L)))++List.replicate (L.length - i) 0).length=L.length:=by simp [aJ]; omega
      have lb:(((wts L).take i).map (r T (sm (wts L)))++List.replicate (L.length - i) 0).length=L.length:=by simp [aJ]; omega
      have lc:(idx i++List.replicate (L.length - i) 0).length=L.length:=by simp [eY]; omega
      rw [la,lb,lc,aq (by omega),aq (by omega),aq (by omega)]
      simp only [List.length_set]
      rw [la,aq (by omega),ek]
      have l1:i=(((wts L).take i).map (q T (sm (wts L)))).length:=by simp [aJ]; omega
      have l2:i=(((wts L).take i).map (r T (sm (wts L)))).length:=by simp [aJ]; omega
      rw [fv l1,fv l2,fv (eY i).symm,get_rep l1]
      have hq:=q_bd hS hT.1 hw.1 (c6 _ hW _ (by rw [aQ (by rw [aJ]; exact hi)]; exact List.getElem_mem _))
      have ed:w64 (Int.tdiv (T*(wts L).getD i default) (sm (wts L)))=q T (sm (wts L)) ((wts L).getD i default):=by
        rw [Int.tdiv_eq_ediv_of_nonneg hm.1]
        exact aW (by show _≤q _ _ _; omega) (by show q _ _ _≤_; omega)
      have er:Int.tmod (T*(wts L).getD i default) (sm (wts L))=r T (sm (wts L)) ((wts L).getD i default):=by
        rw [Int.tmod_eq_emod_of_nonneg hm.1]; rfl
      rw [ed,er,← d9 _ (by rw [aJ]; exact hi),← d9 _ (by rw [aJ]; exact hi),← iP]
      have e1:w64 (T - sm (((wts L).take i).map (q T (sm (wts L)))) - q T (sm (wts L)) ((wts L).getD i default))=T - sm (((wts L).take (i+1)).map (q T (sm (wts L)))):=by
        rw [d9 _ (by rw [aJ]; exact hi),dC]
        simp only [sm]
        have a1:=hlp i
        rw [aW (by omega) (by omega)]; omega
      rw [e1,wn (n:=(i:Int)+1) (k:=i+1) (by omega) (by omega)]
      have:=ih (i+1) (by omega) (by omega)
      rw [show L.length - (i+1)=k by omega] at this
      exact this
    · have:i=L.length:=by omega
      subst this
      rw [iteF (by omega)]
      have ew:(wts L).take L.length=wts L:=List.take_of_length_le (by rw [aJ]; omega)
      rw [ew]
      simp only [Nat.sub_self,List.replicate_zero,List.append_nil]
      rfl
theorem f_inc (l:List Int) (hl:l.length≤10000):∀ (m i:Nat) (p:List Int),i≤l.length→l.length<m+i→(∀ x∈l,0≤x∧x.toNat<p.length)→(∀ x∈p,0≤x∧x+l.length≤4611686018427387904+i) →
    dB K n m l (l.length:Int) (i:Int) p=some (inc p (l.drop i)):=by
  intro m
  induction m with
  | zero=>intro i p h1 h2; omega
  | succ m ih =>
    intro i p h1 h2 hx hp
    simp only [dB,fw]
    by_cases hi:i<l.length
    · have hm:=hx (l.getD i default) (by rw [aQ hi]; exact List.getElem_mem _)
      have hpx:=hp (p.getD (l.getD i default).toNat default) (by rw [aQ hm.2]; exact List.getElem_mem _)
      rw [iteT (by omega),aq (by omega),tnat,aq (by omega),aq (by omega),wn (n:=(i:Int)+1) (k:=i+1) (by omega) (by omega),aW (by omega) (by omega)]
      rw [ih (i+1) _ (by omega) (by omega) (by simpa using hx) (fun x hx2=>by
        rcases List.mem_or_eq_of_mem_set hx2 with h | h
        · have:=hp x h; omega
        · subst h; omega)]
      rw [List.drop_eq_getElem_cons hi,← aQ hi]
      rfl
    · rw [iteF (by omega),List.drop_eq_nil_of_le (by omega)]
      rfl
theorem cmp_ok (rs:List Int) (m:Nat):QSort.Cmp (KN (m+1)) (Fv.c59 rs) (fun a=>0≤a∧a<rs.length) (key rs):=by
  refine ⟨fun a b ha hb=>?_⟩
  show ∃ c,gt (KN m) m a b rs=some c∧_
  unfold gt
  rw [aq hb,aq ha]
  simp only [gH,fx,sb,bne_self_eq_false,Bool.false_eq_true,if_false,key]
  by_cases h1:rs.getD b.toNat default<rs.getD a.toNat default
  · rw [iteT h1]; exact ⟨-1,rfl,by omega⟩
  · rw [iteF h1]
    by_cases h2:rs.getD b.toNat default>rs.getD a.toNat default
    · rw [iteT h2]; exact ⟨1,rfl,by omega⟩
    · rw [iteF h2]; exact ⟨0,rfl,by omega⟩
theorem sorted (rs:List Int) {lvl n:Nat} (hn:10001<n) (hl:rs.length≤10000) (hlv:20010≤lvl):∃ d,Ord rs d∧dD (KN lvl) n (idx rs.length) (Fv.c59 rs)=some d:=by
  obtain ⟨d,h1,h2,h3⟩:=QSort.sort_ok (c0:=1) (f:=Fv.c59 rs) (D:=fun a=>0≤a∧a<rs.length) (key:=key rs) (fun m hm=>by
    obtain ⟨k,rfl⟩:∃ k,m=k+1:=⟨m - 1,by omega⟩
    exact cmp_ok rs k) (lvl:=lvl) (n:=n) (idx rs.length) hn (by rw [eY]; omega) (idx_lt _) (fun x hx=>by
      obtain ⟨k,hk,rfl⟩:=idx_mem.1 hx; omega) (by rw [eY]; exact hl)
  exact ⟨d,⟨h1,h2⟩,h3⟩
theorem slb_of {a b:Int} {n:Nat} (h0:0≤a) (h1:a≤b) (h2:b≤n):slb a b n=true:=by simp [slb,h0,h1,h2]
theorem mkb_of {n b:Nat} (h:n*b≤140737488355328) (h2:n≤4611686018427387904):mkb (n:Int) b=true:=by
  simp only [mkb,Bool.and_eq_true,decide_eq_true_eq,Int.toNat_natCast]; omega
theorem flex_ok {lvl n:Nat} (T:Int) (L:List Int) (hL:L.length≤10000) (hn:10001<n) (hlv:20010≤lvl):eo (KN lvl) n T L=some (share (lim T mx) (wts L)):=by
  unfold eo
  have hT:0≤lim T mx∧lim T mx≤2147483647:=lim_bd (m:=mx) (by decide)
  simp only [cQ,sb,mkb_of (show L.length*8≤140737488355328 by omega) (by omega),bw,tnat]
  have h1:=f_sum (K:=KN lvl) (n:=n) L (lim T mx) (List.replicate L.length 0) (List.replicate L.length 0) (List.replicate L.length 0) hL n 0 (by omega) (by omega)
  rw [show sm ((wts L).take 0)=0 from rfl,show ((0:Nat):Int)=0 from rfl] at h1
  rw [show min (max T 0) 2147483647=lim T mx from rfl,h1]
  have hsm:=sm_wts hL
  by_cases hz:sm (wts L)=0
  · rw [if_pos (by simp [hz])]
    unfold share
    rw [if_pos hz,aJ]
  · rw [if_neg (by simp [hz])]
    have hS:0<sm (wts L):=by omega
    have h2:=f_parts (K:=KN lvl) (n:=n) L (lim T mx) hT hL hS n 0 (by omega) (by omega)
    simp only [List.take_zero,List.map_nil,List.nil_append,Nat.sub_zero,sm,Int.sub_zero,show idx 0=[] from rfl] at h2
    rw [show ((0:Nat):Int)=0 from rfl] at h2
    rw [h2]
    obtain ⟨d,o1,o2⟩:=sorted ((wts L).map (r (lim T mx) (sm (wts L)))) (lvl:=lvl) (n:=n) hn (by simp [aJ,hL]) hlv
    rw [List.length_map,aJ] at o2
    rw [o2,sb]
    have hd:d.length=L.length:=by rw [o1.len,List.length_map,aJ]
    have hlb:=fC (lim T mx) (wts L) hS
    rw [aJ] at hlb
    rw [slb_of (by omega) hlb.1 (by rw [hd]; exact hlb.2),bw]
    rw [show (0:Int).toNat=0 from rfl,List.drop_zero]
    rw [iC (lim T mx) (wts L) d (fun w hw=>(bu L w hw).1) (by omega) o1]
    have:=f_inc (K:=KN lvl) (n:=n) (d.take (left (lim T mx) (wts L)).toNat) (by simp; omega) n 0 ((wts L).map (q (lim T mx) (sm (wts L)))) (by omega) (by simp; omega) (fun x hx=>by
      obtain ⟨k,hk,rfl⟩:=o1.mem.1 (List.mem_of_mem_take hx)
      simp at hk; simp; omega) (fun x hx=>by
      obtain ⟨w,hw,rfl⟩:=List.mem_map.1 hx
      have:=q_bd hS hT.1 (bu L w hw).1 (c6 _ (fun w hw=>(bu L w hw).1) w hw)
      have h3:(d.take (left (lim T mx) (wts L)).toNat).length≤10000:=by simp; omega
      omega)
    rw [show ((0:Nat):Int)=0 from rfl,List.drop_zero] at this
    exact this
theorem r_sum (L:List Int) (T:Int) (hL:L.length≤10000):∀ (m i:Nat),i≤L.length→L.length<m+i →
    eG K n L T m (sm ((wts L).take i)) (i:Int)=if (sm (wts L) == 0)=true then some (List.replicate L.length 0) else dr K n L T (sm (wts L)) n T 0 (List.replicate L.length 0) (List.replicate L.length 0):=by
  intro m
  induction m with
  | zero=>intro i h1 h2; omega
  | succ m ih =>
    intro i h1 h2
    simp only [eG,fK]
    by_cases hi:i<L.length
    · have hb:=sm_wts hL
      have hs:=sm_take (W:=wts L) (fun w hw=>(bu L w hw).1) (i+1)
      have e:=d5 (W:=wts L) (i:=i) (by rw [aJ]; exact hi)
      have el:=dm hi
      rw [iteT (by omega),aq (by omega),tnat]
      simp only [cP,sb]
      rw [wn (n:=(i:Int)+1) (k:=i+1) (by omega) (by omega)]
      rw [show w64 (sm ((wts L).take i)+min (max (L.getD i default) 0) 2147483647)=sm ((wts L).take (i+1)) by
        rw [e,el]; exact aW (by rw [e,el] at hs; unfold lim mx at hs; omega) (by rw [e,el] at hs; unfold lim mx at hs; omega)]
      exact ih (i+1) (by omega) (by omega)
    · rw [iteF (by omega),List.take_of_length_le (by rw [aJ]; omega)]
      simp only [mkb_of (show L.length*8≤140737488355328 by omega) (by omega),bw,tnat,sb]
theorem r_parts (L:List Int) (T:Int) (hT:0≤T∧T≤2147483647) (hL:L.length≤10000) (hS:0<sm (wts L)):∀ (m i:Nat),i≤L.length→L.length<m+i →
    dr K n L T (sm (wts L)) m (T - sm (((wts L).take i).map (q T (sm (wts L))))) (i:Int) (((wts L).take i).map (q T (sm (wts L)))++List.replicate (L.length - i) 0) (((wts L).take i).map (r T (sm (wts L)))++List.replicate (L.length - i) 0) =
    cV K n n (left T (wts L)) ((wts L).map (q T (sm (wts L)))) ((wts L).map (r T (sm (wts L)))):=by
  intro m
  induction m with
  | zero=>intro i h1 h2; omega
  | succ m ih =>
    intro i h1 h2
    simp only [dr,fQ]
    by_cases hi:i<L.length
    · have hW:=fun w hw=>(bu L w hw).1
      have hlp:=left_part hT.1 hW hS
      have el:=dm hi
      obtain ⟨k,ek⟩:∃ k,L.length - i=k+1:=⟨L.length - i - 1,by omega⟩
      have hw:=bu L ((wts L).getD i default) (by rw [aQ (by rw [aJ]; exact hi)]; exact List.getElem_mem _)
      have hm:=mul_bd hT.1 hT.2 hw.1 hw.2
      rw [iteT (by omega),aq (by omega),tnat]
      simp only [cP,sb]
      have ew:min (max (L.getD i default) 0) 2147483647=(wts L).getD i default:=by rw [el]; rfl
      rw [ew,aW (n:=T*(wts L).getD i default) (by omega) (by omega)]
      have hz:(sm (wts L) != 0)=true:=by simp; omega
      rw [hz,bw,bw]
      have la:(((wts L).take i).map (q T (sm (wts L)))++List.replicate (L.length - i) 0).length=L.length:=by simp [aJ]; omega
      have lb:(((wts L).take i).map (r T (sm (wts L)))++List.replicate (L.length - i) 0).length=L.length:=by simp [aJ]; omega
      simp only [List.length_set]
      rw [la,lb,aq (by omega),aq (by omega),aq (by omega),ek]
      have l1:i=(((wts L).take i).map (q T (sm (wts L)))).length:=by simp [aJ]; omega
      have l2:i=(((wts L).take i).map (r T (sm (wts L)))).length:=by simp [aJ]; omega
      rw [fv l1,fv l2,get_rep l1]
      have hq:=q_bd hS hT.1 hw.1 (c6 _ hW _ (by rw [aQ (by rw [aJ]; exact hi)]; exact List.getElem_mem _))
      have ed:w64 (Int.tdiv (T*(wts L).getD i default) (sm (wts L)))=q T (sm (wts L)) ((wts L).getD i default):=by
        rw [Int.tdiv_eq_ediv_of_nonneg hm.1]
        exact aW (by show _≤q _ _ _; omega) (by show q _ _ _≤_; omega)
      have er:Int.tmod (T*(wts L).getD i default) (sm (wts L))=r T (sm (wts L)) ((wts L).getD i default):=by
        rw [Int.tmod_eq_emod_of_nonneg hm.1]; rfl
      rw [ed,er,← d9 _ (by rw [aJ]; exact hi),← d9 _ (by rw [aJ]; exact hi)]
      have e1:w64 (T - sm (((wts L).take i).map (q T (sm (wts L)))) - q T (sm (wts L)) ((wts L).getD i default))=T - sm (((wts L).take (i+1)).map (q T (sm (wts L)))):=by
        rw [d9 _ (by rw [aJ]; exact hi),dC]
        simp only [sm]
        have a1:=hlp i
        rw [aW (by omega) (by omega)]; omega
      rw [e1,wn (n:=(i:Int)+1) (k:=i+1) (by omega) (by omega)]
      have:=ih (i+1) (by omega) (by omega)
      rw [show L.length - (i+1)=k by omega] at this
      exact this
    · have:i=L.length:=by omega
      subst this
      rw [iteF (by omega)]
      have ew:(wts L).take L.length=wts L:=List.take_of_length_le (by rw [aJ]; omega)
      rw [ew]
      simp only [Nat.sub_self,List.replicate_zero,List.append_nil]
      rfl
structure Best (rs:List Int) (i b:Nat):Prop where
  lt:b<i
  before:∀ k,k<b→rs.getD k default<rs.getD b default
  all:∀ k,k<i→rs.getD k default≤rs.getD b default
theorem best_one (rs:List Int):Best rs 1 0:=⟨by omega,fun k hk=>by omega,fun k hk=>by
  have:k=0:=by omega
  subst this; exact Int.le_refl _⟩
theorem r_best (v27:Int) (p rs:List Int) (L3:Int→List Int→List Int→Option (List Int)) (hl:rs.length≤10000):∀ (m i b:Nat),i≤rs.length→rs.length<m+i→Best rs i b →
    ∃ b',Best rs rs.length b'∧eQ K n v27 p rs L3 m (b:Int) (i:Int)=(chk (inb (b':Int) p.length) (
    chk (inb (b':Int) p.length) (
    (some (List.set p b' (w64 ((List.getD p b' default)+1)))).bind fun v36 =>
    chk (inb (b':Int) rs.length) (
    L3 (w64 (v27 - 1)) v36 (List.set rs b' (-1)))))):=by
  intro m
  induction m with
  | zero=>intro i b h1 h2; omega
  | succ m ih =>
    intro i b h1 h2 hb
    have hlt:=hb.lt
    simp only [eQ,fm]
    by_cases hi:i<rs.length
    · rw [iteT (by omega),aq (by omega),aq (by omega),tnat,tnat]
      simp only [sb,fu]
      rw [wn (n:=(i:Int)+1) (k:=i+1) (by omega) (by omega)]
      by_cases hc:rs.getD i default>rs.getD b default
      · rw [iteT hc]
        refine ih (i+1) i (by omega) (by omega) ⟨by omega,fun k hk=>?_,fun k hk=>?_⟩
        · have:=hb.all k hk; omega
        · rcases Nat.lt_or_ge k i with q | q
          · have:=hb.all k q; omega
          · obtain rfl:k=i:=by omega
            exact Int.le_refl _
      · rw [iteF hc]
        refine ih (i+1) b (by omega) (by omega) ⟨by omega,hb.before,fun k hk=>?_⟩
        rcases Nat.lt_or_ge k i with q | q
        · exact hb.all k q
        · obtain rfl:k=i:=by omega
          omega
    · rw [iteF (by omega)]
      have:i=rs.length:=by omega
      subst this
      exact ⟨b,hb,by simp only [tnat]⟩
def mark (rs l:List Int):List Int:=l.foldl (fun a i=>a.set i.toNat (-1)) rs
theorem mark_len (l:List Int):∀ rs:List Int,(mark rs l).length=rs.length:=by
  induction l with
  | nil=>intro rs; rfl
  | cons i l ih=>intro rs; show (mark (rs.set i.toNat (-1)) l).length=_; rw [ih]; simp
theorem iv (l:List Int):∀ (rs:List Int) (k:Nat),(∀ i∈l,0≤i)→(k:Int) ∉ l→(mark rs l).getD k default=rs.getD k default:=by
  induction l with
  | nil=>intro rs k _ _; rfl
  | cons i l ih =>
    intro rs k h0 hk
    show (mark (rs.set i.toNat (-1)) l).getD k default=_
    have:=h0 i (by simp)
    rw [ih _ k (fun j hj=>h0 j (by simp [hj])) (fun h=>hk (by simp [h])),jj (fun e=>hk (by simp; omega))]
theorem mark_in (l:List Int):∀ (rs:List Int) (k:Nat),(∀ i∈l,0≤i)→(k:Int)∈l→k<rs.length→(mark rs l).getD k default = -1:=by
  induction l with
  | nil=>intro rs k _ h; simp at h
  | cons i l ih =>
    intro rs k h0 hk hl
    show (mark (rs.set i.toNat (-1)) l).getD k default=_
    by_cases hm:(k:Int)∈l
    · exact ih _ k (fun j hj=>h0 j (by simp [hj])) hm (by simpa using hl)
    · rw [iv l _ k (fun j hj=>h0 j (by simp [hj])) hm]
      have:i=(k:Int):=by rcases List.mem_cons.1 hk with h | h; exact h.symm; exact absurd h hm
      subst this
      rw [Int.toNat_natCast,jc hl]
theorem mark_app (rs l m:List Int):mark rs (l++m)=mark (mark rs l) m:=by simp [mark]
theorem best_is {rs d:List Int} (h:Ord rs d) (h0:∀ k,k<rs.length→0≤rs.getD k default) {t b:Nat} (ht:t<d.length) (hb:Best (mark rs (d.take t)) rs.length b):d.getD t default=(b:Int):=by
  have hnn:∀ i∈d.take t,0≤i:=fun i hi=>by obtain ⟨j,_,rfl⟩:=h.mem.1 (List.mem_of_mem_take hi); omega
  have hm:d.getD t default∈d:=by rw [aQ ht]; exact List.getElem_mem _
  obtain ⟨e,he,ee⟩:=h.mem.1 hm
  have nd:=h.nodup
  have enot:(e:Int) ∉ d.take t:=by
    intro hh
    obtain ⟨i,i1,i2,i3⟩:=QSort.fr hh
    have:=QSort.br h.s i1 ht
    unfold QSort.at_ at this i3
    rw [i3,ee] at this
    exact this.irr
  have ve:(mark rs (d.take t)).getD e default=rs.getD e default:=iv _ _ _ hnn enot
  have hle:=hb.all e he
  rw [ve] at hle
  by_cases hbt:(b:Int)∈d.take t
  · have:=mark_in (d.take t) rs b hnn hbt hb.lt
    have:=h0 e he
    omega
  · have vb:(mark rs (d.take t)).getD b default=rs.getD b default:=iv _ _ _ hnn hbt
    rw [vb] at hle
    by_cases hbe:b=e
    · rw [ee,hbe]
    · exfalso
      have hbd:(b:Int)∈d:=h.mem.2 ⟨b,hb.lt,rfl⟩
      have hbd2:(b:Int)∈d.drop (t+1):=by
        have e1:d=d.take t++d.drop t:=(List.take_append_drop t d).symm
        have e2:d.drop t=d.getD t default::d.drop (t+1):=by rw [List.drop_eq_getElem_cons ht,← aQ ht]
        rw [e2] at e1
        rw [e1] at hbd
        rcases List.mem_append.1 hbd with q | q
        · exact absurd q hbt
        · rcases List.mem_cons.1 q with q | q
          · exfalso; rw [ee] at q; omega
          · exact q
      obtain ⟨i,i1,i2,i3⟩:=QSort.fe hbd2
      have hR:=QSort.br h.s (i:=t) (j:=i) (by omega) i2
      unfold QSort.at_ at hR i3
      rw [i3,ee] at hR
      unfold QSort.R key at hR
      rw [Int.toNat_natCast,Int.toNat_natCast] at hR
      have hbf:=hb.before
      rcases Nat.lt_or_ge e b with q | q
      · have:=hbf e q; rw [ve,vb] at this; omega
      · omega
theorem r_rounds {rs d p:List Int} (h:Ord rs d) (h0:∀ k,k<rs.length→0≤rs.getD k default) (hl:rs.length≤10000) (hp:p.length=rs.length) (hn:10001<n) (l:Nat) (hld:l≤d.length) (hpb:∀ x∈p,0≤x∧x≤4611686018427387904):∀ (m t:Nat),t≤l→l<m+t →
    cV K n m ((l - t:Nat):Int) (inc p (d.take t)) (mark rs (d.take t))=some (inc p (d.take l)):=by
  intro m
  induction m with
  | zero=>intro t h1 h2; omega
  | succ m ih =>
    intro t h1 h2
    simp only [cV,gx]
    have hdl:=h.len
    by_cases ht:t<l
    · rw [iteT (by omega)]
      have hr0:0<rs.length:=by omega
      have ml:=mark_len (d.take t) rs
      obtain ⟨b,hb,e⟩:=r_best (K:=K) (n:=n) ((l - t:Nat):Int) (inc p (d.take t)) (mark rs (d.take t)) (cV K n m) (by rw [ml]; exact hl) n 1 0 (by omega) (by omega) (best_one _)
      rw [show ((0:Nat):Int)=0 from rfl,show ((1:Nat):Int)=1 from rfl] at e
      rw [e]
      rw [ml] at hb
      have hbi:=best_is h h0 (by omega) hb
      have hblt:=hb.lt
      rw [inc_len,hp,ml,aq (by omega),aq (by omega),sb,aq (by omega)]
      rw [wn (n:=((l - t:Nat):Int) - 1) (k:=l - (t+1)) (by omega) (by omega)]
      have hnd:(d.take t).Nodup:=h.nodup.sublist (List.take_sublist _ _)
      have hnn:∀ i∈d.take t,0≤i:=fun i hi=>by obtain ⟨j,_,rfl⟩:=h.mem.1 (List.mem_of_mem_take hi); omega
      have hv:=inc_at (d.take t) p b hnd hnn (by omega)
      have hpv:=hpb (p.getD b default) (by rw [aQ (by omega)]; exact List.getElem_mem _)
      have hw:w64 ((inc p (d.take t)).getD b default+1)=(inc p (d.take t)).getD b default+1:=by
        refine aW ?_ ?_<;>(rw [hv]; split<;>omega)
      have es:d.take (t+1)=d.take t++[(b:Int)]:=by
        rw [List.take_succ_eq_append_getElem (by omega),← aQ (by omega),hbi]
      have e1:List.set (inc p (d.take t)) b ((inc p (d.take t)).getD b default+1)=inc p (d.take (t+1)):=by
        rw [es,inc_app]; rfl
      have e2:List.set (mark rs (d.take t)) b (-1)=mark rs (d.take (t+1)):=by
        rw [es,mark_app]; rfl
      rw [hw,e1,e2]
      exact ih (t+1) (by omega) (by omega)
    · have:t=l:=by omega
      subst this
      rw [iteF (by omega)]
theorem ref_ok {K:Kn} {n:Nat} (T:Int) (L:List Int) (hL:L.length≤10000) (hn:10001<n):dj K n T L=some (share (lim T mx) (wts L)):=by
  unfold dj
  have hT:0≤lim T mx∧lim T mx≤2147483647:=lim_bd (m:=mx) (by decide)
  simp only [cP,sb]
  have h1:=r_sum (K:=K) (n:=n) L (lim T mx) hL n 0 (by omega) (by omega)
  rw [show sm ((wts L).take 0)=0 from rfl,show ((0:Nat):Int)=0 from rfl] at h1
  rw [show min (max T 0) 2147483647=lim T mx from rfl,h1]
  have hsm:=sm_wts hL
  by_cases hz:sm (wts L)=0
  · rw [if_pos (by simp [hz])]
    unfold share
    rw [if_pos hz,aJ]
  · rw [if_neg (by simp [hz])]
    have hS:0<sm (wts L):=by omega
    have h2:=r_parts (K:=K) (n:=n) L (lim T mx) hT hL hS n 0 (by omega) (by omega)
    simp only [List.take_zero,List.map_nil,List.nil_append,Nat.sub_zero,sm,Int.sub_zero] at h2
    rw [show ((0:Nat):Int)=0 from rfl] at h2
    rw [h2]
    obtain ⟨d,o1,o2⟩:=sorted ((wts L).map (r (lim T mx) (sm (wts L)))) (lvl:=20010) (n:=10002) (by omega) (by simp [aJ,hL]) (Nat.le_refl _)
    have hd:d.length=L.length:=by rw [o1.len,List.length_map,aJ]
    have hlb:=fC (lim T mx) (wts L) hS
    rw [aJ] at hlb
    rw [iC (lim T mx) (wts L) d (fun w hw=>(bu L w hw).1) (by omega) o1]
    have:=r_rounds (K:=K) (n:=n) (p:=(wts L).map (q (lim T mx) (sm (wts L)))) o1 (fun k hk=>by
      rw [List.length_map] at hk
      rw [fY _ _ _ hk]; exact (r_bd hS).1) (by simp [aJ,hL]) (by simp) hn (left (lim T mx) (wts L)).toNat (by omega) (fun x hx=>by
      obtain ⟨w,hw,rfl⟩:=List.mem_map.1 hx
      have:=q_bd hS hT.1 (bu L w hw).1 (c6 _ (fun w hw=>(bu L w hw).1) w hw)
      omega) n 0 (by omega) (by omega)
    rw [show (((left (lim T mx) (wts L)).toNat - 0:Nat):Int)=left (lim T mx) (wts L) by omega] at this
    exact this
end Sh
end Go.Proofs.Ytolhpahjgddjkaa
namespace Go.Proofs.Ytolhpahjgddjkaa
set_option linter.all false
open Go.RowKit
namespace Sh
theorem iU {T:Int} {W:List Int} (hS:sm W≠0) {k:Nat} (hk:k<W.length):(share T W).getD k default=part T W k:=by
  rw [aQ (by rw [cr]; exact hk)]
  unfold share
  simp [hS]
theorem iV {T:Int} {W:List Int} (hS:sm W=0):share T W=List.replicate W.length 0:=by unfold share; rw [if_pos hS]
theorem sm_rep:∀ n:Nat,sm (List.replicate n 0)=0
  | 0=>rfl
  | n+1=>by simp [List.replicate_succ,sm,sm_rep n]
theorem share_sum {T:Int} {W:List Int} (hW:∀ w∈W,0≤w) (hS:sm W≠0) (hl:W.length≤10000):sm (share T W)=T:=by
  have hS0:0<sm W:=by have:=bH W hW; omega
  obtain ⟨d,o1,o2⟩:=sorted (W.map (r T (sm W))) (lvl:=20010) (n:=10002) (by omega) (by simpa using hl) (Nat.le_refl _)
  have hlb:=fC T W hS0
  have hd:d.length=W.length:=by rw [o1.len,List.length_map]
  rw [iC T W d hW hS o1,inc_sum _ _ (fun i hi=>by
    obtain ⟨j,hj,rfl⟩:=o1.mem.1 (List.mem_of_mem_take hi)
    simp at hj ⊢; omega)]
  have:(d.take (left T W).toNat).length=(left T W).toNat:=by simp; omega
  rw [this]
  unfold left at *
  omega
theorem part_close {T:Int} {W:List Int} (hS:0<sm W) (k:Nat):part T W k*sm W - T*W.getD k default<sm W∧T*W.getD k default - part T W k*sm W<sm W:=by
  have h:=Int.mul_ediv_add_emod (T*W.getD k default) (sm W)
  have hr:=r_bd (T:=T) (w:=W.getD k default) hS
  unfold part
  by_cases hw:win T W k
  · rw [if_pos hw]
    have:=hw.1
    rw [Int.add_mul,Int.one_mul,Int.mul_comm (q _ _ _)]
    unfold q r at *
    omega
  · rw [if_neg hw,Int.add_zero,Int.mul_comm (q _ _ _)]
    unfold q r at *
    omega
theorem part_bd {T:Int} {W:List Int} (hW:∀ w∈W,0≤w) (hT:0≤T) (hS:0<sm W) {k:Nat} (hk:k<W.length):0≤part T W k∧part T W k≤T+1:=by
  have hm:W.getD k default∈W:=by rw [aQ hk]; exact List.getElem_mem _
  have:=q_bd hS hT (hW _ hm) (c6 W hW _ hm)
  unfold part
  split<;>omega
end Sh
end Go.Proofs.Ytolhpahjgddjkaa
namespace Go.Proofs.Ytolhpahjgddjkaa.Tb
set_option linter.all false
open Go.RowKit
open Sh (share wts lim mx bH cF aJ dm bu cr sm_rep)
open QSort (wn aq iteT iteF sb)
set_option maxRecDepth 20000
def sz (x:Int):Int:=min (max x 0) 1048576
theorem ca (x:Int):0≤sz x∧sz x≤1048576:=by unfold sz; omega
variable {K:Kn} {n:Nat}
theorem iy (x:Int):dK K n x=some (sz x):=rfl
theorem size_ok (x:Int):cZ K n x=some (sz x):=rfl
theorem width_ok (x:Int):dq K n x=some (sz x):=rfl
def pos (L:List Int):Bool:=L.any fun w=>decide (w>0)
theorem index_ok {lvl n:Nat} (L:List Int) (hl:L.length≤10000):∀ (m i:Nat),i≤L.length→L.length<m+i →
    ∃ x,eM (KN (lvl+1)) n L (Fv.fn 62) m (i:Int)=some x∧decide (x≥0)=pos (L.drop i):=by
  intro m
  induction m with
  | zero=>intro i h1 h2; omega
  | succ m ih =>
    intro i h1 h2
    simp only [eM,fj]
    by_cases hi:i<L.length
    · rw [iteT (by omega),aq (by omega),tnat]
      have e:(KN (lvl+1)).gq (Fv.fn 62) (L.getD i default)=some (decide (L.getD i default>0)):=rfl
      rw [e,sb,List.drop_eq_getElem_cons hi]
      have e2:pos (L[i]::L.drop (i+1))=(decide (L.getD i default>0) || pos (L.drop (i+1))):=by rw [aQ hi]; rfl
      by_cases hp:L.getD i default>0
      · rw [iteT hp,e2]; exact ⟨_,rfl,by simp only [hp,decide_true,Bool.true_or,decide_eq_true_eq]; omega⟩
      · rw [iteF hp,e2,wn (n:=(i:Int)+1) (k:=i+1) (by omega) (by omega)]
        obtain ⟨x,e3,e4⟩:=ih (i+1) (by omega) (by omega)
        exact ⟨x,e3,by rw [e4]; simp only [hp,decide_false,Bool.false_or]⟩
    · rw [iteF (by omega),List.drop_eq_nil_of_le (by omega)]
      exact ⟨_,rfl,rfl⟩
theorem contains_ok {lvl n:Nat} (L:List Int) (hl:L.length≤10000) (hn:10000<n) (hlv:0<lvl):fP (KN lvl) n L (Fv.fn 62)=some (pos L):=by
  obtain ⟨k,rfl⟩:∃ k,lvl=k+1:=⟨lvl - 1,by omega⟩
  unfold fP gW
  obtain ⟨x,e,e2⟩:=index_ok (lvl:=k) (n:=n) L hl n 0 (by omega) (by omega)
  rw [show ((0:Nat):Int)=0 from rfl] at e
  rw [e,sb,e2]; rfl
theorem and_low {x:Nat} (h:x≤10000):iand .u64 (x:Int) 4294967295=(x:Int):=by
  unfold iand
  have e1:BitVec.ofInt (IntKind.bits .u64) (x:Int)=BitVec.ofNat 64 x:=BitVec.ofInt_natCast 64 x
  have e2:BitVec.ofInt (IntKind.bits .u64) (4294967295:Int)=BitVec.ofNat 64 4294967295:=rfl
  have e3:(BitVec.ofNat 64 x &&& BitVec.ofNat 64 4294967295).toNat=x:=by
    rw [BitVec.toNat_and,BitVec.toNat_ofNat,BitVec.toNat_ofNat,Nat.mod_eq_of_lt (by omega),Nat.mod_eq_of_lt (by omega),show (4294967295:Nat)=2 ^ 32 - 1 from rfl,Nat.and_two_pow_sub_one_eq_mod]
    omega
  have e4:(BitVec.ofInt (IntKind.bits .u64) (x:Int) &&& BitVec.ofInt (IntKind.bits .u64) (4294967295:Int)).toNat=x:=by rw [e1,e2]; exact e3
  rw [e4,IntKind.wrap_u64]; omega
theorem mul_ok {c:Nat} (h:c≤10000):go K n 1 (c:Int)=some ((0:Int),(c:Int)):=by
  unfold go gS
  have a1:iand .u64 (1:Int) 4294967295=1:=and_low (x:=1) (by omega)
  have a0:iand .u64 (0:Int) 4294967295=0:=and_low (x:=0) (by omega)
  have w0:IntKind.wrap .u64 0=0:=by rw [IntKind.wrap_u64]; rfl
  have wc:IntKind.wrap .u64 (c:Int)=c:=by rw [IntKind.wrap_u64]; omega
  have d1:(1:Int) / 4294967296=0:=by decide
  have dc:(c:Int) / 4294967296=0:=by omega
  simp only [Option.bind_some,and_low h,a1,d1,dc,Int.zero_mul,Int.mul_zero,Int.one_mul,w0,wc,Int.add_zero,a0,Int.zero_add,Int.zero_ediv]
theorem rep_loop (c:Nat) (hc:c≤10000):∀ (m a:Nat),0<a→a≤c→c<m+a →
    eU K n m (a:Int) (List.replicate a 1++List.replicate (c - a) 0)=some (List.replicate c 1):=by
  intro m
  induction m with
  | zero=>intro i h1 h2; omega
  | succ m ih =>
    intro a h0 h1 h2
    have hl:(List.replicate a (1:Int)++List.replicate (c - a) 0).length=c:=by simp; omega
    simp only [eU,ga,hl]
    by_cases hi:a<c
    · rw [iteT (by omega),Sh.slb_of (by omega) (by omega) (by omega),bw,Sh.slb_of (by omega) (by omega) (by omega),bw]
      have e1:cpb ((a:Int)).toNat (((c:Int)).toNat - ((a:Int)).toNat) c ((0:Int).toNat) (((a:Int)).toNat - (0:Int).toNat) c=true:=by
        simp only [cpb,Bool.and_eq_true,decide_eq_true_eq]; omega
      rw [e1,bw]
      have e2:cpy (List.replicate a (1:Int)++List.replicate (c - a) 0) ((a:Int)).toNat (((c:Int)).toNat - ((a:Int)).toNat) (List.replicate a (1:Int)++List.replicate (c - a) 0) ((0:Int).toNat) (((a:Int)).toNat - (0:Int).toNat)=List.replicate (a+min a (c - a)) (1:Int)++List.replicate (c - (a+min a (c - a))) 0:=by
        simp only [tnat,Int.toNat_zero,Nat.sub_zero]
        unfold cpy
        rw [List.drop_zero,List.take_append_of_le_length (by simp),List.take_append_of_le_length (by simp; omega),List.take_replicate,List.take_replicate,Nat.min_self,show List.drop (a+min a (c - a)) (List.replicate a (1:Int)++List.replicate (c - a) 0)=List.replicate (c - (a+min a (c - a))) 0 by
          rw [List.drop_append,List.drop_eq_nil_of_le (by simp),List.nil_append,List.drop_replicate]; congr 1; simp; omega,← List.append_assoc,List.replicate_append_replicate]
        congr 2
        omega
      rw [e2]
      have e3:w64 ((a:Int)+((min (((a:Int)).toNat - (0:Int).toNat) (((c:Int)).toNat - ((a:Int)).toNat):Nat):Int))=((a+min a (c - a):Nat):Int):=by
        simp only [tnat,Int.toNat_zero,Nat.sub_zero]
        exact wn (by omega) (by omega)
      rw [e3]
      exact ih (a+min a (c - a)) (by omega) (by omega) (by omega)
    · obtain rfl:a=c:=by omega
      rw [iteF (by omega),Nat.sub_self,List.replicate_zero,List.append_nil]
theorem repeat_ok {n:Nat} (c:Nat) (hc:c≤10000) (hn:10000<n):fF K n [1] (c:Int)=some (List.replicate c 1):=by
  unfold fF
  have w1:IntKind.wrap .u64 (((([1]:List Int).length:Nat)):Int)=1:=by rw [IntKind.wrap_u64]; rfl
  have wc:IntKind.wrap .u64 (c:Int)=c:=by rw [IntKind.wrap_u64]; omega
  rw [iteF (by omega),w1,wc,mul_ok hc,sb,iteF (by simp)]
  unfold gh
  have hw:w64 (c:Int)=c:=aW (by omega) (by omega)
  simp only [hw,tnat,Option.bind_some,List.length_replicate,show decide ((c:Int)>9223372036854775807)=false by simp; omega,Bool.false_eq_true,if_false]
  rw [Sh.mkb_of (by omega) (by omega),bw,show cpb 0 c c 0 ([1]:List Int).length ([1]:List Int).length=true by simp [cpb],bw]
  by_cases h0:c=0
  · subst h0
    obtain ⟨k,rfl⟩:∃ k,n=k+1:=⟨n - 1,by omega⟩
    rfl
  · have e:cpy (List.replicate c (0:Int)) 0 c [1] 0 ([1]:List Int).length=List.replicate 1 (1:Int)++List.replicate (c - 1) 0:=by
      obtain ⟨k,rfl⟩:∃ k,c=k+1:=⟨c - 1,by omega⟩
      simp [cpy,List.replicate_succ]
    rw [e,show ((min ([1]:List Int).length c:Nat):Int)=((1:Nat):Int) by simp; omega]
    exact rep_loop c hc n 1 (by omega) (by omega) (by omega)
def eqw (W:List Int):List Int:=if pos W=true then W else List.replicate W.length 1
theorem ch (W:List Int):(eqw W).length=W.length:=by unfold eqw; split<;>simp
theorem tshare_ok {lvl n:Nat} (T:Int) (W:List Int) (hl:W.length≤10000) (hn:10001<n) (hlv:20010≤lvl):fz (KN lvl) n T W=some (share (lim T mx) (wts (eqw W))):=by
  unfold fz fE
  rw [contains_ok W hl (by omega) (by omega),sb]
  unfold eqw
  cases hp:pos W
  · simp only [Bool.not_false,if_true,Bool.false_eq_true,if_false]
    rw [repeat_ok W.length hl (by omega),sb,Sh.flex_ok T (List.replicate W.length 1) (by simpa using hl) (by omega) (by omega)]; rfl
  · simp only [Bool.not_true,Bool.false_eq_true,if_false,if_true]
    rw [Sh.flex_ok T W hl (by omega) (by omega)]; rfl
end Go.Proofs.Ytolhpahjgddjkaa.Tb
namespace Go.Proofs.Ytolhpahjgddjkaa.Tb
set_option linter.all false
open Go.RowKit
open Sh (share wts lim mx bH cF aJ dm bu cr sm_rep)
open QSort (wn aq iteT iteF sb)
set_option maxRecDepth 20000
variable {K:Kn} {n:Nat}
def cA (c:aw):Int:=sz c.Least
def cB (c:aw):Int:=max (sz c.Most) (sz c.Least)
def cR (c:aw):Int:=cB c - cA c
theorem cI (c:aw):0≤cA c∧cA c≤cB c∧cB c≤1048576:=by
  have h1:=ca c.Least; have h2:=ca c.Most
  unfold cA cB; omega
def Z (L:List aw):List Int:=List.replicate L.length 0
def adds (A P:List Int):List Int:=tab A.length fun k=>A.getD k default+P.getD k default
theorem cv (A P:List Int):(adds A P).length=A.length:=tab_len _ _
theorem cM {A P:List Int} {k:Nat} (h:k<A.length):(adds A P).getD k default=A.getD k default+P.getD k default:=tab_at h
theorem bi {f:aw→Int} {L:List aw} {k:Nat} (h:k<L.length):(L.map f).getD k default=f (L.getD k default):=by simp [List.getD_eq_getElem?_getD,h]
theorem eX {f:aw→Int} {L:List aw} {i:Nat} (h:i<L.length):sm ((L.map f).take (i+1))=sm ((L.map f).take i)+f (L.getD i default):=by
  rw [Sh.d5 (by simpa using h),bi h]
theorem dL {f:aw→Int} (hf:∀ c,0≤f c∧f c≤1048576) (L:List aw) (hl:L.length≤10000) (i:Nat):0≤sm ((L.map f).take i)∧sm ((L.map f).take i)≤10485760000:=by
  refine ⟨bH _ (fun x hx=>?_),?_⟩
  · obtain ⟨c,_,rfl⟩:=List.mem_map.1 (List.mem_of_mem_take hx); exact (hf c).1
  · have h1:=cF (c:=1048576) ((L.map f).take i) (fun x hx=>by obtain ⟨c,_,rfl⟩:=List.mem_map.1 (List.mem_of_mem_take hx); exact (hf c).2)
    have h2:(((L.map f).take i).length:Int)≤10000:=by simp; omega
    have:=Int.mul_le_mul_of_nonneg_right h2 (show (0:Int)≤1048576 by omega)
    omega
theorem fA (c:aw):0≤cA c∧cA c≤1048576:=by have:=cI c; omega
theorem fB (c:aw):0≤cB c∧cB c≤1048576:=by have:=cI c; omega
theorem fR (c:aw):0≤cR c∧cR c≤1048576:=by have:=cI c; unfold cR; omega
theorem sm_bd' {f:aw→Int} (hf:∀ c,0≤f c∧f c≤1048576) (L:List aw) (hl:L.length≤10000):0≤sm (L.map f)∧sm (L.map f)≤10485760000:=by
  have:=dL hf L hl (L.map f).length
  rwa [List.take_length] at this
def divide (L:List aw) (w:Int):List Int :=
  if w≤sm (L.map cA) then L.map cA
  else if w<sm (L.map cB) then adds (L.map cA) (share (sz (w - sm (L.map cA))) (L.map cR))
  else adds (L.map cB) (share (sz (w - sm (L.map cB))) (eqw (L.map cB)))
theorem wts_id {W:List Int} (h:∀ w∈W,0≤w∧w≤2147483647):wts W=W:=by
  unfold wts
  conv=>rhs; rw [←List.map_id W]
  refine List.map_congr_left (fun w hw=>?_)
  have:=h w hw
  unfold lim mx; simp; omega
theorem lim_sz (x:Int):lim (sz x) mx=sz x:=by have:=ca x; unfold lim mx; omega
theorem cL {W:List Int} (h:∀ w∈W,0≤w∧w≤2147483647):∀ w∈eqw W,0≤w∧w≤2147483647:=by
  unfold eqw; split
  · exact h
  · intro w hw; have:=(List.mem_replicate.1 hw).2; omega
theorem bq {f:aw→Int} (hf:∀ c,0≤f c∧f c≤1048576) (L:List aw):∀ w∈L.map f,0≤w∧w≤2147483647:=by
  intro w hw; obtain ⟨c,_,rfl⟩:=List.mem_map.1 hw; have:=hf c; omega
theorem di (f:aw→Int) {L:List aw}:(L.map f).take L.length=L.map f:=List.take_of_length_le (by simp)
theorem mix_map (f:aw→Int) {L:List aw}:mix L.length (L.map f) (Z L)=L.map f:=by
  have h:(L.map f).length=(Z L).length:=by simp [Z]
  have:=hI h
  rwa [show (Z L).length=L.length by simp [Z]] at this
theorem d_l3 (A P:List Int) (hAP:A.length=P.length) (hl:A.length≤10000) (hb:∀ k,k<A.length → -4611686018427387904≤A.getD k default+P.getD k default∧A.getD k default+P.getD k default≤4611686018427387904):∀ (m i:Nat),i≤A.length→A.length<m+i →
    fa K n P m (i:Int) (mix i (adds A P) A)=some (adds A P):=by
  intro m
  induction m with
  | zero=>intro i h1 h2; omega
  | succ m ih =>
    intro i h1 h2
    simp only [fa,fV]
    have hm:=cJ (i:=i) (cv A P)
    by_cases hi:i<A.length
    · rw [iteT (by omega),aq (by omega),hm,aq (by omega),aq (by omega)]
      simp only [tnat]
      have:=hb i hi
      rw [mix_at (cv A P) hi,show w64 (A.getD i default+P.getD i default)=(adds A P).getD i default by rw [cM hi]; exact aW (by omega) (by omega),eK (cv A P) hi,wn (n:=(i:Int)+1) (k:=i+1) (by omega) (by omega)]
      exact ih (i+1) (by omega) (by omega)
    · obtain rfl:i=A.length:=by omega
      rw [iteF (by omega),hI (cv A P)]
theorem d_add (A P:List Int) (hAP:A.length=P.length) (hl:A.length≤10000) (hn:10001<n) (hb:∀ k,k<A.length → -4611686018427387904≤A.getD k default+P.getD k default∧A.getD k default+P.getD k default≤4611686018427387904):fM K n A P=some (adds A P):=by
  have:=d_l3 (K:=K) (n:=n) A P hAP hl hb n 0 (by omega) (by omega)
  rwa [gO] at this
theorem cO {T:Int} {W:List Int} (hT:0≤T∧T≤1048576) (hW:∀ w∈W,0≤w) (k:Nat) (hk:k<W.length):0≤(share T W).getD k default∧(share T W).getD k default≤1048577:=by
  by_cases hS:sm W=0
  · rw [Sh.iV hS]; simp [List.getD_eq_getElem?_getD,hk]
  · rw [Sh.iU hS hk]
    have:=Sh.part_bd hW hT.1 (by have:=bH W hW; omega) hk
    omega
theorem d_l1 {lvl n:Nat} (L:List aw) (w:Int) (hw:w≤9223372036854775807) (hl:L.length≤10000) (hn:10001<n) (hlv:20010≤lvl):∀ (m i:Nat),i≤L.length→L.length<m+i →
    ex (KN lvl) n L w m (sm ((L.map cA).take i)) (sm ((L.map cB).take i)) (i:Int) (mix i (L.map cA) (Z L)) (mix i (L.map cB) (Z L)) (mix i (L.map cR) (Z L))=some (divide L w):=by
  have zl:(Z L).length=L.length:=by simp [Z]
  have lA:(L.map cA).length=(Z L).length:=by simp [Z]
  have lB:(L.map cB).length=(Z L).length:=by simp [Z]
  have lR:(L.map cR).length=(Z L).length:=by simp [Z]
  intro m
  induction m with
  | zero=>intro i h1 h2; omega
  | succ m ih =>
    intro i h1 h2
    simp only [ex,fi]
    have mA:=cJ (i:=i) lA; have mB:=cJ (i:=i) lB; have mR:=cJ (i:=i) lR
    have mA':=cJ (i:=i+1) lA; have mB':=cJ (i:=i+1) lB; have mR':=cJ (i:=i+1) lR
    rw [zl] at mA mB mR mA' mB' mR'
    by_cases hi:i<L.length
    · have hi':i<(Z L).length:=by omega
      have eA:List.set (mix i (L.map cA) (Z L)) i (sz (L.getD i default).Least)=mix (i+1) (L.map cA) (Z L):=by
        rw [←eK lA hi',bi hi]; rfl
      have gA:(mix (i+1) (L.map cA) (Z L)).getD i default=cA (L.getD i default):=by rw [jg lA hi',bi hi]
      have eB:List.set (mix i (L.map cB) (Z L)) i (max (sz (L.getD i default).Most) (cA (L.getD i default)))=mix (i+1) (L.map cB) (Z L):=by
        rw [←eK lB hi',bi hi]; rfl
      have gB:(mix (i+1) (L.map cB) (Z L)).getD i default=cB (L.getD i default):=by rw [jg lB hi',bi hi]
      have bc:=cI (L.getD i default)
      have eR:List.set (mix i (L.map cR) (Z L)) i (w64 (cB (L.getD i default) - cA (L.getD i default)))=mix (i+1) (L.map cR) (Z L):=by
        rw [←eK lR hi',bi hi,aW (by omega) (by omega)]; rfl
      have bA:=dL fA L hl i; have bB:=dL fB L hl i
      rw [iteT (by omega),aq (by omega)]
      simp only [tnat,iy,sb]
      rw [mA,aq (by omega),eA,gA,mA',aq (by omega),mB,aq (by omega),eB,gB,mB',aq (by omega),aq (by omega),mR,aq (by omega),eR,aq (by omega),aq (by omega)]
      rw [aW (n:=sm ((L.map cA).take i)+cA (L.getD i default)) (by omega) (by omega),aW (n:=sm ((L.map cB).take i)+cB (L.getD i default)) (by omega) (by omega),← eX hi,← eX hi,wn (n:=(i:Int)+1) (k:=i+1) (by omega) (by omega)]
      exact ih (i+1) (by omega) (by omega)
    · obtain rfl:i=L.length:=by omega
      rw [iteF (by omega)]
      rw [di cA,di cB,mix_map cA,mix_map cB,mix_map cR]
      have bA:=sm_bd' fA L hl; have bB:=sm_bd' fB L hl
      unfold divide
      by_cases h1:w≤sm (L.map cA)
      · rw [iteT h1,if_pos h1]
      · rw [iteF h1,if_neg h1]
        by_cases h2:w<sm (L.map cB)
        · rw [iteT h2,if_pos h2,aW (by omega) (by omega),iy,sb,Sh.flex_ok _ _ (by simpa using hl) (by omega) (by omega),sb,lim_sz,wts_id (bq fR L)]
          refine d_add _ _ (by rw [cr]; simp) (by simpa using hl) hn (fun k hk=>?_)
          have hk':k<L.length:=by simpa using hk
          have b1:=cO (ca (w - sm (L.map cA))) (fun x hx=>(bq fR L x hx).1) k (by simpa using hk')
          have b2:=fA (L.getD k default)
          rw [bi hk']; omega
        · rw [iteF h2,if_neg h2,aW (by omega) (by omega),iy,sb,tshare_ok _ _ (by simpa using hl) (by omega) (by omega),sb,lim_sz,wts_id (cL (bq fB L))]
          refine d_add _ _ (by rw [cr,ch]) (by simpa using hl) hn (fun k hk=>?_)
          have hk':k<L.length:=by simpa using hk
          have b1:=cO (ca (w - sm (L.map cB))) (fun x hx=>(cL (bq fB L) x hx).1) k (by rw [ch]; simpa using hk')
          have b2:=fB (L.getD k default)
          rw [bi hk']; omega
theorem divide_ok {lvl n:Nat} (L:List aw) (w:Int) (hw:w≤9223372036854775807) (hl:L.length≤10000) (hn:10001<n) (hlv:20010≤lvl):eZ (KN lvl) n L w=some (divide L w):=by
  unfold eZ
  simp only [Sh.mkb_of (n:=L.length) (b:=8) (by omega) (by omega),bw,sb,tnat]
  have:=d_l1 (lvl:=lvl) (n:=n) L w hw hl hn hlv n 0 (by omega) (by omega)
  simp only [gO,List.take_zero] at this
  exact this
theorem r_l3 (A P:List Int) (hAP:A.length=P.length) (hl:A.length≤10000) (hb:∀ k,k<A.length → -4611686018427387904≤A.getD k default+P.getD k default∧A.getD k default+P.getD k default≤4611686018427387904):∀ (m i:Nat),i≤A.length→A.length<m+i →
    dN K n P m (i:Int) (mix i (adds A P) A)=some (adds A P)∧cS K n P m (i:Int) (mix i (adds A P) A)=some (adds A P):=by
  intro m
  induction m with
  | zero=>intro i h1 h2; omega
  | succ m ih =>
    intro i h1 h2
    simp only [dN,fU,cS,gf]
    have hm:=cJ (i:=i) (cv A P)
    by_cases hi:i<A.length
    · rw [iteT (by omega),iteT (by omega),hm,aq (by omega),aq (by omega),aq (by omega),aq (by omega),aq (by omega),aq (by omega)]
      simp only [tnat]
      have:=hb i hi
      rw [mix_at (cv A P) hi,show w64 (A.getD i default+P.getD i default)=(adds A P).getD i default by rw [cM hi]; exact aW (by omega) (by omega),eK (cv A P) hi,wn (n:=(i:Int)+1) (k:=i+1) (by omega) (by omega)]
      exact ih (i+1) (by omega) (by omega)
    · obtain rfl:i=A.length:=by omega
      rw [iteF (by omega),iteF (by omega),hI (cv A P)]; exact ⟨rfl,rfl⟩
theorem r_add (A P:List Int) (hAP:A.length=P.length) (hl:A.length≤10000) (hn:10001<n) (hb:∀ k,k<A.length → -4611686018427387904≤A.getD k default+P.getD k default∧A.getD k default+P.getD k default≤4611686018427387904):dN K n P n 0 A=some (adds A P)∧cS K n P n 0 A=some (adds A P):=by
  have:=r_l3 (K:=K) (n:=n) A P hAP hl hb n 0 (by omega) (by omega)
  rwa [gO] at this
theorem r_l5 (w hi:Int) (B W:List Int) (z:Bool) (hl:W.length≤10000):∀ (m i:Nat),i≤W.length→W.length<m+i →
    fc K n w hi z B m (i:Int) (if z then mix i (List.replicate W.length 1) W else W)=(cZ K n (w64 (w - hi))).bind fun T=>(dj K n T (if z then List.replicate W.length 1 else W)).bind fun P=>cS K n P n 0 B:=by
  have le:(List.replicate W.length (1:Int)).length=W.length:=by simp
  intro m
  induction m with
  | zero=>intro i h1 h2; omega
  | succ m ih =>
    intro i h1 h2
    simp only [fc,fX]
    cases z
    · simp only [Bool.false_eq_true,if_false,eO]
    · simp only [if_true] at ih ⊢
      unfold eO
      rw [cJ le]
      by_cases hi:i<W.length
      · rw [iteT (by omega),aq (by omega),tnat]
        have:=eK (i:=i) le hi
        rw [show (List.replicate W.length (1:Int)).getD i default=1 by simp [List.getD_eq_getElem?_getD,hi]] at this
        rw [this,wn (n:=(i:Int)+1) (k:=i+1) (by omega) (by omega)]
        exact ih (i+1) (by omega) (by omega)
      · obtain rfl:i=W.length:=by omega
        rw [iteF (by omega),hI le]
def zer (L:List Int):Bool:=L.all fun b=>b == 0
theorem zer_step {L:List Int} {i:Nat} (h:i<L.length):zer (L.take (i+1))=(zer (L.take i) && (L.getD i default == 0)):=by
  rw [List.take_succ_eq_append_getElem h,aQ h]; simp only [zer,List.all_append,List.all_cons,List.all_nil,Bool.and_true]
theorem zer_pos {L:List Int} (h:∀ w∈L,0≤w):zer L=!pos L:=by
  unfold zer pos
  induction L with
  | nil=>rfl
  | cons x r ih =>
    have:=h x (by simp)
    simp only [List.all_cons,List.any_cons,Bool.not_or,ih (fun y hy=>h y (by simp [hy]))]
    congr 1
    by_cases hx:x=0
    · subst hx; rfl
    · rw [beq_false_of_ne hx,show decide (x>0)=true by simp; omega]; rfl
theorem snoc {f:aw→Int} {L:List aw} {i:Nat} (h:i<L.length):(L.map f).take i++[f (L.getD i default)]=(L.map f).take (i+1):=by
  rw [List.take_succ_eq_append_getElem (by simpa using h),← bi (f:=f) h,aQ (by simpa using h)]
theorem r_l2 {lvl n:Nat} (L:List aw) (w:Int) (hw:w≤9223372036854775807) (hl:L.length≤10000) (hn:10001<n):∀ (m i:Nat),i≤L.length→L.length<m+i →
    dI (KN lvl) n L w m (sm ((L.map cA).take i)) (sm ((L.map cB).take i)) (zer ((L.map cB).take i)) (i:Int) ((L.map cA).take i) ((L.map cR).take i) ((L.map cB).take i)=some (divide L w):=by
  intro m
  induction m with
  | zero=>intro i h1 h2; omega
  | succ m ih =>
    intro i h1 h2
    simp only [dI,gc]
    by_cases hi:i<L.length
    · have bc:=cI (L.getD i default)
      have bA:=dL fA L hl i; have bB:=dL fB L hl i
      rw [iteT (by omega),aq (by omega)]
      simp only [tnat,size_ok,sb]
      rw [aq (by omega)]
      have hj:∀ b,b=zer ((L.map cB).take (i+1))→dT (KN lvl) n L w (sm ((L.map cA).take i)) (sm ((L.map cB).take i)) (i:Int) ((L.map cA).take i) ((L.map cR).take i) ((L.map cB).take i) (sz (L.getD i default).Least) (sz (L.getD i default).Most) (dI (KN lvl) n L w m) b=some (divide L w):=by
        rintro b rfl
        unfold dT
        rw [show sz (L.getD i default).Least=cA (L.getD i default) from rfl,show max (sz (L.getD i default).Most) (cA (L.getD i default))=cB (L.getD i default) from rfl]
        rw [aW (n:=cB (L.getD i default) - cA (L.getD i default)) (by omega) (by omega),show cB (L.getD i default) - cA (L.getD i default)=cR (L.getD i default) from rfl,snoc hi,snoc hi,snoc hi]
        have ft:∀ f:aw→Int,fits (((L.map f).take i).length+([f (L.getD i default)]:List Int).length) 8=true:=fun f=>fits_of (by simp; omega) (by omega)
        rw [ft cA,ft cR,ft cB,bw,bw,bw,aW (by omega) (by omega),aW (by omega) (by omega),← eX hi,← eX hi,wn (n:=(i:Int)+1) (k:=i+1) (by omega) (by omega)]
        exact ih (i+1) (by omega) (by omega)
      have hz:=zer_step (L:=L.map cB) (i:=i) (by simpa using hi)
      rw [bi hi] at hz
      cases h0:zer ((L.map cB).take i)
      · simp only [Bool.false_eq_true,if_false]
        exact hj _ (by rw [hz,h0]; rfl)
      · simp only [if_true]
        exact hj _ (by rw [hz,h0]; rfl)
    · obtain rfl:i=L.length:=by omega
      rw [iteF (by omega)]
      rw [di cA,di cB,di cR]
      have bA:=sm_bd' fA L hl; have bB:=sm_bd' fB L hl
      unfold divide
      by_cases h1:w≤sm (L.map cA)
      · rw [iteT h1,if_pos h1]
      · rw [iteF h1,if_neg h1]
        by_cases h2:w<sm (L.map cB)
        · rw [iteT h2,if_pos h2,aW (by omega) (by omega),size_ok,sb,Sh.ref_ok _ _ (by simpa using hl) (by omega),sb,lim_sz,wts_id (bq fR L)]
          refine (r_add _ _ (by rw [cr]; simp) (by simpa using hl) hn (fun k hk=>?_)).1
          have hk':k<L.length:=by simpa using hk
          have b1:=cO (ca (w - sm (L.map cA))) (fun x hx=>(bq fR L x hx).1) k (by simpa using hk')
          have b2:=fA (L.getD k default)
          rw [bi hk']; omega
        · rw [iteF h2,if_neg h2,fits_of (by simp; omega) (by omega),bw,List.nil_append]
          have h5:=r_l5 (K:=KN lvl) (n:=n) w (sm (L.map cB)) (L.map cB) (L.map cB) (zer (L.map cB)) (by simpa using hl) n 0 (by omega) (by simp; omega)
          rw [gO,ite_self,show ((0:Nat):Int)=0 from rfl] at h5
          have he:(if zer (L.map cB)=true then List.replicate (L.map cB).length 1 else L.map cB)=eqw (L.map cB):=by
            rw [zer_pos (fun x hx=>(bq fB L x hx).1)]; unfold eqw; cases pos (L.map cB)<;>rfl
          rw [h5,he,aW (by omega) (by omega),size_ok,sb,Sh.ref_ok _ _ (by rw [ch]; simpa using hl) (by omega),sb,lim_sz,wts_id (cL (bq fB L))]
          refine (r_add _ _ (by rw [cr,ch]) (by simpa using hl) hn (fun k hk=>?_)).2
          have hk':k<L.length:=by simpa using hk
          have b1:=cO (ca (w - sm (L.map cB))) (fun x hx=>(cL (bq fB L) x hx).1) k (by rw [ch]; simpa using hk')
          have b2:=fB (L.getD k default)
          rw [bi hk']; omega
theorem rdivide_ok {lvl n:Nat} (L:List aw) (w:Int) (hw:w≤9223372036854775807) (hl:L.length≤10000) (hn:10001<n):f8 (KN lvl) n L w=some (divide L w):=by
  unfold f8
  have:=r_l2 (lvl:=lvl) (n:=n) L w hw hl hn n 0 (by omega) (by omega)
  simp only [List.take_zero] at this
  exact this
theorem dX (L:List aw) (w:Int):(divide L w).length=L.length:=by
  unfold divide; split
  · simp
  · split<;>simp [cv]
end Go.Proofs.Ytolhpahjgddjkaa.Tb
namespace Go.Proofs.Ytolhpahjgddjkaa.QTableDivide
set_option linter.all false
open Go.RowKit
open Tb
open Sh (share wts lim mx bH cF aJ dm bu cr sm_rep)
open QSort (wn aq iteT iteF sb)
set_option maxRecDepth 20000
theorem fit_ok (k:Nat):fI (KN (k+12)) (k+12)=some true:=by kernel_rfl
theorem fit_ok' {n:Nat} (h:12≤n):fI (KN n) n=some true:=by
  obtain ⟨k,rfl⟩:∃ k,n=k+12:=⟨n - 12,by omega⟩
  exact fit_ok k
theorem sm_tab (A P:List Int):∀ i,i≤A.length→i≤P.length→sm (tab i fun k=>A.getD k default+P.getD k default)=sm (A.take i)+sm (P.take i):=by
  intro i
  induction i with
  | zero=>intro _ _; rfl
  | succ i ih =>
    intro h1 h2
    rw [tab_succ,dC,ih (by omega) (by omega),Sh.d5 (by omega),Sh.d5 (by omega)]; simp [sm]; omega
theorem sm_adds {A P:List Int} (h:A.length=P.length):sm (adds A P)=sm A+sm P:=by
  unfold adds; rw [sm_tab A P A.length (by omega) (by omega),List.take_length,h,List.take_length]
theorem sm_sub:∀ L:List aw,sm (L.map cR)=sm (L.map cB) - sm (L.map cA)
  | []=>rfl
  | x::r=>by simp only [List.map_cons,sm,sm_sub r,cR]; omega
theorem div_ge (L:List aw) (w:Int) {k:Nat} (hk:k<L.length):cA (L.getD k default)≤(divide L w).getD k default:=by
  have bc:=cI (L.getD k default)
  unfold divide
  split
  · rw [bi hk]; omega
  · split
    · rw [cM (by simpa using hk),bi hk]
      have:=cO (ca (w - sm (L.map cA))) (fun x hx=>(bq fR L x hx).1) k (by simpa using hk)
      omega
    · rw [cM (by simpa using hk),bi hk]
      have:=cO (ca (w - sm (L.map cB))) (fun x hx=>(cL (bq fB L) x hx).1) k (by rw [ch]; simpa using hk)
      omega
theorem part_le {T:Int} {W:List Int} (hW:∀ w∈W,0≤w) (hT:T≤sm W) {k:Nat} (hk:k<W.length):(share T W).getD k default≤W.getD k default:=by
  have h0:0≤W.getD k default:=by rw [aQ hk]; exact hW _ (List.getElem_mem _)
  by_cases hS:sm W=0
  · rw [Sh.iV hS]; simpa [List.getD_eq_getElem?_getD,hk] using h0
  · have hp:0<sm W:=by have:=bH W hW; omega
    rw [Sh.iU hS hk]
    have h1:=(Sh.part_close (T:=T) hp k).1
    have h2:=Int.mul_le_mul_of_nonneg_right hT h0
    have h3:Sh.part T W k*sm W<(W.getD k default+1)*sm W:=by rw [Int.add_mul,Int.one_mul,Int.mul_comm (W.getD k default)]; omega
    have:=Int.lt_of_mul_lt_mul_right h3 (by omega)
    omega
theorem part_zero {W:List Int} (hW:∀ w∈W,0≤w) {k:Nat} (hk:k<W.length):(share 0 W).getD k default≤0:=by
  by_cases hS:sm W=0
  · rw [Sh.iV hS]; simp [List.getD_eq_getElem?_getD,hk]
  · have hp:0<sm W:=by have:=bH W hW; omega
    rw [Sh.iU hS hk]
    have h1:=(Sh.part_close (T:=0) hp k).1
    have h3:Sh.part 0 W k*sm W<1*sm W:=by rw [Int.one_mul]; omega
    have:=Int.lt_of_mul_lt_mul_right h3 (by omega)
    omega
theorem div_le (L:List aw) (w:Int) {k:Nat} (hk:k<L.length) (hw:w≤sm (L.map cB)):(divide L w).getD k default≤cB (L.getD k default):=by
  have bc:=cI (L.getD k default)
  unfold divide
  split
  · rw [bi hk]; omega
  · rename_i h1
    split
    · rename_i h2
      rw [cM (by simpa using hk),bi hk]
      have:=part_le (T:=sz (w - sm (L.map cA))) (W:=L.map cR) (fun x hx=>(bq fR L x hx).1) (by rw [sm_sub]; unfold sz; omega) (k:=k) (by simpa using hk)
      rw [bi hk] at this
      have e:cR (L.getD k default)=cB (L.getD k default) - cA (L.getD k default):=rfl
      omega
    · rename_i h2
      rw [cM (by simpa using hk),bi hk]
      have e:sz (w - sm (L.map cB))=0:=by unfold sz; omega
      rw [e]
      have:=part_zero (W:=eqw (L.map cB)) (fun x hx=>(cL (bq fB L) x hx).1) (k:=k) (by rw [ch]; simpa using hk)
      omega
theorem sm_ones:∀ k:Nat,sm (List.replicate k 1)=k
  | 0=>rfl
  | k+1=>by simp only [List.replicate_succ,sm,sm_ones k]; omega
theorem eqw_sm {W:List Int} (hW:∀ w∈W,0≤w) (h:W≠[]):sm (eqw W)≠0:=by
  unfold eqw
  split
  · rename_i hp
    obtain ⟨x,hx,h2⟩:=List.any_eq_true.1 hp
    have h3:=Sh.c6 W hW x hx
    have:x>0:=by simpa using h2
    omega
  · rw [sm_ones]
    have:=List.length_pos_iff.2 h
    omega
theorem div_sum (L:List aw) (w:Int) (hl:L.length≤10000) (h:L≠[]) (hw:w≤1048576):sm (divide L w)=max w (sm (L.map cA)):=by
  have bA:=sm_bd' fA L hl; have bB:=sm_bd' fB L hl
  have bR:0≤sm (L.map cR):=bH _ (fun x hx=>(bq fR L x hx).1)
  unfold divide
  split
  · omega
  · split
    · rw [sm_adds (by rw [cr]; simp),Sh.share_sum (fun x hx=>(bq fR L x hx).1) (by rw [sm_sub]; omega) (by simpa using hl)]
      unfold sz; omega
    · have:=sm_sub L
      rw [sm_adds (by rw [cr,ch]),Sh.share_sum (fun x hx=>(cL (bq fB L) x hx).1) (eqw_sm (fun x hx=>(bq fB L x hx).1) (by simpa using h)) (by rw [ch]; simpa using hl)]
      unfold sz; omega
theorem div_bd (L:List aw) (w:Int):∀ x∈divide L w,0≤x∧x≤2097153:=by
  intro x hx
  obtain ⟨k,hk,rfl⟩:=List.mem_iff_getElem.1 hx
  rw [dX] at hk
  rw [←aQ]
  have h1:=div_ge L w hk
  have bc:=cI (L.getD k default)
  refine ⟨by omega,?_⟩
  unfold divide
  split
  · rw [bi hk]; omega
  · split
    · rw [cM (by simpa using hk),bi hk]
      have:=cO (ca (w - sm (L.map cA))) (fun x hx=>(bq fR L x hx).1) k (by simpa using hk)
      omega
    · rw [cM (by simpa using hk),bi hk]
      have:=cO (ca (w - sm (L.map cB))) (fun x hx=>(cL (bq fB L) x hx).1) k (by rw [ch]; simpa using hk)
      omega
variable {K:Kn} {n:Nat}
theorem l4 (L:List aw) (w:Int) (hl:L.length≤30):∀ (m i:Nat),i≤L.length→L.length<m+i →
    dv K n L w (divide L w) (sm (L.map cA)) (sm (L.map cB)) (sm (divide L w)) m (i:Int)=some true:=by
  intro m
  induction m with
  | zero=>intro i h1 h2; omega
  | succ m ih =>
    intro i h1 h2
    simp only [dv,fZ]
    by_cases hi:i<L.length
    · rw [iteT (by omega),aq (by omega)]
      have hn:eD K n L w (divide L w) (sm (L.map cA)) (sm (L.map cB)) (sm (divide L w)) (i:Int) (dv K n L w (divide L w) (sm (L.map cA)) (sm (L.map cB)) (sm (divide L w)) m) false=some true:=by
        unfold eD
        rw [if_neg (by decide),wn (n:=(i:Int)+1) (k:=i+1) (by omega) (by omega)]
        exact ih (i+1) (by omega) (by omega)
      by_cases hw:w≤sm (L.map cB)
      · rw [iteT hw,dX,aq (by omega)]
        simp only [tnat,width_ok,sb]
        have h3:=div_le L w hi hw
        have:decide ((divide L w).getD i default>max (sz (L.getD i default).Most) (sz (L.getD i default).Least))=false:=by
          rw [show max (sz (L.getD i default).Most) (sz (L.getD i default).Least)=cB (L.getD i default) from rfl]; exact decide_eq_false (by omega)
        rw [this]; exact hn
      · rw [iteF hw]; exact hn
    · obtain rfl:i=L.length:=by omega
      rw [iteF (by omega)]
      by_cases h0:L=[]
      · subst h0; rfl
      · have:((L.length:Int) == 0)=false:=by
          have:=List.length_pos_iff.2 h0
          simp; omega
        rw [this,if_neg (by decide)]
        unfold gy
        by_cases hw:w>1048576
        · rw [iteT hw]
        · rw [iteF hw,div_sum L w (by omega) h0 (by omega)]; simp
theorem l2 (L:List aw) (w:Int) (hl:L.length≤30) (hn:30<n):∀ (m i:Nat),i≤L.length→L.length<m+i →
    eH K n L w (divide L w) (divide L w) m (sm ((L.map cA).take i)) (sm ((L.map cB).take i)) (sm ((divide L w).take i)) (i:Int)=some true:=by
  intro m
  induction m with
  | zero=>intro i h1 h2; omega
  | succ m ih =>
    intro i h1 h2
    simp only [eH,gz]
    by_cases hi:i<L.length
    · have hi':i<(divide L w).length:=by rw [dX]; exact hi
      have bA:=dL fA L (by omega) i; have bB:=dL fB L (by omega) i
      have bc:=cI (L.getD i default)
      have bD:=sm_bd (B:=2097153) (by omega) ((divide L w).take i) (fun x hx=>by have:=div_bd L w x (List.mem_of_mem_take hx); omega)
      have hlD:(((divide L w).take i).length:Int)≤30:=by rw [List.length_take,dX]; omega
      have:=Int.mul_le_mul_of_nonneg_right hlD (show (0:Int)≤2097153 by omega)
      have bk:=div_bd L w ((divide L w).getD i default) (by rw [aQ hi']; exact List.getElem_mem _)
      have hge:=div_ge L w hi
      rw [iteT (by omega),aq (by omega)]
      simp only [tnat,width_ok,sb]
      rw [aq (by omega),aq (by omega),aq (by omega),aq (by omega)]
      simp only [bne_self_eq_false,Bool.false_eq_true,if_false]
      rw [show sz (L.getD i default).Least=cA (L.getD i default) from rfl,show decide ((divide L w).getD i default<cA (L.getD i default))=false from decide_eq_false (by omega)]
      unfold fH
      rw [if_neg (by decide),show max (sz (L.getD i default).Most) (cA (L.getD i default))=cB (L.getD i default) from rfl,aW (n:=_+cA _) (by omega) (by omega),aW (n:=_+cB _) (by omega) (by omega),aW (n:=sm ((divide L w).take i)+(divide L w).getD i default) (by omega) (by omega),← eX hi,← eX hi,← Sh.d5 hi',wn (n:=(i:Int)+1) (k:=i+1) (by omega) (by omega)]
      exact ih (i+1) (by omega) (by omega)
    · obtain rfl:i=L.length:=by omega
      rw [iteF (by omega),di cA,di cB]
      have:(divide L w).take L.length=divide L w:=List.take_of_length_le (by rw [dX]; omega)
      rw [this]
      exact l4 L w hl n 0 (by omega) (by omega)
theorem holds (x0:List aw) (x1:Int) (h0:HasT Try.prog 32 ((eSl aB) x0)) (h1:HasT Try.prog 3 ((eInt .i64) x1)):∃ n,ig (KN n) n x0 x1=some true:=by
  refine ⟨20020,?_⟩
  have hw:x1≤9223372036854775807:=by 
    obtain ⟨k,hk,hr⟩:=h1.int_inv Try.underlying3
    injection hk with e2 _; injection e2 with _ e2; subst e2
    have : -9223372036854775808≤x1∧x1≤9223372036854775807:=by simpa [Lit.wf,IntKind.min,IntKind.max,IntKind.signed,IntKind.bits] using hr
    exact this.2
  unfold ig
  rw [fit_ok' (by omega)]
  simp only [Option.bind_some,Bool.not_true,Bool.false_eq_true,if_false]
  by_cases hc:(x0.length:Int)>30
  · rw [iteT hc]
  · rw [iteF hc,divide_ok x0 x1 hw (by omega) (by omega) (by omega),rdivide_ok x0 x1 hw (by omega) (by omega)]
    simp only [Option.bind_some]
    have hl:((divide x0 x1).length:Int)=x0.length:=by rw [dX]
    rw [hl]
    simp only [bne_self_eq_false,Bool.false_eq_true,if_false]
    exact l2 x0 x1 (by omega) (by omega) 20020 0 (by omega) (by omega)
end Go.Proofs.Ytolhpahjgddjkaa.QTableDivide
