/- Plain laws about the plain functions: words for all of them. No program in sight. -/
import Derived.Test.YtolhpahjgddjkaaChGf
import Derived.Test.YtolhpahjgddjkaaChGop
namespace Go.Proofs.Ytolhpahjgddjkaa
set_option linter.all false
open Go.RowKit
theorem bR {n:Int} (h1 : -9223372036854775808≤n) (h2:n≤9223372036854775807):w64 n=n:=by
  unfold w64; rw [IntKind.wrap_i64]; omega
theorem cu {α:Type} (x:Option α):chk true x=x:=rfl
theorem inb_of {i:Int} {n:Nat} (h0:0≤i) (h1:i<n):inb i n=true:=by simp [inb,h0,h1]
theorem cc {α:Type} [Inhabited α] {L:List α} {k:Nat} (h:k<L.length):L.getD k default=L[k]:=by simp [List.getD_eq_getElem?_getD,List.getElem?_eq_getElem h]
theorem fits_of {n b:Nat} (h:n*b≤140737488355328) (hb:0<b):fits n b=true:=by
  have h1:n≤n*b:=Nat.le_mul_of_pos_right n hb
  have h2:n≤9223372036854775807:=by omega
  simp only [fits,Bool.and_eq_true,decide_eq_true_eq]
  exact ⟨h2,h⟩
end Go.Proofs.Ytolhpahjgddjkaa
namespace Go.Proofs.Ytolhpahjgddjkaa
set_option linter.all false
open Go.RowKit
set_option maxRecDepth 20000
theorem tnat (i:Nat):((i:Int)).toNat=i:=by omega
def sm:List Int→Int
  | []=>0
  | x::r=>x+sm r
theorem sm_app:∀ (a b:List Int),sm (a++b)=sm a+sm b
  | [],b=>by simp [sm]
  | x::r,b=>by simp only [List.cons_append,sm,sm_app r b]; omega
theorem sm_bd {B:Int} (hB:0≤B):∀ (a:List Int),(∀ x∈a,-B≤x∧x≤B) → -(a.length*B)≤sm a∧sm a≤a.length*B
  | [],_=>by simp [sm]
  | x::r,h=>by
    have h1:=h x (by simp)
    have h2:=sm_bd hB r (fun y hy=>h y (by simp [hy]))
    have e:((x::r).length:Int)*B=r.length*B+B:=by simp [Int.add_mul]
    simp only [sm]; rw [e]; omega
end Go.Proofs.Ytolhpahjgddjkaa
namespace Go.Proofs.Ytolhpahjgddjkaa.QSort
set_option linter.all false
open Go.RowKit
theorem aA {α:Type} {i:Int} {m:Nat} {x:Option α} (h:0≤i∧i<m):chk (inb i m) x=x:=by rw [inb_of h.1 h.2]; rfl
theorem gd {A B:List Int} {x:Int} {i:Nat} (h:i=A.length):(A++x::B).getD i default=x:=by subst h; simp [List.getD_eq_getElem?_getD]
theorem gd1 {A B:List Int} {x y:Int} {i:Nat} (h:i=A.length+1):(A++x::y::B).getD i default=y:=by subst h; simp [List.getD_eq_getElem?_getD]
theorem sw {A B:List Int} {x y:Int} {i j:Nat} (h:i=A.length) (hj:j=A.length+1):List.set (List.set (A++x::y::B) j x) i y=A++y::x::B:=by subst h; subst hj; simp [List.set_append]
theorem sw' {A B:List Int} {x y:Int} {i j:Nat} (h:i=A.length) (hj:j=A.length+1):List.set (List.set (A++x::y::B) i y) j x=A++y::x::B:=by subst h; subst hj; simp [List.set_append]
theorem wn {n:Int} {k:Nat} (h:n=k) (hk:k≤4000000000):w64 n=(k:Int):=by subst h; exact bR (by omega) (by omega)
theorem half {i j:Nat} (h:i+j≤4000000000):w64 ((IntKind.wrap .u64 (w64 ((i:Int)+(j:Int)))) / 2)=(((i+j) / 2:Nat):Int):=by
  rw [wn (n:=(i:Int)+(j:Int)) (k:=i+j) (by omega) (by omega),IntKind.wrap_u64]
  exact wn (by omega) (by omega)
theorem iteT {α:Type} {p:Prop} [Decidable p] {x y:α} (h:p):(if decide p=true then x else y)=x:=by simp [h]
theorem iteF {α:Type} {p:Prop} [Decidable p] {x y:α} (h:¬ p):(if decide p=true then x else y)=y:=by simp [h]
theorem iteB {α:Type} {p:Prop} [Decidable p] {x y:α} (h:¬ p):(if (!decide p)=true then x else y)=x:=by simp [h]
theorem iteC {α:Type} {p:Prop} [Decidable p] {x y:α} (h:p):(if (!decide p)=true then x else y)=y:=by simp [h]
theorem sb {α β:Type} (x:α) (k:α→Option β):(some x).bind k=k x:=rfl
structure Cmp (K:Kn) (f:Fv) (D:Int→Prop) (key:Int→Int):Prop where
  ok:∀ a b,D a→D b→∃ c,K.bC f a b=some c∧(c<0↔key a<key b)
def R (key:Int→Int) (a b:Int):Prop:=key a<key b∨key a=key b∧a<b
theorem R.trans {key:Int→Int} {a b c:Int} (h:R key a b) (h2:R key b c):R key a c:=by unfold R at *; omega
theorem R.asymm {key:Int→Int} {a b:Int} (h:R key a b) (h2:R key b a):False:=by unfold R at *; omega
theorem R.of_lt {key:Int→Int} {a b:Int} (h:b<a):key a<key b↔R key a b:=by unfold R; omega
theorem R.not {key:Int→Int} {a b:Int} (h:a≠b) (h2:¬ R key a b):R key b a:=by unfold R at *; omega
variable {K:Kn} {n:Nat} {f:Fv} {D:Int→Prop} {key:Int→Int}
theorem ins_l2 (hC:Cmp K f D key) (P T:List Int) (b i:Int) (L1:Int→List Int→Option (List Int)):∀ (m:Nat) (S1 S2:List Int) (x:Int),S1.length<m→(∀ y∈S1,y<x∧D y)→D x→(S1++S2).Pairwise (R key)→(∀ y∈S2,R key x y)→P.length+S1.length≤10000 →
    ∃ S',S'.Perm (x::(S1++S2))∧S'.Pairwise (R key)∧d6 K n ((P.length:Nat):Int) b f i L1 m ((P.length+S1.length:Nat):Int) (P++S1++x::S2++T)=L1 (w64 (i+1)) (P++S'++T):=by
  intro m
  induction m with
  | zero=>intro S1 S2 x h; omega
  | succ m ih =>
    intro S1 S2 x hm hS hx hp h2 hl
    simp only [d6,fG]
    rcases List.eq_nil_or_concat S1 with rfl | ⟨S0,y,rfl⟩
    · refine ⟨x::S2,by simp,?_,?_⟩
      · rw [List.pairwise_cons]; exact ⟨h2,by simpa using hp⟩
      · rw [iteF (by simp)]
        simp [dN]
    · simp only [List.concat_eq_append] at *
      have hy:=hS y (by simp)
      simp only [List.length_append,List.length_cons,List.length_nil] at hm hl
      have e1:P++(S0++[y])++x::S2++T=(P++S0)++y::x::(S2++T):=by simp
      have k1:((P.length+(S0++[y]).length:Nat):Int)=((P.length+S0.length+1:Nat):Int):=by simp; omega
      have hlen:((P++S0)++y::x::(S2++T)).length≥P.length+S0.length+2:=by simp; omega
      rw [e1,k1,iteT (by omega)]
      rw [wn (n:=((P.length+S0.length+1:Nat):Int) - 1) (k:=P.length+S0.length) (by omega) (by omega)]
      rw [aA (by omega),aA (by omega)]
      simp only [Int.toNat_natCast]
      rw [gd1 (i:=P.length+S0.length+1) (by simp),gd (i:=P.length+S0.length) (by simp)]
      obtain ⟨c,hc,hlt⟩:=hC.ok x y hx hy.2
      rw [hc,sb]
      simp only [dN]
      by_cases hr:c<0
      · rw [iteT hr]
        rw [wn (n:=((P.length+S0.length+1:Nat):Int) - 1) (k:=P.length+S0.length) (by omega) (by omega)]
        simp only [List.length_set]
        rw [aA (by omega),aA (by omega),aA (by omega),aA (by omega)]
        simp only [Int.toNat_natCast]
        rw [gd1 (i:=P.length+S0.length+1) (by simp),gd (i:=P.length+S0.length) (by simp),sw (by simp) (by simp)]
        have hxy:R key x y:=(R.of_lt hy.1).1 (hlt.1 hr)
        obtain ⟨S',p1,p2,p3⟩:=ih S0 (y::S2) x (by omega) (fun z hz=>hS z (by simp [hz])) hx (by simpa using hp)
          (fun z hz=>by
            rcases List.mem_cons.1 hz with rfl | hz
            · exact hxy
            · exact h2 z hz) (by omega)
        refine ⟨S',by simpa using p1,p2,?_⟩
        have e3:P++S0++x::y::(S2++T)=P++S0++x::(y::S2)++T:=by simp
        rw [e3,p3]
      · rw [iteF hr]
        have hyx:R key y x:=R.not (by omega) (fun h=>hr (hlt.2 ((R.of_lt hy.1).2 h)))
        refine ⟨S0++y::x::S2,?_,?_,by simp⟩
        · exact (List.Perm.of_eq (by simp)).trans (List.perm_middle (l₁:=S0++[y]) (a:=x) (l₂:=S2))
        · simp only [List.append_assoc,List.cons_append,List.nil_append,List.pairwise_append,List.pairwise_cons,List.mem_cons] at hp ⊢
          obtain ⟨q1,⟨q2,q3⟩,q4⟩:=hp
          refine ⟨q1,⟨?_,h2,q3⟩,?_⟩
          · rintro z (rfl | hz)
            · exact hyx
            · exact q2 z hz
          · rintro u hu z (rfl | rfl | hz)
            · exact q4 u hu z (.inl rfl)
            · exact (q4 u hu y (.inl rfl)).trans hyx
            · exact q4 u hu z (.inr hz)
theorem ins_l3 (hC:Cmp K f D key) (P Q:List Int) (hn:10001<n):∀ (m:Nat) (S T:List Int),T.length<m→S≠[]→(∀ y∈S,∀ z∈T,y<z)→T.Pairwise (· < ·)→(∀ y∈S++T,D y)→S.Pairwise (R key)→P.length+S.length+T.length≤10000 →
    ∃ S',S'.Perm (S++T)∧S'.Pairwise (R key)∧cN K n ((P.length:Nat):Int) ((P.length+S.length+T.length:Nat):Int) f m ((P.length+S.length:Nat):Int) (P++S++T++Q)=some (P++S'++Q):=by
  intro m
  induction m with
  | zero=>intro S T h; omega
  | succ m ih =>
    intro S T hm hne hST hT hD hS hl
    simp only [cN,dS]
    cases T with
    | nil=>exact ⟨S,by simp,hS,by rw [iteF (by simp)]; simp⟩
    | cons x T =>
      simp only [List.length_cons] at hm hl ⊢
      rw [iteT (by omega)]
      rw [List.pairwise_cons] at hT
      obtain ⟨S',p1,p2,p3⟩:=ins_l2 (n:=n) hC P (T++Q) ((P.length+S.length+(T.length+1):Nat):Int) ((P.length+S.length:Nat):Int)
        (cN K n ((P.length:Nat):Int) ((P.length+S.length+(T.length+1):Nat):Int) f m) n S [] x (by omega) (fun y hy=>⟨hST y hy x (by simp),hD y (by simp [hy])⟩) (hD x (by simp)) (by simpa using hS) (by simp) (by omega)
      have e:P++S++[x]++(T++Q)=P++S++x::T++Q:=by simp
      rw [e] at p3
      rw [p3,wn (k:=P.length+(S.length+1)) (by omega) (by omega)]
      simp only [List.append_nil] at p1
      have hlen:S'.length=S.length+1:=by rw [p1.length_eq]; simp
      have hmem:∀ y,y∈S'↔y=x∨y∈S:=fun y=>by rw [p1.mem_iff]; simp
      obtain ⟨S'',q1,q2,q3⟩:=ih S' T (by omega) (by intro h; subst h; simp at hlen) (fun y hy z hz=>by
          rcases (hmem y).1 hy with rfl | hy
          · exact hT.1 z hz
          · exact hST y hy z (by simp [hz])) hT.2 (fun y hy=>by
          rcases List.mem_append.1 hy with hy | hy
          · rcases (hmem y).1 hy with rfl | hy
            · exact hD y (by simp)
            · exact hD y (by simp [hy])
          · exact hD y (by simp [hy])) p2 (by omega)
      refine ⟨S'',?_,q2,?_⟩
      · refine q1.trans ((p1.append_right T).trans ?_)
        exact (List.perm_middle (l₁:=S) (a:=x) (l₂:=T)).symm
      · rw [hlen,show P.length+(S.length+1)+T.length=P.length+S.length+(T.length+1) by omega,show P++S'++T++Q=P++S'++(T++Q) by simp] at q3
        exact q3
theorem ins_ok (hC:Cmp K f D key) (P S Q:List Int) (hn:10001<n) (hS:S.Pairwise (· < ·)) (hD:∀ y∈S,D y) (hl:P.length+S.length≤10000) :
    ∃ S',S'.Perm S∧S'.Pairwise (R key)∧dJ K n (P++S++Q) ((P.length:Nat):Int) ((P.length+S.length:Nat):Int) f=some (P++S'++Q):=by
  unfold dJ
  rw [wn (k:=P.length+1) (by omega) (by omega)]
  cases S with
  | nil =>
    obtain ⟨m,rfl⟩:∃ m,n=m+1:=⟨n - 1,by omega⟩
    refine ⟨[],by simp,by simp,?_⟩
    simp only [cN,dS]
    rw [iteF (by simp; omega)]
  | cons x T =>
    rw [List.pairwise_cons] at hS
    simp only [List.length_cons] at hl ⊢
    obtain ⟨S',p1,p2,p3⟩:=ins_l3 (n:=n) hC P Q hn n [x] T (by omega) (by simp) (by simpa using hS.1) hS.2 (by simpa using hD) (by simp) (by simp; omega)
    refine ⟨S',by simpa using p1,p2,?_⟩
    simp only [List.length_cons,List.length_nil,Nat.zero_add] at p3
    rw [show P.length+(T.length+1)=P.length+1+T.length by omega,show P++x::T++Q=P++[x]++T++Q by simp]
    exact p3
theorem swap_l1 (P M Q:List Int):∀ (m:Nat) (X1 Y1 X2 Y2:List Int),X2.length<m→X1.length=Y1.length→X2.length=Y2.length→(P++X1++X2++M++Y1++Y2).length≤10000 →
    dU K n ((P.length:Nat):Int) ((P.length+X1.length+X2.length+M.length:Nat):Int) ((X1.length+X2.length:Nat):Int) m ((X1.length:Nat):Int) (P++Y1++X2++M++X1++Y2++Q)=some (P++Y1++Y2++M++X1++X2++Q):=by
  intro m
  induction m with
  | zero=>intro X1 Y1 X2 Y2 h; omega
  | succ m ih =>
    intro X1 Y1 X2 Y2 hm h1 h2 hl
    simp only [dU,eG]
    cases X2 with
    | nil =>
      cases Y2 with
      | nil=>rw [iteF (by simp)]
      | cons=>simp at h2
    | cons x X2 =>
      cases Y2 with
      | nil=>simp at h2
      | cons y Y2 =>
        simp only [List.length_append,List.length_cons] at hm h1 h2 hl ⊢
        rw [iteT (by omega),wn (n:=((P.length+X1.length+(X2.length+1)+M.length:Nat):Int)+((X1.length:Nat):Int)) (k:=P.length+X1.length+(X2.length+1)+M.length+X1.length) (by omega) (by omega),
          wn (n:=((P.length:Nat):Int)+((X1.length:Nat):Int)) (k:=P.length+X1.length) (by omega) (by omega)]
        simp only [List.length_set,List.length_append,List.length_cons]
        rw [aA (by omega),aA (by omega),aA (by omega),aA (by omega)]
        simp only [Int.toNat_natCast]
        have e1:P++Y1++x::X2++M++X1++y::Y2++Q=(P++Y1)++x::(X2++M++X1++y::(Y2++Q)):=by simp
        have e2:P++Y1++x::X2++M++X1++y::Y2++Q=(P++Y1++x::X2++M++X1)++y::(Y2++Q):=by simp
        have g1:List.getD (P++Y1++x::X2++M++X1++y::Y2++Q) (P.length+X1.length) default=x:=by rw [e1]; exact gd (by simp; omega)
        have g2:List.getD (P++Y1++x::X2++M++X1++y::Y2++Q) (P.length+X1.length+(X2.length+1)+M.length+X1.length) default=y:=by rw [e2]; exact gd (by simp; omega)
        rw [g1,g2]
        have s1:List.set (P++Y1++x::X2++M++X1++y::Y2++Q) (P.length+X1.length) y=(P++Y1++y::X2++M++X1)++y::(Y2++Q):=by
          rw [e1,show P.length+X1.length=(P++Y1).length by simp; omega]; simp
        have s2:List.set ((P++Y1++y::X2++M++X1)++y::(Y2++Q)) (P.length+X1.length+(X2.length+1)+M.length+X1.length) x=P++(Y1++[y])++X2++M++(X1++[x])++Y2++Q:=by
          rw [show P.length+X1.length+(X2.length+1)+M.length+X1.length=(P++Y1++y::X2++M++X1).length by simp; omega]; simp
        rw [s1,s2,wn (n:=((X1.length:Nat):Int)+1) (k:=(X1++[x]).length) (by simp) (by simp; omega)]
        have:=ih (X1++[x]) (Y1++[y]) X2 Y2 (by omega) (by simp; omega) (by omega) (by simp; omega)
        simp only [List.length_append,List.length_cons,List.length_nil,Nat.zero_add] at this ⊢
        rw [show P.length+X1.length+(X2.length+1)+M.length=P.length+(X1.length+1)+X2.length+M.length by omega,show X1.length+(X2.length+1)=X1.length+1+X2.length by omega,this]
        simp
theorem swap_ok (P X M Y Q:List Int) (hXY:X.length=Y.length) (hl:(P++X++M++Y).length≤10000) (hn:10001<n) {b k:Int} (hb:b=((P.length+X.length+M.length:Nat):Int)) (hk:k=((X.length:Nat):Int)) :
    dm K n (P++X++M++Y++Q) ((P.length:Nat):Int) b k f=some (P++Y++M++X++Q):=by
  subst hb; subst hk
  unfold dm
  have:=swap_l1 (K:=K) (n:=n) P M Q n [] [] X Y (by simp at hl; omega) rfl hXY (by simpa using hl)
  simpa using this
theorem rot_l2 (hn:10001<n) (mid:Nat):∀ (m:Nat) (P U V Q:List Int),U.length+V.length<m→P.length+U.length=mid→0<U.length→0<V.length→(P++U++V).length≤10000 →
    eb K n (mid:Int) f m ((U.length:Nat):Int) ((V.length:Nat):Int) (P++U++V++Q)=some (P++V++U++Q):=by
  intro m
  induction m with
  | zero=>intro P U V Q h; omega
  | succ m ih =>
    intro P U V Q hm hmid hU hV hl
    simp only [List.length_append] at hl
    simp only [eb,eS]
    rw [wn (n:=(mid:Int) - ((U.length:Nat):Int)) (k:=P.length) (by omega) (by omega)]
    by_cases he:U.length=V.length
    · rw [if_neg (by simp; omega)]
      have:=swap_ok (K:=K) (n:=n) (f:=f) P U [] V Q he (by simp; omega) hn (b:=(mid:Int)) (k:=((U.length:Nat):Int)) (by simp; omega) rfl
      simp only [List.append_nil] at this
      rw [this,sb]
    · rw [if_pos (by simp; omega)]
      by_cases hgt:U.length>V.length
      · rw [iteT (by omega),wn (n:=((U.length:Nat):Int) - ((V.length:Nat):Int)) (k:=U.length - V.length) (by omega) (by omega)]
        -- U=U1++U2 with |U1| = |V|
        obtain ⟨U1,U2,rfl,hu⟩:∃ U1 U2,U=U1++U2∧U1.length=V.length:=⟨U.take V.length,U.drop V.length,by simp,by simp; omega⟩
        simp only [List.length_append] at hmid hU hl hm hgt he ⊢
        have:=swap_ok (K:=K) (n:=n) (f:=f) P U1 U2 V Q hu (by simp; omega) hn (b:=(mid:Int)) (k:=((V.length:Nat):Int)) (by simp; omega) (by omega)
        rw [show P++(U1++U2)++V++Q=P++U1++U2++V++Q by simp,this,sb]
        simp only [ex]
        have h2:=ih (P++V) U2 U1 Q (by omega) (by simp; omega) (by omega) (by omega) (by simp; omega)
        rw [show U1.length+U2.length - V.length=U2.length by omega,← hu,h2]
        simp
      · rw [iteF (by omega),wn (n:=(mid:Int)+((V.length:Nat):Int)) (k:=mid+V.length) (by omega) (by omega),wn (n:=((mid+V.length:Nat):Int) - ((U.length:Nat):Int)) (k:=mid+V.length - U.length) (by omega) (by omega),
          wn (n:=((V.length:Nat):Int) - ((U.length:Nat):Int)) (k:=V.length - U.length) (by omega) (by omega)]
        obtain ⟨V1,V2,rfl,hv⟩:∃ V1 V2,V=V1++V2∧V2.length=U.length:=⟨V.take (V.length - U.length),V.drop (V.length - U.length),by simp,by simp; omega⟩
        simp only [List.length_append] at hl hm hgt he hV ⊢
        have:=swap_ok (K:=K) (n:=n) (f:=f) P U V1 V2 Q (by omega) (by simp; omega) hn (b:=((mid+(V1.length+V2.length) - U.length:Nat):Int)) (k:=((U.length:Nat):Int)) (by omega) rfl
        rw [show P++U++(V1++V2)++Q=P++U++V1++V2++Q by simp,this,sb]
        simp only [ex]
        have h2:=ih P V2 V1 (U++Q) (by omega) (by omega) (by omega) (by omega) (by simp; omega)
        rw [show V1.length+V2.length - U.length=V1.length by omega,← hv,show P++V2++V1++U++Q=P++V2++V1++(U++Q) by simp,h2]
        simp
theorem rot_ok (P U V Q:List Int) (hn:10001<n) (hU:0<U.length) (hV:0<V.length) (hl:(P++U++V).length≤10000) :
    fA K n (P++U++V++Q) ((P.length:Nat):Int) ((P.length+U.length:Nat):Int) ((P.length+U.length+V.length:Nat):Int) f=some (P++V++U++Q):=by
  unfold fA
  simp only [List.length_append] at hl
  rw [wn (k:=U.length) (by omega) (by omega),wn (k:=V.length) (by omega) (by omega)]
  exact rot_l2 hn _ n P U V Q (by omega) rfl hU hV (by simp; omega)
end Go.Proofs.Ytolhpahjgddjkaa.QSort
namespace Go.Proofs.Ytolhpahjgddjkaa.QSort
set_option linter.all false
open Go.RowKit
variable {K:Kn} {n:Nat} {f:Fv} {D:Int→Prop} {key:Int→Int}
def at_ (L:List Int) (k:Nat):Int:=L.getD k default
theorem at_app {P A Q:List Int} {k:Nat} (h:k<A.length) {i:Nat} (hi:i=P.length+k):(P++A++Q).getD i default=at_ A k:=by
  subst hi
  simp [at_,List.getD_eq_getElem?_getD,List.getElem?_append,h,show ¬ (P.length+k<P.length) by omega]
theorem at_mem {A:List Int} {k:Nat} (h:k<A.length):at_ A k∈A:=by unfold at_; rw [cc h]; exact List.getElem_mem _
theorem mem_at {A:List Int} {x:Int} (h:x∈A):∃ k,k<A.length∧at_ A k=x:=by
  obtain ⟨k,hk,e⟩:=List.getElem_of_mem h
  exact ⟨k,hk,by unfold at_; rw [cc hk,e]⟩
theorem bL {r:Int→Int→Prop} {A:List Int} (h:A.Pairwise r) {i j:Nat} (hij:i<j) (hj:j<A.length):r (at_ A i) (at_ A j):=by
  unfold at_; rw [cc (by omega:i<A.length),cc hj]
  exact List.pairwise_iff_getElem.1 h i j (by omega) hj hij
theorem at_take {A:List Int} {t k:Nat} (h:k<t):at_ (A.take t) k=at_ A k:=by simp [at_,List.getD_eq_getElem?_getD,List.getElem?_take,h]
theorem at_drop {A:List Int} {t k:Nat}:at_ (A.drop t) k=at_ A (t+k):=by simp [at_,List.getD_eq_getElem?_getD]
theorem gS {A:List Int} {t:Nat} {x:Int} (h:x∈A.take t):∃ k,k<t∧k<A.length∧at_ A k=x:=by
  obtain ⟨k,hk,e⟩:=mem_at h
  simp at hk
  exact ⟨k,by omega,by omega,by rw [←e,at_take (by omega)]⟩
theorem ge {A:List Int} {t:Nat} {x:Int} (h:x∈A.drop t):∃ k,t≤k∧k<A.length∧at_ A k=x:=by
  obtain ⟨k,hk,e⟩:=mem_at h
  simp at hk
  exact ⟨t+k,by omega,by omega,by rw [←e,at_drop]⟩
theorem put_in {x:Int} {B:List Int} {t:Nat} (hB:B.Pairwise (R key)) (h1:∀ k,k<t→k<B.length→R key (at_ B k) x) (h2:∀ k,t≤k→k<B.length→R key x (at_ B k)):(B.take t++x::B.drop t).Pairwise (R key):=by
  rw [List.pairwise_append,List.pairwise_cons]
  refine ⟨hB.take,⟨fun y hy=>?_,hB.drop⟩,fun u hu v hv=>?_⟩
  · obtain ⟨k,k1,k2,rfl⟩:=ge hy; exact h2 k k1 k2
  · obtain ⟨i,i1,i2,rfl⟩:=gS hu
    rcases List.mem_cons.1 hv with rfl | hv
    · exact h1 i i1 i2
    · obtain ⟨k,k1,k2,rfl⟩:=ge hv; exact bL hB (by omega) k2
theorem go_right (v:Int):∀ (m:Nat) (P X Q:List Int) (x:Int),X.length<m→(P++X).length≤10000→v=((P.length+X.length+1:Nat):Int) →
    de K n v m ((P.length:Nat):Int) (P++x::X++Q)=some (P++X++x::Q):=by
  intro m
  induction m with
  | zero=>intro P X Q x h; omega
  | succ m ih =>
    intro P X Q x hm hl hv
    subst hv
    simp only [List.length_append] at hl
    simp only [de,eR]
    rw [wn (n:=((P.length+X.length+1:Nat):Int) - 1) (k:=P.length+X.length) (by omega) (by omega)]
    cases X with
    | nil=>rw [iteF (by simp)]; simp
    | cons y X =>
      simp only [List.length_cons] at *
      rw [iteT (by omega),wn (n:=((P.length:Nat):Int)+1) (k:=P.length+1) (by omega) (by omega)]
      simp only [List.length_set,List.length_append,List.length_cons]
      rw [aA (by omega),aA (by omega),aA (by omega),aA (by omega)]
      simp only [Int.toNat_natCast]
      rw [show P++x::y::X++Q=P++x::y::(X++Q) by simp,gd1 rfl,gd rfl,sw' rfl rfl]
      have:=ih (P++[y]) X Q x (by omega) (by simp; omega) (by simp; omega)
      simp only [List.length_append,List.length_cons,List.length_nil,Nat.zero_add] at this
      rw [show P++y::x::(X++Q)=P++[y]++x::X++Q by simp,this]
      simp
theorem go_left (v:Int):∀ (m:Nat) (P X Q:List Int) (x:Int),X.length<m→(P++X).length≤10000→v=((P.length:Nat):Int) →
    c9 K n v m ((P.length+X.length:Nat):Int) (P++X++x::Q)=some (P++x::X++Q):=by
  intro m
  induction m with
  | zero=>intro P X Q x h; omega
  | succ m ih =>
    intro P X Q x hm hl hv
    subst hv
    simp only [List.length_append] at hl
    simp only [c9,fb]
    rcases List.eq_nil_or_concat X with rfl | ⟨X,y,rfl⟩
    · rw [iteF (by simp)]; simp
    · simp only [List.concat_eq_append] at *
      simp only [List.length_append,List.length_cons,List.length_nil] at *
      rw [iteT (by omega),wn (n:=((P.length+(X.length+(0+1)):Nat):Int) - 1) (k:=P.length+X.length) (by omega) (by omega)]
      simp only [List.length_set,List.length_append,List.length_cons,List.length_nil]
      rw [aA (by omega),aA (by omega),aA (by omega),aA (by omega)]
      simp only [Int.toNat_natCast]
      rw [show P++(X++[y])++x::Q=(P++X)++y::x::Q by simp,gd1 (i:=P.length+(X.length+(0+1))) (by simp; omega),gd (i:=P.length+X.length) (by simp),sw (by simp) (by simp; omega)]
      have:=ih P X (y::Q) x (by omega) (by omega) rfl
      rw [this]
      simp
theorem one_left (hC:Cmp K f D key) (P B Q:List Int) (x:Int) (hB:B.Pairwise (R key)) (hx:D x) (hD:∀ y∈B,D y∧x<y) (hl:P.length+1+B.length≤10000):∀ (m i j:Nat),j - i<m→i≤j→j≤B.length→(∀ k,k<i→R key (at_ B k) x)→(∀ k,j≤k→k<B.length→R key x (at_ B k)) →
    ∃ t,t≤B.length∧(∀ k,k<t→R key (at_ B k) x)∧(∀ k,t≤k→k<B.length→R key x (at_ B k))∧dF K n (P++[x]++B++Q) ((P.length:Nat):Int) f m ((P.length+1+i:Nat):Int) ((P.length+1+j:Nat):Int)=de K n ((P.length+1+t:Nat):Int) n ((P.length:Nat):Int) (P++[x]++B++Q):=by
  intro m
  induction m with
  | zero=>intro i j h; omega
  | succ m ih =>
    intro i j hm hij hj h1 h2
    simp only [dF,fH]
    by_cases he:i<j
    · rw [iteT (by omega),half (by omega),sb]
      obtain ⟨h,hh,e⟩:∃ h,(i≤h∧h<j)∧(P.length+1+i+(P.length+1+j)) / 2=P.length+1+h:=⟨(P.length+1+i+(P.length+1+j)) / 2 - (P.length+1),by omega,by omega⟩
      rw [e]
      have hlen:(P++[x]++B++Q).length=P.length+1+B.length+Q.length:=by simp; omega
      rw [aA (by omega),aA (by omega)]
      simp only [Int.toNat_natCast]
      rw [at_app (P:=P++[x]) (k:=h) (by omega) (by simp),show (P++[x]++B++Q).getD P.length default=x by rw [show P++[x]++B++Q=P++x::(B++Q) by simp]; exact gd rfl]
      have hb:=hD _ (at_mem (A:=B) (k:=h) (by omega))
      obtain ⟨c,hc,hlt⟩:=hC.ok (at_ B h) x hb.1 hx
      rw [hc,sb]
      simp only [fh]
      have hR:c<0↔R key (at_ B h) x:=hlt.trans (R.of_lt hb.2)
      by_cases hr:c<0
      · rw [iteT hr,wn (n:=((P.length+1+h:Nat):Int)+1) (k:=P.length+1+(h+1)) (by omega) (by omega)]
        refine ih (h+1) j (by omega) (by omega) hj (fun k hk=>?_) h2
        rcases Nat.lt_or_ge k h with hk2 | hk2
        · exact (bL hB hk2 (by omega)).trans (hR.1 hr)
        · obtain rfl:k=h:=by omega
          exact hR.1 hr
      · rw [iteF hr]
        refine ih i h (by omega) (by omega) (by omega) h1 (fun k hk hk2=>?_)
        have hxh:R key x (at_ B h):=R.not (by omega) (fun hh=>hr (hR.2 hh))
        rcases Nat.lt_or_ge h k with hk3 | hk3
        · exact hxh.trans (bL hB hk3 hk2)
        · obtain rfl:k=h:=by omega
          exact hxh
    · obtain rfl:i=j:=by omega
      exact ⟨i,hj,h1,h2,by rw [iteF (by omega)]⟩
theorem one_right (hC:Cmp K f D key) (P A Q:List Int) (x:Int) (hA:A.Pairwise (R key)) (hx:D x) (hD:∀ y∈A,D y∧y<x) (hl:P.length+1+A.length≤10000):∀ (m i j:Nat),j - i<m→i≤j→j≤A.length→(∀ k,k<i→R key (at_ A k) x)→(∀ k,j≤k→k<A.length→R key x (at_ A k)) →
    ∃ t,t≤A.length∧(∀ k,k<t→R key (at_ A k) x)∧(∀ k,t≤k→k<A.length→R key x (at_ A k))∧ez K n (P++A++x::Q) ((P.length+A.length:Nat):Int) f m ((P.length+i:Nat):Int) ((P.length+j:Nat):Int)=c9 K n ((P.length+t:Nat):Int) n ((P.length+A.length:Nat):Int) (P++A++x::Q):=by
  intro m
  induction m with
  | zero=>intro i j h; omega
  | succ m ih =>
    intro i j hm hij hj h1 h2
    simp only [ez,fJ]
    by_cases he:i<j
    · rw [iteT (by omega),half (by omega),sb]
      obtain ⟨h,hh,e⟩:∃ h,(i≤h∧h<j)∧(P.length+i+(P.length+j)) / 2=P.length+h:=⟨(P.length+i+(P.length+j)) / 2 - P.length,by omega,by omega⟩
      rw [e]
      have hlen:(P++A++x::Q).length=P.length+A.length+Q.length+1:=by simp; omega
      rw [aA (by omega),aA (by omega)]
      simp only [Int.toNat_natCast]
      rw [at_app (P:=P) (A:=A) (k:=h) (by omega) rfl,gd (A:=P++A) (by simp)]
      have hb:=hD _ (at_mem (A:=A) (k:=h) (by omega))
      obtain ⟨c,hc,hlt⟩:=hC.ok x (at_ A h) hx hb.1
      rw [hc,sb]
      simp only [ft]
      have hR:c<0↔R key x (at_ A h):=hlt.trans (R.of_lt hb.2)
      by_cases hr:c<0
      · rw [iteC hr]
        refine ih i h (by omega) (by omega) (by omega) h1 (fun k hk hk2=>?_)
        rcases Nat.lt_or_ge h k with hk3 | hk3
        · exact (hR.1 hr).trans (bL hA hk3 hk2)
        · obtain rfl:k=h:=by omega
          exact hR.1 hr
      · rw [iteB hr,wn (n:=((P.length+h:Nat):Int)+1) (k:=P.length+(h+1)) (by omega) (by omega)]
        refine ih (h+1) j (by omega) (by omega) hj (fun k hk=>?_) h2
        have hxh:R key (at_ A h) x:=R.not (by omega) (fun hh=>hr (hR.2 hh))
        rcases Nat.lt_or_ge k h with hk2 | hk2
        · exact (bL hA hk2 (by omega)).trans hxh
        · obtain rfl:k=h:=by omega
          exact hxh
    · obtain rfl:i=j:=by omega
      exact ⟨i,hj,h1,h2,by rw [iteF (by omega)]⟩
end Go.Proofs.Ytolhpahjgddjkaa.QSort
namespace Go.Proofs.Ytolhpahjgddjkaa.QSort
set_option linter.all false
open Go.RowKit
variable {K:Kn} {n:Nat} {f:Fv} {D:Int→Prop} {key:Int→Int}
structure Mg (key:Int→Int) (D:Int→Prop) (A B:List Int):Prop where
  l:A.Pairwise (R key)
  r:B.Pairwise (R key)
  lt:∀ x∈A,∀ y∈B,x<y
  d:∀ x∈A++B,D x
def Merges (key:Int→Int) (D:Int→Prop) (N:Nat) (g:List Int→Int→Int→Int→Option (List Int)):Prop :=
  ∀ P A B Q:List Int,0<A.length→0<B.length→A.length+B.length<N→(P++A++B).length≤10000→Mg key D A B →
    ∃ C,C.Perm (A++B)∧C.Pairwise (R key)∧g (P++A++B++Q) ((P.length:Nat):Int) ((P.length+A.length:Nat):Int) ((P.length+A.length+B.length:Nat):Int)=some (P++C++Q)
theorem part (g:List Int→Int→Int→Int→Option (List Int)) {N:Nat} (hg:Merges key D N g) (P A B Q:List Int) (hN:A.length+B.length<N) (hl:(P++A++B).length≤10000) (h:Mg key D A B) :
    ∃ C,C.Perm (A++B)∧C.Pairwise (R key)∧∀ (k:List Int→Option (List Int)),(if 0<A.length∧0<B.length then (g (P++A++B++Q) ((P.length:Nat):Int) ((P.length+A.length:Nat):Int) ((P.length+A.length+B.length:Nat):Int)).bind k else k (P++A++B++Q))=k (P++C++Q):=by
  by_cases hc:0<A.length∧0<B.length
  · obtain ⟨C,h1,h2,h3⟩:=hg P A B Q hc.1 hc.2 hN hl h
    exact ⟨C,h1,h2,fun k=>by rw [if_pos hc,h3]; rfl⟩
  · refine ⟨A++B,.refl _,?_,fun k=>by rw [if_neg hc]; simp⟩
    rcases A with _ | ⟨x,A⟩
    · simpa using h.r
    · rcases B with _ | ⟨y,B⟩
      · simpa using h.l
      · simp at hc
theorem tail_ok {N:Nat} (hn:10001<n) (P A1 A2 B1 B2 Q:List Int) (hg:Merges key D N (fun L a m b=>K.ce L a m b f)) (h:Mg key D (A1++A2) (B1++B2)) (hl:(P++A1++A2++B1++B2).length≤10000)
    (hN1:A1.length+B1.length<N) (hN2:A2.length+B2.length<N) (c1:∀ x∈A1,∀ y∈B2,R key x y) (c2:∀ x∈B1,∀ y∈A2,R key x y) {v2 v3 v4 v30 v31 v39:Int} (e2:v2=((P.length:Nat):Int)) (e3:v3=((P.length+A1.length+A2.length:Nat):Int)) (e4:v4=((P.length+A1.length+A2.length+B1.length+B2.length:Nat):Int))
    (e30:v30=((P.length+A1.length+B1.length:Nat):Int)) (e31:v31=((P.length+A1.length+B1.length+(P.length+A1.length+A2.length):Nat):Int)) (e39:v39=((P.length+A1.length:Nat):Int)) :
    ∃ C,C.Perm (A1++A2++(B1++B2))∧C.Pairwise (R key)∧(if (decide (v39<v3))=true then
      bT K n (P++A1++A2++B1++B2++Q) v2 v3 v4 f v30 v31 v39 (decide (v3<(w64 (v31 - v39))))
    else
      bT K n (P++A1++A2++B1++B2++Q) v2 v3 v4 f v30 v31 v39 false)=some (P++C++Q):=by
  simp only [List.length_append] at hl
  have e5:w64 (v31 - v39)=((P.length+A1.length+A2.length+B1.length:Nat):Int):=by rw [e31,e39]; exact wn (by omega) (by omega)
  have hpl:=List.pairwise_append.1 h.l
  have hpr:=List.pairwise_append.1 h.r
  -- the parts change places
  have rot:(if (decide (v39<v3))=true then
      bT K n (P++A1++A2++B1++B2++Q) v2 v3 v4 f v30 v31 v39 (decide (v3<(w64 (v31 - v39))))
    else
      bT K n (P++A1++A2++B1++B2++Q) v2 v3 v4 f v30 v31 v39 false)=dt K n v2 v4 f v30 v31 v39 (P++A1++B1++A2++B2++Q):=by
    rw [e5]
    have both:∀ b:Bool,(b=true↔0<A2.length∧0<B1.length)→bT K n (P++A1++A2++B1++B2++Q) v2 v3 v4 f v30 v31 v39 b=dt K n v2 v4 f v30 v31 v39 (P++A1++B1++A2++B2++Q):=by
      intro b hb
      unfold bT
      by_cases hc:b=true
      · rw [if_pos hc,e5]
        have hc2:=hb.1 hc
        have:=rot_ok (K:=K) (n:=n) (f:=f) (P++A1) A2 B1 (B2++Q) hn hc2.1 hc2.2 (by simp; omega)
        rw [show P++A1++A2++B1++B2++Q=P++A1++A2++B1++(B2++Q) by simp,e39,e3]
        rw [show ((P++A1).length:Nat)=P.length+A1.length by simp] at this
        rw [this,sb]
        congr 1; simp
      · rw [if_neg hc]
        have hc2:¬ (0<A2.length∧0<B1.length):=fun hh=>hc (hb.2 hh)
        congr 1
        rcases A2 with _ | ⟨x,A2⟩
        · simp
        · rcases B1 with _ | ⟨y,B1⟩
          · simp
          · simp at hc2
    by_cases hc:v39<v3
    · rw [iteT hc]
      exact both _ (by rw [decide_eq_true_eq]; omega)
    · rw [iteF hc]
      exact both _ (by simp; omega)
  rw [rot]
  -- the first half
  have m1:Mg key D A1 B1:=⟨hpl.1,hpr.1,fun x hx y hy=>h.lt x (by simp [hx]) y (by simp [hy]),fun x hx=>h.d x (by rcases List.mem_append.1 hx with q | q<;>simp [q])⟩
  have m2:Mg key D A2 B2:=⟨hpl.2.1,hpr.2.1,fun x hx y hy=>h.lt x (by simp [hx]) y (by simp [hy]),fun x hx=>h.d x (by rcases List.mem_append.1 hx with q | q<;>simp [q])⟩
  obtain ⟨C1,p1,s1,r1⟩:=part _ hg P A1 B1 (A2++B2++Q) hN1 (by simp; omega) m1
  have l1:C1.length=A1.length+B1.length:=by rw [p1.length_eq]; simp
  obtain ⟨C2,p2,s2,r2⟩:=part _ hg (P++C1) A2 B2 Q hN2 (by simp; omega) m2
  refine ⟨C1++C2,?_,?_,?_⟩
  · refine (p1.append p2).trans ?_
    simp only [List.append_assoc]
    refine List.Perm.append_left A1 ?_
    rw [←List.append_assoc,← List.append_assoc]
    exact List.perm_append_comm.append_right B2
  · rw [List.pairwise_append]
    refine ⟨s1,s2,fun x hx y hy=>?_⟩
    have hx:=(p1.mem_iff).1 hx
    have hy:=(p2.mem_iff).1 hy
    rcases List.mem_append.1 hx with hx | hx
    · rcases List.mem_append.1 hy with hy | hy
      · exact hpl.2.2 x hx y hy
      · exact c1 x hx y hy
    · rcases List.mem_append.1 hy with hy | hy
      · exact c2 x hx y hy
      · exact hpr.2.2 x hx y hy
  · -- the calls
    have j13:cA K n v4 f v30 v31 v39 (P++C1++A2++B2++Q)=some (P++C1++C2++Q):=by
      have:=r2 (fun L=>some L)
      rw [←this]
      unfold cA
      rw [e5,e30,e4]
      have k1:(P++C1).length=P.length+A1.length+B1.length:=by simp [l1]; omega
      rw [k1]
      have both:∀ b:Bool,(b=true↔0<A2.length∧0<B2.length)→dD K n ((P.length+A1.length+A2.length+B1.length+B2.length:Nat):Int) f ((P.length+A1.length+B1.length:Nat):Int) v31 v39 (P++C1++A2++B2++Q) b=if 0<A2.length∧0<B2.length then
          (K.ce (P++C1++A2++B2++Q) ((P.length+A1.length+B1.length:Nat):Int) ((P.length+A1.length+B1.length+A2.length:Nat):Int) ((P.length+A1.length+B1.length+A2.length+B2.length:Nat):Int) f).bind (fun L=>some L) else some (P++C1++A2++B2++Q):=by
        intro b hb
        unfold dD
        by_cases hc:b=true
        · rw [if_pos hc,if_pos (hb.1 hc),e5]
          simp only [eN]
          rw [show P.length+A1.length+B1.length+A2.length=P.length+A1.length+A2.length+B1.length by omega]
        · rw [if_neg hc,if_neg (fun hh=>hc (hb.2 hh))]; rfl
      by_cases hc:((P.length+A1.length+B1.length:Nat):Int)<((P.length+A1.length+A2.length+B1.length:Nat):Int)
      · rw [iteT hc]; exact both _ (by rw [decide_eq_true_eq]; omega)
      · rw [iteF hc]; exact both _ (by simp; omega)
    have:=r1 (fun L=>cA K n v4 f v30 v31 v39 L)
    rw [show P++C1++(A2++B2++Q)=P++C1++A2++B2++Q by simp,j13] at this
    rw [show P++(C1++C2)++Q=P++C1++C2++Q by simp,← this]
    unfold dt
    rw [e2,e39,e30]
    rw [show P++A1++B1++(A2++B2++Q)=P++A1++B1++A2++B2++Q by simp]
    have both : ∀ b : Bool, (b = true ↔ 0 < A1.length ∧ 0 < B1.length) → dT K n ((P.length : Nat) : Int) v4 f ((P.length + A1.length + B1.length : Nat) : Int) v31 ((P.length + A1.length : Nat) : Int) (P ++ A1 ++ B1 ++ A2 ++ B2 ++ Q) b = if 0 < A1.length ∧ 0 < B1.length then
          (K.ce (P++A1++B1++A2++B2++Q) ((P.length:Nat):Int) ((P.length+A1.length:Nat):Int) ((P.length+A1.length+B1.length:Nat):Int) f).bind (fun L=>cA K n v4 f ((P.length+A1.length+B1.length:Nat):Int) v31 ((P.length+A1.length:Nat):Int) L) else cA K n v4 f ((P.length+A1.length+B1.length:Nat):Int) v31 ((P.length+A1.length:Nat):Int) (P++A1++B1++A2++B2++Q):=by
      intro b hb
      unfold dT
      by_cases hc:b=true
      · rw [if_pos hc,if_pos (hb.1 hc)]
      · rw [if_neg hc,if_neg (fun hh=>hc (hb.2 hh))]
    by_cases hc:((P.length:Nat):Int)<((P.length+A1.length:Nat):Int)
    · rw [iteT hc]; exact both _ (by rw [decide_eq_true_eq]; omega)
    · rw [iteF hc]; exact both _ (by simp; omega)
theorem seek (hC:Cmp K f D key) (P A B Q:List Int) (h:Nat) (hM:Mg key D A B) (hl:(P++A++B).length≤10000) {v2 v4 v30:Int} (hh:h<A.length+B.length) (lo hi:Nat) (hlo:h≤B.length+lo) (hhi:hi≤A.length) (hhi2:hi≤h):∀ (m i j:Nat),j - i<m→lo≤i→i≤j→j≤hi →
    (∀ k,lo≤k→k<i→R key (at_ A k) (at_ B (h - 1 - k)))→(∀ k,j≤k→k<hi→R key (at_ B (h - 1 - k)) (at_ A k)) →
    ∃ s,lo≤s∧s≤hi∧(∀ k,lo≤k→k<s→R key (at_ A k) (at_ B (h - 1 - k)))∧(∀ k,s≤k→k<hi→R key (at_ B (h - 1 - k)) (at_ A k)) ∧
      dn K n (P++A++B++Q) v2 ((P.length+A.length:Nat):Int) v4 f v30 ((P.length+h+(P.length+A.length):Nat):Int) m ((P.length+i:Nat):Int) ((P.length+j:Nat):Int) =
      (if (decide (((P.length+s:Nat):Int)<((P.length+A.length:Nat):Int)))=true then
        bT K n (P++A++B++Q) v2 ((P.length+A.length:Nat):Int) v4 f v30 ((P.length+h+(P.length+A.length):Nat):Int) ((P.length+s:Nat):Int) (decide (((P.length+A.length:Nat):Int)<(w64 (((P.length+h+(P.length+A.length):Nat):Int) - ((P.length+s:Nat):Int)))))
      else
        bT K n (P++A++B++Q) v2 ((P.length+A.length:Nat):Int) v4 f v30 ((P.length+h+(P.length+A.length):Nat):Int) ((P.length+s:Nat):Int) false):=by
  simp only [List.length_append] at hl
  intro m
  induction m with
  | zero=>intro i j h; omega
  | succ m ih =>
    intro i j hm hli hij hj h1 h2
    simp only [dn,eO]
    by_cases he:i<j
    · rw [iteT (by omega),half (by omega),sb]
      obtain ⟨c,hc,e⟩:∃ c,(i≤c∧c<j)∧(P.length+i+(P.length+j)) / 2=P.length+c:=⟨(P.length+i+(P.length+j)) / 2 - P.length,by omega,by omega⟩
      rw [e,wn (n:=((P.length+h+(P.length+A.length):Nat):Int) - 1) (k:=P.length+h+(P.length+A.length) - 1) (by omega) (by omega),
        wn (n:=((P.length+h+(P.length+A.length) - 1:Nat):Int) - ((P.length+c:Nat):Int)) (k:=P.length+A.length+(h - 1 - c)) (by omega) (by omega)]
      have hlen:(P++A++B++Q).length=P.length+A.length+B.length+Q.length:=by simp; omega
      rw [aA (by omega),aA (by omega)]
      simp only [Int.toNat_natCast]
      rw [at_app (P:=P++A) (A:=B) (k:=h - 1 - c) (by omega) (by simp),show P++A++B++Q=P++A++(B++Q) by simp,at_app (P:=P) (A:=A) (k:=c) (by omega) rfl,show P++A++(B++Q)=P++A++B++Q by simp]
      have ma:=at_mem (A:=A) (k:=c) (by omega)
      have mb:=at_mem (A:=B) (k:=h - 1 - c) (by omega)
      have hlt2:=hM.lt _ ma _ mb
      obtain ⟨r,hr,hlt⟩:=hC.ok (at_ B (h - 1 - c)) (at_ A c) (hM.d _ (by simp [mb])) (hM.d _ (by simp [ma]))
      rw [hr,sb]
      simp only [eX]
      have hR:r<0↔R key (at_ B (h - 1 - c)) (at_ A c):=hlt.trans (R.of_lt hlt2)
      by_cases hr0:r<0
      · rw [iteC hr0]
        refine ih i c (by omega) hli (by omega) (by omega) h1 (fun k hk hk2=>?_)
        rcases Nat.lt_or_ge c k with hk3 | hk3
        · exact ((bL hM.r (i:=h - 1 - k) (j:=h - 1 - c) (by omega) (by omega)).trans (hR.1 hr0)).trans (bL hM.l hk3 (by omega))
        · obtain rfl:k=c:=by omega
          exact hR.1 hr0
      · rw [iteB hr0,wn (n:=((P.length+c:Nat):Int)+1) (k:=P.length+(c+1)) (by omega) (by omega)]
        refine ih (c+1) j (by omega) (by omega) (by omega) hj (fun k hk0 hk=>?_) h2
        have hxh:R key (at_ A c) (at_ B (h - 1 - c)):=R.not (by omega) (fun hh=>hr0 (hR.2 hh))
        rcases Nat.lt_or_ge k c with hk2 | hk2
        · exact ((bL hM.l hk2 (by omega)).trans hxh).trans (bL hM.r (i:=h - 1 - c) (j:=h - 1 - k) (by omega) (by omega))
        · obtain rfl:k=c:=by omega
          exact hxh
    · obtain rfl:i=j:=by omega
      exact ⟨i,hli,hj,h1,h2,by rw [iteF (by omega)]⟩
theorem merge_one (hC:Cmp K f D key) {N:Nat} (hn:10001<n) (hg:Merges key D N (fun L a m b=>K.ce L a m b f)):Merges key D (N+1) (fun L a m b=>b6 K n L a m b f):=by
  intro P A B Q hA hB hN hl hM
  have hl2:=hl
  simp only [List.length_append] at hl2
  simp only [b6]
  rw [wn (n:=((P.length+A.length:Nat):Int) - ((P.length:Nat):Int)) (k:=A.length) (by omega) (by omega)]
  by_cases h1:A.length=1
  · rw [if_pos (by simp; omega)]
    obtain ⟨x,rfl⟩:∃ x,A=[x]:=by
      rcases A with _ | ⟨x,_ | ⟨y,A⟩⟩
      · simp at h1
      · exact ⟨x,rfl⟩
      · simp at h1
    simp only [List.length_cons,List.length_nil,Nat.zero_add] at *
    obtain ⟨t,t1,t2,t3,t4⟩:=one_left (n:=n) hC P B Q x hM.r (hM.d x (by simp)) (fun y hy=>⟨hM.d y (by simp [hy]),hM.lt x (by simp) y hy⟩) (by omega) n 0 B.length (by omega) (by omega) (Nat.le_refl _) (fun k hk=>by omega) (fun k hk hk2=>by omega)
    rw [show P.length+1+0=P.length+1 from rfl] at t4
    rw [t4]
    have:=go_right (K:=K) (n:=n) ((P.length+1+t:Nat):Int) n P (B.take t) (B.drop t++Q) x (by simp; omega) (by simp; omega) (by simp; omega)
    rw [show P++x::B.take t++(B.drop t++Q)=P++[x]++(B.take t++B.drop t)++Q by simp only [List.append_assoc,List.cons_append,List.nil_append],List.take_append_drop] at this
    refine ⟨B.take t++x::B.drop t,?_,put_in hM.r (fun k hk _=>t2 k hk) t3,by rw [this]; simp⟩
    refine List.perm_middle.trans (by simp)
  · rw [if_neg (by simp; omega)]
    rw [wn (n:=((P.length+A.length+B.length:Nat):Int) - ((P.length+A.length:Nat):Int)) (k:=B.length) (by omega) (by omega)]
    by_cases h2:B.length=1
    · rw [if_pos (by simp; omega)]
      obtain ⟨x,rfl⟩:∃ x,B=[x]:=by
        rcases B with _ | ⟨x,_ | ⟨y,B⟩⟩
        · simp at h2
        · exact ⟨x,rfl⟩
        · simp at h2
      obtain ⟨t,t1,t2,t3,t4⟩:=one_right (n:=n) hC P A Q x hM.l (hM.d x (by simp)) (fun y hy=>⟨hM.d y (by simp [hy]),hM.lt y hy x (by simp)⟩) (by simp at hl2; omega) n 0 A.length (by simp at hl2; omega) (by omega) (Nat.le_refl _) (fun k hk=>by omega) (fun k hk hk2=>by omega)
      rw [Nat.add_zero] at t4
      rw [show P++A++[x]++Q=P++A++x::Q by simp,t4]
      have:=go_left (K:=K) (n:=n) ((P.length+t:Nat):Int) n (P++A.take t) (A.drop t) Q x (by simp at hl2 ⊢; omega) (by simp at hl2 ⊢; omega) (by simp; omega)
      rw [show P++A.take t++A.drop t++x::Q=P++(A.take t++A.drop t)++x::Q by simp only [List.append_assoc],List.take_append_drop,show (P++A.take t).length+(A.drop t).length=P.length+A.length by simp; omega] at this
      refine ⟨A.take t++x::A.drop t,?_,put_in hM.l (fun k hk _=>t2 k hk) t3,by rw [this]; simp⟩
      refine List.perm_middle.trans ?_
      rw [List.take_append_drop]; exact (List.perm_append_singleton x A).symm
    · rw [if_neg (by simp; omega),half (by omega),sb]
      obtain ⟨h,hh,e⟩:∃ h,(2*h≤A.length+B.length∧A.length+B.length≤2*h+1)∧(P.length+(P.length+A.length+B.length)) / 2=P.length+h:=⟨(P.length+(P.length+A.length+B.length)) / 2 - P.length,by omega,by omega⟩
      rw [e,wn (n:=((P.length+h:Nat):Int)+((P.length+A.length:Nat):Int)) (k:=P.length+h+(P.length+A.length)) (by omega) (by omega),sb,sb]
      have key_:∀ lo hi:Nat,h≤B.length+lo→hi≤A.length→hi≤h→lo≤hi→(lo=0∨h=B.length+lo)→(hi=A.length∨hi=h) →
          ∃ C,C.Perm (A++B)∧C.Pairwise (R key)∧dn K n (P++A++B++Q) ((P.length:Nat):Int) ((P.length+A.length:Nat):Int) ((P.length+A.length+B.length:Nat):Int) f ((P.length+h:Nat):Int) ((P.length+h+(P.length+A.length):Nat):Int) n ((P.length+lo:Nat):Int) ((P.length+hi:Nat):Int)=some (P++C++Q):=by
        intro lo hi k1 k2 k3 k4 k5 k6
        obtain ⟨s,s1,s2,s3,s4,s5⟩:=seek (n:=n) hC P A B Q h hM hl (v2:=((P.length:Nat):Int)) (v4:=((P.length+A.length+B.length:Nat):Int)) (v30:=((P.length+h:Nat):Int)) (by omega) lo hi k1 k2 k3 n lo hi (by omega) (Nat.le_refl _) k4 (Nat.le_refl _) (fun k _ _=>by omega) (fun k _ _=>by omega)
        rw [s5]
        have eA:A.take s++A.drop s=A:=List.take_append_drop s A
        have eB:B.take (h - s)++B.drop (h - s)=B:=List.take_append_drop (h - s) B
        have la:(A.take s).length=s:=by simp; omega
        have lb:(B.take (h - s)).length=h - s:=by simp; omega
        have la2:(A.drop s).length=A.length - s:=by simp
        have lb2:(B.drop (h - s)).length=B.length - (h - s):=by simp
        have eL:P++A++B++Q=P++A.take s++A.drop s++B.take (h - s)++B.drop (h - s)++Q:=by
          conv=>lhs; rw [←eA,← eB]
          simp only [List.append_assoc]
        have:=tail_ok (K:=K) (n:=n) (f:=f) (N:=N) hn P (A.take s) (A.drop s) (B.take (h - s)) (B.drop (h - s)) Q hg (by rw [eA,eB]; exact hM) (by simp only [List.length_append,la,lb,la2,lb2]; omega) (by omega) (by omega)
          (fun x hx y hy=>by
            obtain ⟨i,i1,i2,rfl⟩:=gS hx
            obtain ⟨k,q1,q2,rfl⟩:=ge hy
            have m1:=s3 (s - 1) (by omega) (by omega)
            rw [show h - 1 - (s - 1)=h - s by omega] at m1
            have m2:R key (at_ A i) (at_ B (h - s)):=by
              rcases Nat.lt_or_ge i (s - 1) with q | q
              · exact (bL hM.l q (by omega)).trans m1
              · obtain rfl:i=s - 1:=by omega
                exact m1
            rcases Nat.lt_or_ge (h - s) k with q | q
            · exact m2.trans (bL hM.r q q2)
            · obtain rfl:k=h - s:=by omega
              exact m2)
          (fun x hx y hy=>by
            obtain ⟨k,q1,q2,rfl⟩:=gS hx
            obtain ⟨i,i1,i2,rfl⟩:=ge hy
            have m1:=s4 s (Nat.le_refl _) (by omega)
            have m2:R key (at_ B k) (at_ A s):=by
              rcases Nat.lt_or_ge k (h - 1 - s) with q | q
              · exact (bL hM.r q (by omega)).trans m1
              · obtain rfl:k=h - 1 - s:=by omega
                exact m1
            rcases Nat.lt_or_ge s i with q | q
            · exact m2.trans (bL hM.l q i2)
            · obtain rfl:i=s:=by omega
              exact m2)
          (v2:=((P.length:Nat):Int)) (v3:=((P.length+A.length:Nat):Int)) (v4:=((P.length+A.length+B.length:Nat):Int)) (v30:=((P.length+h:Nat):Int)) (v31:=((P.length+h+(P.length+A.length):Nat):Int)) (v39:=((P.length+s:Nat):Int)) rfl (by omega) (by omega) (by omega) (by omega) (by omega)
        rw [eA,eB] at this
        rw [eL]
        exact this
      by_cases hc:h<A.length
      · rw [if_pos (by simp; omega)]
        simp only [dV]
        rw [wn (n:=((P.length+h+(P.length+A.length):Nat):Int) - ((P.length+A.length+B.length:Nat):Int)) (k:=P.length+(h - B.length)) (by omega) (by omega)]
        exact key_ (h - B.length) h (by omega) (by omega) (by omega) (by omega) (by omega) (by omega)
      · rw [if_neg (by simp; omega)]
        simp only [dV]
        exact key_ 0 A.length (by omega) (by omega) (by omega) (by omega) (by omega) (by omega)
end Go.Proofs.Ytolhpahjgddjkaa.QSort
namespace Go.Proofs.Ytolhpahjgddjkaa.QSort
set_option linter.all false
open Go.RowKit
variable {K:Kn} {n:Nat} {f:Fv} {D:Int→Prop} {key:Int→Int}
theorem merges {c0:Nat} (hC:∀ m,c0≤m→Cmp (KN m) f D key):∀ (N lvl n:Nat),10001<n→c0+N+10002≤lvl→Merges key D N (fun L a m b=>b6 (KN lvl) n L a m b f):=by
  intro N
  induction N with
  | zero=>intro lvl n h1 h2 P A B Q hA hB hN; omega
  | succ N ih =>
    intro lvl n h1 h2
    obtain ⟨l,rfl⟩:∃ l,lvl=l+1:=⟨lvl - 1,by omega⟩
    exact merge_one (hC _ (by omega)) h1 (ih l l (by omega) (by omega))
inductive Bl (key:Int→Int) (bs:Nat):List Int→List Int→Prop
  | last (o d:List Int) (h:o.length≤bs) (p:d.Perm o) (s:d.Pairwise (R key)):Bl key bs o d
  | more (o1 d1 o2 d2:List Int) (h:o1.length=bs) (p:d1.Perm o1) (s:d1.Pairwise (R key)) (t:Bl key bs o2 d2):Bl key bs (o1++o2) (d1++d2)
theorem Bl.len {bs:Nat} {o d:List Int} (h:Bl key bs o d):d.length=o.length:=by
  induction h with
  | last o d h p s=>exact p.length_eq
  | more o1 d1 o2 d2 h p s t ih=>simp [p.length_eq,ih]
theorem blocks (hC:Cmp K f D key) (hn:10001<n):∀ (m:Nat) (P S:List Int),S.length<m→S.Pairwise (· < ·)→(∀ x∈S,D x)→P.length+S.length≤10000 →
    ∃ S',Bl key 20 S S'∧dW K n ((P.length+S.length:Nat):Int) f m ((P.length:Nat):Int) ((P.length+20:Nat):Int) (P++S)=cR K n ((P.length+S.length:Nat):Int) f n 20 (P++S'):=by
  intro m
  induction m with
  | zero=>intro P S h; omega
  | succ m ih =>
    intro P S hm hS hD hl
    simp only [dW,eY]
    by_cases hc:20≤S.length
    · rw [iteT (by omega)]
      obtain ⟨S1,S2,rfl,h1⟩:∃ S1 S2,S=S1++S2∧S1.length=20:=⟨S.take 20,S.drop 20,by simp,by simp; omega⟩
      rw [List.pairwise_append] at hS
      simp only [List.length_append] at hm hl hc ⊢
      obtain ⟨S',p1,p2,p3⟩:=ins_ok (n:=n) hC P S1 S2 hn hS.1 (fun x hx=>hD x (by simp [hx])) (by omega)
      have l1:S'.length=20:=by rw [p1.length_eq,h1]
      rw [h1] at p3
      rw [show P++(S1++S2)=P++S1++S2 by simp,p3,sb,wn (k:=P.length+20+20) (by omega) (by omega)]
      obtain ⟨S'',q1,q2⟩:=ih (P++S') S2 (by omega) hS.2.1 (fun x hx=>hD x (by simp [hx])) (by simp; omega)
      simp only [List.length_append,l1] at q2
      refine ⟨S'++S'',.more _ _ _ _ h1 p1 p2 q1,?_⟩
      rw [h1,show P.length+(20+S2.length)=P.length+20+S2.length by omega,q2]
      simp
    · rw [iteF (by omega)]
      obtain ⟨S',p1,p2,p3⟩:=ins_ok (n:=n) hC P S [] hn hS hD (by omega)
      simp only [List.append_nil] at p3
      exact ⟨S',.last _ _ (by omega) p1 p2,by rw [p3,sb]⟩
theorem pass {N:Nat} (hn:10001<n) (hg:Merges key D N (fun L a m b=>b6 K n L a m b f)) (bs:Nat) (hb:0<bs) (hb2:bs≤10000) (L2:Int→List Int→Option (List Int)):∀ (m:Nat) (P S d:List Int),S.length<m→Bl key bs S d→S.Pairwise (· < ·)→(∀ x∈S,D x)→P.length+S.length≤10000→S.length<N →
    ∃ d',Bl key (2*bs) S d'∧dQ K n ((P.length+S.length:Nat):Int) f ((bs:Nat):Int) L2 m ((P.length:Nat):Int) ((P.length+2*bs:Nat):Int) (P++d)=L2 ((2*bs:Nat):Int) (P++d'):=by
  intro m
  induction m with
  | zero=>intro P S d h; omega
  | succ m ih =>
    intro P S d hm hB hS hD hl hN
    have ed:=hB.len
    simp only [dQ,fF,e9]
    have e2:w64 (((bs:Nat):Int)*2)=((2*bs:Nat):Int):=wn (by omega) (by omega)
    have e3:w64 (2*((bs:Nat):Int))=((2*bs:Nat):Int):=wn (by omega) (by omega)
    rw [wn (n:=((P.length:Nat):Int)+((bs:Nat):Int)) (k:=P.length+bs) (by omega) (by omega),e2,e3]
    -- two blocks are merged
    have two:∀ o1 d1 o2 d2 r:List Int,o1.length=bs→d1.Perm o1→d1.Pairwise (R key)→d2.Perm o2→d2.Pairwise (R key)→0<o2.length→(∀ x∈o1,∀ y∈o2,x<y)→(∀ x∈o1++o2,D x)→P.length+(o1.length+o2.length)≤10000→o1.length+o2.length<N →
        ∃ C,C.Perm (o1++o2)∧C.Pairwise (R key)∧b6 K n (P++(d1++d2)++r) ((P.length:Nat):Int) ((P.length+bs:Nat):Int) ((P.length+(bs+o2.length):Nat):Int) f=some (P++C++r):=by
      intro o1 d1 o2 d2 r k1 k2 k3 k4 k5 k6 k7 k8 k9 k10
      have n1:d1.length=bs:=by rw [k2.length_eq,k1]
      have n2:=k4.length_eq
      obtain ⟨C,q1,q2,q3⟩:=hg P d1 d2 r (by omega) (by omega) (by omega) (by simp; omega) ⟨k3,k5,fun x hx y hy=>k7 x (k2.mem_iff.1 hx) y (k4.mem_iff.1 hy),fun x hx=>k8 x ((k2.append k4).mem_iff.1 hx)⟩
      refine ⟨C,q1.trans (k2.append k4),q2,?_⟩
      rw [n1,n2,show P.length+bs+o2.length=P.length+(bs+o2.length) by omega,show P++d1++d2++r=P++(d1++d2)++r by simp] at q3
      exact q3
    cases hB with
    | last _ _ h p s =>
      refine ⟨d,.last _ _ (by omega) p s,?_⟩
      rw [iteF (by omega),iteF (by omega)]
    | more o1 d1 o2 d2 h p s t =>
      rw [List.pairwise_append] at hS
      simp only [List.length_append] at hm hl hN ⊢
      cases t with
      | last _ _ h' p' s' =>
        by_cases hc:o2.length=bs
        · rw [iteT (by omega)]
          obtain ⟨C,q1,q2,q3⟩:=two o1 d1 o2 d2 [] h p s p' s' (by omega) hS.2.2 hD (by omega) (by omega)
          simp only [List.append_nil] at q3
          rw [hc] at q3
          rw [show ((P.length+2*bs:Nat):Int)=((P.length+(bs+bs):Nat):Int) by omega,q3,sb,wn (n:=((P.length+(bs+bs):Nat):Int)+((2*bs:Nat):Int)) (k:=P.length+(bs+bs)+2*bs) (by omega) (by omega)]
          have lC:C.length=bs+bs:=by rw [q1.length_eq]; simp; omega
          obtain ⟨d',r1,r2⟩:=ih (P++C) [] [] (by simp; omega) (.last _ _ (by simp) (.refl _) (by simp)) (by simp) (by simp) (by simp; omega) (by simp; omega)
          simp only [List.length_append,lC,List.length_nil,Nat.add_zero,List.append_nil] at r2
          refine ⟨C++d',?_,?_⟩
          · have:=Bl.more (key:=key) (bs:=2*bs) (o1++o2) C [] d' (by simp; omega) q1 q2 r1
            simpa using this
          · rw [show P.length+(o1.length+o2.length)=P.length+(bs+bs) by omega,r2]
            simp
        · rw [iteF (by omega)]
          by_cases hz:o2.length=0
          · rw [iteF (by omega)]
            have:o2=[]:=List.eq_nil_of_length_eq_zero hz
            subst this
            have:d2=[]:=p'.eq_nil
            subst this
            exact ⟨d1++[],.last _ _ (by simp; omega) (by simpa using p) (by simpa using s),rfl⟩
          · rw [iteT (by omega)]
            obtain ⟨C,q1,q2,q3⟩:=two o1 d1 o2 d2 [] h p s p' s' (by omega) hS.2.2 hD (by omega) (by omega)
            simp only [List.append_nil] at q3
            rw [h,q3,sb]
            exact ⟨C,.last _ _ (by simp; omega) q1 q2,rfl⟩
      | more o21 d21 o22 d22 h' p' s' t' =>
        have hS2:=hS.2.1
        rw [List.pairwise_append] at hS2
        simp only [List.length_append] at hm hl hN ⊢
        rw [iteT (by omega)]
        obtain ⟨C,q1,q2,q3⟩:=two o1 d1 o21 d21 d22 h p s p' s' (by omega) (fun x hx y hy=>hS.2.2 x hx y (by simp [hy])) (fun x hx=>hD x (by rcases List.mem_append.1 hx with q | q<;>simp [q])) (by omega) (by omega)
        rw [h'] at q3
        have lC:C.length=bs+bs:=by rw [q1.length_eq]; simp; omega
        rw [show P++(d1++(d21++d22))=P++(d1++d21)++d22 by simp,show ((P.length+2*bs:Nat):Int)=((P.length+(bs+bs):Nat):Int) by omega,q3,sb,wn (n:=((P.length+(bs+bs):Nat):Int)+((2*bs:Nat):Int)) (k:=P.length+(bs+bs)+2*bs) (by omega) (by omega)]
        obtain ⟨d',r1,r2⟩:=ih (P++C) o22 d22 (by omega) t' hS2.2.1 (fun x hx=>hD x (by simp [hx])) (by simp; omega) (by omega)
        simp only [List.length_append,lC] at r2
        refine ⟨C++d',?_,?_⟩
        · have:=Bl.more (key:=key) (bs:=2*bs) (o1++o21) C o22 d' (by simp; omega) q1 q2 r1
          simpa using this
        · rw [show P.length+(o1.length+(o21.length+o22.length))=P.length+(bs+bs)+o22.length by omega,r2]
          simp
theorem rounds {N:Nat} (hn:10001<n) (hg:Merges key D N (fun L a m b=>b6 K n L a m b f)) (S:List Int) (hS:S.Pairwise (· < ·)) (hD:∀ x∈S,D x) (hl:S.length≤10000) (hN:S.length<N):∀ (m bs:Nat) (d:List Int),0<bs→S.length - bs<m→Bl key bs S d →
    ∃ d',d'.Perm S∧d'.Pairwise (R key)∧cR K n ((S.length:Nat):Int) f m ((bs:Nat):Int) d=some d':=by
  intro m
  induction m with
  | zero=>intro bs d hb h; omega
  | succ m ih =>
    intro bs d hb hm hB
    simp only [cR,eJ]
    by_cases hc:bs<S.length
    · rw [iteT (by omega),wn (n:=2*((bs:Nat):Int)) (k:=2*bs) (by omega) (by omega)]
      obtain ⟨d',r1,r2⟩:=pass (n:=n) hn hg bs hb (by omega) (cR K n ((S.length:Nat):Int) f m) n [] S d (by omega) hB hS hD (by simp; omega) hN
      simp only [List.length_nil,List.nil_append,Nat.zero_add] at r2
      rw [show ((0:Nat):Int)=0 from rfl] at r2
      rw [r2]
      exact ih (2*bs) d' (by omega) (by omega) r1
    · rw [iteF (by omega)]
      cases hB with
      | last _ _ h p s=>exact ⟨d,p,s,rfl⟩
      | more o1 d1 o2 d2 h p s t =>
        simp only [List.length_append] at hc
        have:o2=[]:=List.eq_nil_of_length_eq_zero (by omega)
        subst this
        have:d2=[]:=List.eq_nil_of_length_eq_zero (by rw [t.len]; rfl)
        subst this
        exact ⟨_,by simpa using p,by simpa using s,rfl⟩
theorem sort_ok {c0:Nat} (hC:∀ m,c0≤m→Cmp (KN m) f D key) {lvl n:Nat} (S:List Int) (hn:10001<n) (hlv:c0+(S.length+1)+10002≤lvl) (hS:S.Pairwise (· < ·)) (hD:∀ x∈S,D x) (hl:S.length≤10000) :
    ∃ d,d.Perm S∧d.Pairwise (R key)∧cV (KN lvl) n S f=some d:=by
  unfold cV gL
  have hle:c0≤lvl:=by omega
  have h0:S.length<n:=by omega
  obtain ⟨S',b1,b2⟩:=blocks (K:=KN lvl) (n:=n) (hC lvl hle) hn n [] S h0 hS hD (by rw [List.length_nil,Nat.zero_add]; exact hl)
  simp only [List.length_nil,List.nil_append,Nat.zero_add] at b2
  rw [show ((0:Nat):Int)=0 from rfl,show ((20:Nat):Int)=20 from rfl] at b2
  have h1:=hlv
  have h2:S.length - 20<n:=by omega
  have hm:=merges hC (S.length+1) lvl n hn h1
  generalize KN lvl=K at *
  obtain ⟨d,d1,d2,d3⟩:=rounds (K:=K) (n:=n) (N:=S.length+1) hn hm S hS hD hl (Nat.lt_succ_self _) n 20 S' (by decide) h2 b1
  rw [show ((20:Nat):Int)=20 from rfl] at d3
  exact ⟨d,d1,d2,by rw [b2,d3,sb]⟩
end Go.Proofs.Ytolhpahjgddjkaa.QSort
namespace Go.Proofs.Ytolhpahjgddjkaa
set_option linter.all false
open Go.RowKit
namespace Sh
def idx (n:Nat):List Int:=(List.range n).map fun (k:Nat)=>(k:Int)
instance (key:Int→Int) (a b:Int):Decidable (QSort.R key a b):=by unfold QSort.R; infer_instance
theorem cL (n:Nat):(idx n).length=n:=by simp [idx]
theorem cF {n:Nat} {x:Int}:x∈idx n ↔ ∃ k:Nat,k<n∧x=k:=by
  simp only [idx,List.mem_map,List.mem_range]
  exact ⟨fun ⟨k,h,e⟩=>⟨k,h,e.symm⟩,fun ⟨k,h,e⟩=>⟨k,h,e.symm⟩⟩
theorem fr (n:Nat):(idx n).Pairwise (· < ·):=by
  unfold idx
  rw [List.pairwise_map]
  refine List.Pairwise.imp (fun h=>?_) List.pairwise_lt_range
  omega
theorem fu (n:Nat):idx (n+1)=idx n++[(n:Int)]:=by simp [idx,List.range_succ]
def lim (n most:Int):Int:=min (max n 0) most
def mx:Int:=2147483647
theorem lim_bd {n m:Int} (h:0≤m):0≤lim n m∧lim n m≤m:=by unfold lim; omega
def q (T S w:Int):Int:=T*w / S
def r (T S w:Int):Int:=T*w % S
def left (T:Int) (W:List Int):Int:=T - sm (W.map (q T (sm W)))
def win (T:Int) (W:List Int) (k:Nat):Prop :=
  0<r T (sm W) (W.getD k default)∧(((W.take k).countP (fun w=>decide (r T (sm W) (W.getD k default)≤r T (sm W) w))+(W.drop (k+1)).countP (fun w=>decide (r T (sm W) (W.getD k default)<r T (sm W) w)):Nat):Int)<left T W
instance (T:Int) (W:List Int) (k:Nat):Decidable (win T W k):=by unfold win; infer_instance
def part (T:Int) (W:List Int) (k:Nat):Int:=q T (sm W) (W.getD k default)+if win T W k then 1 else 0
def share (T:Int) (W:List Int):List Int:=if sm W=0 then List.replicate W.length 0 else (List.range W.length).map (part T W)
theorem share_len (T:Int) (W:List Int):(share T W).length=W.length:=by unfold share; split<;>simp
theorem getD_set_ne {p:List Int} {i j:Nat} {x:Int} (h:i≠j):(p.set i x).getD j default=p.getD j default:=by simp [List.getD_eq_getElem?_getD,List.getElem?_set,h]
theorem getD_set_eq {p:List Int} {i:Nat} {x:Int} (h:i<p.length):(p.set i x).getD i default=x:=by simp [List.getD_eq_getElem?_getD,List.getElem?_set,h]
theorem sm_le {c:Int}:∀ L:List Int,(∀ x∈L,x≤c)→sm L≤L.length*c
  | [],_=>by simp [sm]
  | x::L,h=>by
    have:=sm_le L (fun y hy=>h y (by simp [hy])); have:=h x (by simp)
    simp only [sm,List.length_cons]
    rw [show ((L.length+1:Nat):Int)*c=L.length*c+c by simp [Int.add_mul]]; omega
theorem sm_nn:∀ L:List Int,(∀ x∈L,0≤x)→0≤sm L
  | [],_=>by simp [sm]
  | x::L,h=>by
    have:=sm_nn L (fun y hy=>h y (by simp [hy])); have:=h x (by simp)
    simp only [sm]; omega
def key (rs:List Int) (a:Int):Int := - rs.getD a.toNat default
structure Ord (rs d:List Int):Prop where
  p:d.Perm (idx rs.length)
  s:d.Pairwise (QSort.R (key rs))
theorem Ord.mem {rs d:List Int} (h:Ord rs d) {x:Int}:x∈d ↔ ∃ k:Nat,k<rs.length∧x=k:=by rw [h.p.mem_iff,cF]
theorem Ord.len {rs d:List Int} (h:Ord rs d):d.length=rs.length:=by rw [h.p.length_eq,cL]
end Sh
end Go.Proofs.Ytolhpahjgddjkaa
namespace Go.Proofs.Ytolhpahjgddjkaa
set_option linter.all false
open Go.RowKit
namespace Sh
open QSort (wn aA iteT iteF sb)
variable {K:Kn} {n:Nat}
def wts (L:List Int):List Int:=L.map fun w=>lim w mx
theorem wts_len (L:List Int):(wts L).length=L.length:=by simp [wts]
theorem wts_bd (L:List Int):∀ w∈wts L,0≤w∧w≤2147483647:=by
  intro w hw
  obtain ⟨x,_,rfl⟩:=List.mem_map.1 hw
  exact lim_bd (m:=mx) (by decide)
theorem wts_at {L:List Int} {k:Nat} (h:k<L.length):(wts L).getD k default=lim (L.getD k default) mx:=by simp [wts,List.getD_eq_getElem?_getD,h]
theorem ib {W:List Int} {i:Nat} (h:i<W.length):sm (W.take (i+1))=sm (W.take i)+W.getD i default:=by
  rw [List.take_succ_eq_append_getElem h,sm_app,cc h]; simp [sm]
theorem slb_of {a b:Int} {n:Nat} (h0:0≤a) (h1:a≤b) (h2:b≤n):slb a b n=true:=by simp [slb,h0,h1,h2]
theorem mkb_of {n b:Nat} (h:n*b≤140737488355328) (h2:n≤4611686018427387904):mkb (n:Int) b=true:=by
  simp only [mkb,Bool.and_eq_true,decide_eq_true_eq,Int.toNat_natCast]; omega
end Sh
end Go.Proofs.Ytolhpahjgddjkaa
namespace Go.Proofs.Ytolhpahjgddjkaa
set_option linter.all false
open Go.RowKit
namespace Sh
theorem sm_rep:∀ n:Nat,sm (List.replicate n 0)=0
  | 0=>rfl
  | n+1=>by simp [List.replicate_succ,sm,sm_rep n]
end Sh
end Go.Proofs.Ytolhpahjgddjkaa
namespace Go.Proofs.Ytolhpahjgddjkaa.Tb
set_option linter.all false
open Go.RowKit
open Sh (share wts lim mx sm_nn sm_le wts_len wts_at wts_bd share_len sm_rep)
open QSort (wn aA iteT iteF sb)
set_option maxRecDepth 20000
def sz (x:Int):Int:=min (max x 0) 1048576
theorem sz_bd (x:Int):0≤sz x∧sz x≤1048576:=by unfold sz; omega
variable {K:Kn} {n:Nat}
theorem limit_ok (x:Int):cJ K n x=some (sz x):=rfl
theorem size_ok (x:Int):fV K n x=some (sz x):=rfl
theorem width_ok (x:Int):fW K n x=some (sz x):=rfl
end Go.Proofs.Ytolhpahjgddjkaa.Tb
namespace Go.Proofs.Ytolhpahjgddjkaa.Tb
set_option linter.all false
open Go.RowKit
open Sh (idx cL cF fr fu)
open QSort (wn aA iteT iteF sb R)
set_option maxRecDepth 20000
variable {K:Kn} {n:Nat}
def grp (key:Int→Int) (V:List Int):Nat→List Int
  | 0=>[]
  | N+1=>grp key V N++V.filter fun i=>key i == ((N+1:Nat):Int)
theorem fv {key:Int→Int} {V:List Int} {x:Int}:∀ {N:Nat},x∈grp key V N→x∈V∧key x≤N
  | 0,h=>by simp [grp] at h
  | N+1,h=>by
    simp only [grp,List.mem_append,List.mem_filter,beq_iff_eq] at h
    rcases h with h | h
    · have:=fv h; exact ⟨this.1,by omega⟩
    · exact ⟨h.1,by omega⟩
theorem fS {key:Int→Int} {V:List Int} (hk:∀ v∈V,1≤key v):∀ N:Nat,(grp key V N).Perm (V.filter fun i=>decide (key i≤N))
  | 0=>by
    have:V.filter (fun i=>decide (key i≤((0:Nat):Int)))=[]:=by
      rw [List.filter_eq_nil_iff]; intro a ha; have:=hk a ha; simp; omega
    rw [this]; exact List.Perm.refl _
  | N+1=>by
    have h1:=(fS hk N).append_right (V.filter fun i=>key i == ((N+1:Nat):Int))
    refine h1.trans ?_
    have h2:=List.filter_append_perm (fun i=>decide (key i≤(N:Int))) (V.filter fun i=>decide (key i≤((N+1:Nat):Int)))
    rw [List.filter_filter,List.filter_filter] at h2
    have e1:V.filter (fun a=>decide (key a≤(N:Int)) && decide (key a≤((N+1:Nat):Int)))=V.filter fun i=>decide (key i≤(N:Int)) :=
      List.filter_congr fun x _=>by
        by_cases h:key x≤(N:Int)
        · have:key x≤((N+1:Nat):Int):=by omega
          simp only [h,this,decide_true,Bool.and_true]
        · simp only [h,decide_false,Bool.false_and]
    have e2:V.filter (fun a=>(!decide (key a≤(N:Int))) && decide (key a≤((N+1:Nat):Int)))=V.filter fun i=>key i == ((N+1:Nat):Int) :=
      List.filter_congr fun x _=>by
        by_cases h:key x=((N+1:Nat):Int)
        · have h3:¬ key x≤(N:Int):=by omega
          have h4:key x≤((N+1:Nat):Int):=by omega
          rw [beq_iff_eq.2 h]; simp only [h3,h4,decide_false,decide_true,Bool.not_false,Bool.and_true]
        · rw [beq_false_of_ne h]
          by_cases h3:key x≤(N:Int)
          · simp only [h3,decide_true,Bool.not_true,Bool.false_and]
          · have h4:¬ key x≤((N+1:Nat):Int):=by omega
            simp only [h4,decide_false,Bool.and_false]
    rw [e1,e2] at h2
    exact h2
theorem grp_pair {key:Int→Int} {V:List Int} (hV:V.Pairwise (· < ·)):∀ N:Nat,(grp key V N).Pairwise (R key)
  | 0=>List.Pairwise.nil
  | N+1=>by
    refine List.pairwise_append.2 ⟨grp_pair hV N,?_,fun a ha b hb=>?_⟩
    · refine List.Pairwise.imp_of_mem ?_ (hV.filter _)
      intro a b ha hb hab
      have h1:=(List.mem_filter.1 ha).2; have h2:=(List.mem_filter.1 hb).2
      simp only [beq_iff_eq] at h1 h2
      right; exact ⟨by omega,hab⟩
    · have h1:=(fv ha).2; have h2:=(List.mem_filter.1 hb).2
      simp only [beq_iff_eq] at h2
      left; omega
theorem grp_eq {key:Int→Int} {V d:List Int} {N:Nat} (hp:d.Perm V) (hs:d.Pairwise (R key)) (hV:V.Pairwise (· < ·)) (hk:∀ v∈V,1≤key v∧key v≤N):d=grp key V N:=by
  have h:=fS (fun v hv=>(hk v hv).1) N
  have e:V.filter (fun i=>decide (key i≤(N:Int)))=V:=List.filter_eq_self.2 fun a ha=>by have:=(hk a ha).2; simpa using this
  rw [e] at h
  exact List.Perm.eq_of_pairwise (fun a b _ _ h1 h2=>(h1.asymm h2).elim) hs (grp_pair hV N) (hp.trans h.symm)
def okp (p:aa):Bool:=decide (p.Row≥0) && (decide (p.Col≥0) && (decide (p.Rows≥1) && decide (p.Cols≥1)))
def plc (L:List aa) (i:Int):aa:=L.getD i.toNat default
def val (L:List aa) (q:aa→Bool) (c:Nat):List Int:=(idx (min L.length c)).filter fun i=>okp (plc L i) && q (plc L i)
theorem val_mem {L:List aa} {q:aa→Bool} {c:Nat} {x:Int} (h:x∈val L q c):0≤x∧x.toNat<L.length∧x.toNat<c∧okp (plc L x)=true∧q (plc L x)=true:=by
  obtain ⟨h1,h2⟩:=List.mem_filter.1 h
  obtain ⟨k,hk,rfl⟩:=cF.1 h1
  simp only [Bool.and_eq_true] at h2
  exact ⟨by omega,by omega,by omega,h2.1,h2.2⟩
theorem val_lt (L:List aa) (q:aa→Bool) (c:Nat):(val L q c).Pairwise (· < ·):=(fr _).filter _
theorem f0 (L:List aa) (q:aa→Bool) (c:Nat):(val L q c).length≤L.length:=by
  have:=List.length_filter_le (fun i=>okp (plc L i) && q (plc L i)) (idx (min L.length c))
  rw [cL] at this; unfold val; omega
theorem span_l3 {lvl n:Nat} {f s:Fv} {q:aa→Bool} {sp:aa→Int} (hq:∀ p,K.ee f p=some (q p)) (L:List aa) (c:Nat) (hl:L.length≤10000):∀ (m i:Nat),i≤L.length→L.length<m+i →
    di K n L (c:Int) f s m (i:Int) (val (L.take i) q c)=(cV K n (val L q c) (Fv.c65 s L)).bind fun v=>some v:=by
  have hv:∀ i:Nat,i<L.length→val (L.take (i+1)) q c=val (L.take i) q c++(if i<c∧okp (L.getD i default)=true∧q (L.getD i default)=true then [(i:Int)] else []):=by
    intro i hi
    have pe:∀ (a:Nat) (k:Nat),k<a→a≤L.length→plc (L.take a) (k:Int)=L.getD k default:=by
      intro a k hk ha
      unfold plc; rw [tnat,List.getD_eq_getElem?_getD,List.getElem?_take_of_lt hk,List.getD_eq_getElem?_getD]
    have fe:∀ a b:Nat,b≤a→a≤L.length→(idx b).filter (fun i=>okp (plc (L.take a) i) && q (plc (L.take a) i))=(idx b).filter (fun i=>okp (plc L i) && q (plc L i)):=by
      intro a b hb ha
      refine List.filter_congr fun x hx=>?_
      obtain ⟨k,hk,rfl⟩:=cF.1 hx
      rw [pe a k (by omega) ha]; unfold plc; rw [tnat]
    unfold val
    rw [List.length_take,List.length_take,fe (i+1) _ (by omega) (by omega),fe i _ (by omega) (by omega)]
    by_cases hc:i<c
    · rw [show min (min (i+1) L.length) c=i+1 by omega,show min (min i L.length) c=i by omega,fu,List.filter_append]
      congr 1
      have:plc L (i:Int)=L.getD i default:=by unfold plc; rw [tnat]
      generalize L.getD i default=p at this
      cases h1:okp p<;>cases h2:q p<;>simp [List.filter,this,h1,h2,hc]
    · rw [show min (min (i+1) L.length) c=c by omega,show min (min i L.length) c=c by omega,if_neg (by omega),List.append_nil]
  intro m
  induction m with
  | zero=>intro i h1 h2; omega
  | succ m ih =>
    intro i h1 h2
    simp only [di,eQ]
    by_cases hi:i<L.length
    · rw [iteT (by omega),aA (by omega)]
      simp only [tnat]
      have hs:=hv i hi
      have hnext:=ih (i+1) (by omega) (by omega)
      have hF:¬ (i<c∧okp (L.getD i default)=true∧q (L.getD i default)=true)→bZ K n L (c:Int) f s (i:Int) (val (L.take i) q c) (di K n L (c:Int) f s m) false=(cV K n (val L q c) (Fv.c65 s L)).bind fun v=>some v:=by
        intro h
        rw [if_neg h,List.append_nil] at hs
        rw [hs] at hnext
        simp only [bZ,ek,Bool.false_eq_true,if_false]
        rw [wn (n:=(i:Int)+1) (k:=i+1) (by omega) (by omega)]; exact hnext
      have ho:∀ p:aa,okp p=true↔p.Row≥0∧p.Col≥0∧p.Rows≥1∧p.Cols≥1:=fun p=>by simp [okp]
      by_cases k1:(i:Int)<(c:Int)
      · rw [iteT k1]
        by_cases k2:(L.getD i default).Row≥0
        · rw [iteT k2]
          by_cases k3:(L.getD i default).Col≥0
          · rw [iteT k3]
            by_cases k4:(L.getD i default).Rows≥1
            · rw [iteT k4]
              by_cases k5:(L.getD i default).Cols≥1
              · rw [iteT k5,hq,sb]
                cases h6:q (L.getD i default)
                · exact hF (fun h=>by rw [h6] at h; exact absurd h.2.2 (by decide))
                · rw [if_pos ⟨by omega,(ho _).2 ⟨k2,k3,k4,k5⟩,h6⟩] at hs
                  simp only [bZ,ek,if_true]
                  have hb:=f0 (L.take i) q c
                  rw [List.length_take] at hb
                  rw [fits_of (by simp; omega) (by omega),cu,← hs,wn (n:=(i:Int)+1) (k:=i+1) (by omega) (by omega)]
                  exact hnext
              · rw [iteF k5]; exact hF (fun h=>k5 ((ho _).1 h.2.1).2.2.2)
            · rw [iteF k4]; exact hF (fun h=>k4 ((ho _).1 h.2.1).2.2.1)
          · rw [iteF k3]; exact hF (fun h=>k3 ((ho _).1 h.2.1).2.1)
        · rw [iteF k2]; exact hF (fun h=>k2 ((ho _).1 h.2.1).1)
      · rw [iteF k1]; exact hF (fun h=>k1 (by omega))
    · obtain rfl:i=L.length:=by omega
      rw [iteF (by omega),List.take_length]
theorem span_cmp {s:Fv} {sp:aa→Int} (L:List aa) (m:Nat) (hs:∀ p,(KN m).cf s p=some (sp p)):QSort.Cmp (KN (m+1)) (Fv.c65 s L) (fun a=>0≤a∧a<L.length) (fun i=>sp (plc L i)):=by
  refine ⟨fun a b ha hb=>?_⟩
  show ∃ c,fB (KN m) m a b s L=some c∧_
  unfold fB
  rw [aA ha,hs,sb,aA hb,hs,sb]
  simp only [e8,fy,sb,bne_self_eq_false,Bool.false_eq_true,if_false]
  show ∃ c,_∧(c<0↔sp (plc L a)<sp (plc L b))
  change ∃ c,Option.bind (if decide (sp (plc L a)<sp (plc L b))=true then some (-1) else if decide (sp (plc L a)>sp (plc L b))=true then some 1 else some 0) _=some c∧_
  by_cases h1:sp (plc L a)<sp (plc L b)
  · rw [iteT h1]; exact ⟨-1,rfl,by omega⟩
  · rw [iteF h1]
    by_cases h2:sp (plc L a)>sp (plc L b)
    · rw [iteT h2]; exact ⟨1,rfl,by omega⟩
    · rw [iteF h2]; exact ⟨0,rfl,by omega⟩
theorem spanning_ok {lvl n:Nat} {f s:Fv} {q:aa→Bool} {sp:aa→Int} (hq:∀ p,(KN lvl).ee f p=some (q p)) (hs:∀ m p,(KN (m+1)).cf s p=some (sp p)) (L:List aa) (c N:Nat) (hl:L.length≤10000) (hn:10001<n) (hlv:20020≤lvl)
    (hk:∀ p,okp p=true→q p=true→1≤sp p∧sp p≤N):fE (KN lvl) n L (c:Int) f s=some (grp (fun i=>sp (plc L i)) (val L q c) N):=by
  unfold fE
  have h:=span_l3 (K:=KN lvl) (lvl:=lvl) (n:=n) (s:=s) (sp:=sp) hq L c hl n 0 (by omega) (by omega)
  rw [show val (L.take 0) q c=[] by simp [val,idx],show ((0:Nat):Int)=0 from rfl] at h
  rw [h]
  have hv:=f0 L q c
  obtain ⟨d,h1,h2,h3⟩:=QSort.sort_ok (c0:=2) (f:=Fv.c65 s L) (D:=fun a=>0≤a∧a<L.length) (key:=fun i=>sp (plc L i)) (fun m hm=>by
    obtain ⟨k,rfl⟩:∃ k,m=k+2:=⟨m - 2,by omega⟩
    exact span_cmp L (k+1) (hs k)) (lvl:=lvl) (n:=n) (val L q c) hn (by omega) (val_lt L q c) (fun x hx=>by have:=val_mem hx; omega) (by omega)
  rw [h3,sb,grp_eq (N:=N) h1 h2 (val_lt L q c) (fun v hv=>by have:=val_mem hv; exact hk _ this.2.2.2.1 this.2.2.2.2)]
end Go.Proofs.Ytolhpahjgddjkaa.Tb
namespace Go.Proofs.Ytolhpahjgddjkaa.Tb
set_option linter.all false
open Go.RowKit
open Sh (idx cL cF fr fu sm_nn sm_le)
open QSort (wn aA iteT iteF sb R)
set_option maxRecDepth 20000
variable {K:Kn} {n:Nat}
theorem gne {p:List Int} {i j:Nat} {x:Int} (h:i≠j):(p.set i x).getD j default=p.getD j default:=Sh.getD_set_ne h
theorem geq {p:List Int} {i:Nat} {x:Int} (h:i<p.length):(p.set i x).getD i default=x:=Sh.getD_set_eq h
def wsum (out:List Int) (a:Nat):Nat→Int
  | 0=>0
  | b+1=>wsum out a b+out.getD (a+b) default
def Ok (c:Int) (rows:Nat) (out:List Int):Prop:=out.length=rows∧∀ x∈out,0≤x∧x≤c
theorem Ok.at {c:Int} {rows:Nat} {out:List Int} (h:Ok c rows out) {k:Nat} (hk:k<rows):0≤out.getD k default∧out.getD k default≤c:=by
  have hk':k<out.length:=by rw [h.1]; exact hk
  rw [cc hk']; exact h.2 _ (List.getElem_mem _)
theorem Ok.set {c:Int} {rows:Nat} {out:List Int} (h:Ok c rows out) {k:Nat} {x:Int} (hx:0≤x∧x≤c):Ok c rows (List.set out k x):=by
  refine ⟨by simp [h.1],fun y hy=>?_⟩
  rcases List.mem_or_eq_of_mem_set hy with h1 | h1
  · exact h.2 y h1
  · subst h1; exact hx
theorem eF {c:Int} {rows:Nat} {out:List Int} (h:Ok c rows out) {a:Nat}:∀ b,a+b≤rows→0≤wsum out a b∧wsum out a b≤b*c
  | 0,_=>by simp [wsum]
  | b+1,hb=>by
    have h1:=eF h (a:=a) b (by omega); have h2:=h.at (k:=a+b) (by omega)
    have e:((b+1:Nat):Int)*c=b*c+c:=by rw [Int.natCast_succ,Int.add_mul,Int.one_mul]
    simp only [wsum]; omega
theorem wsum_ge {c:Int} {rows:Nat} {out:List Int} (h:Ok c rows out) {a k:Nat}:∀ b,a+b≤rows→a≤k→k<a+b→out.getD k default≤wsum out a b
  | 0,_,h1,h2=>by omega
  | b+1,hb,h1,h2=>by
    have h3:=eF h (a:=a) b (by omega); have h4:=h.at (k:=a+b) (by omega)
    by_cases e:k=a+b
    · subst e; simp only [wsum]; omega
    · have:=wsum_ge h b (by omega) h1 (by omega)
      simp only [wsum]; omega
theorem wsum_mono {x y:List Int} (h:∀ k,x.getD k default≤y.getD k default) (a:Nat):∀ b,wsum x a b≤wsum y a b
  | 0=>by simp [wsum]
  | b+1=>by have:=wsum_mono h a b; have:=h (a+b); simp only [wsum]; omega
theorem jh {x:List Int} {k a:Nat} {v:Int}:∀ b,(k<a∨a+b≤k)→wsum (List.set x k v) a b=wsum x a b
  | 0,_=>rfl
  | b+1,h=>by simp only [wsum]; rw [jh b (by omega),gne (by omega)]
theorem wsum_set {x:List Int} {k a:Nat} {v:Int} (hk:k<x.length):∀ b,a≤k→k<a+b→wsum (List.set x k v) a b=wsum x a b - x.getD k default+v
  | 0,h1,h2=>by omega
  | b+1,h1,h2=>by
    by_cases e:k=a+b
    · subst e; simp only [wsum]; rw [jh b (by omega),geq hk]; omega
    · simp only [wsum]; rw [wsum_set hk b h1 (by omega),gne e]; omega
theorem wsum_sm (x:List Int) (a:Nat):∀ b,a+b≤x.length→sm ((x.drop a).take b)=wsum x a b
  | 0,_=>by simp [wsum,sm]
  | b+1,h=>by
    have hb:b<(x.drop a).length:=by simp; omega
    rw [Sh.ib hb,wsum_sm x a b (by omega)]
    simp only [wsum]; congr 1
    simp [List.getD_eq_getElem?_getD,List.getElem?_drop]
theorem tsum_ok {c:Int} (hc:0≤c∧c≤4294967296) (l:List Int) (hl:l.length≤10000) (h:∀ x∈l,0≤x∧x≤c) (hn:10001<n):fi K n l=some (sm l):=by
  have loop:∀ (m i:Nat),i≤l.length→l.length<m+i→eC K n l m (sm (l.take i)) (i:Int)=some (sm l):=by
    intro m
    induction m with
    | zero=>intro i h1 h2; omega
    | succ m ih =>
      intro i h1 h2
      simp only [eC,fl]
      by_cases hi:i<l.length
      · have b1:=sm_bd (B:=c) hc.1 (l.take (i+1)) (fun x hx=>by have:=h x (List.mem_of_mem_take hx); omega)
        have b2:((l.take (i+1)).length:Int)≤10000:=by rw [List.length_take]; omega
        have b3:=Int.mul_le_mul_of_nonneg_right b2 hc.1
        rw [iteT (by omega),aA (by omega),tnat,← Sh.ib hi,wn (n:=(i:Int)+1) (k:=i+1) (by omega) (by omega),bR (by omega) (by omega)]
        exact ih (i+1) (by omega) (by omega)
      · obtain rfl:i=l.length:=by omega
        rw [iteF (by omega),List.take_length]
  have:=loop n 0 (by omega) (by omega)
  simpa [fi,sm] using this
def hstep (L:List aa) (H out:List Int) (i:Int):List Int :=
  List.set out ((plc L i).Row.toNat+(plc L i).Rows.toNat - 1) (out.getD ((plc L i).Row.toNat+(plc L i).Rows.toNat - 1) default+max (sz (H.getD i.toNat default) - wsum out (plc L i).Row.toNat (plc L i).Rows.toNat) 0)
def qh (rows:Int) (p:aa):Bool:=decide (p.Row<rows) && decide (p.Rows≤w64 (rows - p.Row))
theorem qh_ok (v:Int) (p:aa):eU K n p v=some (qh v p):=by
  unfold eU eK qh
  by_cases h:p.Row<v
  · rw [iteT h]; simp only [h,decide_true,Bool.true_and]
  · rw [iteF h]; simp only [h,decide_false,Bool.false_and]
structure Vh (rows:Nat) (L:List aa) (H:List Int) (i:Int):Prop where
  i0:0≤i
  iL:i.toNat<L.length
  iH:i.toNat<H.length
  r0:0≤(plc L i).Row
  r1:1≤(plc L i).Rows
  r2:(plc L i).Row+(plc L i).Rows≤rows
theorem okp_of {p:aa} (h:okp p=true):p.Row≥0∧p.Col≥0∧p.Rows≥1∧p.Cols≥1:=by simpa [okp] using h
theorem qh_of {rows:Nat} {p:aa} (hr:rows≤10000) (h1:okp p=true) (h2:qh rows p=true):p.Row+p.Rows≤rows:=by
  have:=okp_of h1
  unfold qh at h2
  simp only [Bool.and_eq_true,decide_eq_true_eq] at h2
  rw [bR (by omega) (by omega)] at h2; omega
theorem Vh.of {rows:Nat} {L:List aa} {H:List Int} (hr:rows≤10000) {i:Int} (h:i∈val L (qh rows) H.length):Vh rows L H i:=by
  obtain ⟨h1,h2,h3,h4,h5⟩:=val_mem h
  have:=okp_of h4
  exact ⟨h1,h2,h3,by omega,by omega,qh_of hr h4 h5⟩
theorem fY {rows:Nat} {L:List aa} {H:List Int} {i:Int} (hr:rows≤10000) (h:Vh rows L H i) {out:List Int} (ho:Ok 1048576 rows out) :
    Ok 1048576 rows (hstep L H out i)∧(∀ k,out.getD k default≤(hstep L H out i).getD k default)∧sz (H.getD i.toNat default)≤wsum (hstep L H out i) (plc L i).Row.toNat (plc L i).Rows.toNat:=by
  have r0:=h.r0; have r1:=h.r1; have r2:=h.r2
  have he:(plc L i).Row.toNat+(plc L i).Rows.toNat - 1<out.length:=by rw [ho.1]; omega
  have hw:=wsum_ge ho (a:=(plc L i).Row.toNat) (k:=(plc L i).Row.toNat+(plc L i).Rows.toNat - 1) (plc L i).Rows.toNat (by omega) (by omega) (by omega)
  have ha:=ho.at (k:=(plc L i).Row.toNat+(plc L i).Rows.toNat - 1) (by omega)
  have hz:=sz_bd (H.getD i.toNat default)
  unfold hstep
  refine ⟨ho.set (by omega),fun k=>?_,?_⟩
  · by_cases e:k=(plc L i).Row.toNat+(plc L i).Rows.toNat - 1
    · subst e; rw [geq he]; omega
    · rw [gne (Ne.symm e)]; omega
  · rw [wsum_set he _ (by omega) (by omega)]; omega
theorem ik {rows:Nat} {L:List aa} {H:List Int} (hr:rows≤10000):∀ (d out:List Int),(∀ i∈d,Vh rows L H i)→Ok 1048576 rows out →
    Ok 1048576 rows (d.foldl (hstep L H) out)∧(∀ k,out.getD k default≤(d.foldl (hstep L H) out).getD k default)∧∀ i∈d,sz (H.getD i.toNat default)≤wsum (d.foldl (hstep L H) out) (plc L i).Row.toNat (plc L i).Rows.toNat
  | [],out,_,ho=>⟨ho,fun k=>Int.le_refl _,fun i hi=>by cases hi⟩
  | i::d,out,hd,ho=>by
    obtain ⟨h1,h2,h3⟩:=fY hr (hd i (by simp)) ho
    obtain ⟨k1,k2,k3⟩:=ik hr d _ (fun j hj=>hd j (by simp [hj])) h1
    refine ⟨k1,fun k=>Int.le_trans (h2 k) (k2 k),fun j hj=>?_⟩
    rcases List.mem_cons.1 hj with e | hj
    · subst e; exact Int.le_trans h3 (wsum_mono k2 _ _)
    · exact k3 j hj
theorem h_l2 {rows:Nat} {L:List aa} {H d:List Int} (hr:rows≤10000) (hn:10001<n) (hd:∀ i∈d,Vh rows L H i) (hl:d.length≤10000):∀ (m t:Nat) (out:List Int),t≤d.length→d.length<m+t→Ok 1048576 rows out →
    eu K n L H d m (t:Int) out=some ((d.drop t).foldl (hstep L H) out):=by
  intro m
  induction m with
  | zero=>intro t out h1 h2; omega
  | succ m ih =>
    intro t out h1 h2 ho
    simp only [eu,eD]
    by_cases ht:t<d.length
    · have hi:d.getD t default∈d:=by rw [cc ht]; exact List.getElem_mem _
      have hv:=hd _ hi
      have ed:d.drop t=d.getD t default::d.drop (t+1):=by rw [List.drop_eq_getElem_cons ht,cc ht]
      rw [iteT (by omega),aA (by omega)]
      simp only [tnat]
      rw [ed,List.foldl_cons]
      generalize d.getD t default=i at *
      have i0:=hv.i0; have iL:=hv.iL; have iH:=hv.iH; have r0:=hv.r0; have r1:=hv.r1; have r2:=hv.r2
      have hs:=fY hr hv ho
      have hb:=ho.at (k:=(plc L i).Row.toNat+(plc L i).Rows.toNat - 1) (by omega)
      have hw:=eF ho (a:=(plc L i).Row.toNat) (plc L i).Rows.toNat (by omega)
      have hz:=sz_bd (H.getD i.toNat default)
      have hnext:=ih (t+1) (hstep L H out i) (by omega) (by omega) hs.1
      rw [aA (by omega),aA (by omega),limit_ok,sb,sb,show List.getD L i.toNat default=plc L i from rfl]
      unfold hstep at hnext hs
      obtain ⟨r,er⟩:∃ r:Nat,(plc L i).Row=r:=⟨(plc L i).Row.toNat,by omega⟩
      obtain ⟨s,es⟩:∃ s:Nat,(plc L i).Rows=s:=⟨(plc L i).Rows.toNat,by omega⟩
      unfold hstep
      rw [er,es] at r2 hb hw hnext ⊢
      rw [es] at r1
      simp only [tnat] at hb hw hnext ⊢
      rw [wn (n:=(r:Int)+(s:Int)) (k:=r+s) (by omega) (by omega),Sh.slb_of (by omega) (by omega) (by rw [ho.1]; omega),cu]
      simp only [tnat,Int.toNat_zero,Nat.add_zero,Nat.add_sub_cancel_left]
      by_cases h1s:s=1
      · subst h1s
        rw [show (((1:Nat):Int) == 1)=true from rfl,if_pos rfl,aA (by omega),show decide (r<out.length)=true from decide_eq_true (by rw [ho.1]; omega),cu,aA (by omega)]
        unfold dC
        rw [show r+1 - 1=r by omega] at hnext hb ⊢
        simp only [wsum,Nat.add_zero,Int.zero_add] at hnext ⊢
        rw [show max (out.getD r default) (sz (H.getD i.toNat default))=out.getD r default+max (sz (H.getD i.toNat default) - out.getD r default) 0 by omega,wn (n:=(t:Int)+1) (k:=t+1) (by omega) (by omega)]
        exact hnext
      · have:((s:Int) == 1)=false:=by rw [beq_eq_false_iff_ne]; omega
        rw [this,if_neg (by decide),wn (n:=(s:Int) - 1) (k:=s - 1) (by omega) (by omega),aA (by omega),tnat,show decide (r+(s - 1)<out.length)=true from decide_eq_true (by rw [ho.1]; omega),cu]
        rw [tsum_ok (c:=1048576) (by omega) _ (by rw [List.length_take]; omega) (fun x hx=>ho.2 x (List.mem_of_mem_drop (List.mem_of_mem_take hx))) hn,sb,wsum_sm out r s (by rw [ho.1]; omega)]
        rw [show decide (r+s≤out.length)=true from decide_eq_true (by rw [ho.1]; omega),cu,aA (by omega)]
        unfold dC
        have hbb:(s:Int)*1048576≤10000*1048576:=Int.mul_le_mul_of_nonneg_right (by omega) (by omega)
        rw [show r+(s - 1)=r+s - 1 by omega,wn (n:=(t:Int)+1) (k:=t+1) (by omega) (by omega),bR (n:=sz (H.getD i.toNat default) - wsum out r s) (by omega) (by omega),bR (by omega) (by omega)]
        exact hnext
    · obtain rfl:t=d.length:=by omega
      rw [iteF (by omega),List.drop_length]; rfl
def heights (L:List aa) (H out:List Int):List Int:=(grp (fun i=>(plc L i).Rows) (val L (qh out.length) H.length) out.length).foldl (hstep L H) out
theorem Ok.rep (c:Int) (hc:0≤c) (rows:Nat):Ok c rows (List.replicate rows 0):=⟨by simp,fun x hx=>by have:=(List.mem_replicate.1 hx).2; omega⟩
theorem grp_len {key:Int→Int} {V:List Int} (hk:∀ v∈V,1≤key v) (N:Nat):(grp key V N).length≤V.length:=by
  rw [(fS hk N).length_eq]; exact List.length_filter_le _ _
theorem heights_ok {lvl n:Nat} (L:List aa) (H:List Int) (rows:Int) (hr:rows≤10000) (hL:L.length≤10000) (hn:10001<n) (hlv:20020≤lvl):fz (KN lvl) n L H rows=some (heights L H (List.replicate (max rows 0).toNat 0)):=by
  unfold fz
  obtain ⟨r,er⟩:∃ r:Nat,max rows 0=r:=⟨(max rows 0).toNat,by omega⟩
  rw [er,Sh.mkb_of (by omega) (by omega),cu,sb,tnat]
  obtain ⟨k,rfl⟩:∃ k,lvl=k+1:=⟨lvl - 1,by omega⟩
  rw [spanning_ok (lvl:=k+1) (f:=Fv.c31 (r:Int)) (s:=Fv.fn 33) (q:=qh r) (sp:=fun p=>p.Rows) (fun p=>qh_ok (K:=KN k) (n:=k) (r:Int) p) (fun m p=>rfl) L H.length r hL hn hlv (fun p h1 h2=>by
    have:=okp_of h1; have:=qh_of (by omega) h1 h2; omega),sb]
  have hd:∀ i∈grp (fun i=>(plc L i).Rows) (val L (qh r) H.length) r,Vh r L H i:=fun i hi=>Vh.of (by omega) (fv hi).1
  have hlen:=grp_len (key:=fun i=>(plc L i).Rows) (V:=val L (qh r) H.length) (fun v hv=>(Vh.of (by omega) hv).r1) r
  have:=h_l2 (K:=KN (k+1)) (n:=n) (rows:=r) (by omega) hn hd (by have:=f0 L (qh r) H.length; omega) n 0 _ (by omega) (by have:=f0 L (qh r) H.length; omega) (Ok.rep 1048576 (by omega) r)
  unfold heights
  rw [List.length_replicate]
  exact this
end Go.Proofs.Ytolhpahjgddjkaa.Tb
namespace Go.Proofs.Ytolhpahjgddjkaa.Tb
set_option linter.all false
open Go.RowKit
open Sh (idx cL cF fr fu sm_nn sm_le)
open QSort (wn aA iteT iteF sb R)
set_option maxRecDepth 20000
variable {K:Kn} {n:Nat}
theorem idx_drop {M i:Nat} (h:i<M):(idx M).drop i=(i:Int)::(idx M).drop (i+1):=by
  rw [List.drop_eq_getElem_cons (by rw [cL]; exact h)]
  congr 1; simp [idx]
theorem inside_ok (a b c:Int):eV K n a b c=some (decide (a≥0) && (decide (b≥1) && (decide (a<c) && decide (b≤w64 (c - a))))):=by
  unfold eV cW
  by_cases h1:a≥0<;>by_cases h2:b≥1<;>by_cases h3:a<c<;>simp [h1,h2,h3]
theorem rh_l3 {rows:Nat} {L:List aa} {H:List Int} {i:Int} (hr:rows≤10000) (h:Vh rows L H i) {out:List Int} (ho:Ok 1048576 rows out) (k:Nat) (hk:i=k) (L1 L2:Int→List Int→Option (List Int)):∀ (m b:Nat),b≤(plc L i).Rows.toNat→(plc L i).Rows.toNat<m+b →
    d9 K n L H (plc L i).Rows (k:Int) out L1 L2 m (sz (H.getD k default) - wsum out (plc L i).Row.toNat b) (((plc L i).Row.toNat+b:Nat):Int)=L2 (w64 (k+1)) (hstep L H out i):=by
  subst hk
  have r0:=h.r0; have r1:=h.r1; have r2:=h.r2
  have hs:=fY hr h ho
  have hz:=sz_bd (H.getD k default)
  have ep:List.getD L k default=plc L (k:Int):=by unfold plc; rw [tnat]
  intro m
  induction m with
  | zero=>intro b h1 h2; omega
  | succ m ih =>
    intro b h1 h2
    simp only [d9,fc,tnat,ep]
    have hw:=eF ho (a:=(plc L (k:Int)).Row.toNat) b (by omega)
    have hbb:(b:Int)*1048576≤10000*1048576:=Int.mul_le_mul_of_nonneg_right (by omega) (by omega)
    rw [sb,wn (n:=(plc L (k:Int)).Row+(plc L (k:Int)).Rows) (k:=(plc L (k:Int)).Row.toNat+(plc L (k:Int)).Rows.toNat) (by omega) (by omega)]
    by_cases hb:b<(plc L (k:Int)).Rows.toNat
    · have h3:=ho.at (k:=(plc L (k:Int)).Row.toNat+b) (by omega)
      rw [iteT (by omega),aA (by rw [ho.1]; omega),wn (n:=(((plc L (k:Int)).Row.toNat+b:Nat):Int)+1) (k:=(plc L (k:Int)).Row.toNat+(b+1)) (by omega) (by omega),bR (by omega) (by omega)]
      have e:sz (H.getD k default) - wsum out (plc L (k:Int)).Row.toNat b - out.getD ((plc L (k:Int)).Row.toNat+b) default=sz (H.getD k default) - wsum out (plc L (k:Int)).Row.toNat (b+1):=by simp only [wsum]; omega
      rw [e]
      exact ih (b+1) (by omega) (by omega)
    · obtain rfl:b=(plc L (k:Int)).Rows.toNat:=by omega
      have h3:=ho.at (k:=(plc L (k:Int)).Row.toNat+(plc L (k:Int)).Rows.toNat - 1) (by omega)
      rw [iteF (by omega),wn (n:=(((plc L (k:Int)).Row.toNat+(plc L (k:Int)).Rows.toNat:Nat):Int) - 1) (k:=(plc L (k:Int)).Row.toNat+(plc L (k:Int)).Rows.toNat - 1) (by omega) (by omega),aA (by rw [ho.1]; omega),aA (by rw [ho.1]; omega)]
      unfold dE hstep
      simp only [tnat]
      rw [bR (n:=out.getD _ default+_) (by omega) (by omega)]
theorem rh_l5 {rows:Nat} {L:List aa} {H:List Int} (hr:rows≤10000) (hL:L.length≤10000) (hn:10001<n) (r:Nat) (L1:Int→List Int→Option (List Int)):∀ (m i:Nat) (out:List Int),i≤min L.length H.length→L.length<m+i→Ok 1048576 rows out →
    cm K n L H (r:Int) L1 m (i:Int) out=L1 (w64 (r+1)) ((((idx (min L.length H.length)).drop i).filter fun i=>((plc L i).Rows == (r:Int)) && (okp (plc L i) && qh rows (plc L i))).foldl (hstep L H) out):=by
  intro m
  induction m with
  | zero=>intro i out h1 h2; omega
  | succ m ih =>
    intro i out h1 h2 ho
    simp only [cm,fp]
    by_cases hi:i<min L.length H.length
    · have ep:List.getD L i default=plc L (i:Int):=by unfold plc; rw [tnat]
      rw [iteT (by omega),idx_drop hi,show decide ((i:Int)<(H.length:Int))=true from decide_eq_true (by omega)]
      unfold dj
      rw [if_pos rfl,aA (by omega),tnat,ep,ho.1,inside_ok,sb,List.filter_cons]
      have hF:((plc L (i:Int)).Rows == (r:Int) && (okp (plc L (i:Int)) && qh rows (plc L (i:Int))))=false →
          cj K n L H (r:Int) (i:Int) out L1 (cm K n L H (r:Int) L1 m) true=L1 (w64 (r+1)) ((if ((plc L (i:Int)).Rows == (r:Int) && (okp (plc L (i:Int)) && qh rows (plc L (i:Int))))=true then (i:Int)::((idx (min L.length H.length)).drop (i+1)).filter (fun i=>((plc L i).Rows == (r:Int)) && (okp (plc L i) && qh rows (plc L i))) else ((idx (min L.length H.length)).drop (i+1)).filter (fun i=>((plc L i).Rows == (r:Int)) && (okp (plc L i) && qh rows (plc L i)))).foldl (hstep L H) out):=by
        intro h
        rw [h,if_neg (by decide)]
        unfold cj dE
        rw [if_pos rfl,wn (n:=(i:Int)+1) (k:=i+1) (by omega) (by omega)]
        exact ih (i+1) out (by omega) (by omega) ho
      by_cases k1:(plc L (i:Int)).Rows=(r:Int)
      · have:((plc L (i:Int)).Rows != (r:Int))=false:=by simp [k1]
        rw [this,if_neg (by decide)]
        by_cases k2:(plc L (i:Int)).Cols<1
        · rw [iteT k2]; exact hF (by have : okp (plc L (i : Int)) = false := by simp [okp]; omega
                                     rw [this]; simp)
        · rw [iteF k2]
          by_cases k3:(plc L (i:Int)).Col<0
          · rw [iteT k3]; exact hF (by have : okp (plc L (i : Int)) = false := by simp [okp]; omega
                                       rw [this]; simp)
          · rw [iteF k3]
            have e:(decide ((plc L (i:Int)).Row≥0) && (decide ((plc L (i:Int)).Rows≥1) && (decide ((plc L (i:Int)).Row<(rows:Int)) && decide ((plc L (i:Int)).Rows≤w64 ((rows:Int) - (plc L (i:Int)).Row)))))=(okp (plc L (i:Int)) && qh rows (plc L (i:Int))):=by
              unfold okp qh
              rw [show decide ((plc L (i:Int)).Col≥0)=true from decide_eq_true (by omega),show decide ((plc L (i:Int)).Cols≥1)=true from decide_eq_true (by omega)]
              simp only [Bool.true_and,Bool.and_true,Bool.and_assoc]
            rw [e]
            cases hq:(okp (plc L (i:Int)) && qh rows (plc L (i:Int)))
            · have h9:=hF (by rw [hq,Bool.and_false])
              rw [hq] at h9; exact h9
            · have hv:Vh rows L H (i:Int):=Vh.of hr (List.mem_filter.2 ⟨cF.2 ⟨i,by omega,rfl⟩,hq⟩)
              have r0:=hv.r0; have r1:=hv.r1; have r2:=hv.r2
              rw [beq_iff_eq.2 k1,Bool.and_true,if_pos rfl,List.foldl_cons]
              unfold cj
              rw [Bool.not_true,if_neg (by decide),aA (by omega),size_ok,sb,tnat,ep]
              have h3:=rh_l3 (K:=K) (n:=n) hr hv ho i rfl L1 (cm K n L H (r:Int) L1 m) n 0 (by omega) (by omega)
              simp only [wsum,Int.sub_zero,Nat.add_zero] at h3
              rw [show (((plc L (i:Int)).Row.toNat:Nat):Int)=(plc L (i:Int)).Row by omega,k1] at h3
              rw [h3,wn (n:=(i:Int)+1) (k:=i+1) (by omega) (by omega)]
              exact ih (i+1) _ (by omega) (by omega) (fY hr hv ho).1
      · have:((plc L (i:Int)).Rows != (r:Int))=true:=by simp [k1]
        rw [this,if_pos rfl]
        exact hF (by rw [beq_false_of_ne k1,Bool.false_and])
    · obtain rfl:i=min L.length H.length:=by omega
      have hd:(idx (min L.length H.length)).drop (min L.length H.length)=[]:=List.drop_eq_nil_of_le (by rw [cL]; exact Nat.le_refl _)
      rw [hd]
      have hj:dj K n L H (r:Int) ((min L.length H.length:Nat):Int) out L1 (cm K n L H (r:Int) L1 m) false=L1 (w64 (r+1)) out:=by
        unfold dj; rw [if_neg (by decide)]
      by_cases h:((min L.length H.length:Nat):Int)<(L.length:Int)
      · rw [iteT h,show decide (((min L.length H.length:Nat):Int)<(H.length:Int))=false from decide_eq_false (by omega)]; exact hj
      · rw [iteF h]; exact hj
theorem rheights_ok {n:Nat} (L:List aa) (H out:List Int) (hr:out.length≤10000) (hL:L.length≤10000) (hn:10001<n) (ho:Ok 1048576 out.length out):fj K n L H out=some (heights L H out):=by
  unfold fj
  rw [fits_of (by simp; omega) (by omega),cu,List.nil_append]
  have loop:∀ (m k:Nat),k≤out.length→out.length<m+k →
      da K n L H m ((k+1:Nat):Int) ((grp (fun i=>(plc L i).Rows) (val L (qh out.length) H.length) k).foldl (hstep L H) out)=some (heights L H out):=by
    intro m
    induction m with
    | zero=>intro k h1 h2; omega
    | succ m ih =>
      intro k h1 h2
      have hd:∀ i∈grp (fun i=>(plc L i).Rows) (val L (qh out.length) H.length) k,Vh out.length L H i:=fun i hi=>Vh.of hr (fv hi).1
      have hf:=(ik hr _ out hd ho).1
      simp only [da,eZ]
      rw [hf.1]
      by_cases hk:k<out.length
      · rw [iteT (by omega)]
        have:=rh_l5 (K:=K) (n:=n) (H:=H) hr hL hn (k+1) (da K n L H m) n 0 _ (by omega) (by omega) hf
        rw [List.drop_zero,show ((0:Nat):Int)=0 from rfl] at this
        rw [this,wn (n:=((k+1:Nat):Int)+1) (k:=k+1+1) (by omega) (by omega)]
        have e:=ih (k+1) (by omega) (by omega)
        simp only [grp,List.foldl_append] at e
        unfold val at e ⊢
        rw [List.filter_filter] at e
        exact e
      · obtain rfl:k=out.length:=by omega
        rw [iteF (by omega)]; rfl
  exact loop n 0 (by omega) (by omega)
def small (x:Int):Prop := -1048576≤x∧x≤1048576
structure Few (L:List aa) (v:Int):Prop where
  s:∀ p∈L,small p.Row∧small p.Col∧small p.Rows∧small p.Cols
  l:L.length≤30
  v:v≤30
theorem few_l2 (L:List aa) (v i:Int) (L1:Int→Option Bool):∀ (m t:Nat),t≤4→4<m+t →
    dr K n L v i L1 m 4 (t:Int)=some false∨((∀ k,t≤k→k<4→small ([(L.getD i.toNat default).Row,(L.getD i.toNat default).Col,(L.getD i.toNat default).Rows,(L.getD i.toNat default).Cols].getD k default))∧dr K n L v i L1 m 4 (t:Int)=L1 (w64 (i+1))):=by
  intro m
  induction m with
  | zero=>intro t h1 h2; omega
  | succ m ih =>
    intro t h1 h2
    simp only [dr,fw]
    by_cases ht:t<4
    · rw [iteT (by omega),aA (by simp; omega),sb,tnat]
      generalize [(L.getD i.toNat default).Row,(L.getD i.toNat default).Col,(L.getD i.toNat default).Rows,(L.getD i.toNat default).Cols]=l at *
      by_cases k1:l.getD t default < -1048576
      · left; rw [iteT k1]; rfl
      · rw [iteF k1]
        unfold eP
        by_cases k2:l.getD t default>1048576
        · left; rw [iteT k2]
        · rw [iteF k2,wn (n:=(t:Int)+1) (k:=t+1) (by omega) (by omega)]
          rcases ih (t+1) (by omega) (by omega) with h | ⟨h,e⟩
          · exact .inl h
          · right
            refine ⟨fun k hk hk4=>?_,e⟩
            by_cases hkt:k=t
            · subst hkt; unfold small; omega
            · exact h k (by omega) hk4
    · obtain rfl:t=4:=by omega
      right
      exact ⟨fun k hk hk4=>by omega,by rw [iteF (by omega)]⟩
theorem few_tot {n:Nat} (L:List aa) (v:Int) (hL:L.length≤9223372036854775807) (hn:L.length+10<n):∃ b,fL K n L v=some b∧(b=true→Few L v):=by
  have loop:∀ (m i:Nat),i≤L.length→L.length<m+i→∃ b,c6 K n L v m (i:Int)=some b∧(b=true→(∀ p∈L.drop i,small p.Row∧small p.Col∧small p.Rows∧small p.Cols)∧L.length≤30∧v≤30):=by
    intro m
    induction m with
    | zero=>intro i h1 h2; omega
    | succ m ih =>
      intro i h1 h2
      simp only [c6,fa]
      by_cases hi:i<L.length
      · rw [iteT (by omega),aA (by omega)]
        rcases few_l2 (K:=K) (n:=n) L v (i:Int) (c6 K n L v m) n 0 (by omega) (by omega) with h | ⟨h,e⟩
        · rw [show ((0:Nat):Int)=0 from rfl] at h
          refine ⟨false,h,fun e=>by cases e⟩
        · rw [show ((0:Nat):Int)=0 from rfl,bR (n:=(i:Int)+1) (by omega) (by omega),show (i:Int)+1=((i+1:Nat):Int) by omega] at e
          obtain ⟨b,e2,f⟩:=ih (i+1) (by omega) (by omega)
          refine ⟨b,e.trans e2,fun hb=>?_⟩
          have f:=f hb
          refine ⟨fun p hp=>?_,f.2⟩
          rw [List.drop_eq_getElem_cons hi] at hp
          rcases List.mem_cons.1 hp with hp | hp
          · have g0:=h 0 (by omega) (by omega); have g1:=h 1 (by omega) (by omega); have g2:=h 2 (by omega) (by omega); have g3:=h 3 (by omega) (by omega)
            rw [tnat,cc hi,← hp] at g0 g1 g2 g3
            exact ⟨g0,g1,g2,g3⟩
          · exact f.1 p hp
      · obtain rfl:i=L.length:=by omega
        rw [iteF (by omega)]
        unfold eW
        by_cases h3:(L.length:Int)≤30
        · rw [iteT h3]
          exact ⟨_,rfl,fun hb=>⟨fun p hp=>by simp at hp,by omega,of_decide_eq_true hb⟩⟩
        · rw [iteF h3]; exact ⟨_,rfl,fun hb=>by cases hb⟩
  obtain ⟨b,e,f⟩:=loop n 0 (by omega) (by omega)
  exact ⟨b,e,fun hb=>⟨(f hb).1,(f hb).2.1,(f hb).2.2⟩⟩
end Go.Proofs.Ytolhpahjgddjkaa.Tb
namespace Go.Proofs.Ytolhpahjgddjkaa.QTableHeights
set_option linter.all false
open Go.RowKit
open Tb
open Sh (idx cL cF fr fu sm_nn sm_le)
open QSort (wn aA iteT iteF sb R)
set_option maxRecDepth 20000
theorem fit_ok (k:Nat):fq (KN (k+12)) (k+12)=some true:=by kernel_rfl
theorem fit_ok' {n:Nat} (h:12≤n):fq (KN n) n=some true:=by
  obtain ⟨k,rfl⟩:∃ k,n=k+12:=⟨n - 12,by omega⟩
  exact fit_ok k
variable {K:Kn} {n:Nat}
theorem mem_grp {key:Int→Int} {V:List Int} {N:Nat} {x:Int} (hk:∀ v∈V,1≤key v) (h:x∈V) (h2:key x≤N):x∈grp key V N :=
  (fS hk N).mem_iff.2 (List.mem_filter.2 ⟨h,decide_eq_true h2⟩)
theorem l5 (L:List aa) (H D:List Int) (rows:Nat) (hr:rows≤30) (hn:30<n) (hf:∀ p∈L,small p.Row∧small p.Col∧small p.Rows∧small p.Cols) (hL:L.length≤30) (hD:Ok 1048576 rows D)
    (hs:∀ i∈val L (qh rows) H.length,sz (H.getD i.toNat default)≤wsum D (plc L i).Row.toNat (plc L i).Rows.toNat):∀ (m i:Nat),i≤L.length→L.length<m+i→cH K n L H D m (i:Int)=some true:=by
  intro m
  induction m with
  | zero=>intro i h1 h2; omega
  | succ m ih =>
    intro i h1 h2
    simp only [cH,fg]
    by_cases hi:i<L.length
    · have hnext:=ih (i+1) (by omega) (by omega)
      rw [iteT (by omega),aA (by omega),tnat]
      have hp:=hf (L.getD i default) (by rw [cc hi]; exact List.getElem_mem _)
      have ep:plc L (i:Int)=L.getD i default:=by unfold plc; rw [tnat]
      have hT:bX K n L H D (i:Int) (cH K n L H D m) true=some true:=by
        unfold bX ew
        rw [if_pos rfl,wn (n:=(i:Int)+1) (k:=i+1) (by omega) (by omega)]; exact hnext
      by_cases k0:(i:Int)≥(H.length:Int)
      · rw [iteT k0]; exact hT
      rw [iteF k0]
      by_cases k1:(L.getD i default).Row<0
      · rw [iteT k1]; exact hT
      rw [iteF k1]
      by_cases k2:(L.getD i default).Rows<1
      · rw [iteT k2]; exact hT
      rw [iteF k2]
      by_cases k3:(L.getD i default).Col<0
      · rw [iteT k3]; exact hT
      rw [iteF k3]
      by_cases k4:(L.getD i default).Cols<1
      · rw [iteT k4]; exact hT
      rw [iteF k4]
      obtain ⟨⟨a1,a2⟩,⟨b1,b2⟩,⟨c1,c2⟩,⟨d1,d2⟩⟩:=hp
      rw [bR (by omega) (by omega),hD.1]
      by_cases k5:(L.getD i default).Row+(L.getD i default).Rows>(rows:Int)
      · rw [show decide ((L.getD i default).Row+(L.getD i default).Rows>(rows:Int))=true from decide_eq_true k5]; exact hT
      rw [show decide ((L.getD i default).Row+(L.getD i default).Rows>(rows:Int))=false from decide_eq_false k5]
      unfold bX
      rw [if_neg (by decide),tnat,bR (by omega) (by omega),Sh.slb_of (by omega) (by omega) (by rw [hD.1]; omega),cu]
      have hv:(i:Int)∈val L (qh rows) H.length:=by
        refine List.mem_filter.2 ⟨cF.2 ⟨i,by omega,rfl⟩,?_⟩
        rw [ep]; unfold okp qh
        rw [bR (by omega) (by omega)]
        simp only [Bool.and_eq_true,decide_eq_true_eq]; omega
      have hsi:=hs _ hv
      rw [tnat,ep] at hsi
      generalize hw:List.drop (L.getD i default).Row.toNat (List.take ((L.getD i default).Row+(L.getD i default).Rows).toNat D)=W
      have hWl:W.length=(L.getD i default).Rows.toNat:=by rw [←hw,List.length_drop,List.length_take,hD.1]; omega
      have hWs:∀ t,t≤W.length→sm (W.take t)=wsum D (L.getD i default).Row.toNat t:=by
        intro t ht
        rw [←hw,List.drop_take,List.take_take,show min t (((L.getD i default).Row+(L.getD i default).Rows).toNat - (L.getD i default).Row.toNat)=t by omega]
        exact wsum_sm D _ t (by rw [hD.1]; omega)
      have l3:∀ (m2 t:Nat),t≤W.length→W.length<m2+t→dX K n L H D (i:Int) (cH K n L H D m) m2 (sm (W.take t)) W (W.length:Int) (t:Int)=some true:=by
        intro m2
        induction m2 with
        | zero=>intro t h3 h4; omega
        | succ m2 ih2 =>
          intro t h3 h4
          simp only [dX,fC]
          by_cases ht:t<W.length
          · have hb:=eF hD (a:=(L.getD i default).Row.toNat) (t+1) (by omega)
            rw [←hWs (t+1) (by omega)] at hb
            have hbb:((t+1:Nat):Int)*1048576≤10000*1048576:=Int.mul_le_mul_of_nonneg_right (by omega) (by omega)
            rw [iteT (by omega),aA (by omega),tnat,← Sh.ib ht,wn (n:=(t:Int)+1) (k:=t+1) (by omega) (by omega),bR (by omega) (by omega)]
            exact ih2 (t+1) (by omega) (by omega)
          · obtain rfl:t=W.length:=by omega
            rw [iteF (by omega),aA (by omega),tnat,width_ok,sb,hWs _ (Nat.le_refl _),hWl,iteF (by omega)]
            unfold ew
            rw [wn (n:=(i:Int)+1) (k:=i+1) (by omega) (by omega)]; exact hnext
      exact l3 n 0 (by omega) (by omega)
    · obtain rfl:i=L.length:=by omega
      rw [iteF (by omega)]
theorem holds (x0:List aa) (x1:List Int) (x2:Int) (h0:HasT Try.prog 28 ((eSl ag) x0)) (h1:HasT Try.prog 33 ((eSl (eInt .i64)) x1)) (h2:HasT Try.prog 3 ((eInt .i64) x2)):∃ n,gu (KN n) n x0 x1 x2=some true:=by
  obtain ⟨l,hl,hm,_⟩:=h0.sl_inv Try.underlying28
  simp only [eSl,List.cons.injEq,AV.sl.injEq,and_true] at hl
  have hlen:l.length=x0.length:=by rw [←hl,List.length_map]
  have hm':l.length≤9223372036854775807:=hm
  refine ⟨x0.length+20030,?_⟩
  generalize hN:x0.length+20030=N
  unfold gu
  rw [fit_ok' (by omega),sb]
  obtain ⟨b,e,hf⟩:=few_tot (K:=KN N) (n:=N) x0 x2 (by omega) (by omega)
  rw [Bool.not_true,if_neg (by decide),e,sb]
  cases b
  · rfl
  obtain ⟨hs,hl30,hv⟩:=hf rfl
  rw [Bool.not_true,if_neg (by decide),heights_ok x0 x1 x2 (by omega) (by omega) (by omega) (by omega),sb]
  obtain ⟨r,er⟩:∃ r:Nat,max x2 0=r:=⟨(max x2 0).toNat,by omega⟩
  have hr:r≤30:=by omega
  rw [er,Sh.mkb_of (by omega) (by omega),cu,tnat]
  have hrep:=Ok.rep 1048576 (by omega) r
  rw [rheights_ok x0 x1 (List.replicate r 0) (by simp; omega) (by omega) (by omega) (by simpa using hrep),sb]
  have hd:∀ i∈grp (fun i=>(plc x0 i).Rows) (val x0 (qh r) x1.length) r,Vh r x0 x1 i:=fun i hi=>Vh.of (by omega) (fv hi).1
  obtain ⟨f1,_,f3⟩:=ik (by omega) _ _ hd hrep
  have eh:heights x0 x1 (List.replicate r 0)=(grp (fun i=>(plc x0 i).Rows) (val x0 (qh r) x1.length) r).foldl (hstep x0 x1) (List.replicate r 0):=by
    unfold heights; rw [List.length_replicate]
  rw [←eh] at f1 f3
  generalize heights x0 x1 (List.replicate r 0)=D at *
  simp only [bne_self_eq_false,Bool.false_eq_true,if_false]
  have l1:∀ (m i:Nat),i≤D.length→D.length<m+i→dA (KN N) N x0 x1 D D m (i:Int)=some true:=by
    intro m
    induction m with
    | zero=>intro i h1 h2; omega
    | succ m ih =>
      intro i h1 h2
      simp only [dA,fD]
      have:=f1.1
      by_cases hi:i<D.length
      · rw [iteT (by omega),aA (by omega),aA (by omega),tnat,bne_self_eq_false,sb,if_neg (by decide),wn (n:=(i:Int)+1) (k:=i+1) (by omega) (by omega)]
        exact ih (i+1) (by omega) (by omega)
      · rw [iteF (by omega)]
        exact l5 x0 x1 D r hr (by omega) hs hl30 f1 (fun i hi=>f3 i (mem_grp (key:=fun i=>(plc x0 i).Rows) (fun v hv=>(Vh.of (H:=x1) (by omega) hv).r1) hi (by
          have:=Vh.of (H:=x1) (by omega) hi
          have h1:=this.r0; have h2:=this.r2
          show (plc x0 i).Rows≤r
          omega))) N 0 (by omega) (by omega)
  have:=f1.1
  exact l1 N 0 (by omega) (by omega)
end Go.Proofs.Ytolhpahjgddjkaa.QTableHeights
