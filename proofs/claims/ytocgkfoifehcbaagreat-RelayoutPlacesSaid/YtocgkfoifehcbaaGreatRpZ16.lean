/- Plain laws about the plain functions: words for all of them. No program in sight. -/
import Derived.Test.YtocgkfoifehcbaaGreatRpGf
import Derived.Lib.TrimUEq
import Derived.Laws.BitsLemmas
namespace Go.Proofs.YtocgkfoifehcbaaGreat
set_option linter.all false
open Go.RowKit
def agd:=@List.countP_append
def alP:=@List.singleton_append
def alU:=@Int.mul_nonneg
def alX:=@Int.tdiv_eq_ediv_of_nonneg
def al2:=@List.pairwise_cons
def al3:=@decide_false
def al9:=@List.takeWhile_cons
def ama:=@List.countP_cons
def amb:=@List.getElem_map
def amj:=@Int.mul_le_mul
def aml:=@List.ext_getElem
def amo:=@List.getD_cons_succ
def amp:=@List.getD_cons_zero
def amx:=@List.pairwise_lt_range
def amA:=@List.Pairwise.imp
def amF:=@Int.mul_le_mul_of_nonneg_left
def amG:=@Lib.decodeL_drop
def amJ:=@List.pairwise_append
def amK:=@List.getElem_zipWith
def amN:=@Lib.decodeL_N
def amO:=@List.dropLast_concat_getLast
def amT:=@List.getElem_of_mem
def amU:=@List.range_succ
def amV:=@List.replicate_zero
def amW:=@List.replicate_succ
def amX:=@List.length_zipWith
def amY:=@List.map_congr_left
def am0:=@Int.tmod_eq_emod_of_nonneg
def am3:=@List.filter_append
def ane:=@List.pairwise_map
def anf:=@Lib.decodeL_width
def ang:=@List.take_add_one
def anh:=@cond_false
def ant:=@List.filter_nil
def anu:=@List.length_filter_le
def anv:=@IntKind.wrap_u8
def anw:=@List.dropLast_sublist
def anz:=@List.Pairwise.filter
def anA:=@List.drop_left
def anD:=@List.countP_eq_zero
def anE:=@decide_true
def anL:=@Nat.sub_self
def anO:=@Int.add_mul
def anP:=@Int.le_refl
theorem bT{n:Int}(a : -9223372036854775808≤n)(b:n≤9223372036854775807):aa n=n:=by
 unfold aa;rw[alY];omega
theorem bi{α:Type}(x:Option α):aA true x=x:=rfl
theorem dT{i:Int}{n:Nat}(a:0≤i)(b:i<n):aU i n=true:=by simp[aU,a,b]
theorem cm{α:Type}[Inhabited α]{L:List α}{k:Nat}(h:k<L.length):L.getD k default=L[k]:=by simp[List.getD_eq_getElem?_getD,h6 h]
theorem de{n b:Nat}(h:n*b≤140737488355328)(c:0<b):fits n b=true:=by
 have d:n≤n*b:=Nat.le_mul_of_pos_right n c;have a:n≤9223372036854775807:=by omega
 simp only[fits,g6,ob];exact⟨a,h⟩
set_option maxRecDepth 20000
theorem fh(i:Nat):((i:Int)).toNat=i:=by omega
def sm:b5→Int
 | []=>0
 | x::r=>x+sm r
theorem mD:∀(a b:b5),sm (a++b)=sm a+sm b
 | [],b=>by simp[sm]
 | x::r,b=>by simp only[RX,sm,mD r b];omega
theorem VL{B:Int}(b:0≤B):∀(a:b5),(∀x∈a,-B≤x∧x≤B) → -(a.length*B)≤sm a∧sm a≤a.length*B
 | [],_=>by simp[sm]
 | x::r,h=>by
  have d:=h x (by simp);have f:=VL b r (fun y c=>h y (by simp[c]));have e:((x::r).length:Int)*B=r.length*B+B:=by simp[anO]
  simp only[sm];rw[e];omega
end Go.Proofs.YtocgkfoifehcbaaGreat
namespace Go.Proofs.YtocgkfoifehcbaaGreat.QSort
set_option linter.all false
open Go.RowKit
theorem cI{α}{i:Int}{m:Nat}{x:Option α}(h:0≤i∧i<m):aA (aU i m) x=x:=by rw[dT h.1 h.2];rfl
theorem gd{A B:b5}{x}{i}(h:i=A.length):(A++x::B).getD i default=x:=by grind
theorem TF{A B:b5}{x y}{i}(h:i=A.length+1):(A++x::y::B).getD i default=y:=by grind
theorem sw{A B:b5}{x y}{i j}(h:i=A.length)(a:j=A.length+1):List.set (List.set (A++x::y::B) j x) i y=A++y::x::B:=by simp_all
theorem wn{n:Int}{k:Nat}(h:n=k)(a:k≤4000000000):aa n=k:=by grind[bT]
theorem dx{α:Type}{p}[Decidable p]{x y:α}(h:p):(if decide p=true then x else y)=x:=by grind
theorem dv{α:Type}{p}[Decidable p]{x y:α}(h:¬ p):(if decide p=true then x else y)=y:=by grind
theorem pU{α:Type}{p}[Decidable p]{x y:α}(h:¬ p):(if (!decide p)=true then x else y)=x:=by grind
theorem qY{α:Type}{p}[Decidable p]{x y:α}(h:p):(if (!decide p)=true then x else y)=y:=by grind
theorem sb{α β:Type} x(k:α→Option β):(some x).bind k=k x:=rfl
structure vK(K:Kn) f(D:Int→Prop)(key:Int→Int):Prop where
 ok:∀a b,D a→D b→∃c,K.ta f a b=some c∧(c<0↔key a<key b)
def R(key:Int→Int)(a b:Int):Prop:=key a<key b∨key a=key b∧a<b
theorem R.trans{key}{a b c}(h:R key a b)(d:R key b c):R key a c:=by grind[R]
theorem R.yQ{key}{a}(h:R key a a):False:=by grind[R]
theorem R.asymm{key}{a b}(h:R key a b)(c:R key b a):False:=by grind[R]
theorem R.PC{key}{a b}(h:b<a):key a<key b↔R key a b:=by grind[R]
theorem R.not{key}{a b}(h:a≠b)(c:¬ R key a b):R key b a:=by grind[R]
variable{K:Kn}{n:Nat}{f:Fv}{D:Int→Prop}{key:Int→Int}
theorem aer(I:vK K f D key)(P T:b5)(b i:Int)(B:Int→b5→Option b5):∀(m:Nat) (g e:b5) (x:Int),g.length<m→(∀y∈g,y<x∧D y)→D x→(g++e).Pairwise (R key)→(∀y∈e,R key x y)→P.length+g.length≤10000 →
  ∃l,l.Perm (x::(g++e))∧l.Pairwise (R key)∧wV K n ((P.length:Nat):Int) b f i B m ((P.length+g.length:Nat):Int) (P++g++x::e++T)=B (aa (i+1)) (P++l++T):=by
 intro m
 induction m with
 | zero=>intro g e x h;omega
 | succ m N =>
  intro g e x M C F q s L;simp only[wV,D9];rcases List.eq_nil_or_concat g with rfl|⟨d,y,rfl⟩
  ·refine⟨x::e,by simp,?_,?_⟩
   ·rw[al2];exact⟨s,by simpa using q⟩
   ·rw[dv (by simp)];simp[vD]
  ·simp only[List.concat_eq_append]at *;have w:=C y (by simp);simp only[kc,iN,ro]at M L;have G:P++(d++[y])++x::e++T=(P++d)++y::x::(e++T):=by simp
   have O:((P.length+(d++[y]).length:Nat):Int)=((P.length+d.length+1:Nat):Int):=by simp;omega
   have E:((P++d)++y::x::(e++T)).length≥P.length+d.length+2:=by simp;omega
   rw[G,O,dx (by omega)];rw[wn (n:=((P.length+d.length+1:Nat):Int)-1) (k:=P.length+d.length) (by omega) (by omega)];rw[cI (by omega),cI (by omega)];simp only[Int.toNat_natCast];rw[TF (i:=P.length+d.length+1) (by simp),gd (i:=P.length+d.length) (by simp)];obtain⟨c,J,o⟩:=I.ok x y F w.2;rw[J,sb];simp only[vD];by_cases r:c<0
   ·rw[dx r];rw[wn (n:=((P.length+d.length+1:Nat):Int)-1) (k:=P.length+d.length) (by omega) (by omega)];simp only[alW];rw[cI (by omega),cI (by omega),cI (by omega),cI (by omega)];simp only[Int.toNat_natCast];rw[TF (i:=P.length+d.length+1) (by simp),gd (i:=P.length+d.length) (by simp),sw (by simp) (by simp)];have v:R key x y:=(R.PC w.1).1 (o.1 r);obtain⟨l,p1,Q,S⟩:=N d (y::e) x (by omega) (fun z j=>C z (by simp[j])) F (by simpa using q)
     (fun z j=>by
      rcases l3.1 j with rfl|j
      ·exact v
      ·exact s z j) (by omega)
    refine⟨l,by simpa using p1,Q,?_⟩;have H:P++d++x::y::(e++T)=P++d++x::(y::e)++T:=by simp
    rw[H,S]
   ·rw[dv r];have p:R key y x:=R.not (by omega) (fun h=>r (o.2 ((R.PC w.1).2 h)));refine⟨d++y::x::e,?_,?_,by simp⟩
    ·exact(List.Perm.of_eq (by simp)).trans (List.perm_middle (l₁:=d++[y]) (a:=x) (l₂:=e))
    ·simp only[u3,RX,Dy,amJ,al2,l3]at q⊢;obtain⟨U,⟨V,W⟩,A⟩:=q;refine⟨U,⟨?_,s,W⟩,?_⟩
     ·rintro z (rfl|j)
      ·exact p
      ·exact V z j
     ·rintro u t z (rfl|rfl|j)
      ·exact A u t z (.inl rfl)
      ·exact(A u t y (.inl rfl)).trans p
      ·exact A u t z (.inr j)
theorem ake(t:vK K f D key)(P Q:b5)(F:10001<n):∀(m:Nat) (S T:b5),T.length<m→S≠[]→(∀y∈S,∀z∈T,y<z)→T.Pairwise (· < ·)→(∀y∈S++T,D y)→S.Pairwise (R key)→P.length+S.length+T.length≤10000 →
  ∃c,c.Perm (S++T)∧c.Pairwise (R key)∧sd K n ((P.length:Nat):Int) ((P.length+S.length+T.length:Nat):Int) f m ((P.length+S.length:Nat):Int) (P++S++T++Q)=some (P++c++Q):=by
 intro m
 induction m with
 | zero=>intro S T h;omega
 | succ m A =>
  intro S T v w j o i p u;simp only[sd,wT];cases T with
  | nil=>exact⟨S,by simp,p,by rw[dv (by simp)];simp⟩
  | cons x T =>
   simp only[iN]at v u⊢;rw[dx (by omega)];rw[al2]at o;obtain⟨c,p1,B,r⟩:=aer (n:=n) t P (T++Q) ((P.length+S.length+(T.length+1):Nat):Int) ((P.length+S.length:Nat):Int)
    (sd K n ((P.length:Nat):Int) ((P.length+S.length+(T.length+1):Nat):Int) f m) n S [] x (by omega) (fun y b=>⟨j y b x (by simp),i y (by simp[b])⟩) (i x (by simp)) (by simpa using p) (by simp) (by omega)
   have e:P++S++[x]++(T++Q)=P++S++x::T++Q:=by simp
   rw[e]at r;rw[r,wn (k:=P.length+(S.length+1)) (by omega) (by omega)];simp only[IF]at p1;have d:c.length=S.length+1:=by rw[p1.length_eq];simp
   have g:∀y,y∈c↔y=x∨y∈S:=fun y=>by rw[p1.mem_iff];simp
   obtain⟨l,C,E,s⟩:=A c T (by omega) (by intro h;subst h;simp at d) (fun y b z q=>by
     rcases (g y).1 b with rfl|b
     ·exact o.1 z q
     ·exact j y b z (by simp[q])) o.2 (fun y b=>by
     rcases kb.1 b with b|b
     ·rcases (g y).1 b with rfl|b
      ·exact i y (by simp)
      ·exact i y (by simp[b])
     ·exact i y (by simp[b])) B (by omega)
   refine⟨l,?_,E,?_⟩
   ·refine C.trans ((p1.append_right T).trans ?_);exact(List.perm_middle (l₁:=S) (a:=x) (l₂:=T)).symm
   ·rw[d,show P.length+(S.length+1)+T.length=P.length+S.length+(T.length+1) by omega,show P++c++T++Q=P++c++(T++Q) by simp]at s;exact s
theorem aba(d:vK K f D key)(P S Q:b5)(h:10001<n)(b:S.Pairwise (· < ·))(e:∀y∈S,D y)(g:P.length+S.length≤10000):
  ∃a,a.Perm S∧a.Pairwise (R key)∧uN K n (P++S++Q) ((P.length:Nat):Int) ((P.length+S.length:Nat):Int) f=some (P++a++Q):=by
 unfold uN;rw[wn (k:=P.length+1) (by omega) (by omega)];cases S with
 | nil =>
  obtain⟨m,rfl⟩:∃m,n=m+1:=⟨n-1,by omega⟩;refine⟨[],by simp,by simp,?_⟩;simp only[sd,wT];rw[dv (by simp;omega)]
 | cons x T =>
  rw[al2]at b;simp only[iN]at g⊢;obtain⟨a,p1,i,c⟩:=ake (n:=n) d P Q h n [x] T (by omega) (by simp) (by simpa using b.1) b.2 (by simpa using e) (by simp) (by simp;omega);refine⟨a,by simpa using p1,i,?_⟩;simp only[iN,ro,z5]at c;rw[show P.length+(T.length+1)=P.length+1+T.length by omega,show P++x::T++Q=P++[x]++T++Q by simp];exact c
end Go.Proofs.YtocgkfoifehcbaaGreat.QSort
namespace Go.Proofs.YtocgkfoifehcbaaGreat.QSort
set_option linter.all false
open Go.RowKit
variable{K:Kn}{n:Nat}{f:Fv}{D:Int→Prop}{key:Int→Int}
def at_(L:b5)(k:Nat):Int:=L.getD k default
theorem Sq{A:b5}{k:Nat}(h:k<A.length):at_ A k∈A:=by unfold at_;rw[cm h];exact sj _
theorem I9{A:b5}{x:Int}(h:x∈A):∃k,k<A.length∧at_ A k=x:=by
 obtain⟨k,a,e⟩:=amT h;exact⟨k,a,by unfold at_;rw[cm a,e]⟩
theorem CR{r:Int→Int→Prop}{A:b5}(h:A.Pairwise r){i j:Nat}(a:i<j)(b:j<A.length):r (at_ A i) (at_ A j):=by
 unfold at_;rw[cm (by omega:i<A.length),cm b];exact List.pairwise_iff_getElem.1 h i j (by omega) b a
theorem Pr{A:b5}{t k:Nat}(h:k<t):at_ (A.take t) k=at_ A k:=by simp[at_,List.getD_eq_getElem?_getD,u5,h]
theorem W2{A:b5}{t k:Nat}:at_ (A.drop t) k=at_ A (t+k):=by simp[at_,List.getD_eq_getElem?_getD]
theorem Wy{A:b5}{t:Nat}{x:Int}(h:x∈A.take t):∃k,k<t∧k<A.length∧at_ A k=x:=by
 obtain⟨k,a,e⟩:=I9 h;simp at a;exact⟨k,by omega,by omega,by rw[←e,Pr (by omega)]⟩
theorem akN{A:b5}{t:Nat}{x:Int}(h:x∈A.drop t):∃k,t≤k∧k<A.length∧at_ A k=x:=by
 obtain⟨k,a,e⟩:=I9 h;simp at a;exact⟨t+k,by omega,by omega,by rw[←e,W2]⟩
end Go.Proofs.YtocgkfoifehcbaaGreat.QSort
namespace Go.Proofs.YtocgkfoifehcbaaGreat.QSort
set_option linter.all false
open Go.RowKit
variable{f:Fv}{D:Int→Prop}{key:Int→Int}
theorem U5{c0:Nat}(c:∀m,c0≤m→vK (KN m) f D key){lvl n:Nat}(S:b5)(i:10001<n)(h:c0+(S.length+1)+10002≤lvl)(g:S.Pairwise (· < ·))(e:∀x∈S,D x)(k:S.length≤19):
  ∃d,d.Perm S∧d.Pairwise (R key)∧mo (KN lvl) n S f=some d:=by
 unfold mo Bw;obtain⟨m,rfl⟩:∃m,n=m+1:=⟨n-1,by omega⟩;obtain⟨b,p1,j,a⟩:=aba (n:=m+1) (c lvl (by omega)) [] S [] i g e (by simp;omega);simp only[ro,Dy,IF,z5]at a;simp only[EP,CS];rw[dv (by omega)];rw[show((0:Nat):Int)=0 from rfl]at a;rw[a,sb];simp only[CD,EB];rw[dv (by omega)];exact⟨b,p1,j,rfl⟩
end Go.Proofs.YtocgkfoifehcbaaGreat.QSort
namespace Go.Proofs.YtocgkfoifehcbaaGreat
set_option linter.all false
open Go.RowKit
namespace Sh
def idx(n:Nat):b5:=(List.range n).map fun (k:Nat)=>k
instance(key) a b:Decidable (QSort.R key a b):=by unfold QSort.R;infer_instance
theorem uR n:(idx n).length=n:=by simp[idx]
theorem Lk{n}{x}:x∈idx n↔∃k:Nat,k<n∧x=k:=by
 grind[idx]
theorem Us n:(idx n).Pairwise (· < ·):=by
 unfold idx;rw[ane];refine amA (fun h=>?_) amx;omega
theorem HP n:idx (n+1)=idx n++[(n:Int)]:=by simp[idx,amU]
def dH(n a:Int):Int:=min (max n 0) a
def mx:Int:=2147483647
theorem jK{n m}(h:0≤m):0≤dH n m∧dH n m≤m:=by grind[dH]
def q(T S w:Int):Int:=T*w / S
def r(T S w:Int):Int:=T*w % S
def left(T:Int)(W:b5):Int:=T-sm (W.map (q T (sm W)))
def o8(T:Int)(W:b5)(k:Nat):Prop :=
 0<r T (sm W) (W.getD k default)∧((W.take k).countP (fun w=>decide (r T (sm W) (W.getD k default)≤r T (sm W) w))+(W.drop (k+1)).countP (fun w=>decide (r T (sm W) (W.getD k default)<r T (sm W) w)):Nat)<left T W
instance(T) W k:Decidable (o8 T W k):=by unfold o8;infer_instance
def part(T:Int)(W:b5)(k:Nat):Int:=q T (sm W) (W.getD k default)+if o8 T W k then 1 else 0
def share(T:Int)(W:b5):b5:=if sm W=0 then List.replicate W.length 0 else (List.range W.length).map (part T W)
theorem wg T W:(share T W).length=W.length:=by grind[share]
def inc:b5→b5→b5
 | p,[]=>p
 | p,i::l=>inc (p.set i.toNat (p.getD i.toNat default+1)) l
theorem NB:∀l p,(inc p l).length=p.length
 | [],p=>rfl
 | i::l,p=>by simp[inc,NB l]
theorem Qp:∀l p k,l.Nodup→(∀i∈l,0≤i)→k<p.length→(inc p l).getD k default=p.getD k default+if (k:Int)∈l then 1 else 0
 | [],p,k,_,_,_=>by simp[inc]
 | i::l,p,k,b,a,e=>by
  simp only[inc];rw[List.nodup_cons]at b;rw[Qp l _ k b.2 (fun j d=>a j (by grind)) (by grind)];have c:=a i (by simp)
  grind
theorem ZF{a b}(h:a.Perm b):sm a=sm b:=by
 induction h with
 | nil=>rfl
 | cons x _ e=>grind[sm]
 | swap x y l=>grind[sm]
 | trans _ _ c d=>grind
theorem QL(T S:Int)(a:0<S):∀W:b5,S*sm (W.map (q T S))+sm (W.map (r T S))=T*sm W
 | []=>by simp[sm]
 | w::W=>by
  have:=QL T S a W;have h:=Int.mul_ediv_add_emod (T*w) S
  grind[sm,q,r]
theorem nT{c}:∀L:b5,(∀x∈L,x≤c)→sm L≤L.length*c
 | [],_=>by simp[sm]
 | x::L,h=>by
  have:=nT L (fun y a=>h y (by grind));have:=h x (by simp);simp only[sm,iN]
  grind
theorem kQ:∀L:b5,(∀x∈L,0≤x)→0≤sm L
 | [],_=>by simp[sm]
 | x::L,h=>by
  have:=kQ L (fun y a=>h y (by grind));have:=h x (by simp)
  grind[sm]
theorem Ae:∀L,(∀x∈L,0≤x)→∀x∈L,x≤sm L
 | [],_,_,a=>by grind
 | y::L,h,x,a=>by
  have c:=kQ L (fun y b=>h y (by grind));have d:=h y (by simp);simp only[sm];rcases l3.1 a with rfl|a
  ·omega
  ·have:=Ae L (fun y b=>h y (by grind)) x a;omega
theorem J3{T S w}(a:0<S):0≤r T S w∧r T S w<S:=⟨Int.emod_nonneg _ (by omega),Int.emod_lt_of_pos _ a⟩
theorem Eh{T S w}(c:0<S)(b:0≤T)(d:0≤w)(a:w≤S):0≤q T S w∧q T S w≤T:=by
 refine⟨Int.ediv_nonneg (alU b d) (by omega),?_⟩;have h:T*w≤T*S:=amF a b
 calc T*w / S≤T*S / S:=Int.ediv_le_ediv c h
  _=T:=Int.mul_ediv_cancel _ (by omega)
theorem MG T W(a:0<sm W):sm W*left T W=sm (W.map (r T (sm W))):=by
 grind[QL,sm,left]
theorem Jy T W(a:0<sm W):0≤left T W∧left T W≤W.length:=by
 have h:=MG T W a;have d:0≤sm (W.map (r T (sm W))):=kQ _ (fun x b=>by
  obtain⟨w,_,rfl⟩:=u6.1 b;exact(J3 a).1)
 have c:sm (W.map (r T (sm W)))≤(W.map (r T (sm W))).length*sm W:=nT _ (fun x b=>by
  obtain⟨w,_,rfl⟩:=u6.1 b;have:=(J3 (T:=T) (w:=w) a).2;omega)
 rw[lp,← h,anJ]at c;refine⟨?_,Int.le_of_mul_le_mul_right c a⟩;rcases Int.lt_or_le (left T W) 0 with h|h
 ·have:=Int.mul_neg_of_pos_of_neg a h;omega
 grind
def key(rs:b5)(a:Int):Int := - rs.getD a.toNat default
structure Ord(rs d:b5):Prop where
 p:d.Perm (idx rs.length)
 s:d.Pairwise (QSort.R (key rs))
theorem Ord.nodup{rs d}(h:Ord rs d):d.Nodup:=by
 refine amA (fun a e=>?_) h.s;subst e;exact a.yQ
theorem Ord.mem{rs d}(h:Ord rs d){x}:x∈d↔∃k:Nat,k<rs.length∧x=k:=by rw[h.p.mem_iff,Lk]
theorem Ord.len{rs d}(h:Ord rs d):d.length=rs.length:=by rw[h.p.length_eq,uR]
theorem DQ(rs:b5) p:∀n,n≤rs.length→(idx n).countP (fun a=>p (rs.getD a.toNat default))=(rs.take n).countP p
 | 0,_=>by rfl
 | n+1,h=>by
  rw[HP,agd,DQ rs p n (by omega),IT (by omega),agd]
  grind
theorem Yi{rs d:b5}(h:Ord rs d){t k:Nat}(i:t<d.length)(p:d.getD t default=(k:Int)):(rs.take k).countP (fun w=>decide (rs.getD k default≤w))+(rs.drop (k+1)).countP (fun w=>decide (rs.getD k default<w))=t:=by
 have m:k<rs.length:=by
  have:d.getD t default∈d:=by rw[cm i];exact sj _
  rw[p]at this;obtain⟨j,n,o⟩:=h.mem.1 this;omega
 -- in the sorted order there are t ahead of k
 have c1:d.countP (fun a=>decide (QSort.R (key rs) a k))=t:=by
  have e:d=d.take t++d.drop t:=(aeq t d).symm;have z:d.drop t=(k:Int)::d.drop (t+1):=by rw[kp i,← cm i,p]
  rw[z]at e;have g:=h.s;rw[e,amJ,al2]at g;rw[e,agd,ama];have A:(d.take t).countP (fun a=>decide (QSort.R (key rs) a k))=t:=by
   rw[List.countP_eq_length.2 (fun a b=>by simpa using g.2.2 a b k (by simp))];simp;omega
  have B:(d.drop (t+1)).countP (fun a=>decide (QSort.R (key rs) a k))=0:=by
   rw[anD];intro a b c;exact(g.2.1.1 a b).asymm (by simpa using c)
  have C:(if decide (QSort.R (key rs) (k:Int) k)=true then 1 else 0)=0:=by
   rw[io];intro c;exact(by simpa using c:QSort.R (key rs) (k:Int) k).yQ
  rw[A,B,C];omega
 rw[h.p.countP_eq]at c1
 -- the indices below k,k,those above
 have e:idx rs.length=idx k++(k:Int)::(idx rs.length).drop (k+1):=by
  have n:(idx rs.length).take k=idx k:=by unfold idx;rw[←amu,List.take_range,anp (Nat.le_of_lt m)]
  have o:k<(idx rs.length).length:=by rw[uR];exact m
  conv=>lhs;rw[←aeq k (idx rs.length),n,kp o]
  congr 2;simp[idx]
 have r:(idx k).countP (fun a=>decide (QSort.R (key rs) a k))=(rs.take k).countP (fun w=>decide (rs.getD k default≤w)):=by
  rw[←DQ rs (fun w=>decide (rs.getD k default≤w)) k (by omega)];refine List.countP_congr (fun a b=>?_);obtain⟨j,E,rfl⟩:=Lk.1 b;simp only[ob];simp only[QSort.R,key,Int.toNat_natCast];omega
 have s:((idx rs.length).drop (k+1)).countP (fun a=>decide (QSort.R (key rs) a k))=(rs.drop (k+1)).countP (fun w=>decide (rs.getD k default<w)):=by
  have f:=DQ rs (fun w=>decide (rs.getD k default<w)) rs.length (h7 _);have l:=DQ rs (fun w=>decide (rs.getD k default<w)) (k+1) (by omega);rw[alR]at f;have v:rs.countP (fun w=>decide (rs.getD k default<w))=(rs.take (k+1)).countP (fun w=>decide (rs.getD k default<w))+(rs.drop (k+1)).countP (fun w=>decide (rs.getD k default<w)):=by
   rw[←agd,aeq]
  have x:idx rs.length=idx (k+1)++(idx rs.length).drop (k+1):=by
   rw[HP];conv=>lhs;rw[e]
   simp
  rw[x,agd,l]at f;have y:((idx rs.length).drop (k+1)).countP (fun a=>decide (QSort.R (key rs) a k))=((idx rs.length).drop (k+1)).countP (fun a=>(fun w=>decide (rs.getD k default<w)) (rs.getD a.toNat default)):=by
   refine List.countP_congr (fun a b=>?_);have:(k:Int)<a:=by
    have q:=Us rs.length;rw[e,amJ,al2]at q;exact q.2.1.1 a b
   have D:0≤a:=by omega
   obtain⟨j,rfl⟩:∃j:Nat,a=j:=⟨a.toNat,by omega⟩;simp only[ob];simp only[QSort.R,key,Int.toNat_natCast];omega
  rw[y];dsimp only at f l v⊢;omega
 have u:(if decide (QSort.R (key rs) (k:Int) k)=true then 1 else 0)=0:=by
  rw[io];intro c;exact(by simpa using c:QSort.R (key rs) (k:Int) k).yQ
 rw[e,agd,ama,r,s,u]at c1;omega
theorem C5 T S(W:b5){k}(h:k<W.length):(W.map (r T S)).getD k default=r T S (W.getD k default):=by grind
theorem ain(T:Int)(W d:b5)(P:∀w∈W,0≤w)(O:sm W≠0)(h:Ord (W.map (r T (sm W))) d):share T W=inc (W.map (q T (sm W))) (d.take (left T W).toNat):=by
 have l:0<sm W:=by have:=kQ W P;omega
 have S:=Jy T W l;have v:=MG T W l;have Q:d.length=W.length:=by rw[h.len,lp]
 unfold share;rw[io O];refine aml (by rw[NB];simp) (fun k K L=>?_);have n:k<W.length:=by simpa using K
 rw[←cm L,Qp _ _ _ (h.nodup.sublist (List.take_sublist _ _)) (fun i R=>by
  obtain⟨j,_,rfl⟩:=h.mem.1 (nk R);omega) (by simpa using n)]
 simp only[amb,List.getElem_range,part];have I:(W.map (q T (sm W))).getD k default=q T (sm W) (W.getD k default):=by simp[List.getD_eq_getElem?_getD,n]
 rw[I];congr 1
 -- where is k in the order?
 obtain⟨t,F,et⟩:=QSort.I9 (A:=d) (x:=(k:Int)) (h.mem.2 ⟨k,by simpa using n,rfl⟩);have B:=Yi h F et;rw[C5 _ _ _ n,← amu,← anH,List.countP_map,List.countP_map]at B;have e:((k:Int)∈d.take (left T W).toNat)↔t<(left T W).toNat:=by
  constructor
  ·intro y;obtain⟨H,Y,V,G⟩:=QSort.Wy y;have:H=t:=by
    rcases Nat.lt_trichotomy t H with b|b|b
    ·have:=QSort.CR h.s b V;rw[et,G]at this;exact absurd this (fun x=>x.yQ)
    ·exact b.symm
    ·have:=QSort.CR h.s b F;rw[et,G]at this;exact absurd this (fun x=>x.yQ)
   omega
  ·intro y;have:d.take (left T W).toNat=d.take (left T W).toNat:=rfl;have M:t<(d.take (left T W).toNat).length:=by simp;omega
   have:=QSort.Sq M;rwa[QSort.Pr y,et]at this
 have f:o8 T W k↔t<(left T W).toNat:=by
  unfold o8;simp only[Function.comp_def]at B;rw[B];constructor
  ·intro b;omega
  ·intro b;refine⟨?_,by omega⟩
   -- a rest of 0 does not o8: all behind it are 0,too
   rcases Int.lt_or_le 0 (r T (sm W) (W.getD k default))with z|z
   ·exact z
   ·exfalso;have g:sm (d.map fun a=>(W.map (r T (sm W))).getD a.toNat default)=sm (W.map (r T (sm W))):=by
     rw[ZF (h.p.map _)];congr 1;refine aml (by simp[idx]) (fun i U s=>?_);simp only[amb,idx,List.getElem_range,Int.toNat_natCast,C5 T (sm W) W (show i<W.length by simpa using s)];rw[cm (show i<W.length by simpa using s)]
    have u:d=d.take t++d.drop t:=(aeq t d).symm;have o:sm (d.map fun a=>(W.map (r T (sm W))).getD a.toNat default)=sm ((d.take t).map fun a=>(W.map (r T (sm W))).getD a.toNat default)+sm ((d.drop t).map fun a=>(W.map (r T (sm W))).getD a.toNat default):=by
     conv=>lhs;rw[u]
     rw[Db,mD]
    have D:∀a∈d,0≤(W.map (r T (sm W))).getD a.toNat default∧(W.map (r T (sm W))).getD a.toNat default≤sm W-1:=by
     intro a m;obtain⟨j,E,rfl⟩:=h.mem.1 m;rw[lp]at E;rw[Int.toNat_natCast,C5 T (sm W) W E];have:=J3 (T:=T) (w:=W.getD j default) l;omega
    have Z:sm ((d.take t).map fun a=>(W.map (r T (sm W))).getD a.toNat default)≤t*(sm W-1):=by
     have:=nT (c:=sm W-1) ((d.take t).map fun a=>(W.map (r T (sm W))).getD a.toNat default) (fun x C=>by
      obtain⟨a,m,rfl⟩:=u6.1 C;exact(D a (nk m)).2)
     rw[lp,Dj,anp (by omega)]at this;exact this
    have X:sm ((d.drop t).map fun a=>(W.map (r T (sm W))).getD a.toNat default)≤(((d.drop t).map fun a=>(W.map (r T (sm W))).getD a.toNat default).length:Int)*0:=by
     refine nT _ (fun x C=>?_);obtain⟨a,m,rfl⟩:=u6.1 C;obtain⟨i,U,s,rfl⟩:=QSort.akN m;have J:(W.map (r T (sm W))).getD k default≤0:=by rw[C5 T (sm W) W n];exact z
     rcases Nat.lt_or_ge t i with q|q
     ·have:=QSort.CR h.s q s;rw[et]at this;unfold QSort.R key at this;rw[Int.toNat_natCast]at this;omega
     ·obtain rfl:i=t:=by omega
      rw[et,Int.toNat_natCast];exact J
    rw[Int.mul_zero]at X;have:sm W*left T W≤t*(sm W-1):=by rw[v,← g,o];omega
    have N:sm W*((t:Int)+1)≤sm W*left T W:=amF (by omega) (by omega);rw[Int.mul_add,Int.mul_one,anJ (sm W) t]at N;rw[Int.mul_sub,Int.mul_one]at this;omega
 by_cases p:o8 T W k
 ·rw[iF p,iF (e.2 (f.1 p))]
 ·rw[io p,io (fun b=>p (f.2 (e.1 b)))]
end Sh
end Go.Proofs.YtocgkfoifehcbaaGreat
namespace Go.Proofs.YtocgkfoifehcbaaGreat
set_option linter.all false
open Go.RowKit
namespace Sh
open QSort (wn cI dx dv sb)
variable{K:Kn}{n:Nat}
def b8(L:b5):b5:=L.map fun w=>dH w mx
theorem fY L:(b8 L).length=L.length:=by simp[b8]
theorem nO L:∀w∈b8 L,0≤w∧w≤2147483647:=by
 intro w a;obtain⟨x,_,rfl⟩:=u6.1 a;exact jK (m:=mx) (by decide)
theorem Ow{L}{k}(h:k<L.length):(b8 L).getD k default=dH (L.getD k default) mx:=by grind[b8]
theorem Se{L}(h:L.length≤19):0≤sm (b8 L)∧sm (b8 L)≤21474836470000:=by
 refine⟨kQ _ (fun w a=>(nO L w a).1),?_⟩;have:=nT (c:=2147483647) (b8 L) (fun w a=>(nO L w a).2)
 grind[fY]
theorem NJ{W:b5}(h:∀w∈W,0≤w)(i:Nat):0≤sm (W.take i)∧sm (W.take i)≤sm W:=by
 have b:=kQ (W.take i) (fun w a=>h w (nk a));have c:=kQ (W.drop i) (fun w a=>h w (tl a));have:sm W=sm (W.take i)+sm (W.drop i):=by rw[←mD,aeq]
 omega
theorem YQ{W:b5}{i:Nat}(h:i<W.length):sm (W.take (i+1))=sm (W.take i)+W.getD i default:=by
 rw[IT h,mD,cm h];simp[sm]
theorem Bx{A:b5}{k i}{y z}(h:i=A.length):List.set (A++List.replicate (k+1) z) i y=(A++[y])++List.replicate k z:=by
 subst h;grind
theorem acQ{A:b5}{k i}{y z}(h:i=A.length):List.getD ((A++[y])++List.replicate k z) i default=y:=by
 grind
theorem abS{a b:Int}(d:0≤a)(e:a≤2147483647)(c:0≤b)(f:b≤2147483647):0≤a*b∧a*b≤4611686014132420609:=by
 refine⟨alU d c,?_⟩;have:=amj e f c (by omega);omega
theorem FV(g:Int→Int){W:b5}{i:Nat}(h:i<W.length):(W.take (i+1)).map g=(W.take i).map g++[g (W.getD i default)]:=by
 rw[IT h,Db,cm h];rfl
theorem ak6{T}{W}(d:0≤T)(b:∀w∈W,0≤w)(a:0<sm W) i:0≤sm ((W.take i).map (q T (sm W)))∧sm ((W.take i).map (q T (sm W)))≤T:=by
 have e:∀x∈W.map (q T (sm W)),0≤x:=fun x f=>by
  obtain⟨w,c,rfl⟩:=u6.1 f;exact(Eh a d (b w c) (Ae W b w c)).1
 have:=NJ e i;rw[←amu]at this;have g:=(Jy T W a).1
 grind[left]
theorem agm(L:b5)(T:Int)(c f g:b5)(l:L.length≤19):∀(m i:Nat),i≤L.length→L.length<m+i →
  yZ K n L T c f g m (sm ((b8 L).take i)) (i:Int)=if (sm (b8 L) == 0)=true then some c else vY K n L T (sm (b8 L)) n T 0 c f g:=by
 intro m
 induction m with
 | zero=>intro i h j;omega
 | succ m p =>
  intro i h j;simp only[yZ,B8];by_cases d:i<L.length
  ·have q:=Se l;have a:=NJ (W:=b8 L) (fun w o=>(nO L w o).1) (i+1);have e:=YQ (W:=b8 L) (i:=i) (by rw[fY];exact d);have b:=Ow d;rw[dx (by omega),cI (by omega),fh];simp only[jk,sb];rw[wn (n:=(i:Int)+1) (k:=i+1) (by omega) (by omega)];rw[show aa (sm ((b8 L).take i)+min (max (L.getD i default) 0) 2147483647)=sm ((b8 L).take (i+1)) by
    rw[e,b];exact bT (by rw[e,b]at a;unfold dH mx at a;omega) (by rw[e,b]at a;unfold dH mx at a;omega)]
   exact p (i+1) (by omega) (by omega)
  ·rw[dv (by omega),Dk (by rw[fY];omega)]
theorem adK(L:b5)(T:Int)(d:0≤T∧T≤2147483647)(F:L.length≤19)(g:0<sm (b8 L)):∀(m i:Nat),i≤L.length→L.length<m+i →
  vY K n L T (sm (b8 L)) m (T-sm (((b8 L).take i).map (q T (sm (b8 L))))) (i:Int) (((b8 L).take i).map (q T (sm (b8 L)))++List.replicate (L.length-i) 0) (((b8 L).take i).map (r T (sm (b8 L)))++List.replicate (L.length-i) 0) (idx i++List.replicate (L.length-i) 0) =
  (mo K n (idx L.length) (Fv.c165 ((b8 L).map (r T (sm (b8 L)))))).bind fun a =>
  aA (cT (0:Int) (left T (b8 L)) a.length) (
  sH K n n (List.drop ((0:Int)).toNat (List.take (left T (b8 L)).toNat a)) ((List.drop ((0:Int)).toNat (List.take (left T (b8 L)).toNat a)).length:Int) 0 ((b8 L).map (q T (sm (b8 L))))):=by
 intro m
 induction m with
 | zero=>intro i x y;omega
 | succ m A =>
  intro i x y;simp only[vY,C0];by_cases b:i<L.length
  ·have h:=fun w c=>(nO L w c).1;have f:=ak6 d.1 h g;have u:=Ow b;obtain⟨k,t⟩:∃k,L.length-i=k+1:=⟨L.length-i-1,by omega⟩;have c:=nO L ((b8 L).getD i default) (by rw[cm (by rw[fY];exact b)];exact sj _);have j:=abS d.1 d.2 c.1 c.2;rw[dx (by omega),cI (by omega),fh];simp only[jk,sb];have e:min (max (L.getD i default) 0) 2147483647=(b8 L).getD i default:=by rw[u];rfl
   rw[e,bT (n:=T*(b8 L).getD i default) (by omega) (by omega)];have z:(sm (b8 L) != 0)=true:=by simp;omega
   rw[z,bi,bi];have o:(((b8 L).take i).map (q T (sm (b8 L)))++List.replicate (L.length-i) 0).length=L.length:=by simp[fY];omega
   have C:(((b8 L).take i).map (r T (sm (b8 L)))++List.replicate (L.length-i) 0).length=L.length:=by simp[fY];omega
   have D:(idx i++List.replicate (L.length-i) 0).length=L.length:=by simp[uR];omega
   rw[o,C,D,cI (by omega),cI (by omega),cI (by omega)];simp only[alW];rw[o,cI (by omega),t];have l:i=(((b8 L).take i).map (q T (sm (b8 L)))).length:=by simp[fY];omega
   have B:i=(((b8 L).take i).map (r T (sm (b8 L)))).length:=by simp[fY];omega
   rw[Bx l,Bx B,Bx (uR i).symm,acQ l];have G:=Eh g d.1 c.1 (Ae _ h _ (by rw[cm (by rw[fY];exact b)];exact sj _));have s:aa (Int.tdiv (T*(b8 L).getD i default) (sm (b8 L)))=q T (sm (b8 L)) ((b8 L).getD i default):=by
    rw[alX j.1];exact bT (by show _≤q _ _ _;omega) (by show q _ _ _≤_;omega)
   have v:Int.tmod (T*(b8 L).getD i default) (sm (b8 L))=r T (sm (b8 L)) ((b8 L).getD i default):=by
    rw[am0 j.1];rfl
   rw[s,v,← FV _ (by rw[fY];exact b),← FV _ (by rw[fY];exact b),← HP];have p:aa (T-sm (((b8 L).take i).map (q T (sm (b8 L))))-q T (sm (b8 L)) ((b8 L).getD i default))=T-sm (((b8 L).take (i+1)).map (q T (sm (b8 L)))):=by
    rw[FV _ (by rw[fY];exact b),mD];simp only[sm];have E:=f i;rw[bT (by omega) (by omega)];omega
   rw[p,wn (n:=(i:Int)+1) (k:=i+1) (by omega) (by omega)];have:=A (i+1) (by omega) (by omega);rw[show L.length-(i+1)=k by omega]at this;exact this
  ·have:i=L.length:=by omega
   subst this;rw[dv (by omega)];have e:(b8 L).take L.length=b8 L:=Dk (by rw[fY];omega);rw[e];simp only[anL,amV,IF];rfl
theorem ael(l:b5)(q:l.length≤19):∀(m i:Nat) (p:b5),i≤l.length→l.length<m+i→(∀x∈l,0≤x∧x.toNat<p.length)→(∀x∈p,0≤x∧x+l.length≤4611686018427387904+i) →
  sH K n m l (l.length:Int) (i:Int) p=some (inc p (l.drop i)):=by
 intro m
 induction m with
 | zero=>intro i p e f;omega
 | succ m o =>
  intro i p e f d c;simp only[sH,Br];by_cases a:i<l.length
  ·have g:=d (l.getD i default) (by rw[cm a];exact sj _);have j:=c (p.getD (l.getD i default).toNat default) (by rw[cm g.2];exact sj _);rw[dx (by omega),cI (by omega),fh,cI (by omega),cI (by omega),wn (n:=(i:Int)+1) (k:=i+1) (by omega) (by omega),bT (by omega) (by omega)];rw[o (i+1) _ (by omega) (by omega) (by simpa using d) (fun x b=>by
    rcases al5 b with h|h
    ·have:=c x h;omega
    ·subst h;omega)]
   rw[kp a,← cm a];rfl
  ·rw[dv (by omega),la (by omega)];rfl
theorem IQ rs m:QSort.vK (KN (m+1)) (Fv.c165 rs) (fun a=>0≤a∧a<rs.length) (key rs):=by
 refine⟨fun a b d e=>?_⟩;show ∃c,Af (KN m) m a b rs=some c∧_;unfold Af;rw[cI e,cI d]
 grind[vQ,tZ,sb,key]
theorem sorted rs{lvl n}(h:10001<n)(i:rs.length≤19)(g:20010≤lvl):∃d,Ord rs d∧mo (KN lvl) n (idx rs.length) (Fv.c165 rs)=some d:=by
 obtain⟨d,b,c,e⟩:=QSort.U5 (c0:=1) (f:=Fv.c165 rs) (D:=fun a=>0≤a∧a<rs.length) (key:=key rs) (fun m j=>by
  obtain⟨k,rfl⟩:∃k,m=k+1:=⟨m-1,by omega⟩
  grind[IQ]) (lvl:=lvl) (n:=n) (idx rs.length) h (by grind[uR]) (Us _) (fun x l=>by
   grind[Lk]) (by grind[uR])
 exact⟨d,⟨b,c⟩,e⟩
theorem tR{a b:Int}{n:Nat}(c:0≤a)(d:a≤b)(e:b≤n):cT a b n=true:=by grind[cT]
theorem Jt{n b:Nat}(h:n*b≤140737488355328)(a:n≤4611686018427387904):fO n b=true:=by
 grind[fO]
theorem nz{lvl n:Nat}(T:Int)(L:b5)(c:L.length≤19)(t:10001<n)(g:20010≤lvl):xd (KN lvl) n T L=some (share (dH T mx) (b8 L)):=by
 unfold xd;have o:0≤dH T mx∧dH T mx≤2147483647:=jK (m:=mx) (by decide);simp only[jk,sb,Jt (show L.length*8≤140737488355328 by omega) (by omega),bi,fh];have l:=agm (K:=KN lvl) (n:=n) L (dH T mx) (List.replicate L.length 0) (List.replicate L.length 0) (List.replicate L.length 0) c n 0 (by omega) (by omega);rw[show sm ((b8 L).take 0)=0 from rfl,show((0:Nat):Int)=0 from rfl]at l;rw[show min (max T 0) 2147483647=dH T mx from rfl,l];have u:=Se c;by_cases i:sm (b8 L)=0
 ·rw[iF (by simp[i])];unfold share;rw[iF i,fY]
 ·rw[io (by simp[i])];have f:0<sm (b8 L):=by omega
  have e:=adK (K:=KN lvl) (n:=n) L (dH T mx) o c f n 0 (by omega) (by omega);simp only[alT,u7,Dy,aiE,sm,Int.sub_zero,show idx 0=[] from rfl]at e;rw[show((0:Nat):Int)=0 from rfl]at e;rw[e];obtain⟨d,j,o2⟩:=sorted ((b8 L).map (r (dH T mx) (sm (b8 L)))) (lvl:=lvl) (n:=n) t (by simp[fY,c]) g;rw[lp,fY]at o2;rw[o2,sb];have p:d.length=L.length:=by rw[j.len,lp,fY]
  have a:=Jy (dH T mx) (b8 L) f;rw[fY]at a;rw[tR (by omega) a.1 (by rw[p];exact a.2),bi];rw[show(0:Int).toNat=0 from rfl,Do];rw[ain (dH T mx) (b8 L) d (fun w b=>(nO L w b).1) (by omega) j];have:=ael (K:=KN lvl) (n:=n) (d.take (left (dH T mx) (b8 L)).toNat) (by simp;omega) n 0 ((b8 L).map (q (dH T mx) (sm (b8 L)))) (by omega) (by simp;omega) (fun x h=>by
   obtain⟨k,s,rfl⟩:=j.mem.1 (nk h);simp at s;simp;omega) (fun x h=>by
   obtain⟨w,b,rfl⟩:=u6.1 h;have:=Eh f o.1 (nO L w b).1 (Ae _ (fun w b=>(nO L w b).1) w b);have v:(d.take (left (dH T mx) (b8 L)).toNat).length≤10000:=by simp;omega
   omega)
  rw[show((0:Nat):Int)=0 from rfl,Do]at this;exact this
end Sh
namespace Sh
theorem Px{T:Int}{W:b5}(a:sm W≠0){k:Nat}(b:k<W.length):(share T W).getD k default=part T W k:=by
 rw[cm (by rw[wg];exact b)];unfold share;simp[a]
theorem GT{T:Int}{W:b5}(a:sm W=0):share T W=List.replicate W.length 0:=by unfold share;rw[iF a]
theorem Ya{T:Int}{W:b5}(a:∀w∈W,0≤w)(d:0≤T)(c:0<sm W){k:Nat}(e:k<W.length):0≤part T W k∧part T W k≤T+1:=by
 have b:W.getD k default∈W:=by rw[cm e];exact sj _
 have:=Eh c d (a _ b) (Ae W a _ b);unfold part;split<;>omega
end Sh
namespace Rs
open Sh (share b8 dH mx q r left o8 part)
def aux(T S l:Int):b5→b5→b5
 | _,[]=>[]
 | A,w::B=>(q T S w+if 0<r T S w∧((A.countP (fun x=>decide (r T S w≤r T S x))+B.countP (fun x=>decide (r T S w<r T S x)):Nat):Int)<l then 1 else 0)::aux T S l (A++[w]) B
theorem UG(T S l:Int):∀(B A:b5),(aux T S l A B).length=B.length
 | [],A=>rfl
 | w::B,A=>by simp[aux,UG T S l B]
theorem Wm(T S l:Int):∀(B A:b5) (k:Nat),k<B.length→(aux T S l A B).getD k default=q T S (B.getD k default)+if 0<r T S (B.getD k default)∧(((A++B.take k).countP (fun x=>decide (r T S (B.getD k default)≤r T S x))+(B.drop (k+1)).countP (fun x=>decide (r T S (B.getD k default)<r T S x)):Nat):Int)<l then 1 else 0
 | [],A,k,h=>by simp at h
 | w::B,A,0,h=>by simp[aux]
 | w::B,A,k+1,h=>by
  have:=Wm T S l B (A++[w]) k (by simpa using h);simp only[aux,amo,this,amR,List.drop_succ_cons,u3,alP]
theorem Nv(T:Int)(W:b5)(d:sm W≠0):share T W=aux T (sm W) (left T W) [] W:=by
 refine aml (by rw[Sh.wg,UG]) (fun k a c=>?_);have b:k<W.length:=by rw[Sh.wg]at a;exact a
 rw[←cm a,← cm c,Sh.Px d b,Wm _ _ _ _ _ _ b];rfl
def zo(ws:List (Option Int)):b5:=ws.map fun o=>o.getD 0
def op(ws:List (Option Int)):b5:=ws.filterMap id
def pick:List (Option Int)→b5→b5
 | some _::ws,p::P=>p::pick ws P
 | none::ws,_::P=>pick ws P
 | _,_=>[]
theorem sE:∀ws:List (Option Int),sm (zo ws)=sm (op ws)
 | []=>rfl
 | some w::ws=>by have:=sE ws;simp only[zo,op]at *;simp[sm,this]
 | none::ws=>by have:=sE ws;simp only[zo,op]at *;simp[sm,this]
theorem agj(T S:Int):q T S 0=0:=by simp[q]
theorem V6(T S:Int):r T S 0=0:=by simp[r]
theorem Lu(T S:Int):∀ws:List (Option Int),sm ((zo ws).map (q T S))=sm ((op ws).map (q T S))
 | []=>rfl
 | some w::ws=>by
  have:=Lu T S ws;have a:zo (some w::ws)=w::zo ws:=rfl;have b:op (some w::ws)=w::op ws:=rfl;rw[a,b,n5,n5,sm,sm,this]
 | none::ws=>by
  have:=Lu T S ws;have a:zo (none::ws)=0::zo ws:=rfl;have b:op (none::ws)=op ws:=rfl;rw[a,b,n5,sm,this,agj];omega
theorem Hx(p:Int→Bool)(a:p 0=false):∀ws:List (Option Int),(zo ws).countP p=(op ws).countP p
 | []=>rfl
 | some w::ws=>by have:=Hx p a ws;simp only[zo,op]at *;simp[ama,this]
 | none::ws=>by have:=Hx p a ws;simp only[zo,op]at *;simp[ama,this,a]
theorem Fm(T S l:Int):∀(ws:List (Option Int)) (A a:b5),(∀x,0<x→A.countP (fun y=>decide (x≤r T S y))=a.countP (fun y=>decide (x≤r T S y))) →
  pick ws (aux T S l A (zo ws))=aux T S l a (op ws)
 | [],A,a,h=>rfl
 | some w::ws,A,a,h=>by
  have g:=Fm T S l ws (A++[w]) (a++[w]) (fun x f=>by rw[agd,agd,h x f]);have b:zo (some w::ws)=w::zo ws:=rfl;have c:op (some w::ws)=w::op ws:=rfl;rw[b,c];simp only[aux,pick,g];congr 2;by_cases e:0<r T S w
  ·rw[h _ e,Hx _ (by simp[V6];omega)]
  ·rw[io (fun d=>e d.1),io (fun d=>e d.1)]
 | none::ws,A,a,h=>by
  have g:=Fm T S l ws (A++[0]) a (fun x f=>by
   rw[agd,h x f];simp[V6];omega)
  have b:zo (none::ws)=0::zo ws:=rfl;have c:op (none::ws)=op ws:=rfl;rw[b,c];simp only[aux,pick,g]
theorem Ki:∀ws:List (Option Int),pick ws (List.replicate ws.length 0)=List.replicate (op ws).length 0
 | []=>rfl
 | some w::ws=>by simp[pick,op,amW];exact Ki ws
 | none::ws=>by simp[pick,op,amW];exact Ki ws
theorem Xz(T:Int)(ws:List (Option Int)):pick ws (share T (zo ws))=share T (op ws):=by
 by_cases a:sm (zo ws)=0
 ·rw[Sh.GT a,Sh.GT (by rw[←sE];exact a)];have:(zo ws).length=ws.length:=by simp[zo]
  rw[this];exact Ki ws
 ·rw[Nv T _ a,Nv T _ (by rw[←sE];exact a)];have e:left T (zo ws)=left T (op ws):=by unfold left;rw[Lu,sE]
  rw[e,sE];exact Fm T _ _ ws [] [] (fun _ _=>rfl)
def mS(g:Bool)(a:bG):Int:=if g=true then a.Grow else a.Shrink
def oi(g:Bool)(a:bG):Int:=if g=true then a.Grow else a.az*a.Shrink / 1000
abbrev It:=bG×Option Int
def fV(p:It):Int:=p.2.getD p.1.az
def gT(g:Bool)(p:It):Option Int:=if p.2.isSome=true then none else some (oi g p.1)
def fq(g:Bool)(M:List It):Int:=sm (M.map fun p=>if p.2.isSome=true then 0 else mS g p.1)
def room(g:Bool)(sp:Int)(M:List It):Int:=max (if g=true then sp-sm (M.map fV) else-(sp-sm (M.map fV))) 0
def oH(g:Bool)(sp:Int)(M:List It):Int:=if fq g M<1000 then room g sp M*fq g M / 1000 else room g sp M
def parts(g:Bool)(sp:Int)(M:List It):b5:=share (dH (oH g sp M) mx) (b8 (zo (M.map (gT g))))
def ns(g:Bool)(a:bG)(p:Int):Int:=if g=true then a.az+p else a.az-p
def cl(a:bG)(n:Int):Int:=min (max n a.Min) a.Max
def nI(g:Bool)(p:It)(x:Int):Int:=if p.2.isSome=true then 0 else cl p.1 (ns g p.1 x)-ns g p.1 x
def change(g:Bool)(sp:Int)(M:List It):Int:=sm (List.zipWith (nI g) M (parts g sp M))
def mw(c n l:Int):Bool:=decide (c=0∨(0<c∧n<l)∨(c<0∧l<n))
def gF(g:Bool)(c:Int)(p:It)(x:Int):It:=if p.2.isSome=true then p else if mw c (ns g p.1 x) (cl p.1 (ns g p.1 x))=true then (p.1,some (cl p.1 (ns g p.1 x))) else p
def round(g:Bool)(sp:Int)(M:List It):List It:=List.zipWith (gF g (change g sp M)) M (parts g sp M)
def opens(M:List It):Nat:=M.countP fun p=>!p.2.isSome
def run(g:Bool)(sp:Int):Nat→List It→List It
 | 0,M=>M
 | k+1,M=>if opens M=0 then M else run g sp k (round g sp M)
def dG(x:bG):bG:=⟨dH x.az 1048576,dH x.Grow 1048576,dH x.Shrink 1048576,dH x.Min 1048576,max (dH x.Max 1048576) (dH x.Min 1048576)⟩
def hyp(x:bG):Int:=cl (dG x) (dG x).az
def me(l:d7)(sp:Int):Bool:=decide (sm (l.map hyp)<sp)
def j7(g:Bool)(a:bG)(s:Int):Bool:=if g=true then decide (a.Grow=0∨a.az>s) else decide (a.Shrink=0∨a.az<s)
def start(g:Bool)(l:d7):List It:=l.map fun x=>(dG x,if j7 g (dG x) (hyp x)=true then some (hyp x) else none)
def gn(M:List It):b5:=M.map fun p=>p.2.getD 0
def resolve(l:d7)(sp:Int):b5:=gn (run (me l sp) sp l.length (start (me l sp) l))
structure ms(p:It):Prop where
 b:0≤p.1.az∧p.1.az≤1048576
 g:0≤p.1.Grow∧p.1.Grow≤1048576
 s:0≤p.1.Shrink∧p.1.Shrink≤1048576
 l:0≤p.1.Min∧p.1.Min≤p.1.Max∧p.1.Max≤1048576
 z:∀n,p.2=some n→p.1.Min≤n∧n≤p.1.Max
def Ok(M:List It):Prop:=∀p∈M,ms p
theorem jK(n:Int):0≤dH n 1048576∧dH n 1048576≤1048576:=Sh.jK (by omega)
theorem IS(x:bG)(o:Option Int)(h:o=none∨o=some (hyp x)):ms (dG x,o):=by
 have b:=jK x.az;have c:=jK x.Grow;have d:=jK x.Shrink;have e:=jK x.Min;have f:=jK x.Max;refine⟨b,c,d,by simp only[dG];omega,fun n a=>?_⟩;rcases h with rfl|rfl
 ·cases a
 ·injection a with a;subst a
  simp only[hyp,cl,dG];omega
theorem ai6(g:Bool)(l:d7):Ok (start g l):=by
 intro p a;obtain⟨x,_,rfl⟩:=u6.1 a;refine IS x _ ?_;split<;>simp
theorem Em{p:It}(h:ms p)(n:Int):p.1.Min≤cl p.1 n∧cl p.1 n≤p.1.Max:=by have:=h.l;unfold cl;omega
theorem akq{g:Bool}{c:Int}{p:It}(h:ms p)(x:Int):ms (gF g c p x):=by
 unfold gF;split
 ·exact h
 ·split
  ·refine⟨h.b,h.g,h.s,h.l,fun n a=>?_⟩;injection a with a;subst a;exact Em h _
  ·exact h
theorem DE(g:Bool)(sp:Int)(M:List It):(parts g sp M).length=M.length:=by unfold parts;rw[Sh.wg,Sh.fY];simp[zo]
theorem mR(g:Bool)(sp:Int)(M:List It):(round g sp M).length=M.length:=by unfold round;rw[amX,DE];omega
theorem JY(g:Bool)(sp:Int)(M:List It){k:Nat}(a:k<M.length):(round g sp M)[k]'(by rw[mR];exact a)=gF g (change g sp M) M[k] ((parts g sp M).getD k default):=by
 unfold round;rw[amK,cm (by rw[DE];exact a)]
theorem aiR{g:Bool}{sp:Int}{M:List It}(h:Ok M):Ok (round g sp M):=by
 intro p c;obtain⟨k,b,e⟩:=amT c;have a:k<M.length:=by rw[mR]at b;exact b
 rw[JY g sp M a]at e;subst e;exact akq (h _ (sj _)) _
theorem ND{g:Bool}{sp:Int}:∀(k:Nat) (M:List It),(run g sp k M).length=M.length
 | 0,M=>rfl
 | k+1,M=>by
  unfold run;split
  ·rfl
  ·rw[ND k,mR]
theorem Hg(l:d7)(sp:Int):(resolve l sp).length=l.length:=by simp[resolve,gn,ND,start]
theorem Q9(g:Bool)(c:Int):∀(M:List It) (P:b5),M.length=P.length→opens (List.zipWith (gF g c) M P)≤opens M ∧
  ((∃k,∃h:k<M.length,∃f:k<P.length,M[k].2.isSome=false∧mw c (ns g M[k].1 P[k]) (cl M[k].1 (ns g M[k].1 P[k]))=true)→opens (List.zipWith (gF g c) M P)<opens M)
 | [],P,_=>⟨by simp[opens],fun⟨k,h,_⟩=>by simp at h⟩
 | p::M,[],h=>by simp at h
 | p::M,x::P,h=>by
  have m:=Q9 g c M P (by simpa using h);have d:opens (p::M)=opens M+(if (!p.2.isSome)=true then 1 else 0):=by simp[opens,ama]
  have e:opens (List.zipWith (gF g c) (p::M) (x::P))=opens (List.zipWith (gF g c) M P)+(if (!(gF g c p x).2.isSome)=true then 1 else 0):=by simp[opens,ama]
  have n:(if (!(gF g c p x).2.isSome)=true then 1 else 0)≤(if (!p.2.isSome)=true then 1 else 0):=by
   unfold gF;by_cases j:p.2.isSome=true
   ·rw[iF j];exact h7 _
   ·rw[io j];by_cases i:mw c (ns g p.1 x) (cl p.1 (ns g p.1 x))=true
    ·rw[iF i];simp
    ·rw[io i];exact h7 _
  refine⟨by rw[d,e];omega,fun⟨k,l,f,a,b⟩=>?_⟩;cases k with
  | zero =>
   simp only[List.getElem_cons_zero]at a b;have:(if (!(gF g c p x).2.isSome)=true then 1 else 0)=0:=by
    have:gF g c p x=(p.1,some (cl p.1 (ns g p.1 x))):=by unfold gF;rw[io (by rw[a];simp),iF b]
    rw[this];rfl
   rw[d,e,this,a];simp;omega
  | succ k =>
   simp only[List.getElem_cons_succ]at a b;have:=m.2 ⟨k,by simpa using l,by simpa using f,a,b⟩;rw[d,e];omega
theorem Sz:∀L:b5,0<sm L→∃k,∃h:k<L.length,0<L[k]
 | [],h=>by simp[sm]at h
 | x::L,h=>by
  simp only[sm]at h;by_cases c:0<x
  ·exact⟨0,by simp,c⟩
  ·obtain⟨k,b,a⟩:=Sz L (by omega);exact⟨k+1,by simpa using b,by simpa using a⟩
theorem QM:∀L:b5,sm L<0→∃k,∃h:k<L.length,L[k]<0
 | [],h=>by simp[sm]at h
 | x::L,h=>by
  simp only[sm]at h;by_cases c:x<0
  ·exact⟨0,by simp,c⟩
  ·obtain⟨k,b,a⟩:=QM L (by omega);exact⟨k+1,by simpa using b,by simpa using a⟩
theorem LZ{g:Bool}{sp:Int}{M:List It}(h:opens M≠0):opens (round g sp M)<opens M:=by
 have e:=DE g sp M;refine (Q9 g (change g sp M) M (parts g sp M) e.symm).2 ?_;rcases Int.lt_trichotomy (change g sp M) 0 with d|d|d
 ·obtain⟨k,b,a⟩:=QM _ d;simp only[amX,e,Nat.min_self]at b;rw[amK]at a;unfold nI at a;by_cases c:M[k].2.isSome=true
  ·rw[iF c]at a;omega
  ·rw[io c]at a;refine⟨k,b,by omega,by simpa using c,?_⟩;unfold mw;rw[ob];omega
 ·have:0<opens M:=by omega
  obtain⟨p,f,a⟩:=List.countP_pos_iff.1 this;obtain⟨k,b,rfl⟩:=amT f;refine⟨k,b,by omega,by simpa using a,?_⟩;unfold mw;rw[ob];omega
 ·obtain⟨k,b,a⟩:=Sz _ d;simp only[amX,e,Nat.min_self]at b;rw[amK]at a;unfold nI at a;by_cases c:M[k].2.isSome=true
  ·rw[iF c]at a;omega
  ·rw[io c]at a;refine⟨k,b,by omega,by simpa using c,?_⟩;unfold mw;rw[ob];omega
theorem Pn(M:List It):opens M≤M.length:=List.countP_le_length
theorem yv{g:Bool}{sp:Int}{M:List It}(h:opens M=0):∀k,run g sp k M=M
 | 0=>rfl
 | k+1=>by unfold run;rw[iF h]
theorem QO{g:Bool}{sp:Int}:∀(k j:Nat) (M:List It),opens M≤k→opens M≤j→run g sp k M=run g sp j M
 | 0,j,M,h,_=>by rw[yv (by omega),yv (by omega)]
 | k+1,0,M,_,h=>by rw[yv (by omega),yv (by omega)]
 | k+1,j+1,M,h,b=>by
  unfold run;split
  ·rfl
  ·rename_i a;have:=LZ (g:=g) (sp:=sp) a;exact QO k j _ (by omega) (by omega)
end Rs
namespace Rs
open Sh (share b8 dH mx kQ nT)
open QSort (wn cI dx dv sb)
instance:Inhabited It:=⟨(default,none)⟩
def O(M:List It)(n:Nat):b5:=((List.range n).filter fun k=>!(M.getD k default).2.isSome).map fun (k:Nat)=>k
theorem FT M:O M 0=[]:=rfl
theorem wK M n:O M (n+1)=O M n++if (M.getD n default).2.isSome=true then [] else [(n:Int)]:=by
 unfold O;rw[amU,am3,Db]
 grind
theorem JQ{M}{n}{x}:x∈O M n↔∃k:Nat,k<n∧x=k∧(M.getD k default).2.isSome=false:=by
 grind[O]
theorem C8 M n:(O M n).length≤n:=by
 grind[O]
theorem aar M n:(O M n).Pairwise (· < ·):=by
 unfold O;rw[ane];refine amA (fun h=>?_) (anz _ amx);omega
theorem Q5{M}{k}(a:k<(O M M.length).length):∃j:Nat,(O M M.length).getD k default=j∧j<M.length∧(M.getD j default).2.isSome=false:=by
 have b:(O M M.length).getD k default∈O M M.length:=by grind
 grind[JQ]
theorem Hr:∀(ws:List (Option Int)) (P:b5) (o:Option Int) (p:Int),ws.length=P.length→pick (ws++[o]) (P++[p])=pick ws P++if o.isSome=true then [p] else []
 | [],[],o,p,_=>by cases o<;>simp[pick]
 | [],_::_,o,p,h=>by grind
 | _::_,[],o,p,h=>by grind
 | none::ws,x::P,o,p,h=>by
  have:=Hr ws P o p (by grind)
  grind[pick]
 | some w::ws,x::P,o,p,h=>by
  have:=Hr ws P o p (by grind)
  grind[pick]
theorem Yy g p:(gT g p).isSome=!p.2.isSome:=by grind[gT]
theorem jc{α:Type}[Inhabited α]{L:List α}{n}(h:n<L.length):L.take (n+1)=L.take n++[L.getD n default]:=by
 simp_all
theorem VI(g:Bool)(M:List It)(P:b5)(a:P.length=M.length):∀n,n≤M.length→pick ((M.take n).map (gT g)) (P.take n)=(O M n).map fun j=>P.getD j.toNat default
 | 0,_=>by simp[pick,FT]
 | n+1,h=>by
  rw[jc (show n<M.length by omega),jc (show n<P.length by omega),Db,n5,u7,Hr _ _ _ _ (by simp;omega),VI g M P a n (by omega),wK,Db,Yy];congr 1;cases (M.getD n default).2.isSome<;>simp
theorem Tx(g:Bool)(M:List It){n}(h:n<M.length):op ((M.take (n+1)).map (gT g))=op ((M.take n).map (gT g))++if (M.getD n default).2.isSome=true then [] else [oi g (M.getD n default).1]:=by
 grind[jc,op,gT]
theorem HW g M:∀n,n≤M.length→(op ((M.take n).map (gT g))).length=(O M n).length
 | 0,_=>by rfl
 | n+1,h=>by
  rw[Tx g M (by omega),wK,kc,kc,HW g M n (by omega)]
  grind
theorem SV(f:It→Int)(M:List It){n:Nat}(h:n<M.length):sm ((M.take (n+1)).map f)=sm ((M.take n).map f)+f (M.getD n default):=by
 rw[jc h,Db,mD];simp[sm]
theorem NT(F:Nat→Int)(M:List It)(h:∀k,(M.getD k default).2.isSome=true→F k=0):∀n,sm ((List.range n).map F)=sm ((O M n).map fun j=>F j.toNat)
 | 0=>by simp[FT]
 | n+1=>by
  rw[amU,Db,mD,NT F M h n,wK,Db,mD];congr 1;cases a:(M.getD n default).2.isSome
  ·simp[sm]
  ·simp[sm,h n a]
theorem adX g sp M:change g sp M=sm ((O M M.length).map fun j=>nI g (M.getD j.toNat default) ((parts g sp M).getD j.toNat default)):=by
 rw[←NT (fun k=>nI g (M.getD k default) ((parts g sp M).getD k default)) M (fun k c=>by grind[nI]) M.length];unfold change;congr 1;refine aml (by simp[DE]) (fun k a b=>?_)
 grind
theorem agv g(M:List It){n}(h:n<M.length):fq g (M.take (n+1))=fq g (M.take n)+if (M.getD n default).2.isSome=true then 0 else mS g (M.getD n default).1:=SV _ M h
variable{g:Bool}{M:List It}
theorem Ok.at(h:Ok M){k}(a:k<M.length):ms (M.getD k default):=by rw[cm a];exact h _ (sj _)
theorem alN{p}(h:ms p):0≤fV p∧fV p≤1048576:=by
 unfold fV;have:=h.b;have:=h.l;cases a:p.2 with
 | none=>grind
 | some n=>have:=h.z n a;grind
theorem akz{p}(h:ms p):0≤mS g p.1∧mS g p.1≤1048576:=by unfold mS;have:=h.g;have:=h.s;omega
theorem Hk{p}(h:ms p):0≤oi g p.1∧oi g p.1≤1099511628:=by
 unfold oi;have b:=h.b;have c:=h.g;have a:=h.s;have:0≤p.1.az*p.1.Shrink∧p.1.az*p.1.Shrink≤1048576*1048576:=⟨alU b.1 a.1,amj b.2 a.2 a.1 (by omega)⟩;omega
theorem Td{c}(a:0≤c) f(d:∀p∈M,0≤f p∧f p≤c) n(e:M.length≤19):0≤sm ((M.take n).map f)∧sm ((M.take n).map f)≤1000*c:=by
 refine⟨kQ _ (fun x b=>?_),?_⟩
 ·grind
 ·have:=nT (c:=c) ((M.take n).map f) (fun x b=>by grind);refine Int.le_trans this (Int.mul_le_mul_of_nonneg_right ?_ a)
  grind
theorem BO(h:Ok M)(a:M.length≤19) n:0≤sm ((M.take n).map fV)∧sm ((M.take n).map fV)≤1048576000:=by
 have:=Td (M:=M) (c:=1048576) (by omega) fV (fun p b=>alN (h p b)) n a;omega
theorem Gn(h:Ok M)(a:M.length≤19) n:0≤fq g (M.take n)∧fq g (M.take n)≤1048576000:=by
 have:=Td (M:=M) (c:=1048576) (by omega) (fun p=>if p.2.isSome=true then 0 else mS g p.1) (fun p b=>by
  have:=akz (g:=g) (h p b);omega) n a
 grind[fq]
theorem nq{α:Type}(L:List α):L.take L.length=L :=by grind
theorem aaT(h:Ok M)(a:M.length≤19){sp}(b : -1125899906842624≤sp∧sp≤1125899906842624):0≤room g sp M∧room g sp M≤1125900955418624:=by
 have:=BO h a M.length
 grind[nq,room]
theorem alg(a f:Int):a / 1000*f+a % 1000*f / 1000=a*f / 1000:=by
 have h:a*f=1000*(a / 1000*f)+a % 1000*f:=by
  grind
 omega
theorem XM{w}(h:Ok M)(c:w∈zo (M.map (gT g))):0≤w∧w≤1099511628:=by
 obtain⟨o,a,rfl⟩:=u6.1 c;obtain⟨p,b,rfl⟩:=u6.1 a;unfold gT;have:=Hk (g:=g) (h p b)
 grind
theorem VD{L}(h:∀w∈L,0≤w∧w≤2147483647):b8 L=L:=by
 conv=>rhs;rw[←List.map_id L]
 refine amY (fun w a=>?_);unfold Sh.dH Sh.mx;grind
theorem ae9{w}(h:Ok M)(c:w∈op (M.map (gT g))):0≤w∧w≤1099511628:=by
 obtain⟨o,a,e⟩:=am2.1 c;obtain⟨p,b,rfl⟩:=u6.1 a;unfold gT at e;have:=Hk (g:=g) (h p b)
 grind
theorem ace(h:Ok M) sp:share (dH (oH g sp M) mx) (b8 (op (M.map (gT g))))=(O M M.length).map fun j=>(parts g sp M).getD j.toNat default:=by
 rw[VD (fun w a=>by have:=ae9 h a;omega),← Xz];unfold parts;rw[VD (fun w a=>by have:=XM h a;omega)];have:=VI g M (share (dH (oH g sp M) mx) (zo (M.map (gT g)))) (by rw[Sh.wg];simp[zo]) M.length (by omega);rw[nq,Dk (by rw[Sh.wg];simp[zo])]at this
 grind
theorem afH{T}{W}(b:∀w∈W,0≤w)(d:0≤T){k}(c:k<W.length):0≤(share T W).getD k default∧(share T W).getD k default≤T+1:=by
 by_cases a:sm W=0
 ·rw[Sh.GT a,cm (by grind)]
  grind
 ·rw[Sh.Px a c];exact Sh.Ya b d (by have:=kQ W b;omega) c
theorem Uj(h:Ok M) sp{k}(c:k<M.length):0≤(parts g sp M).getD k default∧(parts g sp M).getD k default≤2147483648:=by
 have a:=Sh.jK (n:=oH g sp M) (m:=mx) (by decide);have:=afH (T:=dH (oH g sp M) mx) (W:=b8 (zo (M.map (gT g)))) (fun w b=>(Sh.nO _ w b).1) a.1 (k:=k) (by rw[Sh.fY];grind[zo]);unfold parts;unfold Sh.mx at *;omega
theorem Qt{p}(h:ms p){x}(a:0≤x∧x≤2147483648): -2147483648≤ns g p.1 x∧ns g p.1 x≤2148532224:=by
 have:=h.b
 grind[ns]
structure Rl g(p:It)(x:bd):Prop where
 it:x.Item=p.1
 f:x.factor=mS g p.1
 w:x.weight=oi g p.1
 fx:x.fixed=p.2.isSome
 s:∀n,p.2=some n→x.size=n
structure aI g(M:List It)(L:d6):Prop where
 len:L.length=M.length
 at_:∀k,k<M.length→Rl g (M.getD k default) (L.getD k default)
def iq(g:Bool):Int:=if g=true then 1 else -1
variable{K:Kn}{n:Nat}{L:d6}
theorem PV{a b}(h:a≤1001)(d:b≤1000)(c:0<b):fits a b=true:=de (oR (Nat.mul_le_mul h d) (by grind)) c
theorem ahi(b:Ok M)(t:aI g M L)(c:M.length≤19){sp:Int}(B : -1125899906842624≤sp∧sp≤1125899906842624):∀(m i:Nat),i≤M.length→M.length<m+i →
  ze K n L (iq g) m (sp-sm ((M.take i).map fV)) (fq g (M.take i)) (i:Int) (O M i) (op ((M.take i).map (gT g)))=if (O M M.length).length=0 then some (false,L) else vo K n L (iq g) (O M M.length) (op (M.map (gT g))) (oH g sp M):=by
 intro m
 induction m with
 | zero=>intro i y A;omega
 | succ m u =>
  intro i y A;simp only[ze,DT,t.len];by_cases f:i<M.length
  ·have h:=t.at_ i f;have F:=b.at f;have v:=BO b c i;have o2:=BO b c (i+1);have e:=Gn (g:=g) b c i;have E:=Gn (g:=g) b c (i+1);have r:=SV fV M f;have s:=agv g M f;have k:=Tx g M f;have l:=wK M i;have G:=C8 M i;have pl:=HW g M i (by omega);rw[dx (by omega),cI (by omega),fh,h.fx];simp only[Aq];have C:aa ((i:Int)+1)=((i+1:Nat):Int):=wn (by omega) (by omega);rw[C,h.it,h.f,h.w];cases j:(M.getD i default).2 with
   | some z =>
    simp only[j,Option.isSome_some,wl,IF]at s k l⊢;rw[h.s z j];have p:fV (M.getD i default)=z:=by unfold fV;rw[j];rfl
    rw[p]at r;rw[bT (by omega) (by omega),show sp-sm ((M.take i).map fV)-z=sp-sm ((M.take (i+1)).map fV) by omega,show fq g (M.take i)=fq g (M.take (i+1)) by omega,← k,← l];exact u (i+1) (by omega) (by omega)
   | none =>
    simp only[j,Option.isSome_none,hH,rv]at s k l⊢;have p:fV (M.getD i default)=(M.getD i default).1.az:=by unfold fV;rw[j];rfl
    rw[p]at r;simp only[sb];rw[PV (by simp only[iN,ro];omega) (by omega) (by omega),PV (by simp only[iN,ro];omega) (by omega) (by omega),bi,bi,bT (by omega) (by omega),bT (by omega) (by omega),
     show sp-sm ((M.take i).map fV)-(M.getD i default).1.az=sp-sm ((M.take (i+1)).map fV) by omega,show fq g (M.take i)+mS g (M.getD i default).1=fq g (M.take (i+1)) by omega,← k,← l]
    exact u (i+1) (by omega) (by omega)
  ·obtain rfl:i=M.length:=by omega
   rw[dv (by omega),nq];have v:=BO b c M.length;have e:=Gn (g:=g) b c M.length;rw[nq]at v e;have a:=aaT (g:=g) b c B;have x:max (aa ((sp-sm (M.map fV))*iq g)) 0=room g sp M:=by
    unfold room iq;cases g
    ·simp only[hH,rv];rw[bT (by omega) (by omega)];omega
    ·simp only[wl];rw[bT (by omega) (by omega)];omega
   rw[x];by_cases q:(O M M.length).length=0
   ·rw[iF q,iF (by simp[q])]
   ·rw[io q,io (by rw[alQ];omega)];unfold oH;by_cases o:fq g M<1000
    ·rw[dx o,iF o];have d:=alg (room g sp M) (fq g M);have D:0≤room g sp M / 1000*fq g M∧room g sp M / 1000*fq g M≤1125900955419*1000:=⟨alU (by omega) e.1,amj (by omega) (by omega) e.1 (by omega)⟩;have w:0≤room g sp M % 1000*fq g M∧room g sp M % 1000*fq g M≤1000*1000:=⟨alU (by omega) e.1,amj (by omega) (by omega) e.1 (by omega)⟩;rw[alX a.1,am0 a.1];rw[bT (n:=room g sp M / 1000) (by omega) (by omega),bT (n:=room g sp M / 1000*fq g M) (by omega) (by omega),bT (n:=room g sp M % 1000*fq g M) (by omega) (by omega),alX w.1,
      bT (n:=room g sp M % 1000*fq g M / 1000) (by omega) (by omega),bT (by omega) (by omega),d]
    ·rw[dv o,io o]
def dm(g:Bool)(sp:Int)(M:List It):b5:=(O M M.length).map fun j=>ns g (M.getD j.toNat default).1 ((parts g sp M).getD j.toNat default)
def jM(g:Bool)(sp:Int)(M:List It):b5:=(O M M.length).map fun j=>(parts g sp M).getD j.toNat default
def jh(g:Bool)(sp:Int)(M:List It):b5:=(O M M.length).map fun j=>nI g (M.getD j.toNat default) ((parts g sp M).getD j.toNat default)
theorem Dg{α:Type}[Inhabited α](f:Int→α)(l:b5){k}(a:k<l.length):(l.map f).getD k default=f (l.getD k default):=by
 grind
theorem ale(b:Ok M)(t:aI g M L)(W:M.length≤19){sp:Int}:∀(m i:Nat),i≤(O M M.length).length→(O M M.length).length<m+i →
  xu K n L (iq g) (O M M.length) m (sm ((jh g sp M).take i)) (i:Int) ((dm g sp M).take i++(jM g sp M).drop i)=uH K n (O M M.length) (change g sp M) (dm g sp M) n 0 L:=by
 have Y:=C8 M M.length;intro m
 induction m with
 | zero=>intro i G H;omega
 | succ m S =>
  intro i G H;simp only[xu,Dv,t.len];have v:(dm g sp M).length=(O M M.length).length:=by simp[dm]
  have w:(jM g sp M).length=(O M M.length).length:=by simp[jM]
  have X:(jh g sp M).length=(O M M.length).length:=by simp[jh]
  by_cases c:i<(O M M.length).length
  ·obtain⟨j,e,h,P⟩:=Q5 c;have Q:=t.at_ j h;have a:=b.at h;have l:=Uj (g:=g) b sp h;have d:=Qt (g:=g) a l;have I:=Em a (ns g (M.getD j default).1 ((parts g sp M).getD j default));have J:=a.l;have p:((dm g sp M).take i++(jM g sp M).drop i).length=(O M M.length).length:=by simp[v,w];omega
   have U:(jM g sp M).getD i default=(parts g sp M).getD j default:=by unfold jM;rw[Dg _ _ c,e,Int.toNat_natCast]
   have r:(dm g sp M).getD i default=ns g (M.getD j default).1 ((parts g sp M).getD j default):=by unfold dm;rw[Dg _ _ c,e,Int.toNat_natCast]
   have V:(jh g sp M).getD i default=cl (M.getD j default).1 ((dm g sp M).getD i default)-(dm g sp M).getD i default:=by
    rw[r];unfold jh;rw[Dg _ _ c,e,Int.toNat_natCast];unfold nI;rw[P];simp
   have s:(jM g sp M).drop i=(parts g sp M).getD j default::(jM g sp M).drop (i+1):=by rw[kp (by omega),← cm (by omega),U]
   have E:((dm g sp M).take i++(jM g sp M).drop i).getD i default=(parts g sp M).getD j default:=by
    rw[s];exact QSort.gd (by simp;omega)
   rw[dx (by omega),cI (by omega),fh,e,p,cI (by omega),cI (by omega),fh,E,Q.it];simp only[sb];have f:aa ((M.getD j default).1.az+aa (iq g*(parts g sp M).getD j default))=(dm g sp M).getD i default:=by
    rw[r];have:=a.b;unfold ns at d⊢;unfold iq;cases g
    ·simp only[hH,rv]at d⊢;rw[bT (n := -1*(parts false sp M).getD j default) (by omega) (by omega),bT (by omega) (by omega)];omega
    ·simp only[wl]at d⊢;rw[bT (n:=1*(parts true sp M).getD j default) (by omega) (by omega),bT (by omega) (by omega)];omega
   rw[f];have C:List.set ((dm g sp M).take i++(jM g sp M).drop i) i ((dm g sp M).getD i default)=(dm g sp M).take (i+1)++(jM g sp M).drop (i+1):=by
    rw[s,jc (by omega)];have:i=((dm g sp M).take i).length:=by simp;omega
    conv=>lhs;arg 2;rw[this]
    simp
   rw[C];have uy:((dm g sp M).take (i+1)++(jM g sp M).drop (i+1)).length=(O M M.length).length:=by simp[v,w];omega
   have F:((dm g sp M).take (i+1)++(jM g sp M).drop (i+1)).getD i default=(dm g sp M).getD i default:=by
    rw[jc (by omega),u3];exact QSort.gd (by simp;omega)
   rw[cI (by omega),uy,cI (by omega),F];simp only[qh,sb];have z:min (max ((dm g sp M).getD i default) (M.getD j default).1.Min) (M.getD j default).1.Max=cl (M.getD j default).1 ((dm g sp M).getD i default):=rfl;rw[z];have D:aa (cl (M.getD j default).1 ((dm g sp M).getD i default)-(dm g sp M).getD i default)=(jh g sp M).getD i default:=by rw[V];rw[r];exact bT (by omega) (by omega)
   have q:∀i:Nat,-(1000*4294967296)≤sm ((jh g sp M).take i)∧sm ((jh g sp M).take i)≤1000*4294967296:=by
    intro i;have:=VL (B:=4294967296) (by omega) ((jh g sp M).take i) (fun x o=>by
     have o:=nk o;obtain⟨y,R,rfl⟩:=u6.1 o;obtain⟨k,u,rfl,T⟩:=JQ.1 R;rw[Int.toNat_natCast];have a:=b.at u;have l:=Uj (g:=g) b sp u;have d:=Qt (g:=g) a l;have I:=Em a (ns g (M.getD k default).1 ((parts g sp M).getD k default));have:=a.l;unfold nI;rw[T];simp only[hH,rv];omega)
    have N:((jh g sp M).take i).length≤1000:=by simp;omega
    omega
   have Z:=q (i+1);have A:sm ((jh g sp M).take (i+1))=sm ((jh g sp M).take i)+(jh g sp M).getD i default:=by rw[jc (by omega),mD];simp[sm]
   rw[D,bT (n:=sm ((jh g sp M).take i)+(jh g sp M).getD i default) (by omega) (by omega),← A,wn (n:=(i:Int)+1) (k:=i+1) (by omega) (by omega),cI (by omega),cI (by omega)];exact S (i+1) (by omega) (by omega)
  ·rw[dv (by omega)];rw[Dk (by omega),Dk (by omega),la (by omega),IF];rw[adX];rfl
theorem Y1(T:Ok M)(Y:M.length≤19){sp:Int}:∀(m i:Nat) (L:d6),i≤(O M M.length).length→(O M M.length).length<m+i→L.length=M.length →
  (∀k,k<M.length→Rl g (if (k:Int)∈(O M M.length).take i then (round g sp M).getD k default else M.getD k default) (L.getD k default)) →
  ∃H,aI g (round g sp M) H∧uH K n (O M M.length) (change g sp M) (dm g sp M) m (i:Int) L=some (true,H):=by
 have ol:=C8 M M.length;have X:(dm g sp M).length=(O M M.length).length:=by simp[dm]
 intro m
 induction m with
 | zero=>intro i L R S;omega
 | succ m J =>
  intro i L R S u E;simp only[uH,Cq];by_cases A:i<(O M M.length).length
  ·obtain⟨j,e,t,I⟩:=Q5 A;have f:=T.at t;have G:(dm g sp M).getD i default=ns g (M.getD j default).1 ((parts g sp M).getD j default):=by unfold dm;rw[Dg _ _ A,e,Int.toNat_natCast]
   have B:(j:Int) ∉ (O M M.length).take i:=by
    intro p;obtain⟨k,W,Z,N⟩:=QSort.Wy p;have:=QSort.CR (aar M M.length) W A;unfold QSort.at_ at this N;rw[N,e]at this;omega
   have s:=E j t;rw[io B]at s;have F:aa ((i:Int)+1)=((i+1:Nat):Int):=wn (by omega) (by omega);rw[dx (by omega),cI (by omega),fh,e,u,cI (by omega),fh,X];simp only[cI (show(0:Int)≤(i:Int)∧(i:Int)<((O M M.length).length:Nat) by omega),qh,sb,s.it,nP,yT,u,F,Int.toNat_natCast,e];have Q:min (max ((dm g sp M).getD i default) (M.getD j default).1.Min) (M.getD j default).1.Max=cl (M.getD j default).1 ((dm g sp M).getD i default):=rfl;rw[Q];have C:(round g sp M).getD j default=gF g (change g sp M) (M.getD j default) ((parts g sp M).getD j default):=by
    rw[cm (by rw[mR];exact t),JY g sp M t,cm t]
   have l:∀k,k<M.length→k≠j→((k:Int)∈(O M M.length).take (i+1)↔(k:Int)∈(O M M.length).take i):=by
    intro k f d;rw[jc A,e,kb,acN];constructor
    ·rintro (h|h)
     ·exact h
     ·omega
    ·exact .inl
   have D:(j:Int)∈(O M M.length).take (i+1):=by rw[jc A,e];simp
   have P:decide (j<M.length)=true:=by simpa using t
   by_cases x:mw (change g sp M) (ns g (M.getD j default).1 ((parts g sp M).getD j default)) (cl (M.getD j default).1 (ns g (M.getD j default).1 ((parts g sp M).getD j default)))=true
   ·-- it gets its size
    have r:(round g sp M).getD j default=((M.getD j default).1,some (cl (M.getD j default).1 ((dm g sp M).getD i default))):=by rw[C,G];unfold gF;rw[I,io (by simp),iF x]
    have c:=J (i+1) (List.set (List.set L j ({ (List.getD L j default)with size:=cl (M.getD j default).1 ((dm g sp M).getD i default) }:bd)) j ({ (List.getD (List.set L j ({ (List.getD L j default)with size:=cl (M.getD j default).1 ((dm g sp M).getD i default) }:bd)) j default)with fixed:=true }:bd)) (by omega) (by omega) (by simpa using u) (fun k f=>by
     by_cases d:k=j
     ·subst d;rw[iF D,r];have:List.getD (List.set L k ({ (List.getD L k default)with size:=cl (M.getD k default).1 ((dm g sp M).getD i default) }:bd)) k default=({ (List.getD L k default)with size:=cl (M.getD k default).1 ((dm g sp M).getD i default) }:bd):=by
       rw[cm (by simp;omega)];simp
      rw[this];have:∀z:bd,List.getD (List.set (List.set L k ({ (List.getD L k default)with size:=cl (M.getD k default).1 ((dm g sp M).getD i default) }:bd)) k z) k default=z:=by
       intro z;rw[cm (by simp;omega)];simp
      rw[this];exact⟨s.it,s.f,s.w,rfl,fun n U=>Option.some.inj U⟩
     ·have p:=E k f;have:∀a b:bd,List.getD (List.set (List.set L j a) j b) k default=L.getD k default:=by
       intro a b;rw[cm (by simp;omega),cm (by omega)];simp[List.getElem_set,show ¬ j=k by omega]
      rw[this];by_cases o:(k:Int)∈(O M M.length).take i
      ·rw[iF ((l k f d).2 o)];rwa[iF o]at p
      ·rw[io (fun h=>o ((l k f d).1 h))];rwa[io o]at p)
    simp only[s.it]at c;unfold mw at x;rw[ob,← G]at x;simp only[wl,P,bi];by_cases v:change g sp M=0
    ·rw[iF (by simp[v])];exact c
    ·rw[io (by simp[v])];by_cases q:change g sp M>0
     ·rw[dx q,dx (show cl (M.getD j default).1 ((dm g sp M).getD i default)>(dm g sp M).getD i default by omega)];exact c
     ·rw[dv q,dx (show change g sp M<0 by omega),dx (show cl (M.getD j default).1 ((dm g sp M).getD i default)<(dm g sp M).getD i default by omega)];exact c
   ·have r:(round g sp M).getD j default=M.getD j default:=by rw[C];unfold gF;rw[I,io (by simp),io x]
    have c:=J (i+1) L (by omega) (by omega) u (fun k f=>by
     by_cases d:k=j
     ·subst d;rw[iF D,r];exact s
     ·have p:=E k f;by_cases o:(k:Int)∈(O M M.length).take i
      ·rw[iF ((l k f d).2 o)];rwa[iF o]at p
      ·rw[io (fun h=>o ((l k f d).1 h))];rwa[io o]at p)
    have y:mw (change g sp M) (ns g (M.getD j default).1 ((parts g sp M).getD j default)) (cl (M.getD j default).1 (ns g (M.getD j default).1 ((parts g sp M).getD j default)))=false:=by simpa using x
    unfold mw at y;rw[decide_eq_false_iff_not,← G]at y;simp only[wl,hH,rv];rw[io (by simp;omega)];by_cases q:change g sp M>0
    ·rw[dx q,dv (show ¬ cl (M.getD j default).1 ((dm g sp M).getD i default)>(dm g sp M).getD i default by omega),dv (show ¬ change g sp M<0 by omega)];exact c
    ·rw[dv q];by_cases w:change g sp M<0
     ·rw[dx w,dv (show ¬ cl (M.getD j default).1 ((dm g sp M).getD i default)<(dm g sp M).getD i default by omega)];exact c
     ·rw[dv w];exact c
  ·rw[dv (by omega)];refine⟨L,⟨by rw[u,mR],fun k f=>?_⟩,rfl⟩;rw[mR]at f;have p:=E k f;rw[Dk (by omega)]at p;by_cases o:(k:Int)∈O M M.length
   ·rwa[iF o]at p
   ·rw[io o]at p;have V:(M.getD k default).2.isSome=true:=by
     rcases Bool.eq_false_or_eq_true (M.getD k default).2.isSome with h|h
     ·exact h
     ·exact absurd (JQ.2 ⟨k,f,rfl,h⟩) o
    have:(round g sp M).getD k default=M.getD k default:=by
     rw[cm (by rw[mR];exact f),JY g sp M f,← cm f];unfold gF;rw[iF V]
    rw[this];exact p
theorem YK M:opens M=(O M M.length).length:=by
 have:∀n,n≤M.length→(M.take n).countP (fun p=>!p.2.isSome)=(O M n).length:=by
  intro n
  induction n with
  | zero=>intro _;rfl
  | succ n a =>
   grind[jc,wK]
 have h:=this M.length (by omega);rw[nq]at h;exact h
theorem alf{lvl:Nat}(c:Ok M)(b:aI g M L)(f:M.length≤19){sp:Int}(o : -1125899906842624≤sp∧sp≤1125899906842624)(m:10001<n)(i:20010≤lvl):
  if opens M=0 then vq (KN lvl) n L sp (iq g)=some (false,L) else ∃a,aI g (round g sp M) a∧vq (KN lvl) n L sp (iq g)=some (true,a):=by
 have h:=ahi (K:=KN lvl) (n:=n) c b f o n 0 (by omega) (by omega);have j:sp-sm ((M.take 0).map fV)=sp:=by simp[sm]
 have r:=C8 M M.length;unfold vq;rw[j,show fq g (M.take 0)=0 from rfl,show((0:Nat):Int)=0 from rfl,FT,show op ((M.take 0).map (gT g))=[] from rfl]at h;rw[h,← YK];by_cases d:opens M=0
 ·rw[iF d,iF d]
 ·rw[io d,io d];unfold vo;have pl:=HW g M M.length (h7 _);rw[nq]at pl;rw[Sh.nz _ _ (by omega) m i,ace c,sb];have e:=ale (K:=KN lvl) (n:=n) c b f (sp:=sp) n 0 (by omega) (by omega);rw[alT,alT,Do,Dy,show sm []=0 from rfl,show((0:Nat):Int)=0 from rfl]at e;unfold jM at e;rw[e];obtain⟨a,p,q⟩:=Y1 (K:=KN lvl) (n:=n) (g:=g) c f (sp:=sp) n 0 L (by omega) (by omega) b.len (fun k l=>by rw[io (by simp)];exact b.at_ k l);exact⟨a,p,q⟩
end Rs
namespace Rs
open Sh (share b8 dH mx kQ nT)
open QSort (wn cI dx dv sb)
variable{K:Kn}{n:Nat}
theorem aa3 x:zg K n x=some (dG x):=rfl
theorem IG x:vb K n x=some (hyp x):=rfl
theorem KJ x:0≤hyp x∧hyp x≤1048576:=by
 have h:=IS x none (.inl rfl);have a:=Em h (dG x).az;have b:=h.l
 grind[hyp]
def dM(x:bG):bd:=⟨dG x,0,0,hyp x,false⟩
theorem Sy(l:d7)(b:l.length≤19) n:0≤sm ((l.take n).map hyp)∧sm ((l.take n).map hyp)≤1048576000:=by
 refine⟨kQ _ (fun x a=>?_),?_⟩
 ·obtain⟨y,_,rfl⟩:=u6.1 a;exact(KJ y).1
 ·have:=nT (c:=1048576) ((l.take n).map hyp) (fun x a=>by obtain⟨y,_,rfl⟩:=u6.1 a;exact(KJ y).2)
  grind
theorem akA(l:d7)(sp:Int)(b:l.length≤19):∀(m i:Nat),i≤l.length→l.length<m+i →
  Ag K n l sp m (sm ((l.take i).map hyp)) (i:Int) ((l.take i).map dM++List.replicate (l.length-i) i9)=vG K n sp (l.map dM) (iq (me l sp)):=by
 intro m
 induction m with
 | zero=>intro i g j;omega
 | succ m o =>
  intro i g j;simp only[Ag,E7];by_cases a:i<l.length
  ·obtain⟨k,e⟩:∃k,l.length-i=k+1:=⟨l.length-i-1,by omega⟩;have p:((l.take i).map dM++List.replicate (l.length-i) i9).length=l.length:=by simp;omega
   have f:List.set ((l.take i).map dM++List.replicate (l.length-i) i9) i (dM (l.getD i default))=(l.take (i+1)).map dM++List.replicate (l.length-(i+1)) i9:=by
    rw[e,amW,show l.length-(i+1)=k by omega,jc a,Db];have:i=((l.take i).map dM).length:=by simp;omega
    conv=>lhs;arg 2;rw[this]
    simp
   have q:((l.take (i+1)).map dM++List.replicate (l.length-(i+1)) i9).length=l.length:=by simp;omega
   have d:((l.take (i+1)).map dM++List.replicate (l.length-(i+1)) i9).getD i default=dM (l.getD i default):=by
    rw[jc a,Db,u3,List.getD_eq_getElem?_getD,w3 (by simp;omega)];have:i-((l.take i).map dM).length=0:=by simp;omega
    rw[this];rfl
   have r:=Sy l b i;have s:=Sy l b (i+1);have c:sm ((l.take (i+1)).map hyp)=sm ((l.take i).map hyp)+hyp (l.getD i default):=by rw[jc a,Db,mD];simp[sm]
   rw[dx (by omega),cI (by omega),fh,aa3,IG];simp only[sb];rw[p,cI (by omega)];rw[show({ (i9:bd)with Item:=dG (l.getD i default),size:=hyp (l.getD i default) }:bd)=dM (l.getD i default) from rfl,f,q,cI (by omega),d];rw[show(dM (l.getD i default)).size=hyp (l.getD i default) from rfl,bT (by omega) (by omega),← c,wn (n:=(i:Int)+1) (k:=i+1) (by omega) (by omega)];exact o (i+1) (by omega) (by omega)
  ·obtain rfl:i=l.length:=by omega
   rw[dv (by omega),nq,anL,amV,IF];by_cases h:sm (l.map hyp)<sp
   ·rw[dx h];unfold me iq;rw[iF (by simpa using h)]
   ·rw[dv h];unfold me iq;rw[io (by simpa using h)]
def gw(g:Bool)(x:bG):bd:=⟨dG x,mS g (dG x),oi g (dG x),hyp x,j7 g (dG x) (hyp x)⟩
theorem acV{α:Type}(L:List α) i a b:List.set (List.set L i a) i b=List.set L i b:=by simp
theorem adN{L:d6}{i}{a}(h:i<L.length):(List.set L i a).getD i default=a:=by grind
theorem abU(g:Bool)(l:d7)(sp:Int)(x:l.length≤19):∀(m i:Nat),i≤l.length→l.length<m+i →
  xL K n sp (l.map dM) (iq g) m (i:Int) ((l.take i).map (gw g)++(l.drop i).map dM)=sJ K n sp (iq g) n (l.map (gw g)):=by
 intro m
 induction m with
 | zero=>intro i s t;omega
 | succ m v =>
  intro i s t;simp only[xL,C7,lp];by_cases c:i<l.length
  ·have j:(l.drop i).map dM=dM (l.getD i default)::(l.drop (i+1)).map dM:=by rw[kp c,cm c];rfl
   have w:((l.take i).map (gw g)++(l.drop i).map dM).length=l.length:=by simp;omega
   have p:((l.take i).map (gw g)++(l.drop i).map dM).getD i default=dM (l.getD i default):=by
    rw[j,List.getD_eq_getElem?_getD,w3 (by simp;omega)];have:i-((l.take i).map (gw g)).length=0:=by simp;omega
    rw[this];rfl
   have q:List.set ((l.take i).map (gw g)++(l.drop i).map dM) i (gw g (l.getD i default))=(l.take (i+1)).map (gw g)++(l.drop (i+1)).map dM:=by
    rw[j,jc c,Db];have:i=((l.take i).map (gw g)).length:=by simp;omega
    conv=>lhs;arg 2;rw[this]
    simp
   have e:=IS (l.getD i default) none (.inl rfl);have y:=Hk (g:=false) e;have k:=e.b;have f:=e.s;have u:0≤(dG (l.getD i default)).az*(dG (l.getD i default)).Shrink∧(dG (l.getD i default)).az*(dG (l.getD i default)).Shrink≤1048576*1048576:=⟨alU k.1 f.1,amj k.2 f.2 f.1 (by omega)⟩;rw[dx (by omega),cI (by omega)];simp only[fh,sb,wM,yz,acV,alW,w,adN (show i<((l.take i).map (gw g)++(l.drop i).map dM).length by omega),p];have d:aa ((i:Int)+1)=((i+1:Nat):Int):=wn (by omega) (by omega);have r:aa (Int.tdiv (aa ((dM (l.getD i default)).Item.az*(dM (l.getD i default)).Item.Shrink)) 1000)=oi false (dG (l.getD i default)):=by
    show aa (Int.tdiv (aa ((dG (l.getD i default)).az*(dG (l.getD i default)).Shrink)) 1000)=_;rw[bT (n:=(dG (l.getD i default)).az*(dG (l.getD i default)).Shrink) (by omega) (by omega),alX u.1,bT (by omega) (by omega)];rfl
   have o:decide (i<l.length)=true:=by simpa using c
   simp only[d,r,o,bi];have:=v (i+1) (by omega) (by omega);rw[←q]at this;rw[←this];cases g
   ·rw[dv (show ¬ iq false>0 by decide)];by_cases a:(dG (l.getD i default)).az<hyp (l.getD i default)
    ·have:(decide ((dM (l.getD i default)).Item.az<(dM (l.getD i default)).size))=true:=decide_eq_true a;have b:j7 false (dG (l.getD i default)) (hyp (l.getD i default))=true:=by unfold j7;rw[io (by simp),ob];exact .inr a
     simp only[this,wl];unfold gw;rw[b];rfl
    ·have:(decide ((dM (l.getD i default)).Item.az<(dM (l.getD i default)).size))=false:=decide_eq_false a;have b:j7 false (dG (l.getD i default)) (hyp (l.getD i default))=((dG (l.getD i default)).Shrink == 0):=by unfold j7;rw[io (by simp),Bool.eq_iff_iff,ob,alQ];exact⟨fun h=>h.resolve_right a,.inl⟩
     simp only[this,hH,rv];unfold gw;rw[b];rfl
   ·rw[dx (show iq true>0 by decide)];by_cases a:(dG (l.getD i default)).az>hyp (l.getD i default)
    ·have:(decide ((dM (l.getD i default)).Item.az>(dM (l.getD i default)).size))=true:=decide_eq_true a;have b:j7 true (dG (l.getD i default)) (hyp (l.getD i default))=true:=by unfold j7;rw[iF rfl,ob];exact .inr a
     simp only[this,wl];unfold gw;rw[b];rfl
    ·have:(decide ((dM (l.getD i default)).Item.az>(dM (l.getD i default)).size))=false:=decide_eq_false a;have b:j7 true (dG (l.getD i default)) (hyp (l.getD i default))=((dG (l.getD i default)).Grow == 0):=by unfold j7;rw[iF rfl,Bool.eq_iff_iff,ob,alQ];exact⟨fun h=>h.resolve_right a,.inl⟩
     simp only[this,hH,rv];unfold gw;rw[b];rfl
  ·obtain rfl:i=l.length:=by omega
   rw[dv (by omega),nq,la (h7 _),u7,IF]
theorem aiU g l:aI g (start g l) (l.map (gw g)):=by
 refine⟨by simp[start],fun k a=>?_⟩;have b:k<l.length:=by grind[start]
 rw[cm a,cm (by grind)];have e:(start g l)[k]=(dG l[k],if j7 g (dG l[k]) (hyp l[k])=true then some (hyp l[k]) else none):=by simp[start]
 rw[e,amb];refine⟨rfl,rfl,rfl,?_,fun n c=>?_⟩
 ·show j7 g (dG l[k]) (hyp l[k])=_
  grind
 grind[j7,dG,hyp,gw]
theorem Xd(L:d6)(g:L.length≤19):∀(m i:Nat),i≤L.length→L.length<m+i →
  zP K n (false,L) m (i:Int) ((L.take i).map (fun (x:bd)=>x.size)++List.replicate (L.length-i) 0)=some (L.map fun (x:bd)=>x.size):=by
 intro m
 induction m with
 | zero=>intro i b c;omega
 | succ m e =>
  intro i b c;simp only[zP,CK];by_cases d:i<L.length
  ·obtain⟨k,a⟩:∃k,L.length-i=k+1:=⟨L.length-i-1,by omega⟩;have f:((L.take i).map (fun (x:bd)=>x.size)++List.replicate (L.length-i) 0).length=L.length:=by simp;omega
   rw[dx (by omega),cI (by omega),fh,f,cI (by omega),a,Sh.Bx (by simp;omega)];have:(L.take i).map (fun (x:bd)=>x.size)++[(L.getD i default).size]=(L.take (i+1)).map (fun (x:bd)=>x.size):=by rw[jc d,Db];rfl
   rw[this,wn (n:=(i:Int)+1) (k:=i+1) (by omega) (by omega),show k=L.length-(i+1) by omega];exact e (i+1) (by omega) (by omega)
  ·obtain rfl:i=L.length:=by omega
   rw[dv (by omega),nq,anL,amV,IF]
theorem W9{lvl:Nat}(g:Bool){sp:Int}(v : -1125899906842624≤sp∧sp≤1125899906842624)(s:10001<n)(f:20010≤lvl):∀(m:Nat) (M:List It) (L:d6),opens M<m→Ok M→aI g M L→M.length≤19 →
  sJ (KN lvl) n sp (iq g) m L=some (gn (run g sp M.length M)):=by
 intro m
 induction m with
 | zero=>intro M L h;omega
 | succ m w =>
  intro M L h j a p;simp only[sJ,Dw];have c:=alf (lvl:=lvl) (n:=n) j a p v s f;by_cases b:opens M=0
  ·rw[iF b]at c;rw[c];simp only[sb,hH,rv];rw[Sh.Jt (by rw[a.len];omega) (by rw[a.len];omega),bi,fh];have:=Xd (K:=KN lvl) (n:=n) L (by rw[a.len];omega) n 0 (by omega) (by rw[a.len];omega);rw[alT,u7,Dy,aiE,show((0:Nat):Int)=0 from rfl]at this;rw[this,yv b];congr 1;refine aml (by simp[gn,a.len]) (fun k d e=>?_);have o:k<M.length:=by simpa[gn]using e
   simp only[gn,amb];have l:=a.at_ k o;rw[cm o,cm (by simpa using d)]at l;have t:M[k].2.isSome=true:=by
    have:=anD.1 b M[k] (sj _);cases h:M[k].2 with
    | none=>rw[h]at this;simp at this
    | some z=>rfl
   obtain⟨z,i⟩:=yd.1 t;rw[l.s z i,i];rfl
  ·rw[io b]at c;obtain⟨q,d,e⟩:=c;rw[e];simp only[sb,wl];have u:=LZ (g:=g) (sp:=sp) b;rw[w (round g sp M) q (by omega) (aiR j) d (by rw[mR];exact p)];congr 2;have r:run g sp (M.length+1) M=run g sp M.length (round g sp M):=by rw[run,io b]
   rw[mR,← r];have:=Pn M;exact QO _ _ _ (by omega) (by omega)
theorem nz{lvl:Nat}(l:d7){sp:Int}(b:l.length≤19)(d : -1125899906842624≤sp∧sp≤1125899906842624)(c:10001<n)(a:20010≤lvl):kh (KN lvl) n l sp=some (resolve l sp):=by
 unfold kh;rw[show min (max sp (-1125899906842624)) 1125899906842624=sp by omega];simp only[sb];rw[Sh.Jt (by omega) (by omega),bi,fh];have:=akA (K:=KN lvl) (n:=n) l sp b n 0 (by omega) (by omega);rw[alT,u7,u7,Dy,aiE,show((0:Nat):Int)=0 from rfl,show sm []=0 from rfl]at this;rw[this];unfold vG;have:=abU (K:=KN lvl) (n:=n) (me l sp) l sp b n 0 (by omega) (by omega);rw[alT,u7,Dy,Do,show((0:Nat):Int)=0 from rfl]at this;rw[this];have e:(start (me l sp) l).length=l.length:=by simp[start]
 have:=Pn (start (me l sp) l);rw[W9 (me l sp) d c a n (start (me l sp) l) _ (by omega) (ai6 _ _) (aiU _ _) (by omega),e];rfl
end Rs
def mix{α:Type}(i:Nat)(N O:List α):List α:=N.take i++O.drop i
variable{α:Type}[Inhabited α]{i:Nat}{N O:List α}
theorem Dq(h:N.length=O.length):(mix i N O).length=O.length:=by grind[mix]
theorem HN(h:N.length=O.length):mix O.length N O=N:=by grind[mix]
theorem aj1(h:N.length=O.length){k}(b:k<i)(a:i≤O.length):(mix i N O).getD k default=N.getD k default:=by
 grind[mix]
theorem abZ(h:N.length=O.length)(a:i<O.length):mix (i+1) N O=N.take i++N.getD i default::O.drop (i+1):=by
 unfold mix;rw[IT (by omega),cm (by omega),u3];rfl
theorem FZ(h:N.length=O.length)(a:i<O.length):List.set (mix i N O) i (N.getD i default)=mix (i+1) N O:=by
 rw[abZ h a];unfold mix;rw[kp a];have:i=(N.take i).length+0:=by grind
 conv=>lhs;arg 2;rw[this]
 grind
theorem ajk(h:N.length=O.length)(a:i<O.length):(mix (i+1) N O).getD i default=N.getD i default :=by grind[aj1]
end Go.Proofs.YtocgkfoifehcbaaGreat
namespace Go.Proofs.YtocgkfoifehcbaaGreat
set_option linter.all false
open Go.RowKit
theorem ajX(K:Kn)(n:Nat)(L:b7)(C:(L.length:Int)≤9223372036854775807):∀(m:Nat) (i h:Int) (b:bh) (t:Bool) (s:bh) (l:b7),0≤i→i≤L.length→(L.length:Int)<m+i→((l.length:Int)+L.length)*584≤140737488355328+i*584 →
  ∃r,iM K n L m h t i b s l=some r∧(r.1.length:Int)=l.length+L.length-i∧(∀f∈r.1,f∈l∨∃g∈L,f.Kids=g.Kids):=by
 intro m
 induction m with
 | zero=>intro i _ _ _ _ _ q u v _;omega
 | succ m A =>
  intro i h b t s l q u v B;simp only[iM,sh];by_cases j:i<(L.length:Int)
  ·have k:=dT q j;have z:aa (i+1)=i+1:=bT (by omega) (by omega);have c:fits (l.length+1) 584=true:=de (by omega) (by omega);have key:∀(e:Int) (p:Bool) (b' a:bh) (y:Int),∃r,iM K n L m e p (i+1) b' a (l++[{ L.getD i.toNat default with Y:=y }])=some r∧(r.1.length:Int)=l.length+L.length-i∧(∀f∈r.1,f∈l∨∃g∈L,f.Kids=g.Kids):=by
    intro e p b' a y;obtain⟨r,x,d,w⟩:=A (i+1) e b' p a (l++[{ L.getD i.toNat default with Y:=y }]) (by omega) (by omega) (by omega) (by simp only[kc,iN,ro];omega);refine⟨r,x,by rw[d];simp only[kc,iN,ro];omega,fun f c=>?_⟩;rcases w f c with hm|hm
    ·rcases kb.1 hm with hm|hm
     ·exact .inl hm
     ·right;have o:i.toNat<L.length:=by omega
      refine⟨L[i.toNat],sj _,?_⟩;simp only[l3,abM,amk]at hm;rw[hm,cm o]
    ·exact .inr hm
   simp only[j,anE,wl,k,bi,kW,gK,go,rF,rG,pR,iN,ro,z5,c,z]
   repeat (first|exact key _ _ _ _ _|split)
  ·have:decide (i<(L.length:Int))=false:=by simpa using j
   simp only[this,hH,rv,pH];split<;>exact⟨_,rfl,by show(l.length:Int)=_;omega,fun f c=>.inl c⟩
theorem FO K n L(i:L.length<n)(e:L.length*584≤140737488355328):∃r,kF K n L=some r∧r.1.length=L.length∧∀f∈r.1,∃g∈L,f.Kids=g.Kids:=by
 obtain⟨r,b,a,c⟩:=ajX K n L (by omega) n 0 0 dD true dD [] (by omega) (by omega) (by omega) (by grind);exact⟨r,b,by grind,fun f d=>(c f d).elim (fun h=>by grind) (fun h=>h)⟩
def cO(l:cL)(b:Int):Int×Bool :=
 if l.Kind=1 then (min (max l.Value (-1048576)) 1048576,true)
 else if l.Kind=2 then (min (max (aa (Int.tdiv (aa ((min (max b 0) 1048576)*(min (max l.Value (-1000000)) 1000000))) 10000)) (-1048576)) 1048576,true)
 else (0,false)
def d8(x:Int):Int:=min (max x 0) 1048576
section
variable(K:Kn)(n:Nat)
theorem vy(x:Int):jA K n x=some (d8 x):=rfl
theorem gO(l:cL)(b:Int):ep K n l b=some (cO l b):=by
 unfold ep cO;by_cases a:l.Kind=1
 ·simp[a,uT]
 ·by_cases c:l.Kind=2
  ·simp[c,uT,jA]
  ·simp[a,c]
def jN(s:aO)(w c:Int):Int :=
 let m:=if (cO s.MaxWidth w).2=true then min (max c 0) (max (cO s.MaxWidth w).1 0) else max c 0
 if (cO s.MinWidth w).2=true then max m (cO s.MinWidth w).1 else m
theorem CB(s:aO)(w c:Int):pf K n s w c=some (jN s w c):=by
 unfold pf jN;simp only[gO,go,wu,xe]
 repeat (first|rfl|split)
def f8(s:aO)(w c:Int):cb :=
 ⟨⟨(cO s.Margin.a0 w).1,(cO s.Margin.a1 w).1,(cO s.Margin.a2 w).1,(cO s.Margin.a3 w).1⟩,⟨d8 s.Border.a0,d8 s.Border.a1,d8 s.Border.a2,d8 s.Border.a3⟩,
  ⟨max (cO s.Padding.a0 w).1 0,max (cO s.Padding.a1 w).1 0,max (cO s.Padding.a2 w).1 0,max (cO s.Padding.a3 w).1 0⟩,c⟩
theorem vm(s:aO)(w c:Int):lg K n s w c=some (f8 s w c):=by
 simp only[lg,gO,vy,go,f8]
def iD(z:cb):Int:=aa ((aa ((aa ((aa ((aa ((aa (z.Content+z.Margin.a1))+z.Margin.a3))+z.Border.a1))+z.Border.a3))+z.Padding.a1))+z.Padding.a3)
theorem vt(z:cb):mM K n z=some (iD z):=rfl
def BV(s:aO)(a:Int)(e:cb)(c:Int):cb :=
 let r:=aa (a-iD { e with Content:=c })
 if r≤0 then { e with Content:=c }
 else if (cO s.Margin.a3 a).2=false∧(cO s.Margin.a1 a).2=false then { e with Content:=c,Margin:=⟨e.Margin.a0,aa (r-aa (Int.tdiv r 2)),e.Margin.a2,aa (Int.tdiv r 2)⟩ }
 else if (cO s.Margin.a3 a).2=false then { e with Content:=c,Margin:=⟨e.Margin.a0,e.Margin.a1,e.Margin.a2,r⟩ }
 else if (cO s.Margin.a1 a).2=false then { e with Content:=c,Margin:=⟨e.Margin.a0,r,e.Margin.a2,e.Margin.a3⟩ }
 else { e with Content:=c }
def cq(s:aO)(w:Int):cb :=
 let a:=d8 w
 let e:=f8 s a 0
 let x:=if (cO s.Width a).2=true then (cO s.Width a).1 else aa (a-iD e)
 BV s a e (jN s a x)
theorem aj2(s:aO)(a:Int)(e:cb)(x:Int):tX K n s a e x=some (BV s a e (jN s a x)):=by
 simp only[tX,CB,vt,go,gO,BV];cases c:(cO s.Margin.a3 a).2<;>cases b:(cO s.Margin.a1 a).2<;>simp[wZ,qM,c,b]<;>split<;>rfl
theorem yC(s:aO)(w:Int):qC K n s w=some (cq s w):=by
 simp only[qC,vy,vm,gO,vt,go,aj2,cq];cases h:(cO s.Width (d8 w)).2<;>simp[h]
def iZ(l:cL):Prop := -16777216≤l.Value∧l.Value≤16777216
theorem js(l:cL):∃b,gl K n l=some b∧(b=true→iZ l):=by
 unfold gl zB;by_cases h:l.Value ≥ -16777216
 ·simp only[h,anE,wl];exact⟨_,rfl,fun e=>⟨h,il e⟩⟩
 ·simp only[h,al3,hH,rv];exact⟨_,rfl,fun e=>by cases e⟩
structure rh(x:aK):Prop where
 text:(x.Text.size:Int)≤60
 left:iZ x.Style.Left
 top:iZ x.Style.Top
 width:iZ x.Style.Width
 height:iZ x.Style.Height
 minw:iZ x.Style.MinWidth
 maxw:iZ x.Style.MaxWidth
 basis:iZ x.Style.Basis
 lh:0≤x.Style.LineHeight∧x.Style.LineHeight≤65536
 fs:0≤x.Style.FontSize∧x.Style.FontSize≤65536
 grow:0≤x.Style.Grow∧x.Style.Grow≤1048576
 shrink:0≤x.Style.Shrink∧x.Style.Shrink≤1048576
 m0:iZ x.Style.Margin.a0
 m1:iZ x.Style.Margin.a1
 m2:iZ x.Style.Margin.a2
 m3:iZ x.Style.Margin.a3
 p0:iZ x.Style.Padding.a0
 p1:iZ x.Style.Padding.a1
 p2:iZ x.Style.Padding.a2
 p3:iZ x.Style.Padding.a3
theorem Y6(L:eq)(m:Int)(a:Int→Option Bool)(i:Int)(h0:0≤i)(k:i<L.length):oK K n L m a i=some false∨(rh (L.getD i.toNat default)∧oK K n L m a i=a (aa (i+1))):=by
 unfold oK;simp only[k,anE,wl,dT h0 k,bi];generalize hx:L.getD i.toNat default=x;have j5:∀b,sN K n L m i a b=if b=true then some false else a (aa (i+1)):=fun b=>rfl;obtain⟨C,J,S⟩:=js K n x.Style.Left;obtain⟨D,M,T⟩:=js K n x.Style.Top;obtain⟨E,N,U⟩:=js K n x.Style.Width;obtain⟨F,O,V⟩:=js K n x.Style.Height;obtain⟨G,P,W⟩:=js K n x.Style.MinWidth;obtain⟨H,Q,X⟩:=js K n x.Style.MaxWidth;obtain⟨I,R,Y⟩:=js K n x.Style.Basis;obtain⟨c0,Z,k0⟩:=js K n x.Style.Margin.a0;obtain⟨c1,g1,k1⟩:=js K n x.Style.Margin.a1;obtain⟨c,g2,k2⟩:=js K n x.Style.Margin.a2;obtain⟨d,g3,k3⟩:=js K n x.Style.Margin.a3;obtain⟨e,q0,r0⟩:=js K n x.Style.Padding.a0;obtain⟨f,q1,r1⟩:=js K n x.Style.Padding.a1;obtain⟨g,q2,r2⟩:=js K n x.Style.Padding.a2;obtain⟨j,q3,r3⟩:=js K n x.Style.Padding.a3;have l:fu K n L m i a true=some false:=rfl;have j1:fu K n L m i a false=some false∨((c0=true∧c1=true∧c=true∧d=true∧e=true∧f=true∧g=true∧j=true)∧fu K n L m i a false=a (aa (i+1))):=by
  simp only[fu,zQ,xy,yR,sN,hx,Z,g1,g2,g3,q0,q1,q2,q3,go];cases c0<;>cases e<;>cases c1<;>cases f<;>cases c<;>cases g<;>cases d<;>cases j<;>simp
 simp only[J,M,N,O,P,Q,R,go,l];by_cases o:(x.Text.size:Int)>60
 ·left;simp[o]
 simp only[o,al3,hH,rv];cases C
 ·left;simp
 simp only[Ts,hH,rv];cases D
 ·left;simp
 simp only[Ts,hH,rv];cases E
 ·left;simp
 simp only[Ts,hH,rv];cases F
 ·left;simp
 simp only[Ts,hH,rv];cases G
 ·left;simp
 simp only[Ts,hH,rv];cases H
 ·left;simp
 simp only[Ts,hH,rv];cases I
 ·left;simp
 simp only[Ts,hH,rv];by_cases p:x.Style.LineHeight<0
 ·left;simp[p]
 simp only[p,al3,hH,rv];by_cases q:x.Style.LineHeight>65536
 ·left;simp[q]
 simp only[q,al3,hH,rv];by_cases r:x.Style.FontSize<0
 ·left;simp[r]
 simp only[r,al3,hH,rv];by_cases s:x.Style.FontSize>65536
 ·left;simp[s]
 simp only[s,al3,hH,rv];by_cases t:x.Style.Grow<0
 ·left;simp[t]
 simp only[t,al3,hH,rv];by_cases u:x.Style.Grow>1048576
 ·left;simp[u]
 simp only[u,al3,hH,rv];by_cases v:x.Style.Shrink<0
 ·left;simp[v]
 simp only[v,al3,hH,rv];by_cases w:x.Style.Shrink>1048576
 ·left;simp only[w,anE];exact l
 simp only[w,al3];rcases j1 with h|⟨⟨y,z,A,B,p0,p1,p2,p3⟩,h⟩
 ·exact .inl h
 ·refine .inr ⟨⟨by omega,S rfl,T rfl,U rfl,V rfl,W rfl,X rfl,Y rfl,⟨by omega,by omega⟩,⟨by omega,by omega⟩,⟨by omega,by omega⟩,⟨by omega,by omega⟩,k0 y,k1 z,k2 A,k3 B,r0 p0,r1 p1,r2 p2,r3 p3⟩,h⟩
theorem akK(L:eq)(mx:Int)(t:(L.length:Int)≤9223372036854775807):∀(m:Nat) (i:Int),0≤i→i≤L.length→(L.length:Int)<m+i →
  ∃b,uh K n L mx m i=some b∧(b=true→(L.length:Int)≤mx∧∀k,i.toNat≤k→k<L.length→rh (L.getD k default)):=by
 intro m
 induction m with
 | zero=>intro i a l o;omega
 | succ m s =>
  intro i a l o;show ∃b,oK K n L mx (uh K n L mx m) i=some b∧_;by_cases d:i<(L.length:Int)
  ·rcases Y6 K n L mx (uh K n L mx m) i a d with h|⟨h,j⟩
   ·exact⟨false,h,fun e=>by cases e⟩
   ·obtain⟨b,q,f⟩:=s (i+1) (by omega) (by omega) (by omega);rw[j,bT (by omega) (by omega)];refine⟨b,q,fun e=>⟨(f e).1,fun k p c=>?_⟩⟩;by_cases g:k=i.toNat
    ·subst g;exact h
    ·exact(f e).2 k (by omega) c
  ·have r:decide (i<(L.length:Int))=false:=by simpa using d
   unfold oK;simp only[r,hH,rv];exact⟨_,rfl,fun e=>⟨il e,fun k p c=>by omega⟩⟩
theorem Nu(L:eq)(mx:Int)(f:(L.length:Int)≤9223372036854775807)(h:L.length<n):∃b,xr K n L mx=some b∧(b=true→(L.length:Int)≤mx∧∀x∈L,rh x):=by
 obtain⟨b,d,a⟩:=akK K n L mx f n 0 (by omega) (by omega) (by omega);refine⟨b,d,fun e=>⟨(a e).1,fun x g=>?_⟩⟩;obtain⟨k,c,rfl⟩:=agi.1 g;have:=(a e).2 k (by simp) c;rwa[cm c]at this
end
theorem C9{i:Nat}(h:i<1000000):aa ((i:Int)+1)=((i+1:Nat):Int):=by rw[bT (by omega) (by omega)];omega
theorem D8{i n:Nat}(h:i<n):decide ((i:Int)<(n:Int))=true:=by simpa using h
theorem Fi{i n:Nat}(h:n≤i):decide ((i:Int)<(n:Int))=false:=by simpa using h
theorem sB{i n:Nat}(h:i<n):aU (i:Int) n=true:=dT (by omega) (by omega)
theorem drop_at'{α:Type}[Inhabited α]{L:List α}{i:Nat}(h:i<L.length):L.drop i=L.getD i default::L.drop (i+1):=by
 rw[cm h];exact kp h
theorem gX{α:Type}[Inhabited α]{L:List α}{i:Nat}(h:i<L.length):L.getD i default∈L:=by
 rw[cm h];exact sj h
def iE(k:ag):Bool:=k.Kind == 3||k.Style.Position != 2
def fg(k:ag):Bool:=k.Kind == 1||(k.Kind == 6||k.Kind == 7)
theorem Uq(K:Kn)(n:Nat)(k:ag):kD K n k=some (iE k):=by
 unfold kD iE y5;cases h:k.Kind == 3<;>simp
theorem Ue(K:Kn)(n:Nat)(k:ag):uG K n k=some (fg k):=by
 unfold uG fg vO;cases h:k.Kind == 1<;>cases a:k.Kind == 6<;>simp
theorem agM(K:Kn)(n:Nat)(d:∀x,K.mh (Fv.fn 145) x=some (fg x))(L:dn)(g:L.length≤20):∀(m i:Nat),i≤L.length→L.length<m+i →
  ∃r,nB K n L (Fv.fn 145) m i=some r∧decide (r≥0)=(L.drop i).any fg:=by
 intro m
 induction m with
 | zero=>intro i b c;omega
 | succ m f =>
  intro i b c;simp only[nB,xi];by_cases a:i<L.length
  ·rw[drop_at' a];simp only[D8 a,wl,sB a,bi,d,go,Int.toNat_natCast,List.any_cons,C9 (show i<1000000 by omega)];cases h:fg (L.getD i default)
   ·simp only[hH,rv,al7];exact f (i+1) (by omega) (by omega)
   ·exact⟨_,rfl,by simp⟩
  ·have e:i=L.length:=by omega
   subst e;simp only[Fi (h7 _),hH,rv,List.drop_length];exact⟨_,rfl,by simp⟩
theorem acx(K:Kn)(n:Nat)(d:∀x,K.mh (Fv.fn 145) x=some (fg x))(L:dn)(c:L.length≤20)(e:20<n):oC K n L (Fv.fn 145)=some (L.any fg):=by
 obtain⟨r,a,b⟩:=agM K n d L c n 0 (by omega) (by omega);unfold oC yY;rw[show nB K n L (Fv.fn 145) n 0=some r from a];simp only[go,b,Do]
theorem aeO(K:Kn)(n:Nat)(b:ag)(j:b.Kids.length≤20):∀(m i:Nat) (a:dn),i≤b.Kids.length→b.Kids.length<m+i→a.length≤i →
  z0 K n b m i a=(oC K n (a++(b.Kids.drop i).filter iE) (Fv.fn 145)).bind fun v=>some (a++(b.Kids.drop i).filter iE,v):=by
 intro m
 induction m with
 | zero=>intro i a f g;omega
 | succ m d =>
  intro i a f g h;simp only[z0,Bp];by_cases c:i<b.Kids.length
  ·rw[drop_at' c];simp only[D8 c,wl,sB c,bi,Uq,go,Bl,Int.toNat_natCast,iN,ro,C9 (show i<1000000 by omega),amE];cases k:iE (b.Kids.getD i default)
   ·simp only[hH,rv];exact d (i+1) a (by omega) (by omega) (by omega)
   ·simp only[wl];rw[de (by omega) (by omega),bi,d (i+1) _ (by omega) (by omega) (by simp;omega)];simp only[u3,alP]
  ·have e:i=b.Kids.length:=by omega
   subst e;simp only[Fi (h7 _),hH,rv,List.drop_length,ant,IF]
def eI(b:ag):dn:=b.Kids.filter iE
theorem Tc{b:ag}:(eI b).length≤b.Kids.length:=anu _ _
theorem EV(K:Kn)(n:Nat)(c:∀x,K.mh (Fv.fn 145) x=some (fg x))(b:ag)(a:b.Kids.length≤20)(d:20<n):t6 K n b=some (eI b,(eI b).any fg):=by
 have h:=aeO K n b a n 0 [] (by omega) (by omega) (by simp);unfold t6;refine (show _=_ from h).trans ?_;simp only[Dy,Do];rw[show b.Kids.filter iE=eI b from rfl,acx K n c _ (oR Tc a) d];rfl
def o4(f:ab)(w:Int):ab :=
 if f.Style.Position=1 then { f with X:=aa (f.X+(cO f.Style.Left w).1),Y:=if f.Style.Top.Kind=1 then aa (f.Y+(cO f.Style.Top 0).1) else f.Y } else f
theorem Nk(K:Kn)(n:Nat)(f:ab)(w:Int):vR K n f w=some (o4 f w):=by
 unfold vR o4;simp only[gO,go,ym];by_cases h:f.Style.Position=1
 ·by_cases a:f.Style.Top.Kind=1<;>simp[h,a]
 ·simp[h]
theorem Mt(f:ab)(w:Int):(o4 f w).Kids=f.Kids:=by unfold o4;split<;>rfl
namespace Od
open QSort (wn cI dx dv pU qY sb)
def ix(p:Nat→Bool)(n:Nat):b5:=((List.range n).filter p).map fun (k:Nat)=>(k:Int)
theorem N6(p:Nat→Bool)(n:Nat):ix p (n+1)=ix p n++if p n=true then [(n:Int)] else []:=by
 unfold ix;rw[amU,am3,Db];congr 1;cases h:p n<;>simp only[amE,ant,h,wl,hH,rv,n5,u7]
theorem Vz{p:Nat→Bool}{n:Nat}{x:Int}:x∈ix p n↔∃k:Nat,k<n∧x=k∧p k=true:=by
 simp only[ix,u6,ald,T4];constructor
 ·rintro ⟨k,⟨a,b⟩,rfl⟩;exact⟨k,a,rfl,b⟩
 ·rintro ⟨k,a,rfl,b⟩;exact⟨k,⟨a,b⟩,rfl⟩
theorem JJ(p:Nat→Bool)(n:Nat):(ix p n).length≤n:=by
 unfold ix;rw[lp];have:=anu p (List.range n);rw[List.length_range]at this;exact this
theorem aby(p:Nat→Bool)(n:Nat):(ix p n).Pairwise (· < ·):=by
 unfold ix;rw[ane];refine amA (fun h=>?_) (anz _ amx);omega
variable(B:dn)
def fl(k:Nat):Bool:=iE (B.getD k default)
def key(a:Int):Int:=(B.getD a.toNat default).Style.Order
structure Is(d:b5):Prop where
 p:d.Perm (ix (fl B) B.length)
 s:d.Pairwise (QSort.R (key B))
variable{B}
theorem Is.uniq{d e:b5}(h:Is B d)(c:Is B e):d=e:=by
 refine List.Perm.eq_of_pairwise (fun a b _ _ f c=>(f.asymm c).elim) h.s c.s (h.p.trans c.p.symm)
theorem Is.mem{d:b5}(h:Is B d){x:Int}(a:x∈d):∃k:Nat,k<B.length∧x=k∧iE (B.getD k default)=true:=Vz.1 (h.p.mem_iff.1 a)
theorem Is.len{d:b5}(h:Is B d):d.length≤B.length:=by rw[h.p.length_eq];exact JJ _ _
variable(B)
theorem IQ(m:Nat):QSort.vK (KN (m+1)) (Fv.c172 B) (fun a=>0≤a∧a<B.length) (key B):=by
 refine⟨fun a b f g=>?_⟩;show ∃c,wF (KN m) m a b B=some c∧_;unfold wF;rw[cI f,cI g];simp only[vQ,tZ,sb,bne_self_eq_false,hH,rv,key];by_cases d:(B.getD a.toNat default).Style.Order<(B.getD b.toNat default).Style.Order
 ·rw[dx d];exact⟨-1,rfl,by omega⟩
 ·rw[dv d];by_cases e:(B.getD a.toNat default).Style.Order>(B.getD b.toNat default).Style.Order
  ·rw[dx e];exact⟨1,rfl,by omega⟩
  ·rw[dv e];exact⟨0,rfl,by omega⟩
theorem aa1(K:Kn)(n:Nat)(g:B.length≤19):∀(m i:Nat),i≤B.length→B.length<m+i →
  AQ K n B m (i:Int) (ix (fl B) i)=mo K n (ix (fl B) B.length) (Fv.c172 B):=by
 intro m
 induction m with
 | zero=>intro i d e;omega
 | succ m a =>
  intro i d e;simp only[AQ,EG];by_cases f:i<B.length
  ·have h:=JJ (fl B) i;have b:=N6 (fl B) i;have a:=a (i+1) (by omega) (by omega);rw[dx (by omega),cI (by omega),fh,Uq,sb];simp only[AM,wn (n:=(i:Int)+1) (k:=i+1) (by omega) (by omega)];cases c:iE (B.getD i default)
   ·rw[io (by simp)];rw[b,io (by unfold fl;rw[c];simp),IF]at a;exact a
   ·rw[iF rfl,de (by simp only[iN,ro];omega) (by omega),bi];rw[b,iF (by unfold fl;rw[c])]at a;exact a
  ·obtain rfl:i=B.length:=by omega
   rw[dv (by omega)];cases mo K n (ix (fl B) B.length) (Fv.c172 B)<;>rfl
theorem nz(g:B.length≤19){lvl n:Nat}(i:10001<n)(h:20010≤lvl):∃d,Is B d∧uB (KN lvl) n B=some d:=by
 have p:=JJ (fl B) B.length;obtain⟨d,b,c,e⟩:=QSort.U5 (c0:=1) (f:=Fv.c172 B) (D:=fun a=>0≤a∧a<B.length) (key:=key B) (fun m o=>by
  obtain⟨k,rfl⟩:∃k,m=k+1:=⟨m-1,by omega⟩;exact IQ B k) (lvl:=lvl) (n:=n) (ix (fl B) B.length) i (by omega) (aby _ _) (fun x j=>by
   obtain⟨k,l,rfl,_⟩:=Vz.1 j;omega) (by omega)
 refine⟨d,⟨b,c⟩,?_⟩;have:=aa1 B (KN lvl) n g n 0 (by omega) (by omega);unfold uB;rw[show ix (fl B) 0=[] from rfl,show((0:Nat):Int)=0 from rfl]at this;rw[this];exact e
end Od
mutual
/-- How many boxes. -/
def bI:ag→Nat
 | ⟨_,_,_,_,_,_,a⟩=>da a+1
def da:dn→Nat
 | []=>0
 | b::r=>bI b+da r
end
theorem iR(b:ag):bI b=da b.Kids+1:=by cases b;simp only[bI]
theorem jZ(b:ag):1≤bI b:=by rw[iR];omega
theorem WJ:∀{l:dn} {b:ag},b∈l→bI b≤da l
 | [],b,h=>by cases h
 | c::r,b,h=>by
  simp only[da];rcases l3.1 h with rfl|h
  ·omega
  ·have:=WJ h;omega
theorem Cz:∀(l:dn),l.length≤da l
 | []=>h7 _
 | c::r=>by simp only[da,iN];have:=Cz r;have:=jZ c;omega
theorem Df:∀(l m:dn),da (l++m)=da l+da m
 | [],m=>by simp[da]
 | c::r,m=>by simp only[RX,da,Df r m];omega
theorem rL{b k:ag}(h:k∈b.Kids):bI k<bI b:=by rw[iR b];have:=WJ h;omega
theorem Vc(b:ag):b.Kids.length<bI b:=by rw[iR];have:=Cz b.Kids;omega
def qU(a b:ag):Bool:=(a.Kind == b.Kind)&&((a.Node == b.Node)&&((ry a.Style b.Style)&&((a.Text.toList == b.Text.toList)&&((a.Rows == b.Rows)&&(a.Cols == b.Cols)))))
mutual
def gM:ag→ag→Bool
 | ⟨k,n,s,t,r,c,d⟩,b=>qU ⟨k,n,s,t,r,c,[]⟩ b&&jq d b.Kids
def jq:dn→dn→Bool
 | [],[]=>true
 | a::r,b::q=>gM a b&&jq r q
 | _,_=>false
end
theorem Gb(a b:ag):gM a b=(qU a b&&jq a.Kids b.Kids):=by cases a;simp only[gM];rfl
theorem Wb:∀{l m:dn},jq l m=true→l.length=m.length
 | [],[],_=>rfl
 | a::r,b::q,h=>by simp only[jq,g6]at h;simp[Wb h.2]
 | [],_::_,h=>by cases h
 | _::_,[],h=>by cases h
theorem akl(x:cL):gk x x=true:=by simp[gk]
theorem ajS(x:aO):ry x x=true:=by simp[ry,akl]
theorem aig(a:ag):qU a a=true:=by simp[qU,ajS]
mutual
theorem IB:∀a:ag,gM a a=true
 | ⟨k,n,s,t,r,c,b⟩=>by
  rw[Gb,aig,amL];exact OY b
theorem OY:∀l:dn,jq l l=true
 | []=>rfl
 | a::r=>by simp only[jq,IB a,OY r,Bool.and_self]
end
theorem fB{i:Nat}(h:i<1000000000):aa ((i:Int)+1)=((i+1:Nat):Int):=by rw[bT (by omega) (by omega)];omega
theorem dY{i n:Nat}(h:i<n):aU ((i:Nat):Int) n=true:=dT (by omega) (by omega)
theorem fP{i n:Nat}(h:i<n):decide (((i:Nat):Int)<((n:Nat):Int))=true:=decide_eq_true (by omega)
theorem ia{i n:Nat}(h:n≤i):decide (((i:Nat):Int)<((n:Nat):Int))=false:=decide_eq_false (by omega)
theorem gN{α:Type}[Inhabited α]{L:List α}{k:Nat}(h:k<L.length):L.getD ((k:Nat):Int).toNat default=L[k]:=by rw[Int.toNat_natCast];exact cm h
theorem akc{l m:dn}{i:Nat}(a:i<l.length)(b:i<m.length):jq (l.drop i) (m.drop i)=(gM l[i] m[i]&&jq (l.drop (i+1)) (m.drop (i+1))):=by
 rw[kp a,kp b];simp only[jq]
theorem acy(K:Kn)(n:Nat)(l q:dn)(f:l.length=q.length)(g:l.length<1000000)(d:∀k∈l,∀p,K.sk (Fv.fn 27) k p=some (gM k p)):∀(m i:Nat),i≤l.length→l.length<m+i →
  yh K n l q (Fv.fn 27) m i=some (jq (l.drop i) (q.drop i)):=by
 intro m
 induction m with
 | zero=>intro i b c;omega
 | succ m e =>
  intro i b c;simp only[yh,DG];by_cases a:i<l.length
  ·simp only[fP a,wl,dY a,dY (show i<q.length by omega),bi,gN a,gN (show i<q.length by omega),d _ (sj a),go];rw[akc a (by omega)];cases h:gM l[i] q[i] with
   | false=>simp
   | true =>
    simp only[Ts,hH,rv,amL];rw[fB (by omega)];exact e (i+1) (by omega) (by omega)
  ·simp only[ia (show l.length≤i by omega),hH,rv];rw[la (by omega),la (by omega)];rfl
theorem adG(K:Kn)(n:Nat)(l q:dn)(d:l.length<1000000)(e:l.length<n)(c:∀k∈l,∀p,K.sk (Fv.fn 27) k p=some (gM k p)):xP K n l q (Fv.fn 27)=some (jq l q):=by
 unfold xP;by_cases a:l.length=q.length
 ·have:(((l.length:Nat):Int) != ((q.length:Nat):Int))=false:=by rw[a];simp
  rw[this];simpa using acy K n l q a d c n 0 (n3 _) (by omega)
 ·have:(((l.length:Nat):Int) != ((q.length:Nat):Int))=true:=by simp[bne];omega
  rw[this,iF rfl];cases b:jq l q with
  | false=>rfl
  | true=>exact absurd (Wb b) a
theorem BF:∀(s N:Nat) (a b:ag),bI a≤s→s<1000000→s+2≤N→oD (KN N) N a b=some (gM a b)
 | 0,_,a,_,h,_,_=>by have:=jZ a;omega
 | s+1,0,_,_,_,_,h=>by omega
 | s+1,N+1,a,b,l,m,n=>by
  have c:∀k∈a.Kids,∀q,(KN (N+1)).sk (Fv.fn 27) k q=some (gM k q):=fun k f q=>BF s N k q (by have:=rL f;omega) (by omega) (by omega);have d:=Vc a;have e:=adG (KN (N+1)) (N+1) a.Kids b.Kids (by omega) (by omega) c;unfold oD;rw[Gb,e];unfold qU;simp only[mO,go];cases c1:(a.Kind == b.Kind) with
  | false=>simp
  | true =>
  cases g:(a.Node == b.Node) with
  | false=>simp
  | true =>
  cases i:(ry a.Style b.Style) with
  | false=>simp
  | true =>
  cases c4:(a.Text.toList == b.Text.toList) with
  | false=>simp
  | true =>
  cases c5:(a.Rows == b.Rows) with
  | false=>simp
  | true =>
  cases j:(a.Cols == b.Cols) with
  | false=>simp
  | true=>simp
mutual
/-- b is within a box. -/
def j8(b:ag):ag→Bool
 | ⟨k,n,s,t,r,c,a⟩=>gM ⟨k,n,s,t,r,c,a⟩ b||rH b a
def rH(b:ag):dn→Bool
 | []=>false
 | k::r=>j8 b k||rH b r
end
theorem agE(b a:ag):j8 b a=(gM a b||rH b a.Kids):=by cases a;simp only[j8]
theorem Zt{b:ag}{l:dn}{i:Nat}(h:i<l.length):rH b (l.drop i)=(j8 b l[i]||rH b (l.drop (i+1))):=by
 rw[kp h];simp only[rH]
theorem ahA(K:Kn)(n:Nat)(l:dn)(b:ag)(g:l.length<1000000)(e:∀k∈l,K.mh (Fv.c65 b) k=some (j8 b k)):∀(m i:Nat),i≤l.length→l.length<m+i →
  ∃r,nB K n l (Fv.c65 b) m i=some r∧decide (r≥0)=rH b (l.drop i):=by
 intro m
 induction m with
 | zero=>intro i c d;omega
 | succ m f =>
  intro i c d;simp only[nB,xi];by_cases a:i<l.length
  ·simp only[fP a,wl,dY a,bi,gN a,e _ (sj a),go];rw[Zt a];cases h:j8 b l[i] with
   | true=>exact⟨_,rfl,by simp⟩
   | false =>
    simp only[hH,rv,al7];rw[fB (by omega)];exact f (i+1) (by omega) (by omega)
  ·simp only[ia (show l.length≤i by omega),hH,rv];rw[la (by omega)];exact⟨_,rfl,rfl⟩
theorem MD:∀(s N:Nat) (a b:ag),bI a≤s→s<100000→2*s+4≤N→rP (KN N) N a b=some (j8 b a)
 | 0,_,a,_,h,_,_=>by have:=jZ a;omega
 | s+1,0,_,_,_,_,h=>by omega
 | s+1,1,_,_,_,_,h=>by omega
 | s+1,N+2,a,b,i,l,m=>by
  have c:∀k∈a.Kids,(KN (N+2)).mh (Fv.c65 b) k=some (j8 b k):=fun k j=>by
   show AC (KN (N+1)) (N+1) k b=_;unfold AC;show(rP (KN N) N k b).bind _=_;rw[MD s N k b (by have:=rL j;omega) (by omega) (by omega)];rfl
  have e:=Vc a;unfold rP;rw[BF (s+1) (N+2) a b i (by omega) (by omega),go,agE];simp only[zU];cases h:gM a b with
  | true=>simp
  | false =>
   simp only[hH,rv,al7];unfold oC yY;obtain⟨r,f,g⟩:=ahA (KN (N+2)) (N+2) a.Kids b (by omega) c (N+2) 0 (n3 _) (by omega);have d:nB (KN (N+2)) (N+2) a.Kids (Fv.c65 b) (N+2) 0=some r:=f;rw[d];simp only[go,g,Do]
def ey(r:Int):List UInt8:=(Utf8.encode r).data.toList
def dF(r:Int):Prop:=(0≤r∧r<55296)∨(57344≤r∧r≤1114111)
theorem aiK{r}(h:dF r):Utf8.valid r=true:=by
 unfold dF at h;unfold Utf8.valid
 grind
theorem gi{n:Nat}(h:n<256):(UInt8.ofNat n).toNat=n:=by simp_all
theorem J9 {r:Int} (h:dF r):∃ c:Nat,r=(c:Int) ∧
    ((c<128∧ey r=[UInt8.ofNat c])∨(128≤c∧c<2048∧ey r=[UInt8.ofNat (192+c / 64),UInt8.ofNat (128+c % 64)]) ∨
     (2048≤c∧c<65536∧(c<55296∨57344≤c)∧ey r=[UInt8.ofNat (224+c / 4096),UInt8.ofNat (128+c / 64 % 64),UInt8.ofNat (128+c % 64)]) ∨
     (65536≤c∧c≤1114111∧ey r=[UInt8.ofNat (240+c / 262144),UInt8.ofNat (128+c / 4096 % 64),UInt8.ofNat (128+c / 64 % 64),UInt8.ofNat (128+c % 64)])):=by
  refine⟨r.toNat,by unfold dF at h;omega,?_⟩;unfold ey Utf8.encode;simp only[aiK h,wl];unfold dF at h;generalize e:r.toNat=c at *;by_cases a:c<128
  · left;simp[a]
  · by_cases b:c<2048
    · right;left;simp[a,b];omega
    · by_cases d:c<65536
      · right;right;left;simp[a,b,d];omega
      · right;right;right;simp[a,b,d];omega
theorem Gg{r:Int}(h:dF r)(t:List UInt8):Lib.decodeL (ey r++t)=(r.toNat,(ey r).length):=by
 obtain⟨c,rfl,h|h|h|h⟩:=J9 h
 ·rw[h.2,amN];simp only[RX,Dy,amp,gi (show c<256 by omega),Int.toNat_natCast,iN,ro];unfold Lib.decodeN;rw[iF h.1]
 ·rw[h.2.2,amN];simp only[RX,Dy,amp,amo,gi (show 192+c / 64<256 by omega),gi (show 128+c % 64<256 by omega),Int.toNat_natCast,iN,ro];unfold Lib.decodeN;rw[io (by omega),iF (by omega),iF (by omega)];congr 1;omega
 ·rw[h.2.2.2,amN];simp only[RX,Dy,amp,amo,gi (show 224+c / 4096<256 by omega),gi (show 128+c / 64 % 64<256 by omega),gi (show 128+c % 64<256 by omega),Int.toNat_natCast,iN,ro];unfold Lib.decodeN;rw[io (by omega),io (by omega),iF (by omega),iF (by omega)];congr 1;omega
 ·rw[h.2.2,amN];simp only[RX,Dy,amp,amo,gi (show 240+c / 262144<256 by omega),gi (show 128+c / 4096 % 64<256 by omega),gi (show 128+c / 64 % 64<256 by omega),gi (show 128+c % 64<256 by omega),Int.toNat_natCast,iN];unfold Lib.decodeN
  grind
theorem Ct{r}(h:dF r):1≤(ey r).length∧(ey r).length≤4:=by
 grind[J9]
theorem Y2 n a b c d:dF (Lib.decodeN n a b c d).1:=by
 unfold Lib.decodeN dF
 grind
theorem agF l:dF (Lib.decodeL l).1:=by rw[amN];grind[Y2]
def jX:Nat→List UInt8→b5
 | 0,_=>[]
 | n+1,l=>if l.isEmpty=true then [] else (Lib.decodeL l).1::jX n (l.drop (Lib.decodeL l).2)
theorem acB:∀(n m:Nat) (l:List UInt8),l.length≤n→l.length≤m→jX n l=jX m l:=by
 intro n
 induction n with
 | zero =>
  intro m l a b;have:l=[]:=ne (by omega);subst this;cases m<;>simp[jX]
 | succ n c =>
  intro m l a b;cases m with
  | zero =>
   grind
  | succ m =>
   unfold jX;split
   ·rfl
   ·have:=anf l
    grind
def j9(l:List UInt8):b5:=jX l.length l
theorem Zq:j9 []=[]:=rfl
theorem Mb{l}(h:l≠[]):j9 l=((Lib.decodeL l).1:Int)::j9 (l.drop (Lib.decodeL l).2):=by
 unfold j9;cases l with
 | nil=>grind
 | cons x r =>
  have:=anf (x::r);rw[show jX (x::r).length (x::r)=((Lib.decodeL (x::r)).1:Int)::jX r.length ((x::r).drop (Lib.decodeL (x::r)).2) from rfl]
  grind[acB]
theorem ah3{r:Int}(h:dF r)(t:List UInt8):j9 (ey r++t)=r::j9 t:=by
 have a:=Ct h;rw[Mb (by intro e;rw[List.append_eq_nil_iff]at e;rw[e.1]at a;simp at a),Gg h t];simp only[anA];congr 1;unfold dF at h;omega
def dP(rs:b5):List UInt8:=rs.flatMap ey
theorem Wq r rs:dP (r::rs)=ey r++dP rs:=by rfl
theorem UD a b:dP (a++b)=dP a++dP b:=by simp[dP]
theorem Uc:∀{rs} t,(∀r∈rs,dF r)→j9 (dP rs++t)=rs++j9 t
 | [],t,_=>rfl
 | r::rs,t,h=>by
  rw[Wq,u3,ah3 (by grind),Uc t (fun x a=>h x (by grind))];rfl
theorem ag4{rs}(h:∀r∈rs,dF r):j9 (dP rs)=rs:=by
 have:=Uc [] h;grind[Zq]
theorem Va:∀n l,∀r∈jX n l,dF r
 | 0,_,r,h=>by cases h
 | n+1,l,r,h=>by
  unfold jX at h;split at h
  ·grind
  ·rcases l3.1 h with rfl|h
   ·exact agF l
   ·exact Va n _ r h
theorem Nr{l}:∀r∈j9 l,dF r:=Va _ _
theorem Vi:∀n l,(jX n l).length≤n
 | 0,_=>by simp[jX]
 | n+1,l=>by
  unfold jX;split
  ·simp
  ·have:=Vi n (l.drop (Lib.decodeL l).2);grind
theorem ajV l:(j9 l).length≤l.length:=Vi _ _
def jw(b:ByteArray)(p:Nat):b5:=j9 (b.data.toList.drop p)
theorem B4(b:ByteArray):b.data.toList.length=b.size:=rfl
theorem S8{b}{p}(h:¬ p<b.size):jw b p=[]:=by
 unfold jw;rw[la (by simp_all)];rfl
theorem MZ{b:ByteArray}{p:Nat}(h:p<b.size):jw b p=((Utf8.decode b p).1:Int)::jw b (p+(Utf8.decode b p).2):=by
 unfold jw;rw[Mb (by intro e;have:=amM List.length e;simp at this;have a:=B4 b;simp at a;omega),amG,am6]
theorem Ul b p:1≤(Utf8.decode b p).2:=by rw[←amG];exact anf _
def ints(l:List UInt8):b5:=l.map fun b=>b.toNat
theorem ahI a b:ints (a++b)=ints a++ints b:=by simp[ints]
theorem adv a:(ints a).length=a.length:=by simp[ints]
theorem akp x y:iQ .u8 x y=bits .and .u8 x y:=rfl
theorem EF x y:fz .u8 x y=bits .or .u8 x y:=rfl
theorem w8{n}(h:0≤n∧n<256):IntKind.wrap .u8 n=n:=by rw[anv];omega
theorem sF y:fz .u8 128 (iQ .u8 (IntKind.wrap .u8 y) 63)=128+y % 64:=by
 have h:0≤IntKind.wrap .u8 y∧IntKind.wrap .u8 y<256:=by rw[anv];omega
 rw[akp,u8_and63 _ h.1 h.2,EF,u8_or128 _ (by omega) (by omega),anv];omega
section
variable{K:Kn}{n:Nat}
theorem adz{r:Int}(h:dF r){L:b5}(f:L.length≤1000000):vf K n r L=some (L++ints (ey r)):=by
 have a:IntKind.wrap .u32 r=r:=by rw[IntKind.wrap_u32];unfold dF at h;omega
 unfold vf;rw[a];obtain⟨c,rfl,b|b|b|b⟩:=J9 h
 ·rw[iF (by simp;omega),de (by simp;omega) (by omega),bi,b.2,w8 (by omega)];simp only[ints,n5,u7,gi (show c<256 by omega)]
 ·rw[io (by simp;omega)];unfold wh;rw[a,iF (by simp;omega),de (by simp;omega) (by omega),bi,b.2.2];simp only[go,ints,n5,u7,gi (show 192+c / 64<256 by omega),gi (show 128+c % 64<256 by omega)];rw[w8 (n:=(c:Int) / 64) (by omega),EF 192,u8_or192 _ (by omega) (by omega),sF];congr 3<;>omega
 ·rw[io (by simp;omega)];unfold wh;rw[a,io (by simp;omega)];have e:ox K n (c:Int) L true=some (L++ints (ey (c:Int))):=by
   unfold ox;rw[iF rfl,de (by simp;omega) (by omega),bi,b.2.2.2];simp only[ints,n5,u7,gi (show 224+c / 4096<256 by omega),gi (show 128+c / 64 % 64<256 by omega),gi (show 128+c % 64<256 by omega)];rw[w8 (n:=(c:Int) / 4096) (by omega),EF 224,u8_or224 _ (by omega) (by omega),sF,sF];congr 3<;>omega
  by_cases d:(c:Int)<55296
  ·rw[iF (by simpa using d),e];rfl
  ·rw[io (by simpa using d),iF (by simp;omega),show decide ((c:Int)≤65535)=true by simp;omega,e];rfl
 ·rw[io (by simp;omega)];unfold wh;rw[a,io (by simp;omega),io (by simp;omega),iF (by simp;omega),show decide ((c:Int)≤65535)=false by simp;omega];unfold ox;rw[a,io (by simp),iF (by simp;omega),show decide ((c:Int)≤1114111)=true by simp;omega];unfold yJ;rw[iF rfl,de (by simp;omega) (by omega),bi,b.2.2];simp only[go,ints,n5,u7,gi (show 240+c / 262144<256 by omega),gi (show 128+c / 4096 % 64<256 by omega),gi (show 128+c / 64 % 64<256 by omega),gi (show 128+c % 64<256 by omega)];rw[w8 (n:=(c:Int) / 262144) (by omega),EF 240,u8_or240 _ (by omega) (by omega),sF,sF,sF];congr 3<;>omega
theorem acg{r}(h:dF r){L}(a:L.length≤1000000) b:∃x,qe K n r b L=some (x,(),L++ints (ey r)):=by
 unfold qe;rw[adz h a]
 simp_all
end
theorem alF{l}(h:l≠[]):pj (ints l)=true:=by
 unfold pj ints;rw[g6];refine⟨?_,by simp_all⟩;rw[ll];intro n a;obtain⟨b,_,rfl⟩:=u6.1 a;have:=UInt8.toNat_lt b
 grind
theorem aeB l:bytesOf (ints l)=⟨l.toArray⟩:=by
 unfold bytesOf ints;rw[List.map_map];congr 2
 conv=>rhs;rw[←List.map_id l]
 refine amY fun b _=>?_;simp
noncomputable section
def lW(r:Int):Bool:=r == 9||(r == 10||(r == 13||r == 32))
def EW(r:Int):Int:=(mA (KN 0) 0 r).getD 0
def agY(s:Int):Int:=min (max s 0) 1048576
def FD(r s:Int):Int:=aa (Int.tdiv (aa ((aa (EW r*agY s))+15)) 16)
def yr(a b:Int):Bool:=bif lW b||EW b == 0 then false else bif lW a then true else bif a == 45&&b != 45 then true else decide (a≥11904)||decide (b≥11904)
def ui(e:aS):Bool:=e.Kind == 1&&(e.Box.Style.WhiteSpace != 1&&e.Box.Style.WhiteSpace != 2)
def pk(a b:aS):Bool :=
 bif a.Kind == 3||b.Kind == 3 then (a.Kind == 3||ui a)&&(b.Kind == 3||ui b)
 else bif a.Kind != 1||(b.Kind != 1||(!ui a||(a.Char != 32&&!ui b))) then false else yr a.Char b.Char
def vU{α:Type}(x:Option α):Prop:=∃u,x=some u
theorem Qc{α}(u:α):vU (some u):=⟨u,rfl⟩
theorem UL{α}{c}[Decidable c]{x y:Option α}(a:vU x)(b:vU y):vU (if c then x else y):=by grind
section
variable(K:Kn)(n:Nat)
theorem Ox r:vg K n r=some (lW r):=by
 grind[vg,lW,qg]
theorem aj9(r:Int):vU (mA K n r):=by
 unfold mA my;simp only[iH,gL,oa,yg]
 repeat first|exact Qc _|apply UL
theorem TQ r:mA K n r=some (EW r):=by
 obtain⟨u,a⟩:=aj9 K n r;have e:mA (KN 0) 0 r=mA K n r:=rfl
 grind[EW]
theorem Sw r s:oV K n r s=some (FD r s):=by
 unfold oV;rw[TQ];rfl
theorem akj a b:xG K n a b=some (yr a b):=by
 unfold xG yr;rw[Ox,TQ]
 grind[zb,Ox,xQ,w7,lW]
theorem afn e:nX K n e=some (ui e):=by
 grind[nX,ui,tU]
end
theorem afL a b:(runesBytes [a,b]).data.toList=ey a++ey b:=by
 rfl
theorem ah8(K:Kn){n:Nat}(p:3≤n){a b:Int}(e:dF a)(f:dF b):∃l,y8 K n (runesBytes [a,b])=some l∧decide ((l.length:Int)>0)=yr a b:=by
 generalize k:runesBytes [a,b]=B;have g:B.data.toList=ey a++ey b:=by rw[←k];exact afL a b
 have r:=Ct e;have s:=Ct f;have q:B.size=(ey a).length+(ey b).length:=by rw[←B4,g,kc]
 have h:Utf8.decode B 0=(a.toNat,(ey a).length):=by
  rw[←amG,Do,g,Gg e]
 have d:Utf8.decode B (ey a).length=(b.toNat,(ey b).length):=by
  rw[←amG,g,anA];have:=Gg f [];rwa[IF]at this
 have i:((a.toNat:Nat):Int)=a:=by unfold dF at e;omega
 have j:((b.toNat:Nat):Int)=b:=by unfold dF at f;omega
 obtain⟨m,rfl⟩:∃m,n=m+3:=⟨n-3,by omega⟩;unfold y8;show ∃l,oc K (m+3) B (qJ K (m+3) B (m+2)) 0 0 []=some l∧_;unfold oc;rw[iF (by simp;omega),io (by simp)];unfold sn;rw[io (by simp)];unfold sa;rw[h];simp only[z5,i];show ∃l,oc K (m+3) B (qJ K (m+3) B (m+1)) a (ey a).length []=some l∧_;unfold oc;rw[iF (by simp;omega),iF (by simp;omega),d];simp only[j];rw[akj];simp only[go];have c:∀(x:Int) (l:b5),qJ K (m+3) B (m+1) x ((ey a).length+(ey b).length) l=some l:=fun x l=>by
  show oc K (m+3) B (qJ K (m+3) B m) x _ l=some l;unfold oc;rw[io (by simp;omega)]
 cases o:yr a b with
 | true =>
  unfold sn;rw[iF rfl,de (by simp) (by omega),bi];unfold sa;rw[d];simp only[];rw[c];exact⟨_,rfl,by simp⟩
 | false =>
  unfold sn;rw[io (by simp)];unfold sa;rw[d];simp only[];rw[c];exact⟨_,rfl,by simp⟩
theorem WS K{n}(e:3≤n){a b}(c:dF a.Char)(d:dF b.Char):sZ K n a b=some (pk a b):=by
 obtain⟨l,f,g⟩:=ah8 K e c d
 grind[oU,sZ,pk,wN,oE,afn]
def Ax(s a:Int):b5→Int
 | []=>a
 | r::t=>Ax s (aa (a+FD r s)) t
theorem X7(K:Kn)(n:Nat)(b:ByteArray)(s:Int):∀(m:Nat) (a:Int) (p:Nat),b.size-p<m→yt K n b s m a p=some (Ax s a (jw b p)):=by
 intro m
 induction m with
 | zero=>intro a p h;omega
 | succ m d =>
  intro a p h;show xp K n b s (yt K n b s m) a p=_;unfold xp;by_cases c:p<b.size
  ·grind[Ul,Sw,MZ,Ax]
  ·rw[io (by grind),S8 c];rfl
theorem Rx K{n} b s(a:b.size<n):rE K n b s=some (Ax s 0 (jw b 0)):=by
 grind[rE,X7]
def jQ(s:aO):Int×Int:=(oT (KN 0) 0 s).getD default
theorem Tv K n s:oT K n s=some (jQ s):=rfl
def dd(x:dw):b5:=x.map fun e=>e.Char
def Cs(x:dw):Bool:=(x.getD (x.length-1) default).Soft
def Ln(x:dw):b5:=bif Cs x then (dd x).dropLast else dd x
def ip(rs:b5):ByteArray:=⟨(dP rs).toArray⟩
def Az(x:dw):aO:=(x.getD 0 default).Box.Style
def iG(x:dw):aQ :=
 { dX with Text:=ip (dd x),Width:=Ax (Az x).FontSize 0 (Ln x),Space:=bif Cs x then FD 32 (Az x).FontSize else 0,Above:=(jQ (Az x)).1,Below:=(jQ (Az x)).2 }
theorem B3{rs}(h:∀r∈rs,dF r):rs.length≤(dP rs).length∧(dP rs).length≤4*rs.length:=by
 induction rs with
 | nil=>simp[dP]
 | cons r t a =>
  have:=Ct (h r (by simp))
  grind[Wq]
theorem CU rs:(ip rs).size=(dP rs).length:=by rfl
theorem Uw rs:(ip rs).data.toList=dP rs:=by grind[ip]
theorem Nj{rs}(h:∀r∈rs,dF r):jw (ip rs) 0=rs:=by
 grind[jw,Uw,ag4]
theorem akk{rs} a(h:rs.getLast a=32):dP rs=dP rs.dropLast++[32]:=by
 conv=>lhs;rw[←amO a]
 rw[UD,h];rfl
theorem acC{rs} a(h:rs.getLast a=32):(ip rs).extract 0 ((ip rs).size-1)=ip rs.dropLast:=by
 have e:=akk a h;have b:(ip rs).size=(dP rs.dropLast).length+1:=by grind[CU]
 apply ByteArray.ext;apply Array.ext'
 simp_all[Uw]
structure pQ(e:aS):Prop where
 ch:dF e.Char
 soft:e.Soft=true→e.Char=32
theorem Lq{x}(h:∀e∈x,pQ e):∀r∈dd x,dF r:=by
 intro r b;obtain⟨e,a,rfl⟩:=u6.1 b;exact(h e a).ch
section
variable{K:Kn}{n:Nat}{x:dw}
theorem aaN(z:x≠[])(I:x.length≤2000)(w:∀e∈x,pQ e)(J:8010≤n)(b:Bool):ud K n x (ints (dP (dd x))) b=some (iG x):=by
 have H:0<x.length:=amn.2 z;have v:dd x≠[]:=by unfold dd;simp[z]
 have D:(dd x).length=x.length:=by unfold dd;simp
 have f:=Lq w;have j:=B3 f;have p:dP (dd x)≠[]:=by intro e;rw[e]at j;have:=j.1;simp only[ro]at this;omega
 have A:aa ((x.length:Int)-1)=((x.length-1:Nat):Int):=by rw[bT (by omega) (by omega)];omega
 have o:bytesOf (ints (dP (dd x)))=ip (dd x):=aeB _;have F:(ip (dd x)).size=(dP (dd x)).length:=CU _;have B:aa (((ip (dd x)).size:Int)-1)=(((ip (dd x)).size-1:Nat):Int):=by rw[bT (by omega) (by omega)];omega
 have key:∀(a:aO) (Y:ByteArray→Int→Option aQ),(∀k l,Y k l=(rE K n k a.FontSize).bind fun t=>(oT K n a).bind fun m=>some ({ dX with Text:=bytesOf (ints (dP (dd x))),Width:=t,Space:=l,Above:=m.1,Below:=m.2 }:aQ))→a=Az x →
   aA (pj (ints (dP (dd x)))) (aA (aU (aa ((x.length:Int)-1)) x.length) ((some ((List.getD x ((aa ((x.length:Int)-1))).toNat default).Soft)).bind fun s =>
    if s=true then aA (cT (0:Int) (aa (((bytesOf (ints (dP (dd x)))).size:Int)-1)) (bytesOf (ints (dP (dd x)))).size) ((some (ByteArray.extract (bytesOf (ints (dP (dd x)))) (0:Int).toNat ((aa (((bytesOf (ints (dP (dd x)))).size:Int)-1))).toNat)).bind fun c=>(oV K n 32 a.FontSize).bind fun d=>Y c d)
    else Y (bytesOf (ints (dP (dd x)))) 0))=some (iG x):=by
  intro a Y u G;subst G;rw[alF p,bi,A,dT (by omega) (by omega),bi];simp only[go,Int.toNat_natCast];have y:(List.getD x (x.length-1) default).Soft=Cs x:=rfl;rw[y,o,B];cases h:Cs x with
  | true =>
   have g:(dd x).getLast v=32:=by
    have E:x.getD (x.length-1) default∈x:=by rw[cm (by omega)];exact sj _
    have:=(w _ E).soft (by rw[y];exact h);rw[List.getLast_eq_getElem];unfold dd;rw[amb];rw[cm (by omega)]at this;simpa using this
   rw[iF rfl,show cT (0:Int) (((ip (dd x)).size-1:Nat):Int) (ip (dd x)).size=true by simp only[cT,g6,ob];omega,bi];simp only[Int.toNat_zero,Int.toNat_natCast];rw[acC v g,Sw];simp only[go];rw[u,Rx K (ip (dd x).dropLast) _ (by
    have C:=B3 (rs:=(dd x).dropLast) (fun r q=>f r ((anw _).subset q));rw[CU];simp at C;omega),Nj (fun r q=>f r ((anw _).subset q)),Tv,o]
   simp only[go];unfold iG Ln;rw[h];rfl
  | false =>
   rw[io (by simp),u,Rx K (ip (dd x)) _ (by omega),Nj f,Tv,o];simp only[go];unfold iG Ln;rw[h];rfl
 unfold ud;rw[dT (i:=(0:Int)) (by omega) (by omega)];simp only[bi,go];cases b with
 | true=>rw[iF rfl];exact key _ (fun c d=>Ap K n _ _ c d) (fun _ _=>rfl) rfl
 | false=>rw[io (by simp)];exact key _ (fun c d=>wB K n _ _ c d) (fun _ _=>rfl) rfl
theorem adl(u:x≠[])(s:x.length≤2000)(g:∀e∈x,pQ e)(t:8010≤n):∀(m i:Nat) (b:Bool),i≤x.length→x.length<m+i→vj K n x m (i:Int) b (ints (dP ((dd x).take i)))=some (iG x):=by
 intro m
 induction m with
 | zero=>intro i b h j;omega
 | succ m p =>
  intro i b h j;show yM K n x (vj K n x m) i b _=_;unfold yM;have f:(dd x).length=x.length:=by unfold dd;simp
  by_cases a:i<x.length
  ·have k:x.getD i default∈x:=by rw[cm a];exact sj _
   have c:=B3 (rs:=(dd x).take i) (fun r d=>Lq g r (nk d));have l:(dd x).take (i+1)=(dd x).take i++[(x.getD i default).Char]:=by
    rw[ang,h6 (by rw[f];exact a),cm a];simp[dd]
   have d:∀b,(qe K n ((List.getD x ((i:Int)).toNat default).Char) b (ints (dP ((dd x).take i)))).bind (fun q=>vj K n x m (aa ((i:Int)+1)) true q.2.2)=some (iG x):=fun b=>by
    rw[Int.toNat_natCast];obtain⟨y,o⟩:=acg (K:=K) (n:=n) (g _ k).ch (L:=ints (dP ((dd x).take i))) (by rw[adv];simp at c;omega) b;rw[o];simp only[go];rw[bT (by omega) (by omega),show(i:Int)+1=((i+1:Nat):Int) by omega,← ahI];have e:dP ((dd x).take i)++ey (x.getD i default).Char=dP ((dd x).take (i+1)):=by
     rw[l,UD];simp[dP]
    rw[e];exact p (i+1) true (by omega) (by omega)
   cases b with
   | true=>rw[iF rfl,iF (by simpa using a),dT (by omega) (by omega),bi];exact d true
   | false=>rw[io (by simp),iF (by simpa using a),dT (by omega) (by omega),bi];exact d false
  grind[dd,aaN]
theorem ak1(d:x≠[])(a:x.length≤2000)(c:∀e∈x,pQ e)(b:8010≤n):EZ K n x=some (iG x):=by
 exact adl d a c b n 0 false (by omega) (by omega)
end
end
noncomputable section
def kg(e:aS):Bool:=e.Box.Style.WhiteSpace == 2
def mQ(a:dw):aS:=a.getD (a.length-1) default
def un(a:dw):Bool:=a.isEmpty||((mQ a).Soft||(mQ a).Kind == 2)
def oY(a:dw)(e:aS):dw :=
  bif lW e.Char then
    (bif kg e then (bif e.Char == 10 then a++[{ e with Kind:=2,Char:=32 }] else bif e.Char == 13 then a else a++[{ e with Char:=32 }])
     else bif un a then a else a++[{ e with Soft:=true,Char:=32 }])
  else a++[e]
theorem UP a e:(oY a e).length≤a.length+1:=by
 grind[oY]
section
variable(K:Kn)(n:Nat)
theorem Hu{a}(b:a.length≤1000000) e:rM K n a e=some (a++[{ e with Char:=32 }]):=by
 grind[rM,de,bi]
theorem XH{a:dw}(k:a.length≤1000000)(e:aS):A4 K n e a=some (oY a e):=by
 have j:∀b,nG K n e a b=some (bif b then a else a++[{ e with Soft:=true,Char:=32 }]):=fun b=>by
  unfold nG;cases b with
  | true=>rfl
  | false=>rw[io (by simp),Hu K n k];rfl
 have o:∀b,kg e=b→∀c,tT K n e a c=some (bif c then a else bif b then a++[{ e with Char:=32 }] else bif un a then a else a++[{ e with Soft:=true,Char:=32 }]):=fun b t c=>by
  unfold tT;cases c with
  | true=>rfl
  | false =>
   have h:(e.Box.Style.WhiteSpace == 2)=b:=t;rw[io (by simp),h];cases b with
   | true=>rw[show(!true)=false from rfl,io (by simp),Hu K n k];rfl
   | false =>
    rw[show(!false)=true from rfl,iF rfl];by_cases f:a=[]
    ·subst f;rw[iF (by simp),j];rfl
    ·have p:0<a.length:=amn.2 f;have s:aa ((a.length:Int)-1)=((a.length-1:Nat):Int):=by rw[bT (by omega) (by omega)];omega
     have g:a.isEmpty=false:=by cases a;exact absurd rfl f;rfl
     rw[io (by simp;exact f),s,dT (by omega) (by omega)];simp only[bi,Int.toNat_natCast]
     change (if (mQ a).Soft=true then nG K n e a true else nG K n e a ((mQ a).Kind == 2))=_
     cases q:(mQ a).Soft with
     | true=>rw[iF rfl,j];unfold un;rw[g,q];rfl
     | false=>rw[io (by simp),j];unfold un;rw[g,q];rfl
 have m:∀c,uZ K n e a c=some (bif c then a++[{ e with Kind:=2,Char:=32 }] else bif kg e then (bif e.Char == 13 then a else a++[{ e with Char:=32 }]) else bif un a then a else a++[{ e with Soft:=true,Char:=32 }]):=fun c=>by
  unfold uZ;cases c with
  | true=>rw[iF rfl,Hu K n k];rfl
  | false =>
   have h:(e.Box.Style.WhiteSpace == 2)=kg e:=rfl;rw[io (by simp),h];cases d:kg e with
   | true=>rw[iF rfl,o true d];rfl
   | false=>rw[io (by simp),o false d];rfl
 have i:md K n e a true=some (bif kg e then (bif e.Char == 10 then a++[{ e with Kind:=2,Char:=32 }] else bif e.Char == 13 then a else a++[{ e with Char:=32 }]) else bif un a then a else a++[{ e with Soft:=true,Char:=32 }]):=by
  unfold md;have h:(e.Box.Style.WhiteSpace == 2)=kg e:=rfl;rw[iF rfl,h];cases d:kg e with
  | true=>rw[iF rfl,m,d];rfl
  | false=>rw[io (by simp),m,d];rfl
 have f:md K n e a false=some (a++[e]):=by
  unfold md;rw[io (by simp),de (by simp;omega) (by omega),bi]
 unfold A4 oY lW;cases u:(e.Char == 9) with
 | true=>rw[iF rfl,i];rfl
 | false =>
  rw[io (by simp)];cases l:(e.Char == 10) with
  | true=>rw[iF rfl,i,l];rfl
  | false =>
   rw[io (by simp)];cases r:(e.Char == 13) with
   | true=>rw[iF rfl,i,l,r];rfl
   | false =>
    rw[io (by simp)];cases v:(e.Char == 32) with
    | true=>rw[i,l,r];rfl
    | false=>rw[f];rfl
end
def pJ(b:ag):Bool:=(kD (KN 0) 0 b).getD false
def si(b:ag)(a:Int)(c:dw)(rs:b5):dw:=rs.foldl (fun o r=>oY o ⟨1,a,r,false,b⟩) c
def vM:Nat→dn→Int×dw→Int×dw
  | 0,_,s=>s
  | d+1,L,s=>L.foldl (fun s b=>bif pJ b then
      (bif b.Kind == 2 then vM d b.Kids (aa (s.1+1),s.2)
       else bif b.Kind == 4 then (aa (s.1+1),s.2++[⟨2,aa (s.1+1),0,false,b⟩])
       else bif b.Kind == 5 then (aa (s.1+1),s.2++[⟨3,aa (s.1+1),0,false,b⟩])
       else bif b.Kind == 3 then (aa (s.1+1),si b (aa (s.1+1)) s.2 (jw b.Text 0))
       else (aa (s.1+1),s.2)) else s) s
def jo (d : Nat) (s : Int × dw) (b : ag) : Int × dw := bif pJ b then
      (bif b.Kind == 2 then vM d b.Kids (aa (s.1+1),s.2)
       else bif b.Kind == 4 then (aa (s.1+1),s.2++[⟨2,aa (s.1+1),0,false,b⟩])
       else bif b.Kind == 5 then (aa (s.1+1),s.2++[⟨3,aa (s.1+1),0,false,b⟩])
       else bif b.Kind == 3 then (aa (s.1+1),si b (aa (s.1+1)) s.2 (jw b.Text 0))
       else (aa (s.1+1),s.2)) else s
theorem pN d L s:vM (d+1) L s=L.foldl (jo d) s:=rfl
def eJ:Nat→dn→Nat
 | 0,_=>0
 | d+1,L=>(L.map fun b=>1+b.Text.size+eJ d b.Kids).sum
def Dp:Nat→dn→Prop
 | 0,_=>False
 | d+1,L=>L.length≤1000∧∀b∈L,b.Text.size≤1000∧(b.Kind=2→Dp d b.Kids)
theorem OA b c:∀rs a,(si b c a rs).length≤a.length+rs.length
 | [],a=>by simp[si]
 | r::t,a=>by
  have:=OA b c t (oY a ⟨1,c,r,false,b⟩);have:=UP a ⟨1,c,r,false,b⟩
  grind[si]
theorem aaW b p:(jw b p).length≤b.size:=by
 grind[jw,ajV,B4]
theorem Mg d(a:∀L s,(vM d L s).2.length≤s.2.length+eJ d L) s b:(jo d s b).2.length≤s.2.length+(1+b.Text.size+eJ d b.Kids):=by
 unfold jo;cases pJ b with
 | false=>grind
 | true =>
  grind[aa,OA,jw,aaW]
theorem Nw:∀(d:Nat) (L:dn) (s:Int×dw),(vM d L s).2.length≤s.2.length+eJ d L:=by
 intro d
 induction d with
 | zero=>intro L s;simp[vM,eJ]
 | succ d e =>
  intro L
  induction L with
  | nil=>intro s;simp[vM,eJ]
  | cons b r a =>
   intro s;have f:=Mg d e s b;have c:=a (jo d s b);rw[pN,amd];rw[pN]at c;simp only[eJ,n5,al8]at c⊢;omega
theorem agt K n b:kD K n b=some (pJ b):=by
 have e:kD (KN 0) 0 b=kD K n b:=rfl;have:vU (kD K n b):=by
  repeat first|exact Qc _|apply UL
 obtain⟨u,a⟩:=this
 grind[pJ]
theorem aln(K:Kn)(n:Nat)(L:dn)(i b:Int)(C:Int→Int→dw→Option (Int×dw))(j:i.toNat<L.length):∀(m p:Nat) (a:dw),(L.getD i.toNat default).Text.size-p<m→a.length+((L.getD i.toNat default).Text.size-p)≤900000 →
  wv K n L i b C m p a=C (aa (i+1)) (aa (b+1)) (si (L.getD i.toNat default) (aa (b+1)) a (jw (L.getD i.toNat default).Text p)):=by
 intro m
 induction m with
 | zero=>intro p a h;omega
 | succ m e =>
  intro p a f g;show yu K n L i b C (wv K n L i b C m) p a=_;unfold yu;by_cases c:p<(L.getD i.toNat default).Text.size
  ·have k:=Ul (L.getD i.toNat default).Text p;rw[iF (by simpa using c)];simp only[go];rw[XH K n (by omega)];simp only[go];have d:=UP a ⟨1,aa (b+1),((Utf8.decode (L.getD i.toNat default).Text p).1:Int),false,L.getD i.toNat default⟩;rw[e _ _ (by omega) (by omega),MZ c];rfl
  ·rw[io (by grind),S8 c];rfl
theorem akP:∀(d N:Nat) (L:dn) (s:Int×dw),Dp d L→s.2.length+eJ d L≤800000→d+1100≤N→nL (KN N) N L s.1 s.2=some (vM d L s):=by
 intro d
 induction d with
 | zero=>intro N L s h;exact h.elim
 | succ d z =>
  intro N L s n B A;obtain⟨N,rfl⟩:∃M,N=M+1:=⟨N-1,by omega⟩;unfold Dp at n;unfold nL;have k:∀(m i:Nat) (s:Int×dw),i≤L.length→L.length<m+i→s.2.length+eJ (d+1) (L.drop i)≤800000→uX (KN (N+1)) (N+1) L m (i:Int) s.1 s.2=some (vM (d+1) (L.drop i) s):=by
   intro m
   induction m with
   | zero=>intro i s t u;omega
   | succ m p =>
    intro i s t u q;show xW (KN (N+1)) (N+1) L (uX (KN (N+1)) (N+1) L m) i s.1 s.2=_;unfold xW;by_cases j:i<L.length
    ·have r:L.getD i default∈L:=by rw[cm j];exact sj _
     have o:L.drop i=L.getD i default::L.drop (i+1):=by rw[kp j,cm j]
     have y:aa ((i:Int)+1)=((i+1:Nat):Int):=by rw[bT (by omega) (by omega)];omega
     rw[o]at q⊢;rw[pN,amd,← pN];have x:=Mg d (Nw d) s (L.getD i default);have v:s.2.length+((1+(L.getD i default).Text.size+eJ d (L.getD i default).Kids)+eJ (d+1) (L.drop (i+1)))≤800000:=by
      simpa only[eJ,n5,al8]using q
     have l:=p (i+1) (jo d s (L.getD i default)) (by omega) (by omega) (by omega);rw[iF (by simpa using j),dT (by omega) (by omega),bi,agt];simp only[go,Int.toNat_natCast];have step:∀s',jo d s (L.getD i default)=s'→uX (KN (N+1)) (N+1) L m (aa ((i:Int)+1)) s'.1 s'.2=some (vM (d+1) (L.drop (i+1)) (jo d s (L.getD i default))):=fun s' e=>by
      rw[←e,y];exact l
     cases g:pJ (L.getD i default) with
     | false =>
      rw[show(!false)=true from rfl,iF rfl];unfold nN;exact step s (by unfold jo;rw[g];rfl)
     | true =>
      rw[show(!true)=false from rfl,io (by simp)];cases a:((L.getD i default).Kind == 2) with
      | true =>
       have w:(L.getD i default).Kind=2:=by simpa using a
       have:=z N (L.getD i default).Kids (aa (s.1+1),s.2) ((n.2 _ r).2 w) (by simp only[];omega) (by omega);rw[iF rfl];show((nL (KN N) N (L.getD i default).Kids (aa (s.1+1)) s.2).bind _)=_;rw[show nL (KN N) N (L.getD i default).Kids (aa (s.1+1)) s.2=_ from this];simp only[go];unfold k9 nN;exact step _ (by unfold jo;rw[g,a];rfl)
      | false =>
       rw[io (by simp)];cases b:((L.getD i default).Kind == 4) with
       | true =>
        rw[iF rfl,de (by simp;omega) (by omega),bi];unfold k9 nN;exact step (_,_) (by unfold jo;rw[g,a,b];rfl)
       | false =>
        rw[io (by simp)];cases f:((L.getD i default).Kind == 5) with
        | true =>
         rw[iF rfl,de (by simp;omega) (by omega),bi];unfold k9 nN;exact step (_,_) (by unfold jo;rw[g,a,b,f];rfl)
        | false =>
         rw[io (by simp)];cases c:((L.getD i default).Kind == 3) with
         | true =>
          have C:=(n.2 _ r).1;rw[iF rfl,aln (KN (N+1)) (N+1) L i s.1 _ (by simpa using j) (N+1) 0 s.2 (by rw[Int.toNat_natCast];omega) (by rw[Int.toNat_natCast];omega)];rw[Int.toNat_natCast];exact step (_,_) (by unfold jo;rw[g,a,b,f,c];rfl)
         | false =>
          rw[io (by simp)];unfold k9 nN;exact step (_,_) (by unfold jo;rw[g,a,b,f,c];rfl)
    ·rw[io (by simpa using j),la (by omega)];rfl
  have:=k (N+1) 0 s (by omega) (by omega) (by grind)
  grind
def lv(d:Nat)(L:dn):dw:=(vM d L (0,[])).2
theorem Ys{d N}{L}(a:Dp d L)(c:eJ d L≤800000)(b:d+1100≤N):yS (KN N) N L=some (lv d L):=by
 unfold yS;rw[show nL (KN N) N L 0 []=_ from akP d N L (0,[]) a (by grind) b];rfl
theorem JU d L:(lv d L).length≤eJ d L:=by
 grind[Nw,lv]
theorem aaq{P:aS→Prop}{a}{e}(h:∀x∈a,P x)(b:lW e.Char=false→P e)(c:kg e=true→P { e with Kind:=2,Char:=32 })(d:kg e=true→P { e with Char:=32 })(f:kg e=false→P { e with Soft:=true,Char:=32 }):∀x∈oY a e,P x:=by
 grind[oY]
theorem Iv{P:aS→Prop} b a(g:∀r,dF r→(lW r=false→P ⟨1,a,r,false,b⟩))(d:P ⟨2,a,32,false,b⟩)(e:b.Style.WhiteSpace=2→P ⟨1,a,32,false,b⟩)(f:b.Style.WhiteSpace≠2→P ⟨1,a,32,true,b⟩):∀rs c,(∀r∈rs,dF r)→(∀x∈c,P x)→∀x∈si b a c rs,P x
 | [],c,_,h=>h
 | r::t,c,j,h=>by
  refine Iv b a g d e f t _ (fun x l=>j x (by grind)) (aaq h (fun k=>g r (by grind) k) (fun _=>d) (fun i=>e (by grind[kg])) (fun i=>f (by grind[kg])))
theorem agk{P:aS→Prop}(i:∀(b:ag) (a r:Int),dF r→lW r=false→P ⟨1,a,r,false,b⟩)(j:∀(b:ag) (a:Int),P ⟨2,a,32,false,b⟩)(k:∀(b:ag) (a:Int),b.Style.WhiteSpace=2→P ⟨1,a,32,false,b⟩)(l:∀(b:ag) (a:Int),b.Style.WhiteSpace≠2→P ⟨1,a,32,true,b⟩)
  (m:∀(b:ag) (a:Int),P ⟨2,a,0,false,b⟩) (n:∀(b:ag) (a:Int),P ⟨3,a,0,false,b⟩):∀(d:Nat) (L:dn) (s:Int×dw),(∀x∈s.2,P x)→∀x∈(vM d L s).2,P x:=by
 have g:∀{e:dw} (y:aS),(∀x∈e,P x)→P y→∀x∈e++[y],P x:=fun y h q x c=>by
  rcases kb.1 c with c|c
  ·exact h x c
  ·rw[acN.1 c];exact q
 intro d
 induction d with
 | zero=>intro L s h;exact h
 | succ d t =>
  intro L
  induction L with
  | nil=>intro s h;exact h
  | cons b r f =>
   intro s h;rw[pN,amd,← pN];refine f _ ?_;unfold jo;cases pJ b with
   | false=>exact h
   | true =>
    simp only[cond_true];cases (b.Kind == 2) with
    | true=>exact t _ _ h
    | false =>
     simp only[anh];cases (b.Kind == 4) with
     | true=>exact g _ h (m _ _)
     | false =>
      simp only[anh];cases (b.Kind == 5) with
      | true=>exact g _ h (n _ _)
      | false =>
       simp only[anh];cases (b.Kind == 3) with
       | true=>exact Iv b _ (fun r o p=>i b _ r o p) (j b _) (k b _) (l b _) _ _ Nr h
       | false=>exact h
theorem IX:dF 32:=by grind[dF]
theorem Si:dF 0:=by grind[dF]
theorem Nt d L:∀x∈lv d L,pQ x :=
 agk (fun b a r c _=>⟨c,fun h=>by grind⟩) (fun b a=>⟨IX,fun _=>rfl⟩) (fun b a _=>⟨IX,fun _=>rfl⟩) (fun b a _=>⟨IX,fun _=>rfl⟩) (fun b a=>⟨Si,fun h=>by grind⟩) (fun b a=>⟨Si,fun h=>by grind⟩) d L (0,[]) (fun x e=>by grind)
end
structure R4 where
 w:Int
 s:Int
 g:Bool
 f:Bool
instance:Inhabited R4:=⟨⟨0,0,false,false⟩⟩
def vI(r:aQ):R4:=⟨r.Width,r.Space,r.Glued,r.Forced⟩
theorem zk{L:dO}{k} h:(L.map vI)[k]'(by simpa using h)=vI (L.getD k default):=by
 grind
def gr(l:List R4)(i:Nat):Nat:=i+((l.drop i).takeWhile R4.g).length
theorem ni l i:i≤gr l i:=alZ _ _
theorem R0{α:Type} p:∀l:List α,(l.takeWhile p).length≤l.length
 | []=>h7 _
 | x::r=>by
  rw[al9];split
  ·simp;exact R0 p r
  grind
theorem yi{l}{i}(h:i≤l.length):gr l i≤l.length:=by
 grind[R0,gr]
theorem ahx{l}{i} h(a:l[i].g=true):gr l i=gr l (i+1):=by
 unfold gr;rw[kp h,al9,iF a];grind
theorem XT{l}{i} h(a:l[i].g=false):gr l i=i:=by
 unfold gr;rw[kp h,al9,io (by grind)];simp
theorem ajK{l}{i}(h:l.length≤i):gr l i=i:=by
 unfold gr;rw[la h];simp
def wS(n a:Int):List R4→Int
 | []=>aa (n-a)
 | r::t=>wS (aa (n+aa (r.w+r.s))) (if r.f then a else r.s) t
def fw(l:List R4):Int:=wS 0 0 l
def sG(n:Int):List R4→Int
 | []=>n
 | r::t=>sG (aa (n+aa (r.w+r.s))) t
def jv(x:Int):List R4→Int
 | []=>x
 | r::t=>jv (if r.f then x else r.s) t
theorem Ol:∀l n a,wS n a l=aa (sG n l-jv a l)
 | [],n,a=>rfl
 | r::t,n,a=>by unfold wS sG jv;exact Ol t _ _
theorem F5:∀l m x,jv x (l++m)=jv (jv x l) m
 | [],m,x=>rfl
 | r::t,m,x=>by simp only[RX];exact F5 t m _
theorem aiX n:aa (aa n)=aa n:=by
 have : -9223372036854775808≤aa n∧aa n≤9223372036854775807:=by unfold aa;rw[alY];omega
 grind[bT]
section
variable{K:Kn}{n:Nat}{L:dO}
theorem aax:∀(m:Nat) (i:Int),0≤i→i≤L.length→L.length<m+i.toNat→(L.length:Int)<9223372036854775807→AI K n L m i=some ((gr (L.map vI) i.toNat:Nat):Int):=by
 intro m
 induction m with
 | zero=>intro i b f g;omega
 | succ m j =>
  intro i b f g h;show zW K n L (AI K n L m) i=_;unfold zW;by_cases d:i<(L.length:Int)
  ·have a:i.toNat<L.length:=by omega
   rw[iF (by simpa using d),dT b d,bi];unfold t9;have e:=zk a;cases c:(L.getD i.toNat default).Glued with
   | true =>
    rw[iF rfl,bT (by omega) (by omega),j (i+1) (by omega) (by omega) (by omega) h];rw[ahx (l:=L.map vI) (i:=i.toNat) (by simpa using a) (by rw[e];exact c),show(i+1).toNat=i.toNat+1 by omega]
   | false =>
    rw[io (by simp)];rw[XT (l:=L.map vI) (i:=i.toNat) (by simpa using a) (by rw[e];exact c)];congr 1;omega
  grind[t9,ajK]
theorem HQ{i:Int}(a:0≤i)(b:i<L.length)(d:L.length<n)(c:(L.length:Int)<9223372036854775807):rz K n L i=some (gr (L.map vI) (i.toNat+1):Int):=by
 grind[rz,bT,aax]
theorem ahe:∀(m:Nat) (k:Nat),k≤L.length→k<m→(L.length:Int)<9223372036854775807 →
  ∃j:Int,rT K n L m ((k:Int)-1)=some j∧((j = -1∧∀x,jv x ((L.map vI).take k)=x)∨(0≤j∧j<k∧∀x,jv x ((L.map vI).take k)=(L.getD j.toNat default).Space)):=by
 intro m
 induction m with
 | zero=>intro k _ h;omega
 | succ m r =>
  intro k s t p;show ∃j,ru K n L (rT K n L m) ((k:Int)-1)=some j∧_;unfold ru;cases k with
  | zero=>rw[io (by simp)];exact⟨-1,rfl,.inl ⟨rfl,fun x=>by simp[jv]⟩⟩
  | succ k =>
   have e:(((k+1:Nat):Int)-1)=(k:Int):=by omega
   rw[e,iF (by simp),dT (by omega) (by omega),bi,Int.toNat_natCast];have d:k<L.length:=by omega
   have q:=zk d;have g:(L.map vI).take (k+1)=(L.map vI).take k++[vI (L.getD k default)]:=by
    rw[ang,h6 (by simpa using d),q];rfl
   cases f:(L.getD k default).Forced with
   | false =>
    rw[show(!false)=true from rfl,iF rfl];refine⟨(k:Int),rfl,.inr ⟨by omega,by omega,fun x=>?_⟩⟩;rw[g,F5,Int.toNat_natCast];simp only[jv,vI,f,hH,rv]
   | true =>
    rw[show(!true)=false from rfl,io (by simp),bT (by omega) (by omega)];obtain⟨j,l,o⟩:=r k (by omega) (by omega) p;refine⟨j,l,?_⟩;have i:∀x,jv x ((L.map vI).take (k+1))=jv x ((L.map vI).take k):=fun x=>by
     rw[g,F5];simp only[jv,vI,f,wl]
    obtain⟨a,b⟩|⟨a,b,c⟩:=o
    ·exact .inl ⟨a,fun x=>(i x).trans (b x)⟩
    ·exact .inr ⟨a,by omega,fun x=>(i x).trans (c x)⟩
theorem ab3(d:L.length<n)(c:(L.length:Int)<9223372036854775807):∃j:Int,pG K n L=some j∧((j = -1∧∀x,jv x (L.map vI)=x)∨(0≤j∧j<L.length∧∀x,jv x (L.map vI)=(L.getD j.toNat default).Space)):=by
 unfold pG;rw[bT (by omega) (by omega)];obtain⟨j,a,b⟩:=ahe (K:=K) (n:=n) (L:=L) n L.length (by omega) d c;refine⟨j,a,?_⟩;rw[Dk (by simp)]at b
 grind
theorem acU(q:L.length<n)(p:(L.length:Int)<9223372036854775807):∀(m:Nat) (x i:Int),0≤i→i≤L.length→L.length<m+i.toNat→aa x=x →
  sG 0 (L.map vI)=sG x ((L.map vI).drop i.toNat)→Au K n L m x i=some (fw (L.map vI)):=by
 intro m
 induction m with
 | zero=>intro x i d f g;omega
 | succ m s =>
  intro x i d f g r b;show AW K n L (Au K n L m) x i=_;unfold AW;by_cases c:i<(L.length:Int)
  ·have e:i.toNat<L.length:=by omega
   rw[iF (by simpa using c),dT d c,bi,bT (n:=i+1) (by omega) (by omega)];refine s _ (i+1) (by omega) (by omega) (by omega) (aiX _) ?_;rw[b,kp (by simpa using e),zk e,show(i+1).toNat=i.toNat+1 by omega];rfl
  ·rw[io (by simpa using c)];rw[la (by simp;omega)]at b;simp only[sG]at b;obtain⟨j,h,k⟩:=ab3 (K:=K) (L:=L) q p;rw[h];simp only[go,xv];unfold fw;rw[Ol,b];obtain⟨rfl,a⟩|⟨a,l,o⟩:=k
   ·rw[io (by simp),a];simp[r]
   ·rw[iF (by simpa using a),dT a l,bi,o]
theorem Cc(b:L.length<n)(a:(L.length:Int)<9223372036854775807):pS K n L=some (fw (L.map vI)):=by
 exact acU b a n 0 0 (by omega) (by omega) (by grind) (by rfl) rfl
end
def sl{α:Type}(l:List α)(a b:Nat):List α:=List.drop a (List.take b l)
theorem Jj{α β}(f:α→β) l a b:(sl l a b).map f=sl (l.map f) a b:=by simp_all[sl]
theorem uj{α}(l:List α) a b:(sl l a b).length≤l.length:=by grind[sl]
def lE(l:List R4)(w:Int)(a:Nat):Nat→Nat→Nat
 | 0,e=>e
 | m+1,e=>if e<l.length∧(l.getD (e-1) default).f=false∧¬ fw (sl l a (gr l (e+1)))>w then lE l w a m (gr l (e+1)) else e
def bM(l:List R4)(w:Int):Nat→Nat→d4
 | 0,_=>[]
 | m+1,a=>if a<l.length then a::bM l w m (lE l w a l.length (gr l (a+1))) else []
theorem xm l w a:∀m e,e≤lE l w a m e
 | 0,e=>h7 _
 | m+1,e=>by
  unfold lE;split
  ·have:=xm l w a m (gr l (e+1));grind[ni]
  grind
theorem Gr l w a:∀m e,e≤l.length→lE l w a m e≤l.length
 | 0,e,h=>h
 | m+1,e,h=>by
  unfold lE;split
  ·exact Gr l w a m _ (yi (by omega))
  grind
theorem acG(l:List R4)(w:Int)(a:Nat):∀(m b e:Nat),l.length≤m+e→l.length≤b+e→lE l w a m e=lE l w a b e:=by
 intro m
 induction m with
 | zero =>
  intro b e h c;cases b with
  | zero=>rfl
  | succ b=>unfold lE;rw[io (by omega)]
 | succ m d =>
  intro b e h c;cases b with
  | zero=>grind
  | succ b =>
   grind[lE,ni]
theorem XU l w:∀m b a,l.length<m+a→l.length<b+a→bM l w m a=bM l w b a:=by
 intro m
 induction m with
 | zero =>
  intro b a h c;cases b with
  | zero=>rfl
  | succ b=>grind[bM]
 | succ m d =>
  intro b a h c;cases b with
  | zero=>grind
  | succ b =>
   grind[bM,xm,gr,ni]
theorem GQ l w:∀m a,(bM l w m a).length≤l.length-a
 | 0,a=>by simp[bM]
 | m+1,a=>by
  unfold bM;split
  ·have:=GQ l w m (lE l w a l.length (gr l (a+1)))
   grind[xm,gr,ni]
  grind
section
variable{K:Kn}{n:Nat}{L:dO}{w:Int}
theorem abn(u:L.length<n)(r:(L.length:Int)<9223372036854775807)(a:Nat)(b:b5)(C:Int→b5→Option b5):∀(m e:Nat),1≤e→a≤e→e≤L.length→L.length<m+e →
  AP K n L w a b C m e=C ((lE (L.map vI) w a m e:Nat):Int) (b++[(a:Int)]):=by
 intro m
 induction m with
 | zero=>intro e j o p q;omega
 | succ m y =>
  intro e j o p q;show zi K n L w a b C (AP K n L w a b C m) e=_;unfold zi lE;by_cases d:e<L.length
  ·rw[iF (by simpa using d),bT (by omega) (by omega),dT (by omega) (by omega),bi];unfold uf;have h:((e:Int)-1).toNat=e-1:=by omega
   have x:=zk (L:=L) (k:=e-1) (by omega);have g:((L.map vI).getD (e-1) default).f=(L.getD ((e:Int)-1).toNat default).Forced:=by
    rw[cm (by simp;omega),x,h];rfl
   cases f:(L.getD ((e:Int)-1).toNat default).Forced with
   | true =>
    rw[show(!true)=false from rfl,io (by simp),io (by rw[g,f];simp)];rfl
   | false =>
    have s:=yi (l:=L.map vI) (i:=e+1) (by simp;omega);have t:=ni (L.map vI) (e+1);simp only[lp]at s;rw[show(!false)=true from rfl,iF rfl,HQ (by omega) (by omega) u r];simp only[go,Int.toNat_natCast];rw[show cT (a:Int) ((gr (L.map vI) (e+1):Nat):Int) L.length=true by simp only[cT,g6,ob];omega,bi];have v:List.drop a (List.take (gr (L.map vI) (e+1)) L)=sl L a (gr (L.map vI) (e+1)):=rfl;rw[v,Cc (by have:=uj L a (gr (L.map vI) (e+1));omega) (by have:=uj L a (gr (L.map vI) (e+1));omega),Jj];simp only[go];by_cases c:fw (sl (L.map vI) a (gr (L.map vI) (e+1)))>w
    ·rw[iF (by simpa using c),io (by simp[c])];rfl
    ·rw[io (by simpa using c),iF ⟨by simpa using d,by rw[g,f],c⟩];exact y _ (by omega) (by omega) (by omega) (by omega)
  ·rw[io (by simpa using d),io (by simp;omega)];unfold uf;rw[io (by simp)];rfl
theorem adj(f:L.length<n)(r:(L.length:Int)≤1000000):∀(m a:Nat) (b:b5),a≤L.length→b.length≤a→L.length<m+a→zF K n L w m a b=some (b++(bM (L.map vI) w m a).map fun (k:Nat)=>(k:Int)):=by
 intro m
 induction m with
 | zero=>intro a b g h j;omega
 | succ m q =>
  intro a b g h j;show Ba K n L w (zF K n L w m) a b=_;unfold Ba bM;by_cases e:a<L.length
  ·rw[iF (by simpa using e),iF (by simpa using e),de (by simp;omega) (by omega),bi,HQ (by omega) (by omega) f (by omega)];simp only[go,Int.toNat_natCast];have c:=yi (l:=L.map vI) (i:=a+1) (by simp;omega);have p:=ni (L.map vI) (a+1);simp only[lp]at c;rw[abn f (by omega) a b _ n _ (by omega) (by omega) c (by omega)];rw[acG (L.map vI) w a n (L.map vI).length _ (by simp;omega) (by simp)];have d:=Gr (L.map vI) w a (L.map vI).length (gr (L.map vI) (a+1)) (by simpa using c);have o:=xm (L.map vI) w a (L.map vI).length (gr (L.map vI) (a+1));simp only[lp]at d o⊢;rw[q _ _ d (by simp;omega) (by omega)];simp[u3]
  grind
theorem YY(b:L.length<n)(a:(L.length:Int)≤1000000):z7 K n L w=some ((bM (L.map vI) w (L.length+1) 0).map fun (k:Nat)=>(k:Int)):=by
 unfold z7;rw[show(0:Int)=(0:Nat) from rfl,adj b a n 0 [] (by omega) (by simp) (by omega),XU (L.map vI) w n (L.length+1) 0 (by grind) (by simp)];simp
end
noncomputable section
def jl(o:Int):aS→dw→Nat
 | _,[]=>0
 | a,b::r=>bif b.Kind == 1&&(b.Of == o&&!pk a b) then jl o b r+1 else 0
theorem W0 o:∀l a,jl o a l≤l.length
 | [],_=>h7 _
 | b::r,a=>by
  unfold jl;cases (b.Kind == 1&&(b.Of == o&&!pk a b)) with
  | true=>have:=W0 o r b;grind
  | false=>simp
def Cp(p:Option aS)(e:aS):Bool:=match p with
 | none=>false
 | some q=>q.Kind != 2&&!pk q e
def runM(x:aQ)(e:aS)(g:Bool):aQ:={ x with Node:=e.Box.Node,Style:=e.Box.Style,Glued:=g }
def cM(pl:ag→aQ):Nat→Option aS→dw→dO
 | 0,_,_=>[]
 | _+1,_,[]=>[]
 | m+1,p,e::r =>
  bif e.Kind == 2 then runM { dX with Forced:=true } e (Cp p e)::cM pl m (some e) r
  else bif e.Kind == 3 then runM (pl e.Box) e (Cp p e)::cM pl m (some e) r
  else runM (iG (e::r.take (jl e.Of e r))) e (Cp p e)::cM pl m (some (mQ (e::r.take (jl e.Of e r)))) (r.drop (jl e.Of e r))
def mB(L:dw)(i:Nat):Option aS:=if i=0 then none else some (L.getD (i-1) default)
theorem afb{α:Type}[Inhabited α]{L:List α}{i k:Nat}(h:i<L.length):sl L i (i+1+k)=L.getD i default::(L.drop (i+1)).take k:=by
 unfold sl;rw[List.drop_take,show i+1+k-i=k+1 by omega,kp h,amR,cm h]
theorem Je{α}{L:List α}{a b}{x}(h:x∈sl L a b):x∈L:=by
 grind[sl]
theorem adD{α}{L:List α}{a b}(h:b≤L.length):(sl L a b).length=b-a:=by grind[sl]
theorem Xp{L:dw}{i k}(h:i+k<L.length):mQ (L.getD i default::(L.drop (i+1)).take k)=L.getD (i+k) default:=by
 grind[mQ,sl]
section
variable{K:Kn}{n:Nat}{L:dw}{pl:ag→aQ}
theorem abd(q:∀e∈L,pQ e)(G:L.length≤2000)(z:8010≤n)(i:Nat)(c:dO)(g:Bool)(C:Int→dO→Option dO)(E:i<L.length):∀(m x:Nat),i<x→x≤L.length→L.length<m+x →
  uV K n L (i:Int) c g C m (x:Int)=nV K n L i c g C ((x+jl (L.getD i default).Of (L.getD (x-1) default) (L.drop x):Nat):Int) (iG (sl L i (x+jl (L.getD i default).Of (L.getD (x-1) default) (L.drop x)))):=by
 have h:∀y:Nat,i<y→y≤L.length→∀(D:Int→Option dO),mE K n L (i:Int) c g (y:Int) C D false=nV K n L i c g C (y:Int) (iG (sl L i y)):=fun y l j D=>by
  unfold mE;have r:List.drop i (List.take y L)=sl L i y:=rfl;have d:=adD (L:=L) (a:=i) (b:=y) j;rw[io (by simp),show cT (i:Int) (y:Int) L.length=true by simp only[cT,g6,ob];omega,bi];simp only[Int.toNat_natCast];rw[r,ak1 (by intro e;rw[e]at d;simp at d;omega) (by omega) (fun e w=>q e (Je w)) z];rfl
 intro m
 induction m with
 | zero=>intro x l j t;omega
 | succ m B =>
  intro x l j t;show AZ K n L i c g C (uV K n L i c g C m) x=_;unfold AZ;by_cases k:x<L.length
  ·have p:L.drop x=L.getD x default::L.drop (x+1):=by rw[kp k,cm k]
   have o:L.getD x default∈L:=by rw[cm k];exact sj _
   have u:L.getD (x-1) default∈L:=by rw[cm (by omega)];exact sj _
   have s:aa ((x:Int)-1)=((x-1:Nat):Int):=by rw[bT (by omega) (by omega)];omega
   rw[iF (by simpa using k),dT (by omega) (by omega)];simp only[bi,Int.toNat_natCast,s];rw[p];unfold jl;have f:∀{b:Bool},b=false→mE K n L (i:Int) c g (x:Int) C (uV K n L i c g C m) false=nV K n L i c g C ((x+(bif b then jl (L.getD i default).Of (L.getD x default) (L.drop (x+1))+1 else 0):Nat):Int) (iG (sl L i (x+(bif b then jl (L.getD i default).Of (L.getD x default) (L.drop (x+1))+1 else 0)))):=fun {b} o=>by
    subst o;exact h x l j _
   cases F:((L.getD x default).Kind == 1) with
   | false=>rw[io (by simp)];exact f rfl
   | true =>
    rw[iF rfl];cases A:((L.getD x default).Of == (L.getD i default).Of) with
    | false=>rw[io (by simp)];exact f rfl
    | true =>
     rw[iF rfl,dT (by omega) (by omega),bi,WS K (by omega) (q _ u).ch (q _ o).ch];simp only[go];cases v:pk (L.getD (x-1) default) (L.getD x default) with
     | true=>exact f rfl
     | false =>
      unfold mE;rw[show(!false)=true from rfl,iF rfl,bT (by omega) (by omega),show(x:Int)+1=((x+1:Nat):Int) by omega,B (x+1) (by omega) (by omega) (by omega)];simp only[amc,Bool.and_self,cond_true];rw[show x+1+jl (L.getD i default).Of (L.getD x default) (L.drop (x+1))=x+(jl (L.getD i default).Of (L.getD x default) (L.drop (x+1))+1) by omega]
  ·rw[io (by simpa using k),la (by omega)];unfold jl;exact h x l j _
theorem U3(i:Nat)(a:dO)(g:Bool)(C:Int→dO→Option dO)(b:a.length≤1000000)(y:Int)(x:aQ):nV K n L (i:Int) a g C y x=C y (a++[runM x (L.getD i default) g]):=by
 unfold nV;simp only[go,Int.toNat_natCast];rw[de (by simp;omega) (by omega),bi];rfl
theorem aju(l:∀e∈L,pQ e)(z:L.length≤2000)(A:8010≤n)(o:∀e∈L,e.Kind≠3):∀(m i:Nat) (a:dO),i≤L.length→L.length<m+i→a.length≤i →
  tf K n L m (i:Int) a=some (a++cM pl m (mB L i) (L.drop i)):=by
 intro m
 induction m with
 | zero=>intro i a u v;omega
 | succ m s =>
  intro i a u v C;show Bh K n L (tf K n L m) i a=_;unfold Bh;by_cases b:i<L.length
  ·have h:L.drop i=L.getD i default::L.drop (i+1):=by rw[kp b,cm b]
   have q:L.getD i default∈L:=by rw[cm b];exact sj _
   rw[iF (by simpa using b),dT (by omega) (by omega)];simp only[bi,Int.toNat_natCast];rw[h];have r:aa ((i:Int)+1)=((i+1:Nat):Int):=by rw[bT (by omega) (by omega)];omega
   have c:mB L (i+1)=some (L.getD i default):=by unfold mB;rw[io (by omega),amc]
   have key:∀g,g=Cp (mB L i) (L.getD i default)→qz K n L (i:Int) a (tf K n L m) g=some (a++cM pl (m+1) (mB L i) (L.getD i default::L.drop (i+1))):=by
    intro g x;unfold qz cM;simp only[go,Int.toNat_natCast];rw[←x];cases D:((L.getD i default).Kind == 2) with
    | true =>
     rw[iF rfl,U3 i a g _ (by omega),r,s (i+1) _ (by omega) (by omega) (by simp;omega),c];simp[u3]
    | false =>
     rw[io (by simp)];cases B:((L.getD i default).Kind == 3) with
     | true=>exact absurd (by simpa using B) (o _ q)
     | false =>
      rw[io (by simp),r,abd l z A i a g _ b n (i+1) (by omega) (by omega) (by omega),amc];simp only[anh];have y:=W0 (L.getD i default).Of (L.drop (i+1)) (L.getD i default);rw[ah0]at y;generalize jl (L.getD i default).Of (L.getD i default) (L.drop (i+1))=k at *;rw[U3 i a g _ (by omega),s (i+1+k) _ (by omega) (by omega) (by simp;omega),afb b,Xp (by omega),am6];have f:mB L (i+1+k)=some (L.getD (i+k) default):=by unfold mB;rw[io (by omega)];congr 2;omega
      rw[f];simp[u3]
   by_cases p:i=0
   ·rw[io (by simp;omega)];exact key false (by unfold mB;rw[iF p];rfl)
   ·have w:L.getD (i-1) default∈L:=by rw[cm (by omega)];exact sj _
    have t:aa ((i:Int)-1)=((i-1:Nat):Int):=by rw[bT (by omega) (by omega)];omega
    have f:mB L i=some (L.getD (i-1) default):=by unfold mB;rw[io p]
    rw[iF (by simp;omega),t,dT (by omega) (by omega)];simp only[bi,Int.toNat_natCast];by_cases d:((L.getD (i-1) default).Kind != 2)=true
    ·rw[iF d,WS K (by omega) (l _ w).ch (l _ q).ch];simp only[go];exact key _ (by rw[f];show _=((L.getD (i-1) default).Kind != 2&&!pk (L.getD (i-1) default) (L.getD i default));rw[d];rfl)
    ·rw[io d];have j:((L.getD (i-1) default).Kind != 2)=false:=by simpa using d
     exact key false (by rw[f];show _=((L.getD (i-1) default).Kind != 2&&!pk (L.getD (i-1) default) (L.getD i default));rw[j];rfl)
  ·rw[io (by simpa using b),la (by omega)];simp[cM]
theorem aeR(pl:ag→aQ):∀(m a:Nat) (p:Option aS) (l:dw),l.length<m→l.length<a→cM pl m p l=cM pl a p l:=by
 intro m
 induction m with
 | zero=>intro a p l h;omega
 | succ m b =>
  intro a p l h c;cases a with
  | zero=>omega
  | succ a =>
   cases l with
   | nil=>rfl
   | cons e r =>
    simp only[iN]at h c;unfold cM;rw[b a (some e) r (by omega) (by omega),b a _ (r.drop (jl e.Of e r)) (by simp;omega) (by simp;omega)]
theorem agf(pl:ag→aQ):∀(m:Nat) (p:Option aS) (l:dw),(cM pl m p l).length≤l.length:=by
 intro m
 induction m with
 | zero=>intro p l;simp[cM]
 | succ m a =>
  intro p l;cases l with
  | nil=>simp[cM]
  | cons e r =>
   unfold cM;have c:=a (some e) r;have b:=a (some (mQ (e::r.take (jl e.Of e r)))) (r.drop (jl e.Of e r));rw[ah0]at b;cases (e.Kind == 2) with
   | true=>simp;omega
   | false =>
    cases (e.Kind == 3) with
    | true=>simp;omega
    | false=>simp;omega
def xT(pl:ag→aQ)(L:dw):dO:=cM pl (L.length+1) none L
end
theorem Oz{N d:Nat}{B:dn}{pl:ag→aQ}(c:Dp d B)(g:eJ d B≤2000)(f:d+9000≤N)(a:∀e∈lv d B,e.Kind≠3):
  nj (KN N) N B ()=some (xT pl (lv d B)):=by
 have b:=JU d B;unfold nj;rw[Ys c (by omega) (by omega)];simp only[go];rw[show(0:Int)=((0:Nat):Int) from rfl,aju (pl:=pl) (Nt d B) (by omega) (by omega) a N 0 [] (by omega) (by omega) (by simp),Do,Dy];unfold xT;rw[aeR pl N ((lv d B).length+1) _ _ (by omega) (by omega)];rfl
end
noncomputable section
theorem BL(b:ByteArray):b.toList=b.data.toList:=ByteArray.toList_eq b
theorem ah4:(⟨#[]⟩:ByteArray).toList=[]:=by rw[BL]
def lG(b:ByteArray):Bool:=b.data.toList.getLast? == some 32
theorem ajf(K:Kn)(n:Nat){b:ByteArray}(i:b.size≤1000000):xN K n b ⟨#[32]⟩=some (lG b):=by
 have g:(⟨#[32]⟩:ByteArray).size=1:=rfl;unfold xN Ek Av lG;rw[g];by_cases h:1≤b.size
 ·have d:aa ((b.size:Int)-((1:Nat):Int))=((b.size-1:Nat):Int):=by rw[bT (by omega) (by omega)];omega
  rw[iF (by simp;omega),d,show cT ((b.size-1:Nat):Int) (b.size:Int) b.size=true by simp only[cT,g6,ob];omega,bi];simp only[go,Int.toNat_natCast];rw[BL,BL,ByteArray.data_extract,Array.toList_extract];have c:b.data.toList.length=b.size:=rfl;generalize b.data.toList=l at c;rw[←c]at h⊢;have a:l≠[]:=by intro e;rw[e]at h;simp at h
  have:(l.take l.length).drop (l.length-1)=[l.getLast a]:=by
   rw[alR]
   conv=>lhs;rw[←amO a]
   rw[kc,List.length_dropLast];simp
  rw[List.extract_eq_drop_take,List.getLast?_eq_some_getLast a];have f:List.take (l.length-(l.length-1)) (List.drop (l.length-1) l)=[l.getLast a]:=by
   rw[←this,alR,Dk (by simp)]
  rw[f];show some ([l.getLast a] == [32])=some (some (l.getLast a) == some 32);congr 1;cases j:(l.getLast a == 32)<;>simp_all
 simp_all
def sY(b:ByteArray):ByteArray:=b.extract 0 (b.size-1)
def stripR(r:aQ):aQ:=bif lG r.Text&&r.Style.WhiteSpace != 2 then { r with Text:=sY r.Text,Space:=0 } else r
def Hz(a x:Int)(b:ab):ab:={ b with X:=aa (b.X+x),Y:=aa (b.Y+(aa ((aa (a-b.H))-aa (b.After.Pos+b.After.Neg)))) }
def Ht(s:Int):Int:=min (max s 0) 1048576
def afi(s:Int):Int:=aa (Ht s+(aa (Int.tdiv (aa (Ht s+3)) 4)))
def A9(a x:Int)(r:aQ):b7:=bif r.Text.data.toList.isEmpty then [] else [⟨3,r.Node,x,aa (a-Ht r.Style.FontSize),aa (r.Width+r.Space),afi r.Style.FontSize,0,r.Text,r.Style,dD,dD,false,[]⟩]
def kP(a x:Int)(r:aQ):b7:=A9 a x r++r.Box.map (Hz a x)
def gm(a b:Int):Int→Int→dO→b7
 | _,_,[]=>[]
 | i,x,r::t =>
  let c:=bif i == b then stripR r else r
  kP a x c++gm a b (i+1) (aa (x+aa (c.Width+c.Space))) t
section
variable{K:Kn}{n:Nat}{L:dO}{s:aO}{w a d e:Int}
theorem ahV(r:aQ)(i:Int)(C:Int→Int→b7→Option ab)(x:Int)(o:r.Box.length≤1000):∀(m j:Nat) (b:b7),j≤r.Box.length→r.Box.length<m+j→b.length≤1000000+j →
  AA K n L s w a d e x i r C m (j:Int) b=C (aa (x+aa (r.Width+r.Space))) (aa (i+1)) (b++(r.Box.drop j).map (Hz a x)):=by
 intro m
 induction m with
 | zero=>intro j b f g;omega
 | succ m k =>
  intro j b f g l;show zf K n L s w a d e x i r C (AA K n L s w a d e x i r C m) j b=_;unfold zf;by_cases c:j<r.Box.length
  ·have h:r.Box.drop j=r.Box.getD j default::r.Box.drop (j+1):=by rw[kp c,cm c]
   rw[iF (by simpa using c),dT (by omega) (by omega)];simp only[bi,go,Int.toNat_natCast,gK];rw[de (by simp;omega) (by omega),bi,bT (n:=(j:Int)+1) (by omega) (by omega),show(j:Int)+1=((j+1:Nat):Int) by omega,k (j+1) _ (by omega) (by omega) (by simp;omega),h,n5];rw[u3];rfl
  ·rw[io (by simpa using c),la (by omega)];simp
theorem aik(r:aQ)(i:Int)(C:Int→Int→b7→Option ab)(x:Int)(j:r.Box.length≤1000)(m:1001≤n)(f:b7)(k:f.length≤900000):
  ov K n L s w a d e x i f C r=C (aa (x+aa (r.Width+r.Space))) (aa (i+1)) (f++kP a x r):=by
 unfold ov;rw[BL,ah4];simp only[go];have g:∀c:b7,c.length≤1000000→uQ K n L s w a d e x i r C c=C (aa (x+aa (r.Width+r.Space))) (aa (i+1)) (c++r.Box.map (Hz a x)):=fun c h=>by
  unfold uQ;rw[show(0:Int)=((0:Nat):Int) from rfl,ahV r i C x j n 0 c (by omega) (by omega) (by omega),Do]
 unfold kP A9;cases l:r.Text.data.toList with
 | nil =>
  rw[io (by simp),g f (by omega)];simp
 | cons b t =>
  rw[iF (by simp)];simp only[za,wL,rU,go];rw[de (by simp;omega) (by omega),bi,g _ (by simp;omega)];simp only[List.isEmpty_cons,anh,u3];rfl
theorem acR(D:∀r∈L,r.Box.length≤1∧r.Text.size≤100000)(O:L.length≤2000)(P:2002≤n):∀(m i:Nat) (x:Int) (b:b7),i≤L.length→L.length<m+i→b.length≤2*i →
  py K n L s w a d e m x (i:Int) b=some { bU with Kind:=2,W:=w,H:=aa (a+d),az:=a,Style:=s,Kids:=b++gm a e i x (L.drop i) }:=by
 intro m
 induction m with
 | zero=>intro i x b B C;omega
 | succ m J =>
  intro i x b B C N;show y3 K n L s w a d e (py K n L s w a d e m) x i b=_;unfold y3;by_cases l:i<L.length
  ·have E:L.drop i=L.getD i default::L.drop (i+1):=by rw[kp l,cm l]
   have F:L.getD i default∈L:=by rw[cm l];exact sj _
   obtain⟨u,M⟩:=D _ F;have v:aa ((i:Int)+1)=((i+1:Nat):Int):=by rw[bT (by omega) (by omega)];omega
   rw[iF (by simpa using l),dT (by omega) (by omega),bi];simp only[Int.toNat_natCast];have rl:∀(y:Int) (r:aQ),r.Box.length≤1→(kP a y r).length≤2:=fun y r h=>by
    unfold kP A9;cases r.Text.data.toList.isEmpty<;>simp<;>omega
   have step:∀g:aQ,g.Box=(L.getD i default).Box→ov K n L s w a d e x i b (py K n L s w a d e m) g=some { bU with Kind:=2,W:=w,H:=aa (a+d),az:=a,Style:=s,Kids:=b++(kP a x g++gm a e ((i:Int)+1) (aa (x+aa (g.Width+g.Space))) (L.drop (i+1))) }:=fun g q=>by
    have G:=rl x g (by rw[q];exact u);rw[aik g i _ x (by rw[q];omega) (by omega) b (by omega),v,J (i+1) _ _ (by omega) (by omega) (by simp;omega)];rw[u3];rfl
   rw[E];unfold gm;by_cases f:(i:Int)=e
   ·rw[iF (by simpa using f),ajf K n (by omega)];simp only[go];rw[show((i:Int) == e)=true by simpa using f];simp only[cond_true];have t:∀c:Bool,pI K n L s w a d e x i b (py K n L s w a d e m) (lG (L.getD i default).Text&&c)=ov K n L s w a d e x i b (py K n L s w a d e m) (bif lG (L.getD i default).Text&&c then { L.getD i default with Text:=sY (L.getD i default).Text,Space:=0 } else L.getD i default):=fun c=>by
     unfold pI;simp only[Int.toNat_natCast];cases j:lG (L.getD i default).Text with
     | false=>rw[io (by simp)];rfl
     | true =>
      cases c with
      | false=>rw[io (by simp)];rfl
      | true =>
       have I:1≤(L.getD i default).Text.size:=by
        unfold lG at j;rcases Nat.eq_zero_or_pos (L.getD i default).Text.size with o|o
        ·have:(L.getD i default).Text.data.toList=[]:=ne (by rw[B4];exact o);rw[this]at j;simp at j
        ·exact o
       have z:aa (((L.getD i default).Text.size:Int)-1)=(((L.getD i default).Text.size-1:Nat):Int):=by rw[bT (by omega) (by omega)];omega
       rw[iF (show(true&&true)=true from rfl),z,show cT (0:Int) (((L.getD i default).Text.size-1:Nat):Int) (L.getD i default).Text.size=true by simp only[cT,g6,ob];omega,bi];simp only[Int.toNat_natCast,Int.toNat_zero];rfl
    have p:stripR (L.getD i default)=(bif lG (L.getD i default).Text&&(L.getD i default).Style.WhiteSpace != 2 then { L.getD i default with Text:=sY (L.getD i default).Text,Space:=0 } else L.getD i default):=rfl;rw[p];have k:∀c:Bool,(bif c then { L.getD i default with Text:=sY (L.getD i default).Text,Space:=0 } else L.getD i default:aQ).Box=(L.getD i default).Box:=fun c=>by cases c<;>rfl
    cases j:lG (L.getD i default).Text with
    | true =>
     rw[iF rfl];have:=t ((L.getD i default).Style.WhiteSpace != 2);rw[j,amL]at this;rw[this,amL];exact step _ (k _)
    | false =>
     rw[io (by simp)];have:=t false;rw[j,Bool.false_and]at this;rw[this,Bool.false_and];exact step _ rfl
   ·rw[io (by simpa using f)];have A:((i:Int) == e)=false:=by simpa using f
    rw[A];unfold pI;rw[io (by simp)];simp only[Int.toNat_natCast,anh];exact step _ rfl
  grind[gm]
end
def jL:Int×Int→dO→Int×Int
 | p,[]=>p
 | p,r::t=>jL (bif r.Forced then p else (max p.1 r.Above,max p.2 r.Below)) t
theorem abI p r t:jL p (r::t)=jL (bif r.Forced then p else (max p.1 r.Above,max p.2 r.Below)) t:=rfl
def rY(i a:Int):dO→Int
 | []=>a
 | r::t=>rY (i+1) (bif r.Forced then a else i) t
def sy(L:dO):Int:=rY 0 (-1) L
def rR(s:aO)(w u:Int):Int:=(su (KN 0) 0 s w u).getD 0
def jW(s:aO)(w:Int)(L:dO):ab :=
 { bU with Kind:=2,W:=w,H:=aa ((jL (jQ s) L).1+(jL (jQ s) L).2),az:=(jL (jQ s) L).1,Style:=s,Kids:=[]++gm (jL (jQ s) L).1 (sy L) 0 (rR s w (fw (L.map vI))) L }
theorem Nm:∀a r i b,rY i b (a++[r])=bif r.Forced then rY i b a else i+a.length
 | [],r,i,b=>by simp[rY]
 | x::t,r,i,b=>by
  simp only[RX,rY];rw[Nm t r (i+1)]
  grind
theorem agZ K n s w u:su K n s w u=some (rR s w u):=by
 grind[su,rR]
section
variable{K:Kn}{n:Nat}{L:dO}{s:aO}{w:Int}
theorem adI:∀(m k:Nat),k≤L.length→k<m→(L.length:Int)<9223372036854775807→rT K n L m ((k:Int)-1)=some (rY 0 (-1) (L.take k)):=by
 intro m
 induction m with
 | zero=>intro k _ h;omega
 | succ m f =>
  intro k i j b;show ru K n L (rT K n L m) ((k:Int)-1)=_;unfold ru;cases k with
  | zero=>rw[io (by simp)];rfl
  | succ k =>
   have e:(((k+1:Nat):Int)-1)=(k:Int):=by omega
   have a:k<L.length:=by omega
   have d:L.take (k+1)=L.take k++[L.getD k default]:=by
    rw[ang,h6 a,cm a];rfl
   rw[e,iF (by simp),dT (by omega) (by omega),bi,Int.toNat_natCast,d,Nm];have c:(L.take k).length=k:=by simp;omega
   cases g:(L.getD k default).Forced with
   | false=>rw[show(!false)=true from rfl,iF rfl,c];simp
   | true=>rw[show(!true)=false from rfl,io (by simp),bT (by omega) (by omega),f k (by omega) (by omega) b];rfl
theorem afP(b:L.length<n)(a:(L.length:Int)<9223372036854775807):pG K n L=some (sy L):=by
 unfold pG;rw[bT (by omega) (by omega),adI n L.length (by omega) b a,alR];rfl
theorem adZ(h:∀r∈L,r.Box.length≤1∧r.Text.size≤100000)(k:L.length≤2000)(l:2002≤n):∀(m i:Nat) (p:Int×Int),i≤L.length→L.length<m+i→jL (jQ s) L=jL p (L.drop i)→wJ K n L s w m p.1 p.2 (i:Int)=some (jW s w L):=by
 intro m
 induction m with
 | zero=>intro i p f g;omega
 | succ m d =>
  intro i p f g a;show yH K n L s w (wJ K n L s w m) p.1 p.2 i=_;unfold yH;by_cases b:i<L.length
  ·have j:L.drop i=L.getD i default::L.drop (i+1):=by rw[kp b,cm b]
   rw[j,abI]at a;have e:aa ((i:Int)+1)=((i+1:Nat):Int):=by rw[bT (by omega) (by omega)];omega
   rw[iF (by simpa using b),dT (by omega) (by omega),bi];simp only[Int.toNat_natCast];unfold A5;rw[e];cases c:(L.getD i default).Forced with
   | false =>
    rw[c]at a;rw[show(!false)=true from rfl,iF rfl];exact d (i+1) (_,_) (by omega) (by omega) a
   | true =>
    rw[c]at a;rw[show(!true)=false from rfl,io (by simp)];exact d (i+1) p (by omega) (by omega) a
  ·rw[la (by omega)]at a;have a:jL (jQ s) L=p:=a;rw[io (by simpa using b),Cc (by omega) (by omega)];simp only[go,agZ];rw[afP (by omega) (by omega)];simp only[go];rw[show(0:Int)=((0:Nat):Int) from rfl,acR h k l n 0 _ [] (by omega) (by omega) (by simp),Do];unfold jW;rw[a];rfl
theorem alM(a:∀r∈L,r.Box.length≤1∧r.Text.size≤100000)(b:L.length≤2000)(c:2002≤n):ET K n L s w=some (jW s w L):=by
 exact adZ a b c n 0 (jQ s) (by omega) (by omega) rfl
end
def gW(s:aO)(w:Int)(X:dO):Int→d4→b7×Int
 | h,a::b::r =>
  let f:=jW s w (sl X a b)
  let q:=gW s w X (aa (h+f.H)) (b::r)
  ({ f with Y:=h }::q.1,q.2)
 | h,_=>([],h)
theorem WA s w X:∀S h,(gW s w X h S).1.length≤S.length
 | [],h=>by simp[gW]
 | [a],h=>by simp[gW]
 | a::b::r,h=>by
  have:=WA s w X (b::r) (aa (h+(jW s w (sl X a b)).H))
  grind[gW]
section
variable{K:Kn}{n:Nat}{X:dO}{s:aO}{w:Int}
def Asc(N:Nat):d4→Prop
 | a::b::r=>a≤b∧b≤N∧Asc N (b::r)
 | _=>True
theorem VF{N}:∀{S},Asc N S→∀i,i+1<S.length→S.getD i 0≤S.getD (i+1) 0∧S.getD (i+1) 0≤N
 | [],_,i,h=>by grind
 | [a],_,i,h=>by grind
 | a::b::r,h,0,_=>⟨h.1,h.2.1⟩
 | a::b::r,h,i+1,c=>by
  have:=VF h.2.2 i (by grind)
  grind
theorem Xy(C:∀r∈X,r.Box.length≤1∧r.Text.size≤100000)(J:X.length≤2000)(L:2010≤n)(v:Int)(D:min (max v 0) 1048576=w)(c S:d4)(A:S=c++[X.length])(z:Asc X.length S)(B:S.length≤2001):∀(m i:Nat) (h:Int) (a:b7),i<S.length→S.length<m+i→a.length≤i →
  AX K n s v X (c.map fun (k:Nat)=>(k:Int)) m h ((S.length-1:Nat):Int) (i:Int) a=some (a++(gW s w X h (S.drop i)).1,(gW s w X h (S.drop i)).2):=by
 have g:(c.map fun (k:Nat)=>(k:Int))++[(X.length:Int)]=S.map fun (k:Nat)=>(k:Int):=by rw[A];simp
 have b:∀j,j<S.length→(S.map fun (k:Nat)=>(k:Int)).getD j default=((S.getD j 0:Nat):Int):=fun j p=>by
  rw[cm (by simpa using p),amb];congr 1;simp[List.getD,p]
 intro m
 induction m with
 | zero=>intro i h a e y;omega
 | succ m E =>
  intro i h a e y H;show xq K n s v X (c.map fun (k:Nat)=>(k:Int)) (AX K n s v X (c.map fun (k:Nat)=>(k:Int)) m) h ((S.length-1:Nat):Int) i a=_;unfold xq;have t:aa ((i:Int)+1)=((i+1:Nat):Int):=by rw[bT (by omega) (by omega)];omega
  rw[g,t];have o:S.drop i=S.getD i 0::S.drop (i+1):=by rw[kp e];congr 1;simp[List.getD,e]
  by_cases f:i+1<S.length
  ·have u:=b i e;have x:=b (i+1) f;obtain⟨F,G⟩:=VF z i f;have d:S.drop (i+1)=S.getD (i+1) 0::S.drop (i+2):=by rw[kp f];congr 1;simp[List.getD,f]
   rw[iF (by simp;omega),dT (by omega) (by simp;omega),bi,dT (by omega) (by simp;omega),bi];simp only[Int.toNat_natCast,u,x];rw[show cT ((S.getD i 0:Nat):Int) ((S.getD (i+1) 0:Nat):Int) X.length=true by simp only[cT,g6,ob];omega,bi];have l:List.drop (S.getD i 0) (List.take (S.getD (i+1) 0) X)=sl X (S.getD i 0) (S.getD (i+1) 0):=rfl;have I:=uj X (S.getD i 0) (S.getD (i+1) 0);rw[l,D,alM (fun r q=>C r (by unfold sl at q;exact nk (tl q))) (by omega) (by omega)];simp only[go];rw[de (by simp;omega) (by omega),bi,E (i+1) _ _ (by omega) (by omega) (by simp;omega),o,d]
   conv=>rhs;unfold gW
   rw[←d];simp[u3]
  ·rw[io (by simp;omega),o,la (by omega)];simp[gW]
end
end
noncomputable section
theorem akF(l:List R4)(w:Int)(m a:Nat)(b:a≤l.length)(c:l.length<m+a):∃r,bM l w m a++[l.length]=a::r:=by
 cases m with
 | zero=>omega
 | succ m =>
  unfold bM;by_cases h:a<l.length
  ·rw[iF h];exact⟨_,rfl⟩
  ·rw[io h];exact⟨[],by rw[Dy,show a=l.length by omega]⟩
theorem ajz(l:List R4)(w:Int):∀(m a:Nat),a≤l.length→l.length<m+a→Asc l.length (bM l w m a++[l.length]):=by
 intro m
 induction m with
 | zero=>intro a d e;omega
 | succ m g =>
  intro a d e;unfold bM;by_cases h:a<l.length
  ·rw[iF h];have j:=yi (l:=l) (i:=a+1) (by omega);have k:=ni l (a+1);have b:=Gr l w a l.length _ j;have n:=xm l w a l.length (gr l (a+1));have c:=g (lE l w a l.length (gr l (a+1))) b (by omega);obtain⟨r,f⟩:=akF l w m (lE l w a l.length (gr l (a+1))) b (by omega);rw[RX];rw[f]at c⊢;exact⟨by omega,b,c⟩
  ·rw[io h];trivial
theorem Sl{P:aQ→Prop}{pl:ag→aQ}(q:∀e g,P (runM { dX with Forced:=true } e g)):∀(m:Nat) (p:Option aS) (l:dw),(∀e∈l,e.Kind=3→∀g,P (runM (pl e.Box) e g))→(∀e g (x:dw),x≠[]→x.length≤l.length→(∀y∈x,y∈l)→P (runM (iG x) e g))→∀r∈cM pl m p l,P r:=by
 intro m
 induction m with
 | zero=>intro p l _ _ r a;cases a
 | succ m j =>
  intro p l h i r a;cases l with
  | nil=>cases a
  | cons e t =>
   unfold cM at a;cases k:(e.Kind == 2) with
   | true =>
    rw[k]at a;rcases l3.1 a with rfl|a
    ·exact q _ _
    ·exact j (some e) t (fun e c=>h e (by simp[c])) (fun e g x d o f=>i e g x d (by simp;omega) (fun y b=>by simp[f y b])) r a
   | false =>
    cases n:(e.Kind == 3) with
    | true =>
     rw[k,n]at a;rcases l3.1 a with rfl|a
     ·exact h e (by simp) (by simpa using n) _
     ·exact j (some e) t (fun e c=>h e (by simp[c])) (fun e g x d o f=>i e g x d (by simp;omega) (fun y b=>by simp[f y b])) r a
    | false =>
     rw[k,n]at a;rcases l3.1 a with rfl|a
     ·refine i _ _ _ (by simp) (by simp;omega) (fun y b=>?_);rcases l3.1 b with rfl|b
      ·simp
      ·exact nw _ (nk b)
     ·refine j _ _ (fun e c=>h e (nw _ (tl c))) (fun e g x d o f=>i e g x d (by simp at o⊢;omega) (fun y b=>nw _ (tl (f y b)))) r a
theorem aaz{x:dw}(h:∀e∈x,pQ e):(iG x).Text.size≤4*x.length:=by
 have:=B3 (Lq h);unfold iG;simp only[];rw[CU];have:(dd x).length=x.length:=by unfold dd;simp
 omega
def gy(v:Int):Int:=min (max v 0) 1048576
def kC(X:dO)(w:Int):d4:=bM (X.map vI) w (X.length+1) 0++[X.length]
def gq(L:dn):Prop:=∀b∈L,b.Kind=3
theorem ajc:∀(L:dn) (s:Int×dw),gq L→(∀x∈s.2,x.Kind≠3)→∀x∈(vM 1 L s).2,x.Kind≠3:=by
 intro L
 induction L with
 | nil=>intro s _ a;exact a
 | cons b r d =>
  intro s e a;rw[pN,amd,← pN];have f:=e b pe;refine d _ (fun c g=>e c (nw _ g)) ?_;unfold jo;rw[f];cases pJ b with
  | false=>exact a
  | true=>exact Iv (P:=fun x=>x.Kind≠3) b _ (fun _ _ _=>(by show(1:Int)≠3;decide)) (by show(2:Int)≠3;decide) (fun _=>(by show(1:Int)≠3;decide)) (fun _=>(by show(1:Int)≠3;decide)) _ _ Nr a
def DK(b:ag):aQ:=dX
def fU(a:dn):dO:=xT DK (lv 1 a)
theorem BK(a:dn):(fU a).length≤eJ 1 a:=by
 unfold fU xT;have b:=agf DK ((lv 1 a).length+1) none (lv 1 a);have c:=JU 1 a;omega
theorem Ez{a:dn}(h:gq a):∀e∈lv 1 a,e.Kind≠3:=ajc a (0,[]) h (fun x b=>by cases b)
theorem R9{a:dn}(h:gq a)(j:eJ 1 a≤2000):∀r∈fU a,r.Box.length≤1∧r.Text.size≤100000:=by
 have b:=JU 1 a;unfold fU xT;refine Sl (P:=fun r=>r.Box.length≤1∧r.Text.size≤100000) (fun e g=>⟨by simp[runM,dX],by show(⟨#[]⟩:ByteArray).size≤100000;decide⟩) _ _ _ (fun e d c g=>absurd c (Ez h e d)) (fun e g x k l i=>⟨by simp[runM,iG,dX],?_⟩);have:=aaz (x:=x) (fun y f=>Nt 1 a y (i y f));show(iG x).Text.size≤100000;omega
theorem SI{a:dn}(h:gq a)(d:a.length≤1000)(f:∀b∈a,b.Text.size≤1000):Dp 1 a:=by
 unfold Dp;exact⟨d,fun b c=>⟨f b c,fun e=>by rw[h b c]at e;cases e⟩⟩
theorem ajN{a:dn}(h:gq a)(d:a.length≤1000)(e:∀b∈a,b.Text.size≤1000)(c:eJ 1 a≤2000){N:Nat}(f:9001≤N)(w:Int)(env:bN):xl (KN N) N a w env=some (fU a):=by
 unfold xl;rw[show nj (KN N) N a _=_ from Oz (pl:=DK) (SI h d e) c (by omega) (Ez h)];rfl
def k8(a:dn)(s:aO)(v:Int):b7×Int:=gW s (gy v) (fU a) 0 (kC (fU a) (gy v))
theorem aeG{a:dn}(h:gq a)(o:a.length≤1000)(q:∀b∈a,b.Text.size≤1000)(j:eJ 1 a≤2000){N:Nat}(l:9001≤N)(s:aO)(v:Int)(env:bN):xw (KN N) N a s v env=some (k8 a s v):=by
 have p:=ajN h o q j l (gy v) env;have m:=BK a;have e:=R9 h j;unfold k8;generalize fU a=X at *;unfold xw;rw[show min (max v 0) 1048576=gy v from rfl,p];simp only[go];rw[YY (by omega) (by omega)];simp only[go];have f:=GQ (X.map vI) (gy v) (X.length+1) 0;simp only[lp]at f;rw[de (by simp;omega) (by omega),bi];have i:=ajz (X.map vI) (gy v) (X.length+1) 0 (by omega) (by simp);rw[lp]at i;have c:(kC X (gy v)).length≤2001:=by unfold kC;simp only[kc,iN,ro];omega
 have d:0<(kC X (gy v)).length:=by unfold kC;simp
 have g:(((bM (X.map vI) (gy v) (X.length+1) 0).map fun (k:Nat)=>(k:Int))++[(X.length:Int)]).length=(kC X (gy v)).length:=by unfold kC;simp
 rw[g,show aa (((kC X (gy v)).length:Int)-1)=(((kC X (gy v)).length-1:Nat):Int) by rw[bT (by omega) (by omega)];omega];have:=Xy (K:=KN N) (n:=N) (X:=X) (s:=s) (w:=gy v) e (by omega) (by omega) v rfl (bM (X.map vI) (gy v) (X.length+1) 0) (kC X (gy v)) rfl i c N 0 0 [] d (by omega) (by simp);rw[Do,Dy]at this;exact this
end
abbrev ct:=c6
def l5(b:Bool)(z:cb)(a:Int)(f:ab):ab :=
 if b=true then o4 { f with X:=aa (f.X+aa (z.Border.a3+z.Padding.a3)),Y:=aa (f.Y+aa (aa (z.Border.a0+z.Padding.a0)+a)) } z.Content
 else { f with X:=aa (f.X+aa (z.Border.a3+z.Padding.a3)),Y:=aa (f.Y+aa (aa (z.Border.a0+z.Padding.a0)+a)) }
theorem M3 b z a f:(l5 b z a f).Kids=f.Kids:=by
 grind[l5,Mt]
def mJ(b:ag)(z:cb)(e:Bool)(L:b7)(d:Int)(c a:bh)(f:Bool)(h:Int):ab :=
 ⟨1,b.Node,z.Margin.a3,0,aa (z.Content+aa (aa (aa (z.Border.a3+z.Padding.a3)+z.Border.a1)+z.Padding.a1)),aa (aa (aa (aa (h+z.Border.a0)+z.Padding.a0)+z.Border.a2)+z.Padding.a2),0,⟨#[]⟩,b.Style,c,a,f,L.map (l5 e z d)⟩
theorem Kh{α:Type}(A R:List α) x y:(A++x::R).set A.length y=A++y::R:=by
 grind
theorem H9{α:Type}(A R:List α) x d:(A++x::R).getD A.length d=x:=by grind
theorem W4(K:Kn)(n:Nat)(b:ag)(z:cb)(v6:dn×Bool)(L:b7)(l q:Int)(S:ct)(d:Int)(i h:bh)(j:Bool)(f H:Int)(w:L.length≤100000)(t:v6.2=true→v6.1.length=L.length∧∀k∈v6.1,fg k=true):
  ∀(m:Nat) (A R:b7),A.length+R.length=L.length→R.length<m→wC K n b z v6 L l q S d i h j f H m (A.length:Int) (A++R) =
   some (⟨1,b.Node,z.Margin.a3,0,aa (z.Content+f),H,0,⟨#[]⟩,b.Style,i,h,j,A++R.map (l5 v6.2 z d)⟩,l,q,S):=by
 intro m
 induction m with
 | zero=>intro A R _ p;omega
 | succ m u =>
  intro A R o p;simp only[wC,DP];cases R with
  | nil =>
   have e:A.length=L.length:=by simpa using o
   simp only[Fi (show L.length≤A.length by omega),hH,rv,u7]
  | cons x R =>
   simp only[iN]at o p;have s:A.length<L.length:=by omega
   have a:=u (A++[l5 v6.2 z d x]) R (by simp;omega) (by omega);simp only[u3,alP,kc,iN,ro,z5]at a;simp only[D8 s,wl,Int.toNat_natCast,Kh,H9,sB (show A.length<(A++x::R).length by simp),kc,iN,sB (show A.length<A.length+(R.length+1) by omega),bi,Ue,go,zN,xC,Nk,C9 (show A.length<1000000 by omega),n5];cases g:v6.2 with
   | false =>
    rw[g]at a;simp only[hH,rv];simp only[l5,hH,rv]at a⊢;exact a
   | true =>
    rw[g]at a;obtain⟨v,r⟩:=t g;have c:A.length<v6.1.length:=by omega
    simp only[wl,sB c,bi,r _ (gX c)];simp only[l5,wl]at a⊢;exact a
def qP(s:aO)(h:Int):Int:=if s.Height.Kind=1 then max (min (max s.Height.Value (-1048576)) 1048576) 0 else max h 0
def dW(a b:bh):bh:=⟨max a.Pos b.Pos,min a.Neg b.Neg⟩
def jf(x:Int):bh:=⟨max x 0,min x 0⟩
def mr(b:ag)(z:cb)(t i f:Bool)(h:Int)(k:Bool)(g j:bh)(L:b7):ab :=
 let a:=jf z.Margin.a0
 let c:=jf z.Margin.a2
 let e:=if t=true then 0 else if (!k)=true then aa (g.Pos+g.Neg) else if (!i)=true then aa (g.Pos+g.Neg) else 0
 let d:=if t=true then dW a g else a
 if (k&&(t&&i))=true then mJ b z f L e (dW d c) (dW d c) true (qP b.Style 0)
 else if k=true then (if i=true then mJ b z f L e d (dW c g) false (qP b.Style e) else mJ b z f L e d c false (qP b.Style e))
 else if i=true then mJ b z f L e d (dW c j) false (qP b.Style (aa (h+e))) else mJ b z f L e d c false (qP b.Style (aa (h+aa (e+aa (j.Pos+j.Neg)))))
section
variable(K:Kn)(n:Nat)(b:ag)(z:cb)(L:b7)(e:L.length≤100000)(g:L.length<n)(a c:Int)(S:ct)(v6:dn×Bool)(f:v6.2=true→v6.1.length=L.length∧∀k∈v6.1,fg k=true)
include g e f
theorem sj8 d i g j h:vk K n b z v6 L a c S d i g j h=some (mJ b z v6.2 L d i g j h,a,c,S):=by
 unfold vk;simp only[Fb];exact W4 K n b z v6 L a c S d i g j _ _ e f n [] L (by simp) (by omega)
theorem sj6 d h j i k:nW K n b z v6 L a c S d h j i k=some (mJ b z v6.2 L d j i k (qP b.Style h),a,c,S):=by
 unfold nW;simp only[gO,yE,sj8 K n b z L e g a c S v6 f]
 grind[qP,cO]
theorem U0(t d:Bool)(h:Int)(i:Bool)(k j:bh):rp K n b z t d v6 h i k j L a c S=some (mr b z t d v6.2 h i k j L,a,c,S):=by
 have l:∀x y,kW K n x y=some (dW x y):=fun x y=>rfl;have o:∀x,gK K n x=some (aa (x.Pos+x.Neg)):=fun x=>rfl;have m:∀x,nc K n x=some (jf x):=fun x=>rfl;unfold rp;simp only[m,go,yI,tV,vW,l,o,sj6 K n b z L e g a c S v6 f];unfold mr;cases t<;>cases d<;>cases i<;>simp
end
def rj(f:ag→Int→Int→ct→Option (ab×Int×Int×ct)):dn→Int→Int→ct→Option (b7×Int×Int×ct)
 | [],a,b,S=>some ([],a,b,S)
 | k::r,a,b,S=>(f k a b S).bind fun x=>(rj f r x.2.1 x.2.2.1 x.2.2.2).bind fun y=>some (x.1::y.1,y.2)
theorem ac4(K:Kn)(n:Nat)(b:ag)(z:cb)(g v4:Bool)(env:bN)(v6:dn×Bool)(q:v6.1.length≤1000):
  ∀(m i:Nat) (a:b7) (d e:Int) (S:ct),i≤v6.1.length→v6.1.length<m+i→a.length≤i→sv K n b z g v4 env v6 m i a d e S =
   (rj (fun k=>K.dE env.Layout k z.Content) (v6.1.drop i) d e S).bind fun r=>(kF K n (a++r.1)).bind fun c=>rp K n b z g v4 v6 c.2.1 c.2.2.2.2 c.2.2.1 c.2.2.2.1 c.1 r.2.1 r.2.2.1 r.2.2.2:=by
 intro m
 induction m with
 | zero=>intro i a d e S _ h;omega
 | succ m j =>
  intro i a d e S l h o;simp only[sv,Dx];by_cases f:i<v6.1.length
  ·rw[drop_at' f];simp only[D8 f,wl,sB f,bi,Int.toNat_natCast,iN,ro,C9 (show i<1000000 by omega),rj];cases p:K.dE env.Layout (v6.1.getD i default) z.Content d e S with
   | none=>rfl
   | some x =>
    simp only[go];rw[de (by omega) (by omega),bi,j (i+1) _ _ _ _ (by omega) (by omega) (by simp;omega)];cases rj (fun k=>K.dE env.Layout k z.Content) (v6.1.drop (i+1)) x.2.1 x.2.2.1 x.2.2.2 with
    | none=>rfl
    | some y=>simp only[go,u3,alP]
  grind[rj]
theorem G4 K n l(a:l.length≤100000):qF K n l=some l:=by
 unfold qF o5
 grind[fits,ab,de,bi]
def DF:Nat→ab→Prop
 | 0,_=>False
 | d+1,f=>f.Kids.length≤3000∧∀k∈f.Kids,DF d k
theorem vr:∀{d} {f g},f.Kids=g.Kids→DF d g→DF d f
 | 0,_,_,_,h=>h
 | d+1,f,g,e,h=>by grind[DF]
theorem LH:∀{d e} {f},DF d f→d≤e→DF e f
 | 0,_,_,h,_=>h.elim
 | d+1,0,_,_,h=>by omega
 | d+1,e+1,f,h,b=>⟨h.1,fun k a=>LH (h.2 k a) (by omega)⟩
theorem adh{d}{b}{z}{e}{L}{g}{c a}{i}{h}(k:L.length≤3000)(j:∀f∈L,DF d f):DF (d+1) (mJ b z e L g c a i h):=by
 unfold DF
 grind[mJ,l5,vr,M3]
theorem Q8{d}{b}{z}{t e o}{h}{g}{c a}{L}(j:L.length≤3000)(i:∀f∈L,DF d f):DF (d+1) (mr b z t e o h g c a L):=by
 grind[mr,adh]
theorem Ee N:∀x,(KN (N+1)).mh (Fv.fn 145) x=some (fg x):=fun x=>Ue (KN N) N x
theorem Uk{a}(h:gq a):∀r∈fU a,r.Box=[]:=by
 exact Sl (P:=fun r=>r.Box=[]) (fun e g=>rfl) _ _ _ (fun e c b g=>absurd b (Ez h e c)) (fun e g x d f i=>rfl)
theorem aeC{f}(h:f.Kids=[]):DF 1 f:=by grind[DF]
theorem NU(a b:Int):∀(X:dO) (i x:Int),(∀r∈X,r.Box=[])→(gm a b i x X).length≤X.length∧∀f∈gm a b i x X,DF 1 f
 | [],i,x,_=>⟨by simp[gm],fun f c=>by simp[gm]at c⟩
 | r::t,i,x,h=>by
  have g:=h r pe;have l:(bif i == b then stripR r else r).Box=[]:=by
   cases (i == b)
   ·exact g
   ·show(stripR r).Box=[];unfold stripR;cases (lG r.Text&&r.Style.WhiteSpace != 2)<;>exact g
  simp only[gm];generalize (bif i == b then stripR r else r)=e at *;obtain⟨m,j⟩:=NU a b t (i+1) (aa (x+aa (e.Width+e.Space))) (fun q k=>h q (nw _ k));have d:(kP a x e).length≤1∧∀f∈kP a x e,DF 1 f:=by
   unfold kP A9;rw[l];cases e.Text.data.toList.isEmpty with
   | true=>exact⟨by simp,fun f c=>by simp at c⟩
   | false=>exact⟨by simp,fun f c=>by simp at c;subst c;exact aeC rfl⟩
  refine⟨by rw[kc,iN];omega,fun f c=>?_⟩;rcases kb.1 c with c|c
  ·exact d.2 f c
  ·exact j f c
theorem Xn{s}{w}{X}(h:∀r∈X,r.Box=[])(e:X.length≤3000):DF 2 (jW s w X):=by
 obtain⟨d,a⟩:=NU (jL (jQ s) X).1 (sy X) X 0 (rR s w (fw (X.map vI))) h;exact⟨by show([]++gm _ _ _ _ X).length≤3000;grind,fun k b=>a k (by have c:k∈[]++gm (jL (jQ s) X).1 (sy X) 0 (rR s w (fw (X.map vI))) X:=b;grind)⟩
theorem UF{s}{w}{X}(h:∀r∈X,r.Box=[])(d:X.length≤3000):∀S y,∀f∈(gW s w X y S).1,DF 2 f
 | [],y=>fun f c=>by grind[gW]
 | [a],y=>fun f c=>by grind[gW]
 | a::b::r,y=>fun f c=>by
  simp only[gW,l3]at c;rcases c with rfl|c
  ·have g:∀q∈sl X a b,q.Box=[]:=fun q e=>h q (Je e)
   grind[sl,vr,jW,Xn]
  ·exact UF h d (b::r) _ f c
theorem SB{a}(h:gq a)(e:eJ 1 a≤2000) s v:(k8 a s v).1.length≤2001∧∀f∈(k8 a s v).1,DF 2 f:=by
 have b:=BK a;unfold k8;have d:=WA s (gy v) (fU a) (kC (fU a) (gy v)) 0;have c:=GQ ((fU a).map vI) (gy v) ((fU a).length+1) 0
 grind[UF,Uk,kC]
theorem aam{x y}:gk x y=true↔x=y:=by
 cases x;cases y;simp[gk]
theorem RP{α:Type}[Inhabited α]{L:List α}{i}(h:i<L.length):L.set i (L.getD i default)=L:=by
 simp_all
theorem aj7(K:Kn)(n:Nat)(f:ab)(L:b7)(e:L.length≤100000)(d:∀k∈L,K.Al k=some k):∀(m i:Nat),i≤L.length→L.length<m+i →
  Am K n f L m i L=some { f with Kids:=L }:=by
 intro m
 induction m with
 | zero=>intro i b c;omega
 | succ m g =>
  intro i b c;simp only[Am,Eg];by_cases a:i<L.length
  ·simp only[fP a,wl,dY a,bi,Int.toNat_natCast,d _ (gX a),go,RP a]
   grind[fB]
  grind
theorem BP:∀d N f,DF d f→d+3010≤N→pK (KN N) N f=some f
 | 0,_,_,h,_=>h.elim
 | d+1,0,_,_,h=>by omega
 | d+1,N+1,f,h,b=>by
  unfold DF at h;unfold pK;rw[G4 _ _ _ (by omega),go];have e:=aj7 (KN (N+1)) (N+1) f f.Kids (by omega) (fun k a=>BP d N k (h.2 k a) (by omega)) (N+1) 0 (n3 _) (by omega);rw[show((0:Nat):Int)=0 from rfl]at e;rw[e];cases f;rfl
theorem aaV(K:Kn)(n:Nat)(f:ab)(L:b7)(e:L.length≤100000)(d:∀k∈L,K.xH k=some k):∀(m i:Nat),i≤L.length→L.length<m+i →
  zI K n f L m i L=some { f with Kids:=L }:=by
 intro m
 induction m with
 | zero=>intro i b c;omega
 | succ m g =>
  intro i b c;simp only[zI,EE];by_cases a:i<L.length
  ·simp only[fP a,wl,dY a,bi,Int.toNat_natCast,d _ (gX a),go,RP a]
   grind[fB]
  grind
theorem GG:∀d N f,DF d f→d+3010≤N→sX (KN N) N f=some f
 | 0,_,_,h,_=>h.elim
 | d+1,0,_,_,h=>by omega
 | d+1,N+1,f,h,b=>by
  unfold DF at h;unfold sX;rw[G4 _ _ _ (by omega),go];have e:=aaV (KN (N+1)) (N+1) f f.Kids (by omega) (fun k a=>GG d N k (h.2 k a) (by omega)) (N+1) 0 (n3 _) (by omega);rw[show((0:Nat):Int)=0 from rfl]at e;rw[e];cases f;rfl
def abW(w:Int)(m:ay):Prop:=m.Width=w∧bI m.Box≤100∧DF (bI m.Box+2) m.Fragment
def fI(b:ag)(w:Int)(m:ay):Bool:=m.Width == w&&gM m.Box b
def uO(b:ag)(w a c:Int)(S R:ct):ab×Bool×Int×Int×ct :=
 match R.find? (fI b w) with
 | some m=>(m.Fragment,true,a,c,S)
 | none=>(bU,false,a,c,S)
theorem abu N b w f a e(S:ct)(h:S.length≤3000)(g:3200≤N) d(i:DF d f)(c:d≤150)(j:0≤a∧a<100000):w5 (KN N) N b w f a e S=some (a+1,e,S++[⟨b,w,f⟩]):=by
 unfold w5
 grind[BP,de,bi,bT]
namespace Wd
theorem jK x:0≤d8 x∧d8 x≤1048576:=by grind[d8]
theorem uy l w:(cO l w).2=(l.Kind == 1||l.Kind == 2):=by
 grind[cO]
end Wd
theorem sL l b: -1048576≤(cO l b).1∧(cO l b).1≤1048576:=by
 grind[cO]
def bm(l:cL):cL:=if l.Kind=2 then cn else l
def gE(s:aO):aO:={ s with Width:=bm s.Width,MinWidth:=bm s.MinWidth,MaxWidth:=bm s.MaxWidth,Margin:=⟨bm s.Margin.a0,bm s.Margin.a1,bm s.Margin.a2,bm s.Margin.a3⟩,Padding:=⟨bm s.Padding.a0,bm s.Padding.a1,bm s.Padding.a2,bm s.Padding.a3⟩ }
theorem fA{α:Type} l(f:cL→α) y(a:y=f l):(if (l.Kind == 2)=true then f cn else y)=f (bm l):=by
 grind[bm]
section
variable(K:Kn)(n:Nat)
theorem tu(s:aO):vT K n s=some (gE s):=by
 unfold vT;refine (fA s.Width (fun l=>ut K n { s with Width:=l }) _ rfl).trans ?_;unfold ut;refine (fA s.MinWidth (fun l=>vw K n { s with Width:=bm s.Width,MinWidth:=l }) _ rfl).trans ?_;unfold vw;refine (fA s.MaxWidth (fun l=>tJ K n { s with Width:=bm s.Width,MinWidth:=bm s.MinWidth,MaxWidth:=l }) _ rfl).trans ?_;unfold tJ;refine (fA s.Margin.a0 (fun l=>tp K n { s with Width:=bm s.Width,MinWidth:=bm s.MinWidth,MaxWidth:=bm s.MaxWidth,Margin:=⟨l,s.Margin.a1,s.Margin.a2,s.Margin.a3⟩ }) _ rfl).trans ?_;unfold tp;refine (fA s.Padding.a0 (fun l=>ul K n { s with Width:=bm s.Width,MinWidth:=bm s.MinWidth,MaxWidth:=bm s.MaxWidth,Margin:=⟨bm s.Margin.a0,s.Margin.a1,s.Margin.a2,s.Margin.a3⟩,Padding:=⟨l,s.Padding.a1,s.Padding.a2,s.Padding.a3⟩ }) _ rfl).trans ?_;unfold ul;refine (fA s.Margin.a1 (fun l=>vB K n { s with Width:=bm s.Width,MinWidth:=bm s.MinWidth,MaxWidth:=bm s.MaxWidth,Margin:=⟨bm s.Margin.a0,l,s.Margin.a2,s.Margin.a3⟩,Padding:=⟨bm s.Padding.a0,s.Padding.a1,s.Padding.a2,s.Padding.a3⟩ }) _ rfl).trans ?_
 unfold vB;refine (fA s.Padding.a1 (fun l=>tI K n { s with Width:=bm s.Width,MinWidth:=bm s.MinWidth,MaxWidth:=bm s.MaxWidth,Margin:=⟨bm s.Margin.a0,bm s.Margin.a1,s.Margin.a2,s.Margin.a3⟩,Padding:=⟨bm s.Padding.a0,l,s.Padding.a2,s.Padding.a3⟩ }) _ rfl).trans ?_;unfold tI;refine (fA s.Margin.a2 (fun l=>s8 K n { s with Width:=bm s.Width,MinWidth:=bm s.MinWidth,MaxWidth:=bm s.MaxWidth,Margin:=⟨bm s.Margin.a0,bm s.Margin.a1,l,s.Margin.a3⟩,Padding:=⟨bm s.Padding.a0,bm s.Padding.a1,s.Padding.a2,s.Padding.a3⟩ }) _ rfl).trans ?_;unfold s8;refine (fA s.Padding.a2 (fun l=>wc K n { s with Width:=bm s.Width,MinWidth:=bm s.MinWidth,MaxWidth:=bm s.MaxWidth,Margin:=⟨bm s.Margin.a0,bm s.Margin.a1,bm s.Margin.a2,s.Margin.a3⟩,Padding:=⟨bm s.Padding.a0,bm s.Padding.a1,l,s.Padding.a3⟩ }) _ rfl).trans ?_;unfold wc;refine (fA s.Margin.a3 (fun l=>wb K n { s with Width:=bm s.Width,MinWidth:=bm s.MinWidth,MaxWidth:=bm s.MaxWidth,Margin:=⟨bm s.Margin.a0,bm s.Margin.a1,bm s.Margin.a2,l⟩,Padding:=⟨bm s.Padding.a0,bm s.Padding.a1,bm s.Padding.a2,s.Padding.a3⟩ }) _ rfl).trans ?_
 unfold wb;refine (fA s.Padding.a3 (fun l=>yx K n { s with Width:=bm s.Width,MinWidth:=bm s.MinWidth,MaxWidth:=bm s.MaxWidth,Margin:=⟨bm s.Margin.a0,bm s.Margin.a1,bm s.Margin.a2,bm s.Margin.a3⟩,Padding:=⟨bm s.Padding.a0,bm s.Padding.a1,bm s.Padding.a2,l⟩ }) _ rfl).trans ?_;rfl
end
namespace Fw
open QSort (wn cI dx dv pU qY sb)
section
variable(K:Kn)(n:Nat)
theorem PJ(s:aO):AL K n s=some (gE s):=by
 unfold AL;refine (fA s.Width (fun l=>tq K n { s with Width:=l }) _ rfl).trans ?_;unfold tq;refine (fA s.MinWidth (fun l=>vL K n { s with Width:=bm s.Width,MinWidth:=l }) _ rfl).trans ?_;unfold vL;refine (fA s.MaxWidth (fun l=>u9 K n { s with Width:=bm s.Width,MinWidth:=bm s.MinWidth,MaxWidth:=l }) _ rfl).trans ?_;unfold u9;refine (fA s.Margin.a0 (fun l=>tQ K n { s with Width:=bm s.Width,MinWidth:=bm s.MinWidth,MaxWidth:=bm s.MaxWidth,Margin:=⟨l,s.Margin.a1,s.Margin.a2,s.Margin.a3⟩ }) _ rfl).trans ?_;unfold tQ;refine (fA s.Padding.a0 (fun l=>wk K n { s with Width:=bm s.Width,MinWidth:=bm s.MinWidth,MaxWidth:=bm s.MaxWidth,Margin:=⟨bm s.Margin.a0,s.Margin.a1,s.Margin.a2,s.Margin.a3⟩,Padding:=⟨l,s.Padding.a1,s.Padding.a2,s.Padding.a3⟩ }) _ rfl).trans ?_;unfold wk;refine (fA s.Margin.a1 (fun l=>tk K n { s with Width:=bm s.Width,MinWidth:=bm s.MinWidth,MaxWidth:=bm s.MaxWidth,Margin:=⟨bm s.Margin.a0,l,s.Margin.a2,s.Margin.a3⟩,Padding:=⟨bm s.Padding.a0,s.Padding.a1,s.Padding.a2,s.Padding.a3⟩ }) _ rfl).trans ?_
 unfold tk;refine (fA s.Padding.a1 (fun l=>we K n { s with Width:=bm s.Width,MinWidth:=bm s.MinWidth,MaxWidth:=bm s.MaxWidth,Margin:=⟨bm s.Margin.a0,bm s.Margin.a1,s.Margin.a2,s.Margin.a3⟩,Padding:=⟨bm s.Padding.a0,l,s.Padding.a2,s.Padding.a3⟩ }) _ rfl).trans ?_;unfold we;refine (fA s.Margin.a2 (fun l=>tL K n { s with Width:=bm s.Width,MinWidth:=bm s.MinWidth,MaxWidth:=bm s.MaxWidth,Margin:=⟨bm s.Margin.a0,bm s.Margin.a1,l,s.Margin.a3⟩,Padding:=⟨bm s.Padding.a0,bm s.Padding.a1,s.Padding.a2,s.Padding.a3⟩ }) _ rfl).trans ?_;unfold tL;refine (fA s.Padding.a2 (fun l=>tB K n { s with Width:=bm s.Width,MinWidth:=bm s.MinWidth,MaxWidth:=bm s.MaxWidth,Margin:=⟨bm s.Margin.a0,bm s.Margin.a1,bm s.Margin.a2,s.Margin.a3⟩,Padding:=⟨bm s.Padding.a0,bm s.Padding.a1,l,s.Padding.a3⟩ }) _ rfl).trans ?_;unfold tB;refine (fA s.Margin.a3 (fun l=>uF K n { s with Width:=bm s.Width,MinWidth:=bm s.MinWidth,MaxWidth:=bm s.MaxWidth,Margin:=⟨bm s.Margin.a0,bm s.Margin.a1,bm s.Margin.a2,l⟩,Padding:=⟨bm s.Padding.a0,bm s.Padding.a1,bm s.Padding.a2,s.Padding.a3⟩ }) _ rfl).trans ?_
 unfold uF;refine (fA s.Padding.a3 (fun l=>z8 K n { s with Width:=bm s.Width,MinWidth:=bm s.MinWidth,MaxWidth:=bm s.MaxWidth,Margin:=⟨bm s.Margin.a0,bm s.Margin.a1,bm s.Margin.a2,bm s.Margin.a3⟩,Padding:=⟨bm s.Padding.a0,bm s.Padding.a1,bm s.Padding.a2,l⟩ }) _ rfl).trans ?_;rfl
end
def cy(b:ag)(d:b5):dn:=d.map fun j=>b.Kids.getD j.toNat default
theorem sU b d:(cy b d).length=d.length:=by simp[cy]
theorem aeY b d{k}(a:k<d.length):(cy b d).getD k default=b.Kids.getD (d.getD k default).toNat default:=by
 grind[cy]
theorem E6{b}{d}(h:Od.Is b.Kids d){k}(c:k∈cy b d):k∈b.Kids:=by
 obtain⟨j,a,rfl⟩:=u6.1 c;obtain⟨i,e,rfl,_⟩:=h.mem a
 grind
theorem afA{b:ag}{d:b5}(h:Od.Is b.Kids d):(cy b d).Perm (eI b):=by
 have e:∀n,n≤b.Kids.length→(Od.ix (Od.fl b.Kids) n).map (fun j=>b.Kids.getD j.toNat default)=(b.Kids.take n).filter iE:=by
  intro n
  induction n with
  | zero=>intro _;rfl
  | succ n f =>
   intro g;rw[Od.N6,Db,f (by omega),IT (by omega),am3];congr 1;rw[←cm (show n<b.Kids.length by omega)];unfold Od.fl;cases c:iE (b.Kids.getD n default)<;>simp only[amE,ant,c,wl,hH,rv,n5,u7,Int.toNat_natCast]
 have a:=e b.Kids.length (by omega);rw[alR]at a;have:=h.p.map (fun j=>b.Kids.getD j.toNat default);rw[a]at this;exact this
theorem adL(K:Kn)(n:Nat){b:ag}(o:b.Kids.length≤19){d:b5}(h:Od.Is b.Kids d):∀(m i:Nat),i≤d.length→d.length<m+i →
  xg K n b d m (i:Int) ((cy b d).take i)=some (cy b d):=by
 have l:=h.len;intro m
 induction m with
 | zero=>intro i f g;omega
 | succ m a =>
  intro i f g;simp only[xg,En];by_cases c:i<d.length
  ·obtain⟨j,p,e,_⟩:=h.mem (QSort.Sq (A:=d) c);unfold QSort.at_ at e;have a:=a (i+1) (by omega) (by omega);rw[IT (by rw[sU];exact c),← cm (by rw[sU];exact c),aeY b d c]at a;rw[dx (by omega),cI (by omega),fh,e,cI (by omega),fh,de (by simp only[iN,ro,Dj];omega) (by omega),bi,wn (n:=(i:Int)+1) (k:=i+1) (by omega) (by omega)];rw[e,fh]at a;exact a
  ·rw[dv (by omega),Dk (by rw[sU];omega)]
theorem Rh{b}(a:b.Kids.length≤19){d}(h:Od.Is b.Kids d){K}{n}(c:uB K n b.Kids=some d)(f:100<n):lO K n b=some (cy b d):=by
 have e:=h.len;unfold lO;rw[c,sb];exact adL K n a h n 0 (by omega) (by omega)
end Fw
namespace Fl
open QSort (wn cI dx dv pU qY sb)
open Fw
def kA(l:cL):cL:=if l.Kind=1∨l.Kind=2 then l else { cn with Kind:=1 }
def om(b:ag)(n:Int):ag:={ b with Style:={ b.Style with Width:=⟨1,n⟩,MinWidth:=cn,MaxWidth:=cn,Margin:=⟨kA b.Style.Margin.a0,kA b.Style.Margin.a1,kA b.Style.Margin.a2,kA b.Style.Margin.a3⟩ } }
theorem Ce{α:Type} l(f:cL→α):(if (!(l.Kind == 1||l.Kind == 2))=true then f { cn with Kind:=1 } else f l)=f (kA l):=by
 grind[kA]
theorem ahW(K:Kn)(n:Nat)(b:ag)(x:Int):wE K n b x=some (om b x):=by
 unfold wE;simp only[gO,go,Wd.uy];rw[Ce b.Style.Margin.a0 (fun l=>td K n b x ⟨l,b.Style.Margin.a1,b.Style.Margin.a2,b.Style.Margin.a3⟩)];unfold td;simp only[gO,go,Wd.uy];rw[Ce b.Style.Margin.a1 (fun l=>tn K n b x ⟨kA b.Style.Margin.a0,l,b.Style.Margin.a2,b.Style.Margin.a3⟩)];unfold tn;simp only[gO,go,Wd.uy];rw[Ce b.Style.Margin.a2 (fun l=>uq K n b x ⟨kA b.Style.Margin.a0,kA b.Style.Margin.a1,l,b.Style.Margin.a3⟩)];unfold uq;simp only[gO,go,Wd.uy];rw[Ce b.Style.Margin.a3 (fun l=>AK K n b x ⟨kA b.Style.Margin.a0,kA b.Style.Margin.a1,kA b.Style.Margin.a2,l⟩)];rfl
def eP(l:cL)(c o:Int):Int:=if (cO l c).2=true then (cO l c).1 else o
theorem BU K n l c o:mZ K n l c o=some (eP l c o):=by
 grind[mZ,eP,gO,sb]
theorem LI(s:aO)(w:Int): -6291456≤iD (f8 s w 0)∧iD (f8 s w 0)≤6291456:=by
 have a:=sL s.Margin.a1 w;have b:=sL s.Margin.a3 w;have c:=sL s.Padding.a1 w;have d:=sL s.Padding.a3 w;have e:=Wd.jK s.Border.a1;have f:=Wd.jK s.Border.a3;unfold iD f8;simp only[];rw[bT (n:=0+(cO s.Margin.a1 w).1) (by omega) (by omega),bT (n:=0+(cO s.Margin.a1 w).1+(cO s.Margin.a3 w).1) (by omega) (by omega),bT (n:=0+(cO s.Margin.a1 w).1+(cO s.Margin.a3 w).1+d8 s.Border.a1) (by omega) (by omega),bT (n:=0+(cO s.Margin.a1 w).1+(cO s.Margin.a3 w).1+d8 s.Border.a1+d8 s.Border.a3) (by omega) (by omega),bT (n:=0+(cO s.Margin.a1 w).1+(cO s.Margin.a3 w).1+d8 s.Border.a1+d8 s.Border.a3+max (cO s.Padding.a1 w).1 0) (by omega) (by omega),bT (by omega) (by omega)];omega
theorem Yn s w c:0≤jN s w c∧jN s w c≤max c 1048576:=by
 have:=sL s.MinWidth w
 grind[jN]
theorem Cl s w:0≤(cq s w).Content∧(cq s w).Content≤8388608:=by
 have e:∃x,(cq s w).Content=jN s (d8 w) x∧x≤8388608:=by
  have a:(if (cO s.Width (d8 w)).2=true then (cO s.Width (d8 w)).1 else aa (d8 w-iD (f8 s (d8 w) 0)))≤8388608:=by
   have b:=sL s.Width (d8 w);have c:=LI s (d8 w);have d:=Wd.jK w
   grind[bT]
  refine⟨_,?_,a⟩
  grind[cq,BV]
 obtain⟨x,a,f⟩:=e;have:=Yn s (d8 w) x;omega
def Small(B:Int)(l:b5):Prop:=∀x∈l,-B≤x∧x≤B
def wr(sp:Int):Int→Nat→b5→b5
 | _,_,[]=>[]
 | s,i,x::r=>if s+x>sp then i::wr sp x (i+1) r else wr sp (s+x) (i+1) r
def nf(sp:Int):b5→b5
 | []=>[]
 | x::r=>0::wr sp x 1 r
variable{B:Int}{L:b5}
theorem ack(K:Kn)(n:Nat)(sp:Int)(a:0≤B∧B≤1073741824)(h:Small B L)(r:L.length≤100):∀(m i:Nat) (s:Int) (o:b5),1≤i→i≤L.length→L.length<m+i→o.length≤i → -(i*B)≤s→s≤i*B →
  wm K n L sp m s i o=some (o++wr sp s i (L.drop i)):=by
 intro m
 induction m with
 | zero=>intro i s o e f g;omega
 | succ m d =>
  intro i s o e f g t u l;simp only[wm,Ah];by_cases c:i<L.length
  ·have v:=h (L.getD i default) (gX c);have j:(i:Int)*B≤100*1073741824:=amj (by omega) a.2 a.1 (by omega);have q:((i+1:Nat):Int)*B=i*B+B:=by simp[anO]
   have p:¬ ((i:Int) == 0)=true:=by rw[alQ];omega
   rw[dx (by omega),cI (by omega),fh,bT (by omega) (by omega),sb,io p];simp only[uE,vx,fh];rw[drop_at' c];simp only[wr];rw[wn (n:=(i:Int)+1) (k:=i+1) (by omega) (by omega),de (by simp only[iN,ro];omega) (by omega),bi];by_cases b:s+L.getD i default>sp
   ·rw[dx b,iF b,d (i+1) (L.getD i default) (o++[(i:Int)]) (by omega) (by omega) (by omega) (by simp;omega) (by have:=alU (show(0:Int)≤i by omega) a.1;omega) (by have:=alU (show(0:Int)≤i by omega) a.1;omega)];simp
   ·rw[dv b,io b,d (i+1) (s+L.getD i default) o (by omega) (by omega) (by omega) (by omega) (by omega) (by omega)]
  grind[wr]
theorem ab0(K:Kn){n:Nat}(sp:Int)(d:0≤B∧B≤1073741824)(c:Small B L)(f:L.length≤100)(h:101<n):qu K n L sp=some (nf sp L):=by
 unfold qu;obtain⟨m,rfl⟩:∃m,n=m+1:=⟨n-1,by omega⟩;cases L with
 | nil=>rfl
 | cons x r =>
  have i:=c x (by simp);simp only[iN]at f;simp only[wm,Ah];have a:(0:Int)<(((x::r).length:Nat):Int):=by simp only[iN];omega
  have g:aa (0+List.getD (x::r) (Int.toNat 0) default)=x:=by
   show aa (0+x)=x;rw[Int.zero_add];exact bT (by omega) (by omega)
  have b:aa ((0:Int)+1)=((1:Nat):Int):=wn (by omega) (by omega);have e:List.getD (x::r) (Int.toNat 0) default=x:=rfl;rw[dx a,cI ⟨anP 0,a⟩,g,sb,iF (by rfl)];simp only[uE,vx,e,b];rw[de (by simp) (by omega),bi,ack K (m+1) sp d c (by simp only[iN];omega) m 1 x ([]++[0]) (by omega) (by simp) (by simp only[iN];omega) (by simp) (by omega) (by omega)];simp[nf]
inductive rq n:Nat→b5→Prop
 | nil a (h:a≤n):rq n a []
 | cons a b t (h:a≤b) (h2:rq n b t):rq n a (b::t)
theorem KB sp n:∀r a i s,a≤i→i+r.length≤n→rq n a (wr sp s i r)
 | [],a,i,s,b,c=>.nil _ (by omega)
 | x::r,a,i,s,b,c=>by
  simp only[iN]at c;unfold wr;split
  ·exact .cons _ _ _ b (KB sp n r i (i+1) x (by omega) (by omega))
  ·exact KB sp n r a (i+1) (s+x) (by omega) (by omega)
theorem rq.le{n a}{t}(h:rq n a t):a≤n:=by
 induction h with
 | nil a h=>grind
 | cons a b t h c d=>omega
theorem MM{n a:Nat}{t:b5}(h:rq n a t):∀k,k<t.length+1→∃x y:Nat,((a:Int)::(t++[(n:Int)])).getD k default=(x:Int)∧((a:Int)::(t++[(n:Int)])).getD (k+1) default=(y:Int)∧x≤y∧y≤n:=by
 induction h with
 | nil a h =>
  intro k c;simp only[ro]at c;obtain rfl:k=0:=by omega
  exact⟨a,n,rfl,rfl,h,h7 _⟩
 | cons a b t h f i =>
  intro k c;cases k with
  | zero=>exact⟨a,b,rfl,rfl,h,f.le⟩
  | succ k =>
   obtain⟨x,y,d,e,g⟩:=i k (by simpa using c);exact⟨x,y,by simpa using d,by simpa using e,g⟩
theorem Gh sp:∀r s i,(wr sp s i r).length≤r.length
 | [],s,i=>by simp[wr]
 | x::r,s,i=>by
  unfold wr;have a:=Gh sp r x (i+1);have b:=Gh sp r (s+x) (i+1)
  grind
structure St n(S:b5):Prop where
 len:S.length≤n+1
 get:∀k,k<S.length→∃x y:Nat,(S++[(n:Int)]).getD k default=x∧(S++[(n:Int)]).getD (k+1) default=y∧x≤y∧y≤n
theorem ajP(n:Nat):St n [0]:=⟨by simp,fun k b=>by
 have:=MM (n:=n) (a:=0) (t:=[]) (.nil _ (n3 _)) k (by simpa using b);simpa using this⟩
theorem ae1(sp:Int)(L:b5):St L.length (nf sp L):=by
 cases L with
 | nil=>exact⟨by simp[nf],fun k b=>by simp[nf]at b⟩
 | cons x r =>
  have c:=Gh sp r x 1;refine⟨by simp only[nf,iN];omega,fun k b=>?_⟩;simp only[nf,iN]at b;have:=MM (n:=(x::r).length) (a:=0) (KB sp (x::r).length r 0 1 x (by omega) (by simp;omega)) k (by omega);simpa[nf]using this
end Fl
abbrev BT:=ag→Int→Int→Int→ct→Option (ab×Int×Int×ct)
def du(f:BT):List eg→Int→Int→ct→Option (b7×Int×Int×ct)
 | [],a,b,S=>some ([],a,b,S)
 | p::r,a,b,S=>(f p.1 p.2 a b S).bind fun x=>(du f r x.2.1 x.2.2.1 x.2.2.2).bind fun y=>some (x.1::y.1,y.2)
theorem ua{f:BT}:∀{l:List eg} {a b:Int} {S:ct} {r:b7×Int×Int×ct},du f l a b S=some r→r.1.length=l.length
 | [],a,b,S,r,h=>by injection h with h;subst h;rfl
 | k::l,a,b,S,r,h=>by
  obtain⟨x,d,h⟩:=aw h;obtain⟨y,c,h⟩:=aw h;injection h with h;subst h
  simp[ua c]
theorem Wc(f:BT):∀(l m:List eg) (a b:Int) (S:ct),du f (l++m) a b S=(du f l a b S).bind fun x=>(du f m x.2.1 x.2.2.1 x.2.2.2).bind fun y=>some (x.1++y.1,y.2)
 | [],m,a,b,S=>by
  simp only[Dy,du,go];cases du f m a b S<;>rfl
 | k::l,m,a,b,S=>by
  simp only[RX,du];cases f k.1 k.2 a b S with
  | none=>rfl
  | some x =>
   simp only[go];rw[Wc f l m];cases du f l x.2.1 x.2.2.1 x.2.2.2 with
   | none=>rfl
   | some y =>
    simp only[go];cases du f m y.2.1 y.2.2.1 y.2.2.2<;>rfl
theorem U1(f:BT)(w:Int):∀(l:dn) (a b:Int) (S:ct),rj (fun k=>f k w) l a b S=du f (l.map fun k=>(k,w)) a b S
 | [],a,b,S=>rfl
 | k::r,a,b,S=>by
  simp only[rj,n5,du];cases f k w a b S with
  | none=>rfl
  | some x=>simp only[go,U1 f w r]
def qD(f:ab):Int:=if f.Empty=true then 0 else aa (f.After.Pos+f.After.Neg)
def mU(m:bh):Int:=aa (m.Pos+m.Neg)
theorem Vt(K:Kn)(n:Nat)(f:ab):tD K n f=some (qD f):=by
 unfold tD qD;cases f.Empty<;>rfl
theorem KV(K:Kn)(n:Nat)(m:bh):gK K n m=some (mU m):=rfl
def s4(y:Int)(p:Int×Int)(a:Int×Int×b7)(f:ab):Int×Int×b7 :=
 (aa (a.1+aa (p.1+p.2)),max a.2.1 (aa (aa (mU f.Before+f.H)+qD f)),a.2.2++[{ f with X:=aa (f.X+a.1),Y:=aa (y+mU f.Before) }])
def gv(y:Int):List eb→b7→Int×Int×b7→Int×Int×b7
 | p::ps,f::b,a=>gv y ps b (s4 y p a f)
 | _,_,a=>a
theorem J1(y:Int):∀(ps:List eb) (c:b7) (a:Int×Int×b7),ps.length=c.length→(gv y ps c a).2.2.length=a.2.2.length+c.length∧∀f∈(gv y ps c a).2.2,f∈a.2.2∨∃g∈c,f.Kids=g.Kids
 | [],[],a,_=>⟨by simp[gv],fun f k=>.inl k⟩
 | p::ps,f::c,a,h=>by
  simp only[iN]at h;obtain⟨i,j⟩:=J1 y ps c (s4 y p a f) (by omega);simp only[gv];refine⟨by rw[i];simp only[s4,kc,iN,ro];omega,fun q b=>?_⟩;rcases j q b with b|⟨g,d,e⟩
  ·simp only[s4]at b;rcases kb.1 b with b|b
   ·exact .inl b
   ·simp only[l3,abM,amk]at b;subst b;exact .inr ⟨f,pe,rfl⟩
  ·exact .inr ⟨g,nw _ d,e⟩
 | [],_::_,_,h=>by simp at h
 | _::_,[],_,h=>by simp at h
open Fl
def jE(c:Int)(L:dn):Nat→b5→List eg
 | _,[]=>[]
 | j,z::Z=>(om (L.getD j default) z,c)::jE c L (j+1) Z
def ig(ED:b5):Nat→b5→List eb
 | _,[]=>[]
 | j,z::Z=>(z,ED.getD j default)::ig ED (j+1) Z
theorem Jd(c:Int)(L:dn):∀(Z:b5) (j:Nat),(jE c L j Z).length=Z.length
 | [],j=>rfl
 | z::Z,j=>by simp only[jE,iN,Jd c L Z]
theorem HY(ED:b5):∀(Z:b5) (j:Nat),(ig ED j Z).length=Z.length
 | [],j=>rfl
 | z::Z,j=>by simp only[ig,iN,HY ED Z]
theorem Ut{c:Int}{L:dn}:∀{Z:b5} {j:Nat} {p:ag×Int},j+Z.length≤L.length→p∈jE c L j Z→p.2=c∧∃k∈L,∃z,p.1=om k z
 | [],j,p,_,h=>by cases h
 | z::Z,j,p,a,h=>by
  simp only[iN]at a;simp only[jE,l3]at h;rcases h with rfl|h
  ·exact⟨rfl,_,gX (show j<L.length by omega),z,rfl⟩
  ·exact Ut (by omega) h
abbrev TD:=Int→Int→b7→Int→Int→ct→Option (b7×Int×Int×Int×ct)
theorem aeL(K:Kn)(n:Nat)(c:Int)(env:bN)(L:dn)(o:d7)(ED ST:b5)(y:Int)(k:Nat)(Z:b5)(l:TD)(a:Nat)(j:ST.getD k default=(a:Int))(A:a+Z.length≤L.length)(z:ED.length=L.length)(B:L.length≤1000):
  ∀(m i:Nat) (x h:Int) (d:b7) (e f:Int) (S:ct),i≤Z.length→Z.length<m+i→d.length+(Z.length-i)≤5000→tC K n c env L o ED ST y (k:Int) Z l m x h (i:Int) d e f S =
   (du (fun b w=>K.dE env.Layout b w) (jE c L (a+i) (Z.drop i)) e f S).bind fun r=>l (aa (y+(gv y (ig ED (a+i) (Z.drop i)) r.1 (x,h,d)).2.1)) (aa ((k:Int)+1)) (gv y (ig ED (a+i) (Z.drop i)) r.1 (x,h,d)).2.2 r.2.1 r.2.2.1 r.2.2.2:=by
 intro m
 induction m with
 | zero=>intro i x h d e f S s t;omega
 | succ m u =>
  intro i x h d e f S s t v;simp only[tC,Fd];by_cases g:i<Z.length
  ·have p:aa ((a:Int)+(i:Int))=((a+i:Nat):Int):=by rw[bT (by omega) (by omega)];omega
   rw[drop_at' g];simp only[jE,ig,du];simp only[fP g,wl,dY g,bi,Int.toNat_natCast,j,p,dY (show a+i<L.length by omega),dY (show a+i<ED.length by omega),ahW,go];cases C:K.dE env.Layout (om (L.getD (a+i) default) (Z.getD i default)) c e f S with
   | none=>rfl
   | some q =>
    simp only[go,KV,Vt,List.length_singleton];rw[de (by omega) (by omega),bi,fB (by omega),u (i+1) _ _ _ _ _ _ (by omega) (by omega) (by rw[kc];simp only[List.length_singleton];omega)];rw[show a+(i+1)=a+i+1 by omega];cases du (fun b w=>K.dE env.Layout b w) (jE c L (a+i+1) (Z.drop (i+1))) q.2.1 q.2.2.1 q.2.2.2 with
    | none=>rfl
    | some r=>rfl
  ·simp only[ia (show Z.length≤i by omega),hH,rv];rw[la (by omega)];rfl
def gU:Int→b5→Int
 | s,[]=>s
 | s,e::r=>gU (aa (s-e)) r
theorem N7{B:Int}(a:0≤B∧B≤1073741824):∀(l:b5) (s A:Int),Small B l → -A≤s∧s≤A→A+l.length*B≤1125899906842624 → -(A+l.length*B)≤gU s l∧gU s l≤A+l.length*B
 | [],s,A,_,c,_=>by simpa[gU]using c
 | e::r,s,A,b,c,f=>by
  have i:=b e pe;have d:(((e::r).length:Nat):Int)*B=r.length*B+B:=by simp[anO]
  rw[d]at f⊢;have h:=alU (show(0:Int)≤(r.length:Int) by omega) a.1;have:=N7 a r (aa (s-e)) (A+B) (fun x g=>b x (nw _ g)) (by rw[bT (by omega) (by omega)];omega) (by omega);simp only[gU];omega
def eB{α:Type}(l:List α)(a b:Nat):List α:=List.drop a (List.take b l)
theorem Hm{α:Type}(l:List α){a b:Nat}(h:a≤b)(c:b≤l.length):(eB l a b).length=b-a:=by unfold eB;simp;omega
theorem aii(K:Kn)(n:Nat)(c:Int)(env:bN)(L:dn)(b:d7)(ED ST:b5)(y:Int)(k:Nat)(a:b7)(g h:Int)(S:ct)(e:Int)(f:TD)(G:b5)(p:G.length≤1000):∀(m j:Nat) (s:Int),j≤G.length→G.length<m+j →
  uS K n c env L b ED ST y (k:Int) a g h S e f m s G (G.length:Int) (j:Int)=aA (cT (ST.getD k default) e b.length) ((kh K n (List.drop (ST.getD k default).toNat (List.take e.toNat b)) (gU s (G.drop j))).bind fun Z=>tC K n c env L b ED ST y (k:Int) Z f n 0 0 0 a g h S):=by
 intro m
 induction m with
 | zero=>intro j s i l;omega
 | succ m o =>
  intro j s i l;simp only[uS,Dd];by_cases d:j<G.length
  ·rw[drop_at' d];simp only[fP d,wl,dY d,bi,Int.toNat_natCast,gU];rw[fB (by omega)];exact o (j+1) _ (by omega) (by omega)
  ·simp only[ia (show G.length≤j by omega),hH,rv,Int.toNat_natCast];rw[show G.drop j=[] from la (by omega)];rfl
def pq(c:Int)(n:Nat)(a:d7)(ED ST:b5)(k:Nat):Nat×b5 :=
 (((ST++[(n:Int)]).getD k default).toNat,Rs.resolve (eB a ((ST++[(n:Int)]).getD k default).toNat ((ST++[(n:Int)]).getD (k+1) default).toNat) (gU c (eB ED ((ST++[(n:Int)]).getD k default).toNat ((ST++[(n:Int)]).getD (k+1) default).toNat)))
def iW(c:Int)(n:Nat)(a:d7)(ED ST:b5):Nat→Nat→List (Nat×b5)
 | _,0=>[]
 | k,m+1=>pq c n a ED ST k::iW c n a ED ST (k+1) m
def iz(c:Int)(L:dn):List (Nat×b5)→List eg
 | []=>[]
 | l::a=>jE c L l.1 l.2++iz c L a
def ib(ED:b5):List (Nat×b5)→b7→Int→b7→b7×Int
 | [],_,y,a=>(a,y)
 | l::b,r,y,a=>ib ED b (r.drop l.2.length) (aa (y+(gv y (ig ED l.1 l.2) (r.take l.2.length) (0,0,a)).2.1)) (gv y (ig ED l.1 l.2) (r.take l.2.length) (0,0,a)).2.2
theorem ajx{B:Int}{l:b5}(h:Small B l)(a b:Nat):Small B (eB l a b):=fun x c=>h x (nk (tl c))
theorem Tk{α:Type}{l:List α}{x d:α}{k:Nat}(h:k<l.length):(l++[x]).getD k d=l.getD k d:=by
 rw[List.getD_eq_getElem?_getD,List.getD_eq_getElem?_getD,yw h]
theorem Rg{α:Type}{l:List α}{x d:α}{k:Nat}(h:k=l.length):(l++[x]).getD k d=x:=by
 subst h;simp[List.getD_eq_getElem?_getD]
theorem afj(N:Nat)(R:20010≤N)(c:Int)(hc:0≤c∧c≤8388608)(env:bN)(L:dn)(hl:L.length≤19)(e:d7)(ED ST:b5)(Z:e.length=L.length)(Q:ED.length=L.length)(A:Small 6291456 ED)(o:St L.length ST):
  ∀(m k:Nat) (y:Int) (f:b7) (g h:Int) (S:ct),k≤ST.length→ST.length<m+k→f.length≤20*k→ki (KN N) N c env L e ED ST m y (k:Int) f g h S =
   (du (fun b w=>(KN N).dE env.Layout b w) (iz c L (iW c L.length e ED ST k (ST.length-k))) g h S).bind fun r=>some ((ib ED (iW c L.length e ED ST k (ST.length-k)) r.1 y f).1,(ib ED (iW c L.length e ED ST k (ST.length-k)) r.1 y f).2,r.2.1,r.2.2.1,r.2.2.2):=by
 have T:=o.len;intro m
 induction m with
 | zero=>intro k y f g h S O P;omega
 | succ m W =>
  intro k y f g h S O P Y;simp only[ki,DL];by_cases u:k<ST.length
  ·obtain⟨a,d,H,t,I,X⟩:=o.get k u;have j:ST.getD k default=(a:Int):=by rw[←Tk (x:=(L.length:Int)) u];exact H
   have U:pq c L.length e ED ST k=(a,Rs.resolve (eB e a d) (gU c (eB ED a d))):=by unfold pq;rw[H,t];rfl
   have s:(eB ED a d).length=d-a:=Hm ED I (by omega);have E:(eB e a d).length=d-a:=Hm e I (by omega);have C:=N7 (B:=6291456) (by omega) (eB ED a d) c 8388608 (ajx A a d) (by omega) (by rw[s];omega);have J:(Rs.resolve (eB e a d) (gU c (eB ED a d))).length=d-a:=by rw[Rs.Hg,E]
   have p:aa ((k:Int)+1)=((k+1:Nat):Int):=fB (by omega);have j5:nY (KN N) N c env L e ED ST y (k:Int) f g h S (ki (KN N) N c env L e ED ST m) (d:Int) =
     (du (fun b w=>(KN N).dE env.Layout b w) (jE c L a (Rs.resolve (eB e a d) (gU c (eB ED a d)))) g h S).bind fun r=>ki (KN N) N c env L e ED ST m (aa (y+(gv y (ig ED a (Rs.resolve (eB e a d) (gU c (eB ED a d)))) r.1 (0,0,f)).2.1)) ((k+1:Nat):Int) (gv y (ig ED a (Rs.resolve (eB e a d) (gU c (eB ED a d)))) r.1 (0,0,f)).2.2 r.2.1 r.2.2.1 r.2.2.2:=by
    unfold nY;simp only[Int.toNat_natCast,j];rw[show cT (a:Int) (d:Int) ED.length=true by simp[cT];omega,bi];have K:=aii (KN N) N c env L e ED ST y k f g h S (d:Int) (ki (KN N) N c env L e ED ST m) (eB ED a d) (by omega) N 0 c (n3 _) (by omega);have v:uS (KN N) N c env L e ED ST y (k:Int) f g h S (d:Int) (ki (KN N) N c env L e ED ST m) N c (List.drop a (List.take d ED)) ((List.drop a (List.take d ED)).length:Int) 0=_:=K;rw[v,j];simp only[Int.toNat_natCast,Do];rw[show cT (a:Int) (d:Int) e.length=true by simp[cT];omega,bi];have M:=Rs.nz (n:=N) (lvl:=N) (eB e a d) (sp:=gU c (eB ED a d)) (by omega) (by rw[s]at C;omega) (by omega) R;have z:kh (KN N) N (List.drop a (List.take d e)) (gU c (eB ED a d))=_:=M;rw[z,go];have G:=aeL (KN N) N c env L e ED ST y k (Rs.resolve (eB e a d) (gU c (eB ED a d))) (ki (KN N) N c env L e ED ST m) a j (by rw[J];omega) Q (by omega) N 0 0 0 f g h S (n3 _) (by omega) (by omega)
    rw[p,aix,Do]at G;exact G
   have F:(if (decide (aa ((k:Int)+1)<(ST.length:Int)))=true then
     aA (aU (aa ((k:Int)+1)) ST.length) (nY (KN N) N c env L e ED ST y (k:Int) f g h S (ki (KN N) N c env L e ED ST m) (ST.getD (aa ((k:Int)+1)).toNat default))
     else nY (KN N) N c env L e ED ST y (k:Int) f g h S (ki (KN N) N c env L e ED ST m) (L.length:Int))=nY (KN N) N c env L e ED ST y (k:Int) f g h S (ki (KN N) N c env L e ED ST m) (d:Int):=by
    rw[p];by_cases l:k+1<ST.length
    ·rw[iF (fP l),dY l,bi,Int.toNat_natCast,← Tk (x:=(L.length:Int)) l,t]
    ·rw[ia (show ST.length≤k+1 by omega),io (by simp)];rw[Rg (by omega)]at t;rw[t]
   simp only[fP u,wl,dY u,bi,go];rw[F,j5,show ST.length-k=(ST.length-(k+1))+1 by omega];simp only[iW,iz,ib,U];rw[Wc];cases V:du (fun b w=>(KN N).dE env.Layout b w) (jE c L a (Rs.resolve (eB e a d) (gU c (eB ED a d)))) g h S with
   | none=>rfl
   | some r =>
    have i:=ua V;rw[Jd]at i;simp only[go];have D:=J1 y (ig ED a (Rs.resolve (eB e a d) (gU c (eB ED a d)))) r.1 (0,0,f) (by rw[HY,i]);rw[W (k+1) _ _ _ _ _ (by omega) (by omega) (by rw[D.1,i,J];simp only;omega)];cases du (fun b w=>(KN N).dE env.Layout b w) (iz c L (iW c L.length e ED ST (k+1) (ST.length-(k+1)))) r.2.1 r.2.2.1 r.2.2.2 with
    | none=>rfl
    | some q =>
     simp only[go];rw[←i,List.take_left,anA]
  ·simp only[ia (show ST.length≤k by omega),hH,rv];rw[show ST.length-k=0 by omega];rfl
end Go.Proofs.YtocgkfoifehcbaaGreat
