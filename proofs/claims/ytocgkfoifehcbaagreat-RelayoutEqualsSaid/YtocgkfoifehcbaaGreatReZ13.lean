/- Plain laws about the plain functions: words for all of them. No program in sight. -/
import Derived.Test.YtocgkfoifehcbaaGreatReGf
import Derived.Lib.TrimUEq
import Derived.Laws.BitsLemmas
namespace Go.Proofs.YtocgkfoifehcbaaGreat
set_option linter.all false
open Go.RowKit
abbrev hZ:=List eq
def aew:=@List.cons_append
def aiD:=@List.not_mem_nil
def ajK:=@List.countP_append
def alO:=@List.singleton_append
def alT:=@Int.mul_nonneg
def alV:=@Int.tdiv_eq_ediv_of_nonneg
def alW:=@List.pairwise_cons
def alX:=@decide_false
def al5:=@List.takeWhile_cons
def al6:=@List.countP_cons
def al7:=@List.getElem_map
def amb:=@cond_false
def ame:=@Int.mul_le_mul
def amf:=@Bool.not_false
def amh:=@List.ext_getElem
def amk:=@List.getD_cons_succ
def aml:=@List.getD_cons_zero
def amt:=@cond_true
def amu:=@List.pairwise_lt_range
def amw:=@List.Pairwise.imp
def amy:=@or_false
def amG:=@Int.mul_le_mul_of_nonneg_left
def amH:=@Lib.decodeL_drop
def amJ:=@List.pairwise_append
def amK:=@List.getElem_zipWith
def amL:=@Bool.and_self
def amM:=@Lib.decodeL_N
def amN:=@List.dropLast_concat_getLast
def amR:=@List.getElem_of_mem
def amS:=@List.range_succ
def amT:=@List.replicate_zero
def amU:=@List.replicate_succ
def amV:=@List.length_zipWith
def amX:=@Int.tmod_eq_emod_of_nonneg
def am0:=@List.filter_append
def am6:=@List.pairwise_map
def am7:=@Lib.decodeL_width
def am8:=@List.take_add_one
def ank:=@List.filter_nil
def anl:=@List.length_filter_le
def anm:=@IntKind.wrap_u8
def ann:=@List.dropLast_sublist
def anq:=@List.Pairwise.filter
def anr:=@List.drop_left
def ant:=@List.countP_eq_zero
def anu:=@List.drop_succ_cons
def anv:=@List.map_congr_left
def anw:=@decide_true
def anD:=@Nat.sub_self
def anG:=@Int.add_mul
def anH:=@Int.le_refl
theorem bN{n:Int}(a : -9223372036854775808≤n)(b:n≤9223372036854775807):aa n=n:=by
 unfold aa;rw[amg];omega
theorem bc{α:Type}(x:Option α):aE true x=x:=rfl
theorem dg{i:Int}{n:Nat}(a:0≤i)(b:i<n):aN i n=true:=by simp[aN,a,b]
theorem ca{α:Type}[Inhabited α]{L:List α}{k:Nat}(h:k<L.length):L.getD k default=L[k]:=by simp[List.getD_eq_getElem?_getD,iN h]
theorem c7{n b:Nat}(h:n*b≤140737488355328)(c:0<b):fits n b=true:=by
 have d:n≤n*b:=Nat.le_mul_of_pos_right n c;have a:n≤9223372036854775807:=by omega
 simp only[fits,h8,qv];exact⟨a,h⟩
set_option maxRecDepth 20000
theorem eT(i:Nat):((i:Int)).toNat=i:=by omega
def sm:b7→Int
 | []=>0
 | x::r=>x+sm r
theorem lI:∀(a b:b7),sm (a++b)=sm a+sm b
 | [],b=>by simp[sm]
 | x::r,b=>by simp only[aew,sm,lI r b];omega
theorem QG{B:Int}(b:0≤B):∀(a:b7),(∀x∈a,-B≤x∧x≤B) → -(a.length*B)≤sm a∧sm a≤a.length*B
 | [],_=>by simp[sm]
 | x::r,h=>by
  have d:=h x (by simp);have f:=QG b r (fun y c=>h y (by simp[c]));have e:((x::r).length:Int)*B=r.length*B+B:=by simp[anG]
  simp only[sm];rw[e];omega
end Go.Proofs.YtocgkfoifehcbaaGreat
namespace Go.Proofs.YtocgkfoifehcbaaGreat.QSort
set_option linter.all false
open Go.RowKit
theorem cJ{α}{i:Int}{m:Nat}{x:Option α}(h:0≤i∧i<m):aE (aN i m) x=x:=by rw[dg h.1 h.2];rfl
theorem gd{A B:b7}{x}{i}(h:i=A.length):(A++x::B).getD i default=x:=by grind
theorem V0{A B:b7}{x y}{i}(h:i=A.length+1):(A++x::y::B).getD i default=y:=by grind
theorem sw{A B:b7}{x y}{i j}(h:i=A.length)(a:j=A.length+1):List.set (List.set (A++x::y::B) j x) i y=A++y::x::B:=by simp_all
theorem wn{n:Int}{k:Nat}(h:n=k)(a:k≤4000000000):aa n=k:=by grind[bN]
theorem du{α:Type}{p}[Decidable p]{x y:α}(h:p):(if decide p=true then x else y)=x:=by grind
theorem dq{α:Type}{p}[Decidable p]{x y:α}(h:¬ p):(if decide p=true then x else y)=y:=by grind
theorem ry{α:Type}{p}[Decidable p]{x y:α}(h:¬ p):(if (!decide p)=true then x else y)=x:=by grind
theorem qf{α:Type}{p}[Decidable p]{x y:α}(h:p):(if (!decide p)=true then x else y)=y:=by grind
theorem sb{α β:Type} x(k:α→Option β):(some x).bind k=k x:=rfl
structure uk(K:Kn) f(D:Int→Prop)(key:Int→Int):Prop where
 ok:∀a b,D a→D b→∃c,K.sE f a b=some c∧(c<0↔key a<key b)
def R(key:Int→Int)(a b:Int):Prop:=key a<key b∨key a=key b∧a<b
theorem R.trans{key}{a b c}(h:R key a b)(d:R key b c):R key a c:=by grind[R]
theorem R.xB{key}{a}(h:R key a a):False:=by grind[R]
theorem R.asymm{key}{a b}(h:R key a b)(c:R key b a):False:=by grind[R]
theorem R.OU{key}{a b}(h:b<a):key a<key b↔R key a b:=by grind[R]
theorem R.not{key}{a b}(h:a≠b)(c:¬ R key a b):R key b a:=by grind[R]
variable{K:Kn}{n:Nat}{f:Fv}{D:Int→Prop}{key:Int→Int}
theorem akV(I:uk K f D key)(P T:b7)(b i:Int)(B:Int→b7→Option b7):∀(m:Nat) (g e:b7) (x:Int),g.length<m→(∀y∈g,y<x∧D y)→D x→(g++e).Pairwise (R key)→(∀y∈e,R key x y)→P.length+g.length≤10000 →
  ∃l,l.Perm (x::(g++e))∧l.Pairwise (R key)∧zT K n ((P.length:Nat):Int) b f i B m ((P.length+g.length:Nat):Int) (P++g++x::e++T)=B (aa (i+1)) (P++l++T):=by
 intro m
 induction m with
 | zero=>intro g e x h;omega
 | succ m N =>
  intro g e x M C F q s L;simp only[zT,AY];rcases List.eq_nil_or_concat g with rfl|⟨d,y,rfl⟩
  ·refine⟨x::e,by simp,?_,?_⟩
   ·rw[alW];exact⟨s,by simpa using q⟩
   ·rw[dq (by simp)];simp[vJ]
  ·simp only[List.concat_eq_append]at *;have w:=C y (by simp);simp only[mm,la,u3]at M L;have G:P++(d++[y])++x::e++T=(P++d)++y::x::(e++T):=by simp
   have O:((P.length+(d++[y]).length:Nat):Int)=((P.length+d.length+1:Nat):Int):=by simp;omega
   have E:((P++d)++y::x::(e++T)).length≥P.length+d.length+2:=by simp;omega
   rw[G,O,du (by omega)];rw[wn (n:=((P.length+d.length+1:Nat):Int)-1) (k:=P.length+d.length) (by omega) (by omega)];rw[cJ (by omega),cJ (by omega)];simp only[Int.toNat_natCast];rw[V0 (i:=P.length+d.length+1) (by simp),gd (i:=P.length+d.length) (by simp)];obtain⟨c,J,o⟩:=I.ok x y F w.2;rw[J,sb];simp only[vJ];by_cases r:c<0
   ·rw[du r];rw[wn (n:=((P.length+d.length+1:Nat):Int)-1) (k:=P.length+d.length) (by omega) (by omega)];simp only[alU];rw[cJ (by omega),cJ (by omega),cJ (by omega),cJ (by omega)];simp only[Int.toNat_natCast];rw[V0 (i:=P.length+d.length+1) (by simp),gd (i:=P.length+d.length) (by simp),sw (by simp) (by simp)];have v:R key x y:=(R.OU w.1).1 (o.1 r);obtain⟨l,p1,Q,S⟩:=N d (y::e) x (by omega) (fun z j=>C z (by simp[j])) F (by simpa using q)
     (fun z j=>by
      rcases qk.1 j with rfl|j
      ·exact v
      ·exact s z j) (by omega)
    refine⟨l,by simpa using p1,Q,?_⟩;have H:P++d++x::y::(e++T)=P++d++x::(y::e)++T:=by simp
    rw[H,S]
   ·rw[dq r];have p:R key y x:=R.not (by omega) (fun h=>r (o.2 ((R.OU w.1).2 h)));refine⟨d++y::x::e,?_,?_,by simp⟩
    ·exact(List.Perm.of_eq (by simp)).trans (List.perm_middle (l₁:=d++[y]) (a:=x) (l₂:=e))
    ·simp only[q7,aew,Dy,amJ,alW,qk]at q⊢;obtain⟨U,⟨V,W⟩,A⟩:=q;refine⟨U,⟨?_,s,W⟩,?_⟩
     ·rintro z (rfl|j)
      ·exact p
      ·exact V z j
     ·rintro u t z (rfl|rfl|j)
      ·exact A u t z (.inl rfl)
      ·exact(A u t y (.inl rfl)).trans p
      ·exact A u t z (.inr j)
theorem abP(t:uk K f D key)(P Q:b7)(F:10001<n):∀(m:Nat) (S T:b7),T.length<m→S≠[]→(∀y∈S,∀z∈T,y<z)→T.Pairwise (· < ·)→(∀y∈S++T,D y)→S.Pairwise (R key)→P.length+S.length+T.length≤10000 →
  ∃c,c.Perm (S++T)∧c.Pairwise (R key)∧rA K n ((P.length:Nat):Int) ((P.length+S.length+T.length:Nat):Int) f m ((P.length+S.length:Nat):Int) (P++S++T++Q)=some (P++c++Q):=by
 intro m
 induction m with
 | zero=>intro S T h;omega
 | succ m A =>
  intro S T v w j o i p u;simp only[rA,AW];cases T with
  | nil=>exact⟨S,by simp,p,by rw[dq (by simp)];simp⟩
  | cons x T =>
   simp only[la]at v u⊢;rw[du (by omega)];rw[alW]at o;obtain⟨c,p1,B,r⟩:=akV (n:=n) t P (T++Q) ((P.length+S.length+(T.length+1):Nat):Int) ((P.length+S.length:Nat):Int)
    (rA K n ((P.length:Nat):Int) ((P.length+S.length+(T.length+1):Nat):Int) f m) n S [] x (by omega) (fun y b=>⟨j y b x (by simp),i y (by simp[b])⟩) (i x (by simp)) (by simpa using p) (by simp) (by omega)
   have e:P++S++[x]++(T++Q)=P++S++x::T++Q:=by simp
   rw[e]at r;rw[r,wn (k:=P.length+(S.length+1)) (by omega) (by omega)];simp only[Ts]at p1;have d:c.length=S.length+1:=by rw[p1.length_eq];simp
   have g:∀y,y∈c↔y=x∨y∈S:=fun y=>by rw[p1.mem_iff];simp
   obtain⟨l,C,E,s⟩:=A c T (by omega) (by intro h;subst h;simp at d) (fun y b z q=>by
     rcases (g y).1 b with rfl|b
     ·exact o.1 z q
     ·exact j y b z (by simp[q])) o.2 (fun y b=>by
     rcases ls.1 b with b|b
     ·rcases (g y).1 b with rfl|b
      ·exact i y (by simp)
      ·exact i y (by simp[b])
     ·exact i y (by simp[b])) B (by omega)
   refine⟨l,?_,E,?_⟩
   ·refine C.trans ((p1.append_right T).trans ?_);exact(List.perm_middle (l₁:=S) (a:=x) (l₂:=T)).symm
   ·rw[d,show P.length+(S.length+1)+T.length=P.length+S.length+(T.length+1) by omega,show P++c++T++Q=P++c++(T++Q) by simp]at s;exact s
theorem aiO(d:uk K f D key)(P S Q:b7)(h:10001<n)(b:S.Pairwise (· < ·))(e:∀y∈S,D y)(g:P.length+S.length≤10000):
  ∃a,a.Perm S∧a.Pairwise (R key)∧uI K n (P++S++Q) ((P.length:Nat):Int) ((P.length+S.length:Nat):Int) f=some (P++a++Q):=by
 unfold uI;rw[wn (k:=P.length+1) (by omega) (by omega)];cases S with
 | nil =>
  obtain⟨m,rfl⟩:∃m,n=m+1:=⟨n-1,by omega⟩;refine⟨[],by simp,by simp,?_⟩;simp only[rA,AW];rw[dq (by simp;omega)]
 | cons x T =>
  rw[alW]at b;simp only[la]at g⊢;obtain⟨a,p1,i,c⟩:=abP (n:=n) d P Q h n [x] T (by omega) (by simp) (by simpa using b.1) b.2 (by simpa using e) (by simp) (by simp;omega);refine⟨a,by simpa using p1,i,?_⟩;simp only[la,u3,DO]at c;rw[show P.length+(T.length+1)=P.length+1+T.length by omega,show P++x::T++Q=P++[x]++T++Q by simp];exact c
end Go.Proofs.YtocgkfoifehcbaaGreat.QSort
namespace Go.Proofs.YtocgkfoifehcbaaGreat.QSort
set_option linter.all false
open Go.RowKit
variable{K:Kn}{n:Nat}{f:Fv}{D:Int→Prop}{key:Int→Int}
def at_(L:b7)(k:Nat):Int:=L.getD k default
theorem Po{A:b7}{k:Nat}(h:k<A.length):at_ A k∈A:=by unfold at_;rw[ca h];exact n3 _
theorem KE{A:b7}{x:Int}(h:x∈A):∃k,k<A.length∧at_ A k=x:=by
 obtain⟨k,a,e⟩:=amR h;exact⟨k,a,by unfold at_;rw[ca a,e]⟩
theorem Bn{r:Int→Int→Prop}{A:b7}(h:A.Pairwise r){i j:Nat}(a:i<j)(b:j<A.length):r (at_ A i) (at_ A j):=by
 unfold at_;rw[ca (by omega:i<A.length),ca b];exact List.pairwise_iff_getElem.1 h i j (by omega) b a
theorem SJ{A:b7}{t k:Nat}(h:k<t):at_ (A.take t) k=at_ A k:=by simp[at_,List.getD_eq_getElem?_getD,yk,h]
theorem ad2{A:b7}{t k:Nat}:at_ (A.drop t) k=at_ A (t+k):=by simp[at_,List.getD_eq_getElem?_getD]
theorem Pl{A:b7}{t:Nat}{x:Int}(h:x∈A.take t):∃k,k<t∧k<A.length∧at_ A k=x:=by
 obtain⟨k,a,e⟩:=KE h;simp at a;exact⟨k,by omega,by omega,by rw[←e,SJ (by omega)]⟩
theorem aiZ{A:b7}{t:Nat}{x:Int}(h:x∈A.drop t):∃k,t≤k∧k<A.length∧at_ A k=x:=by
 obtain⟨k,a,e⟩:=KE h;simp at a;exact⟨t+k,by omega,by omega,by rw[←e,ad2]⟩
end Go.Proofs.YtocgkfoifehcbaaGreat.QSort
namespace Go.Proofs.YtocgkfoifehcbaaGreat.QSort
set_option linter.all false
open Go.RowKit
variable{f:Fv}{D:Int→Prop}{key:Int→Int}
theorem PH{c0:Nat}(c:∀m,c0≤m→uk (KN m) f D key){lvl n:Nat}(S:b7)(i:10001<n)(h:c0+(S.length+1)+10002≤lvl)(g:S.Pairwise (· < ·))(e:∀x∈S,D x)(k:S.length≤19):
  ∃d,d.Perm S∧d.Pairwise (R key)∧lO (KN lvl) n S f=some d:=by
 unfold lO CG;obtain⟨m,rfl⟩:∃m,n=m+1:=⟨n-1,by omega⟩;obtain⟨b,p1,j,a⟩:=aiO (n:=m+1) (c lvl (by omega)) [] S [] i g e (by simp;omega);simp only[u3,Dy,Ts,DO]at a;simp only[CZ,EF];rw[dq (by omega)];rw[show((0:Nat):Int)=0 from rfl]at a;rw[a,sb];simp only[Dm,Ek];rw[dq (by omega)];exact⟨b,p1,j,rfl⟩
end Go.Proofs.YtocgkfoifehcbaaGreat.QSort
namespace Go.Proofs.YtocgkfoifehcbaaGreat
set_option linter.all false
open Go.RowKit
namespace Sh
def idx(n:Nat):b7:=(List.range n).map fun (k:Nat)=>k
instance(key) a b:Decidable (QSort.R key a b):=by unfold QSort.R;infer_instance
theorem sY n:(idx n).length=n:=by simp[idx]
theorem Iw{n}{x}:x∈idx n↔∃k:Nat,k<n∧x=k:=by
 grind[idx]
theorem Nc n:(idx n).Pairwise (· < ·):=by
 unfold idx;rw[am6];refine amw (fun h=>?_) amu;omega
theorem HV n:idx (n+1)=idx n++[(n:Int)]:=by simp[idx,amS]
def dD(n a:Int):Int:=min (max n 0) a
def mx:Int:=2147483647
theorem jh{n m}(h:0≤m):0≤dD n m∧dD n m≤m:=by grind[dD]
def q(T S w:Int):Int:=T*w / S
def r(T S w:Int):Int:=T*w % S
def left(T:Int)(W:b7):Int:=T-sm (W.map (q T (sm W)))
def n4(T:Int)(W:b7)(k:Nat):Prop :=
 0<r T (sm W) (W.getD k default)∧((W.take k).countP (fun w=>decide (r T (sm W) (W.getD k default)≤r T (sm W) w))+(W.drop (k+1)).countP (fun w=>decide (r T (sm W) (W.getD k default)<r T (sm W) w)):Nat)<left T W
instance(T) W k:Decidable (n4 T W k):=by unfold n4;infer_instance
def part(T:Int)(W:b7)(k:Nat):Int:=q T (sm W) (W.getD k default)+if n4 T W k then 1 else 0
def share(T:Int)(W:b7):b7:=if sm W=0 then List.replicate W.length 0 else (List.range W.length).map (part T W)
theorem vC T W:(share T W).length=W.length:=by grind[share]
def inc:b7→b7→b7
 | p,[]=>p
 | p,i::l=>inc (p.set i.toNat (p.getD i.toNat default+1)) l
theorem Ol:∀l p,(inc p l).length=p.length
 | [],p=>rfl
 | i::l,p=>by simp[inc,Ol l]
theorem Ut:∀l p k,l.Nodup→(∀i∈l,0≤i)→k<p.length→(inc p l).getD k default=p.getD k default+if (k:Int)∈l then 1 else 0
 | [],p,k,_,_,_=>by simp[inc]
 | i::l,p,k,b,a,e=>by
  simp only[inc];rw[List.nodup_cons]at b;rw[Ut l _ k b.2 (fun j d=>a j (by grind)) (by grind)];have c:=a i (by simp)
  grind
theorem aa6{a b}(h:a.Perm b):sm a=sm b:=by
 induction h with
 | nil=>rfl
 | cons x _ e=>grind[sm]
 | swap x y l=>grind[sm]
 | trans _ _ c d=>grind
theorem RQ(T S:Int)(a:0<S):∀W:b7,S*sm (W.map (q T S))+sm (W.map (r T S))=T*sm W
 | []=>by simp[sm]
 | w::W=>by
  have:=RQ T S a W;have h:=Int.mul_ediv_add_emod (T*w) S
  grind[sm,q,r]
theorem nt{c}:∀L:b7,(∀x∈L,x≤c)→sm L≤L.length*c
 | [],_=>by simp[sm]
 | x::L,h=>by
  have:=nt L (fun y a=>h y (by grind));have:=h x (by simp);simp only[sm,la]
  grind
theorem jR:∀L:b7,(∀x∈L,0≤x)→0≤sm L
 | [],_=>by simp[sm]
 | x::L,h=>by
  have:=jR L (fun y a=>h y (by grind));have:=h x (by simp)
  grind[sm]
theorem zm:∀L,(∀x∈L,0≤x)→∀x∈L,x≤sm L
 | [],_,_,a=>by grind
 | y::L,h,x,a=>by
  have c:=jR L (fun y b=>h y (by grind));have d:=h y (by simp);simp only[sm];rcases qk.1 a with rfl|a
  ·omega
  ·have:=zm L (fun y b=>h y (by grind)) x a;omega
theorem Il{T S w}(a:0<S):0≤r T S w∧r T S w<S:=⟨Int.emod_nonneg _ (by omega),Int.emod_lt_of_pos _ a⟩
theorem CI{T S w}(c:0<S)(b:0≤T)(d:0≤w)(a:w≤S):0≤q T S w∧q T S w≤T:=by
 refine⟨Int.ediv_nonneg (alT b d) (by omega),?_⟩;have h:T*w≤T*S:=amG a b
 calc T*w / S≤T*S / S:=Int.ediv_le_ediv c h
  _=T:=Int.mul_ediv_cancel _ (by omega)
theorem MA T W(a:0<sm W):sm W*left T W=sm (W.map (r T (sm W))):=by
 grind[RQ,sm,left]
theorem FY T W(a:0<sm W):0≤left T W∧left T W≤W.length:=by
 have h:=MA T W a;have d:0≤sm (W.map (r T (sm W))):=jR _ (fun x b=>by
  obtain⟨w,_,rfl⟩:=Dk.1 b;exact(Il a).1)
 have c:sm (W.map (r T (sm W)))≤(W.map (r T (sm W))).length*sm W:=nt _ (fun x b=>by
  obtain⟨w,_,rfl⟩:=Dk.1 b;have:=(Il (T:=T) (w:=w) a).2;omega)
 rw[nw,← h,anB]at c;refine⟨?_,Int.le_of_mul_le_mul_right c a⟩;rcases Int.lt_or_le (left T W) 0 with h|h
 ·have:=Int.mul_neg_of_pos_of_neg a h;omega
 grind
def key(rs:b7)(a:Int):Int := - rs.getD a.toNat default
structure Ord(rs d:b7):Prop where
 p:d.Perm (idx rs.length)
 s:d.Pairwise (QSort.R (key rs))
theorem Ord.nodup{rs d}(h:Ord rs d):d.Nodup:=by
 refine amw (fun a e=>?_) h.s;subst e;exact a.xB
theorem Ord.mem{rs d}(h:Ord rs d){x}:x∈d↔∃k:Nat,k<rs.length∧x=k:=by rw[h.p.mem_iff,Iw]
theorem Ord.len{rs d}(h:Ord rs d):d.length=rs.length:=by rw[h.p.length_eq,sY]
theorem EO(rs:b7) p:∀n,n≤rs.length→(idx n).countP (fun a=>p (rs.getD a.toNat default))=(rs.take n).countP p
 | 0,_=>by rfl
 | n+1,h=>by
  rw[HV,ajK,EO rs p n (by omega),ace (by omega),ajK]
  grind
theorem akr{rs d:b7}(h:Ord rs d){t k:Nat}(i:t<d.length)(p:d.getD t default=(k:Int)):(rs.take k).countP (fun w=>decide (rs.getD k default≤w))+(rs.drop (k+1)).countP (fun w=>decide (rs.getD k default<w))=t:=by
 have m:k<rs.length:=by
  have:d.getD t default∈d:=by rw[ca i];exact n3 _
  rw[p]at this;obtain⟨j,n,o⟩:=h.mem.1 this;omega
 -- in the sorted order there are t ahead of k
 have c1:d.countP (fun a=>decide (QSort.R (key rs) a k))=t:=by
  have e:d=d.take t++d.drop t:=(aj8 t d).symm;have z:d.drop t=(k:Int)::d.drop (t+1):=by rw[lc i,← ca i,p]
  rw[z]at e;have g:=h.s;rw[e,amJ,alW]at g;rw[e,ajK,al6];have A:(d.take t).countP (fun a=>decide (QSort.R (key rs) a k))=t:=by
   rw[List.countP_eq_length.2 (fun a b=>by simpa using g.2.2 a b k (by simp))];simp;omega
  have B:(d.drop (t+1)).countP (fun a=>decide (QSort.R (key rs) a k))=0:=by
   rw[ant];intro a b c;exact(g.2.1.1 a b).asymm (by simpa using c)
  have C:(if decide (QSort.R (key rs) (k:Int) k)=true then 1 else 0)=0:=by
   rw[kb];intro c;exact(by simpa using c:QSort.R (key rs) (k:Int) k).xB
  rw[A,B,C];omega
 rw[h.p.countP_eq]at c1
 -- the indices below k,k,those above
 have e:idx rs.length=idx k++(k:Int)::(idx rs.length).drop (k+1):=by
  have n:(idx rs.length).take k=idx k:=by unfold idx;rw[←amr,List.take_range,anh (Nat.le_of_lt m)]
  have o:k<(idx rs.length).length:=by rw[sY];exact m
  conv=>lhs;rw[←aj8 k (idx rs.length),n,lc o]
  congr 2;simp[idx]
 have r:(idx k).countP (fun a=>decide (QSort.R (key rs) a k))=(rs.take k).countP (fun w=>decide (rs.getD k default≤w)):=by
  rw[←EO rs (fun w=>decide (rs.getD k default≤w)) k (by omega)];refine List.countP_congr (fun a b=>?_);obtain⟨j,E,rfl⟩:=Iw.1 b;simp only[qv];simp only[QSort.R,key,Int.toNat_natCast];omega
 have s:((idx rs.length).drop (k+1)).countP (fun a=>decide (QSort.R (key rs) a k))=(rs.drop (k+1)).countP (fun w=>decide (rs.getD k default<w)):=by
  have f:=EO rs (fun w=>decide (rs.getD k default<w)) rs.length (jf _);have l:=EO rs (fun w=>decide (rs.getD k default<w)) (k+1) (by omega);rw[alP]at f;have v:rs.countP (fun w=>decide (rs.getD k default<w))=(rs.take (k+1)).countP (fun w=>decide (rs.getD k default<w))+(rs.drop (k+1)).countP (fun w=>decide (rs.getD k default<w)):=by
   rw[←ajK,aj8]
  have x:idx rs.length=idx (k+1)++(idx rs.length).drop (k+1):=by
   rw[HV];conv=>lhs;rw[e]
   simp
  rw[x,ajK,l]at f;have y:((idx rs.length).drop (k+1)).countP (fun a=>decide (QSort.R (key rs) a k))=((idx rs.length).drop (k+1)).countP (fun a=>(fun w=>decide (rs.getD k default<w)) (rs.getD a.toNat default)):=by
   refine List.countP_congr (fun a b=>?_);have:(k:Int)<a:=by
    have q:=Nc rs.length;rw[e,amJ,alW]at q;exact q.2.1.1 a b
   have D:0≤a:=by omega
   obtain⟨j,rfl⟩:∃j:Nat,a=j:=⟨a.toNat,by omega⟩;simp only[qv];simp only[QSort.R,key,Int.toNat_natCast];omega
  rw[y];dsimp only at f l v⊢;omega
 have u:(if decide (QSort.R (key rs) (k:Int) k)=true then 1 else 0)=0:=by
  rw[kb];intro c;exact(by simpa using c:QSort.R (key rs) (k:Int) k).xB
 rw[e,ajK,al6,r,s,u]at c1;omega
theorem C9 T S(W:b7){k}(h:k<W.length):(W.map (r T S)).getD k default=r T S (W.getD k default):=by grind
theorem afv(T:Int)(W d:b7)(P:∀w∈W,0≤w)(O:sm W≠0)(h:Ord (W.map (r T (sm W))) d):share T W=inc (W.map (q T (sm W))) (d.take (left T W).toNat):=by
 have l:0<sm W:=by have:=jR W P;omega
 have S:=FY T W l;have v:=MA T W l;have Q:d.length=W.length:=by rw[h.len,nw]
 unfold share;rw[kb O];refine amh (by rw[Ol];simp) (fun k K L=>?_);have n:k<W.length:=by simpa using K
 rw[←ca L,Ut _ _ _ (h.nodup.sublist (List.take_sublist _ _)) (fun i R=>by
  obtain⟨j,_,rfl⟩:=h.mem.1 (oR R);omega) (by simpa using n)]
 simp only[al7,List.getElem_range,part];have I:(W.map (q T (sm W))).getD k default=q T (sm W) (W.getD k default):=by simp[List.getD_eq_getElem?_getD,n]
 rw[I];congr 1
 -- where is k in the order?
 obtain⟨t,F,et⟩:=QSort.KE (A:=d) (x:=(k:Int)) (h.mem.2 ⟨k,by simpa using n,rfl⟩);have B:=akr h F et;rw[C9 _ _ _ n,← amr,← anz,List.countP_map,List.countP_map]at B;have e:((k:Int)∈d.take (left T W).toNat)↔t<(left T W).toNat:=by
  constructor
  ·intro y;obtain⟨H,Y,V,G⟩:=QSort.Pl y;have:H=t:=by
    rcases Nat.lt_trichotomy t H with b|b|b
    ·have:=QSort.Bn h.s b V;rw[et,G]at this;exact absurd this (fun x=>x.xB)
    ·exact b.symm
    ·have:=QSort.Bn h.s b F;rw[et,G]at this;exact absurd this (fun x=>x.xB)
   omega
  ·intro y;have:d.take (left T W).toNat=d.take (left T W).toNat:=rfl;have M:t<(d.take (left T W).toNat).length:=by simp;omega
   have:=QSort.Po M;rwa[QSort.SJ y,et]at this
 have f:n4 T W k↔t<(left T W).toNat:=by
  unfold n4;simp only[Function.comp_def]at B;rw[B];constructor
  ·intro b;omega
  ·intro b;refine⟨?_,by omega⟩
   -- a rest of 0 does not n4: all behind it are 0,too
   rcases Int.lt_or_le 0 (r T (sm W) (W.getD k default))with z|z
   ·exact z
   ·exfalso;have g:sm (d.map fun a=>(W.map (r T (sm W))).getD a.toNat default)=sm (W.map (r T (sm W))):=by
     rw[aa6 (h.p.map _)];congr 1;refine amh (by simp[idx]) (fun i U s=>?_);simp only[al7,idx,List.getElem_range,Int.toNat_natCast,C9 T (sm W) W (show i<W.length by simpa using s)];rw[ca (show i<W.length by simpa using s)]
    have u:d=d.take t++d.drop t:=(aj8 t d).symm;have o:sm (d.map fun a=>(W.map (r T (sm W))).getD a.toNat default)=sm ((d.take t).map fun a=>(W.map (r T (sm W))).getD a.toNat default)+sm ((d.drop t).map fun a=>(W.map (r T (sm W))).getD a.toNat default):=by
     conv=>lhs;rw[u]
     rw[OR,lI]
    have D:∀a∈d,0≤(W.map (r T (sm W))).getD a.toNat default∧(W.map (r T (sm W))).getD a.toNat default≤sm W-1:=by
     intro a m;obtain⟨j,E,rfl⟩:=h.mem.1 m;rw[nw]at E;rw[Int.toNat_natCast,C9 T (sm W) W E];have:=Il (T:=T) (w:=W.getD j default) l;omega
    have Z:sm ((d.take t).map fun a=>(W.map (r T (sm W))).getD a.toNat default)≤t*(sm W-1):=by
     have:=nt (c:=sm W-1) ((d.take t).map fun a=>(W.map (r T (sm W))).getD a.toNat default) (fun x C=>by
      obtain⟨a,m,rfl⟩:=Dk.1 C;exact(D a (oR m)).2)
     rw[nw,IN,anh (by omega)]at this;exact this
    have X:sm ((d.drop t).map fun a=>(W.map (r T (sm W))).getD a.toNat default)≤(((d.drop t).map fun a=>(W.map (r T (sm W))).getD a.toNat default).length:Int)*0:=by
     refine nt _ (fun x C=>?_);obtain⟨a,m,rfl⟩:=Dk.1 C;obtain⟨i,U,s,rfl⟩:=QSort.aiZ m;have J:(W.map (r T (sm W))).getD k default≤0:=by rw[C9 T (sm W) W n];exact z
     rcases Nat.lt_or_ge t i with q|q
     ·have:=QSort.Bn h.s q s;rw[et]at this;unfold QSort.R key at this;rw[Int.toNat_natCast]at this;omega
     ·obtain rfl:i=t:=by omega
      rw[et,Int.toNat_natCast];exact J
    rw[Int.mul_zero]at X;have:sm W*left T W≤t*(sm W-1):=by rw[v,← g,o];omega
    have N:sm W*((t:Int)+1)≤sm W*left T W:=amG (by omega) (by omega);rw[Int.mul_add,Int.mul_one,anB (sm W) t]at N;rw[Int.mul_sub,Int.mul_one]at this;omega
 by_cases p:n4 T W k
 ·rw[kc p,kc (e.2 (f.1 p))]
 ·rw[kb p,kb (fun b=>p (f.2 (e.1 b)))]
end Sh
end Go.Proofs.YtocgkfoifehcbaaGreat
namespace Go.Proofs.YtocgkfoifehcbaaGreat
set_option linter.all false
open Go.RowKit
namespace Sh
open QSort (wn cJ du dq sb)
variable{K:Kn}{n:Nat}
def b8(L:b7):b7:=L.map fun w=>dD w mx
theorem gc L:(b8 L).length=L.length:=by simp[b8]
theorem mr L:∀w∈b8 L,0≤w∧w≤2147483647:=by
 intro w a;obtain⟨x,_,rfl⟩:=Dk.1 a;exact jh (m:=mx) (by decide)
theorem Ph{L}{k}(h:k<L.length):(b8 L).getD k default=dD (L.getD k default) mx:=by grind[b8]
theorem Tt{L}(h:L.length≤19):0≤sm (b8 L)∧sm (b8 L)≤21474836470000:=by
 refine⟨jR _ (fun w a=>(mr L w a).1),?_⟩;have:=nt (c:=2147483647) (b8 L) (fun w a=>(mr L w a).2)
 grind[gc]
theorem US{W:b7}(h:∀w∈W,0≤w)(i:Nat):0≤sm (W.take i)∧sm (W.take i)≤sm W:=by
 have b:=jR (W.take i) (fun w a=>h w (oR a));have c:=jR (W.drop i) (fun w a=>h w (v9 a));have:sm W=sm (W.take i)+sm (W.drop i):=by rw[←lI,aj8]
 omega
theorem ai7{W:b7}{i:Nat}(h:i<W.length):sm (W.take (i+1))=sm (W.take i)+W.getD i default:=by
 rw[ace h,lI,ca h];simp[sm]
theorem BX{A:b7}{k i}{y z}(h:i=A.length):List.set (A++List.replicate (k+1) z) i y=(A++[y])++List.replicate k z:=by
 subst h;grind
theorem acC{A:b7}{k i}{y z}(h:i=A.length):List.getD ((A++[y])++List.replicate k z) i default=y:=by
 grind
theorem acj{a b:Int}(d:0≤a)(e:a≤2147483647)(c:0≤b)(f:b≤2147483647):0≤a*b∧a*b≤4611686014132420609:=by
 refine⟨alT d c,?_⟩;have:=ame e f c (by omega);omega
theorem JV(g:Int→Int){W:b7}{i:Nat}(h:i<W.length):(W.take (i+1)).map g=(W.take i).map g++[g (W.getD i default)]:=by
 rw[ace h,OR,ca h];rfl
theorem abb{T}{W}(d:0≤T)(b:∀w∈W,0≤w)(a:0<sm W) i:0≤sm ((W.take i).map (q T (sm W)))∧sm ((W.take i).map (q T (sm W)))≤T:=by
 have e:∀x∈W.map (q T (sm W)),0≤x:=fun x f=>by
  obtain⟨w,c,rfl⟩:=Dk.1 f;exact(CI a d (b w c) (zm W b w c)).1
 have:=US e i;rw[←amr]at this;have g:=(FY T W a).1
 grind[left]
theorem ajs(L:b7)(T:Int)(c f g:b7)(l:L.length≤19):∀(m i:Nat),i≤L.length→L.length<m+i →
  vY K n L T c f g m (sm ((b8 L).take i)) (i:Int)=if (sm (b8 L) == 0)=true then some c else sy K n L T (sm (b8 L)) n T 0 c f g:=by
 intro m
 induction m with
 | zero=>intro i h j;omega
 | succ m p =>
  intro i h j;simp only[vY,C5];by_cases d:i<L.length
  ·have q:=Tt l;have a:=US (W:=b8 L) (fun w o=>(mr L w o).1) (i+1);have e:=ai7 (W:=b8 L) (i:=i) (by rw[gc];exact d);have b:=Ph d;rw[du (by omega),cJ (by omega),eT];simp only[iy,sb];rw[wn (n:=(i:Int)+1) (k:=i+1) (by omega) (by omega)];rw[show aa (sm ((b8 L).take i)+min (max (L.getD i default) 0) 2147483647)=sm ((b8 L).take (i+1)) by
    rw[e,b];exact bN (by rw[e,b]at a;unfold dD mx at a;omega) (by rw[e,b]at a;unfold dD mx at a;omega)]
   exact p (i+1) (by omega) (by omega)
  ·rw[dq (by omega),IT (by rw[gc];omega)]
theorem Zz(L:b7)(T:Int)(d:0≤T∧T≤2147483647)(F:L.length≤19)(g:0<sm (b8 L)):∀(m i:Nat),i≤L.length→L.length<m+i →
  sy K n L T (sm (b8 L)) m (T-sm (((b8 L).take i).map (q T (sm (b8 L))))) (i:Int) (((b8 L).take i).map (q T (sm (b8 L)))++List.replicate (L.length-i) 0) (((b8 L).take i).map (r T (sm (b8 L)))++List.replicate (L.length-i) 0) (idx i++List.replicate (L.length-i) 0) =
  (lO K n (idx L.length) (Fv.c165 ((b8 L).map (r T (sm (b8 L)))))).bind fun a =>
  aE (cD (0:Int) (left T (b8 L)) a.length) (
  ui K n n (List.drop ((0:Int)).toNat (List.take (left T (b8 L)).toNat a)) ((List.drop ((0:Int)).toNat (List.take (left T (b8 L)).toNat a)).length:Int) 0 ((b8 L).map (q T (sm (b8 L))))):=by
 intro m
 induction m with
 | zero=>intro i x y;omega
 | succ m A =>
  intro i x y;simp only[sy,Cv];by_cases b:i<L.length
  ·have h:=fun w c=>(mr L w c).1;have f:=abb d.1 h g;have u:=Ph b;obtain⟨k,t⟩:∃k,L.length-i=k+1:=⟨L.length-i-1,by omega⟩;have c:=mr L ((b8 L).getD i default) (by rw[ca (by rw[gc];exact b)];exact n3 _);have j:=acj d.1 d.2 c.1 c.2;rw[du (by omega),cJ (by omega),eT];simp only[iy,sb];have e:min (max (L.getD i default) 0) 2147483647=(b8 L).getD i default:=by rw[u];rfl
   rw[e,bN (n:=T*(b8 L).getD i default) (by omega) (by omega)];have z:(sm (b8 L) != 0)=true:=by simp;omega
   rw[z,bc,bc];have o:(((b8 L).take i).map (q T (sm (b8 L)))++List.replicate (L.length-i) 0).length=L.length:=by simp[gc];omega
   have C:(((b8 L).take i).map (r T (sm (b8 L)))++List.replicate (L.length-i) 0).length=L.length:=by simp[gc];omega
   have D:(idx i++List.replicate (L.length-i) 0).length=L.length:=by simp[sY];omega
   rw[o,C,D,cJ (by omega),cJ (by omega),cJ (by omega)];simp only[alU];rw[o,cJ (by omega),t];have l:i=(((b8 L).take i).map (q T (sm (b8 L)))).length:=by simp[gc];omega
   have B:i=(((b8 L).take i).map (r T (sm (b8 L)))).length:=by simp[gc];omega
   rw[BX l,BX B,BX (sY i).symm,acC l];have G:=CI g d.1 c.1 (zm _ h _ (by rw[ca (by rw[gc];exact b)];exact n3 _));have s:aa (Int.tdiv (T*(b8 L).getD i default) (sm (b8 L)))=q T (sm (b8 L)) ((b8 L).getD i default):=by
    rw[alV j.1];exact bN (by show _≤q _ _ _;omega) (by show q _ _ _≤_;omega)
   have v:Int.tmod (T*(b8 L).getD i default) (sm (b8 L))=r T (sm (b8 L)) ((b8 L).getD i default):=by
    rw[amX j.1];rfl
   rw[s,v,← JV _ (by rw[gc];exact b),← JV _ (by rw[gc];exact b),← HV];have p:aa (T-sm (((b8 L).take i).map (q T (sm (b8 L))))-q T (sm (b8 L)) ((b8 L).getD i default))=T-sm (((b8 L).take (i+1)).map (q T (sm (b8 L)))):=by
    rw[JV _ (by rw[gc];exact b),lI];simp only[sm];have E:=f i;rw[bN (by omega) (by omega)];omega
   rw[p,wn (n:=(i:Int)+1) (k:=i+1) (by omega) (by omega)];have:=A (i+1) (by omega) (by omega);rw[show L.length-(i+1)=k by omega]at this;exact this
  ·have:i=L.length:=by omega
   subst this;rw[dq (by omega)];have e:(b8 L).take L.length=b8 L:=IT (by rw[gc];omega);rw[e];simp only[anD,amT,Ts];rfl
theorem acF(l:b7)(q:l.length≤19):∀(m i:Nat) (p:b7),i≤l.length→l.length<m+i→(∀x∈l,0≤x∧x.toNat<p.length)→(∀x∈p,0≤x∧x+l.length≤4611686018427387904+i) →
  ui K n m l (l.length:Int) (i:Int) p=some (inc p (l.drop i)):=by
 intro m
 induction m with
 | zero=>intro i p e f;omega
 | succ m o =>
  intro i p e f d c;simp only[ui,CL];by_cases a:i<l.length
  ·have g:=d (l.getD i default) (by rw[ca a];exact n3 _);have j:=c (p.getD (l.getD i default).toNat default) (by rw[ca g.2];exact n3 _);rw[du (by omega),cJ (by omega),eT,cJ (by omega),cJ (by omega),wn (n:=(i:Int)+1) (k:=i+1) (by omega) (by omega),bN (by omega) (by omega)];rw[o (i+1) _ (by omega) (by omega) (by simpa using d) (fun x b=>by
    rcases alZ b with h|h
    ·have:=c x h;omega
    ·subst h;omega)]
   rw[lc a,← ca a];rfl
  ·rw[dq (by omega),ll (by omega)];rfl
theorem H2 rs m:QSort.uk (KN (m+1)) (Fv.c165 rs) (fun a=>0≤a∧a<rs.length) (key rs):=by
 refine⟨fun a b d e=>?_⟩;show ∃c,xG (KN m) m a b rs=some c∧_;unfold xG;rw[cJ e,cJ d]
 grind[sc,rY,sb,key]
theorem sorted rs{lvl n}(h:10001<n)(i:rs.length≤19)(g:20010≤lvl):∃d,Ord rs d∧lO (KN lvl) n (idx rs.length) (Fv.c165 rs)=some d:=by
 obtain⟨d,b,c,e⟩:=QSort.PH (c0:=1) (f:=Fv.c165 rs) (D:=fun a=>0≤a∧a<rs.length) (key:=key rs) (fun m j=>by
  obtain⟨k,rfl⟩:∃k,m=k+1:=⟨m-1,by omega⟩
  grind[H2]) (lvl:=lvl) (n:=n) (idx rs.length) h (by grind[sY]) (Nc _) (fun x l=>by
   grind[Iw]) (by grind[sY])
 exact⟨d,⟨b,c⟩,e⟩
theorem pO{a b:Int}{n:Nat}(c:0≤a)(d:a≤b)(e:b≤n):cD a b n=true:=by grind[cD]
theorem JD{n b:Nat}(h:n*b≤140737488355328)(a:n≤4611686018427387904):fG n b=true:=by
 grind[fG]
theorem mw{lvl n:Nat}(T:Int)(L:b7)(c:L.length≤19)(u:10001<n)(g:20010≤lvl):xA (KN lvl) n T L=some (share (dD T mx) (b8 L)):=by
 unfold xA;have o:0≤dD T mx∧dD T mx≤2147483647:=jh (m:=mx) (by decide);simp only[iy,sb,JD (show L.length*8≤140737488355328 by omega) (by omega),bc,eT];have l:=ajs (K:=KN lvl) (n:=n) L (dD T mx) (List.replicate L.length 0) (List.replicate L.length 0) (List.replicate L.length 0) c n 0 (by omega) (by omega);rw[show sm ((b8 L).take 0)=0 from rfl,show((0:Nat):Int)=0 from rfl]at l;rw[show min (max T 0) 2147483647=dD T mx from rfl,l];have v:=Tt c;by_cases i:sm (b8 L)=0
 ·rw[kc (by simp[i])];unfold share;rw[kc i,gc]
 ·rw[kb (by simp[i])];have f:0<sm (b8 L):=by omega
  have e:=Zz (K:=KN lvl) (n:=n) L (dD T mx) o c f n 0 (by omega) (by omega);simp only[alL,zt,Dy,alH,sm,Int.sub_zero,show idx 0=[] from rfl]at e;rw[show((0:Nat):Int)=0 from rfl]at e;rw[e];obtain⟨d,j,p⟩:=sorted ((b8 L).map (r (dD T mx) (sm (b8 L)))) (lvl:=lvl) (n:=n) u (by simp[gc,c]) g;rw[nw,gc]at p;rw[p,sb];have s:d.length=L.length:=by rw[j.len,nw,gc]
  have a:=FY (dD T mx) (b8 L) f;rw[gc]at a;rw[pO (by omega) a.1 (by rw[s];exact a.2),bc];rw[show(0:Int).toNat=0 from rfl,If];rw[afv (dD T mx) (b8 L) d (fun w b=>(mr L w b).1) (by omega) j];have:=acF (K:=KN lvl) (n:=n) (d.take (left (dD T mx) (b8 L)).toNat) (by simp;omega) n 0 ((b8 L).map (q (dD T mx) (sm (b8 L)))) (by omega) (by simp;omega) (fun x h=>by
   obtain⟨k,t,rfl⟩:=j.mem.1 (oR h);simp at t;simp;omega) (fun x h=>by
   obtain⟨w,b,rfl⟩:=Dk.1 h;have:=CI f o.1 (mr L w b).1 (zm _ (fun w b=>(mr L w b).1) w b);have y:(d.take (left (dD T mx) (b8 L)).toNat).length≤10000:=by simp;omega
   omega)
  rw[show((0:Nat):Int)=0 from rfl,If]at this;exact this
end Sh
namespace Sh
theorem R8{T:Int}{W:b7}(a:sm W≠0){k:Nat}(b:k<W.length):(share T W).getD k default=part T W k:=by
 rw[ca (by rw[vC];exact b)];unfold share;simp[a]
theorem Jk{T:Int}{W:b7}(a:sm W=0):share T W=List.replicate W.length 0:=by unfold share;rw[kc a]
theorem acs{T:Int}{W:b7}(a:∀w∈W,0≤w)(d:0≤T)(c:0<sm W){k:Nat}(e:k<W.length):0≤part T W k∧part T W k≤T+1:=by
 have b:W.getD k default∈W:=by rw[ca e];exact n3 _
 have:=CI c d (a _ b) (zm W a _ b);unfold part;split<;>omega
end Sh
namespace Rs
open Sh (share b8 dD mx q r left n4 part)
def aux(T S l:Int):b7→b7→b7
 | _,[]=>[]
 | A,w::B=>(q T S w+if 0<r T S w∧((A.countP (fun x=>decide (r T S w≤r T S x))+B.countP (fun x=>decide (r T S w<r T S x)):Nat):Int)<l then 1 else 0)::aux T S l (A++[w]) B
theorem Rx(T S l:Int):∀(B A:b7),(aux T S l A B).length=B.length
 | [],A=>rfl
 | w::B,A=>by simp[aux,Rx T S l B]
theorem QN(T S l:Int):∀(B A:b7) (k:Nat),k<B.length→(aux T S l A B).getD k default=q T S (B.getD k default)+if 0<r T S (B.getD k default)∧(((A++B.take k).countP (fun x=>decide (r T S (B.getD k default)≤r T S x))+(B.drop (k+1)).countP (fun x=>decide (r T S (B.getD k default)<r T S x)):Nat):Int)<l then 1 else 0
 | [],A,k,h=>by simp at h
 | w::B,A,0,h=>by simp[aux]
 | w::B,A,k+1,h=>by
  have:=QN T S l B (A++[w]) k (by simpa using h);simp only[aux,amk,this,amQ,anu,q7,alO]
theorem Ri(T:Int)(W:b7)(d:sm W≠0):share T W=aux T (sm W) (left T W) [] W:=by
 refine amh (by rw[Sh.vC,Rx]) (fun k a c=>?_);have b:k<W.length:=by rw[Sh.vC]at a;exact a
 rw[←ca a,← ca c,Sh.R8 d b,QN _ _ _ _ _ _ b];rfl
def zo(a:List (Option Int)):b7:=a.map fun o=>o.getD 0
def op(a:List (Option Int)):b7:=a.filterMap id
def pick:List (Option Int)→b7→b7
 | some _::a,p::P=>p::pick a P
 | none::a,_::P=>pick a P
 | _,_=>[]
theorem sF:∀a:List (Option Int),sm (zo a)=sm (op a)
 | []=>rfl
 | some w::a=>by have:=sF a;simp only[zo,op]at *;simp[sm,this]
 | none::a=>by have:=sF a;simp only[zo,op]at *;simp[sm,this]
theorem Z5(T S:Int):q T S 0=0:=by simp[q]
theorem Pf(T S:Int):r T S 0=0:=by simp[r]
theorem FL(T S:Int):∀a:List (Option Int),sm ((zo a).map (q T S))=sm ((op a).map (q T S))
 | []=>rfl
 | some w::a=>by
  have:=FL T S a;have b:zo (some w::a)=w::zo a:=rfl;have c:op (some w::a)=w::op a:=rfl;rw[b,c,rv,rv,sm,sm,this]
 | none::a=>by
  have:=FL T S a;have b:zo (none::a)=0::zo a:=rfl;have c:op (none::a)=op a:=rfl;rw[b,c,rv,sm,this,Z5];omega
theorem Ik(p:Int→Bool)(b:p 0=false):∀a:List (Option Int),(zo a).countP p=(op a).countP p
 | []=>rfl
 | some w::a=>by have:=Ik p b a;simp only[zo,op]at *;simp[al6,this]
 | none::a=>by have:=Ik p b a;simp only[zo,op]at *;simp[al6,this,b]
theorem Hf(T S l:Int):∀(a:List (Option Int)) (A b:b7),(∀x,0<x→A.countP (fun y=>decide (x≤r T S y))=b.countP (fun y=>decide (x≤r T S y))) →
  pick a (aux T S l A (zo a))=aux T S l b (op a)
 | [],A,b,h=>rfl
 | some w::a,A,b,h=>by
  have i:=Hf T S l a (A++[w]) (b++[w]) (fun x g=>by rw[ajK,ajK,h x g]);have c:zo (some w::a)=w::zo a:=rfl;have d:op (some w::a)=w::op a:=rfl;rw[c,d];simp only[aux,pick,i];congr 2;by_cases f:0<r T S w
  ·rw[h _ f,Ik _ (by simp[Pf];omega)]
  ·rw[kb (fun e=>f e.1),kb (fun e=>f e.1)]
 | none::a,A,b,h=>by
  have i:=Hf T S l a (A++[0]) b (fun x g=>by
   rw[ajK,h x g];simp[Pf];omega)
  have c:zo (none::a)=0::zo a:=rfl;have d:op (none::a)=op a:=rfl;rw[c,d];simp only[aux,pick,i]
theorem JQ:∀a:List (Option Int),pick a (List.replicate a.length 0)=List.replicate (op a).length 0
 | []=>rfl
 | some w::a=>by simp[pick,op,amU];exact JQ a
 | none::a=>by simp[pick,op,amU];exact JQ a
theorem YS(T:Int)(a:List (Option Int)):pick a (share T (zo a))=share T (op a):=by
 by_cases b:sm (zo a)=0
 ·rw[Sh.Jk b,Sh.Jk (by rw[←sF];exact b)];have:(zo a).length=a.length:=by simp[zo]
  rw[this];exact JQ a
 ·rw[Ri T _ b,Ri T _ (by rw[←sF];exact b)];have e:left T (zo a)=left T (op a):=by unfold left;rw[FL,sF]
  rw[e,sF];exact Hf T _ _ a [] [] (fun _ _=>rfl)
def m8(g:Bool)(a:bH):Int:=if g=true then a.Grow else a.Shrink
def oF(g:Bool)(a:bH):Int:=if g=true then a.Grow else a.aC*a.Shrink / 1000
abbrev It:=bH×Option Int
def fZ(p:It):Int:=p.2.getD p.1.aC
def gu(g:Bool)(p:It):Option Int:=if p.2.isSome=true then none else some (oF g p.1)
def fq(g:Bool)(M:List It):Int:=sm (M.map fun p=>if p.2.isSome=true then 0 else m8 g p.1)
def room(g:Bool)(sp:Int)(M:List It):Int:=max (if g=true then sp-sm (M.map fZ) else-(sp-sm (M.map fZ))) 0
def oG(g:Bool)(sp:Int)(M:List It):Int:=if fq g M<1000 then room g sp M*fq g M / 1000 else room g sp M
def parts(g:Bool)(sp:Int)(M:List It):b7:=share (dD (oG g sp M) mx) (b8 (zo (M.map (gu g))))
def ns(g:Bool)(a:bH)(p:Int):Int:=if g=true then a.aC+p else a.aC-p
def cl(a:bH)(n:Int):Int:=min (max n a.Min) a.Max
def mI(g:Bool)(p:It)(x:Int):Int:=if p.2.isSome=true then 0 else cl p.1 (ns g p.1 x)-ns g p.1 x
def change(g:Bool)(sp:Int)(M:List It):Int:=sm (List.zipWith (mI g) M (parts g sp M))
def mj(c n l:Int):Bool:=decide (c=0∨(0<c∧n<l)∨(c<0∧l<n))
def gw(g:Bool)(c:Int)(p:It)(x:Int):It:=if p.2.isSome=true then p else if mj c (ns g p.1 x) (cl p.1 (ns g p.1 x))=true then (p.1,some (cl p.1 (ns g p.1 x))) else p
def round(g:Bool)(sp:Int)(M:List It):List It:=List.zipWith (gw g (change g sp M)) M (parts g sp M)
def opens(M:List It):Nat:=M.countP fun p=>!p.2.isSome
def run(g:Bool)(sp:Int):Nat→List It→List It
 | 0,M=>M
 | k+1,M=>if opens M=0 then M else run g sp k (round g sp M)
def dz(x:bH):bH:=⟨dD x.aC 1048576,dD x.Grow 1048576,dD x.Shrink 1048576,dD x.Min 1048576,max (dD x.Max 1048576) (dD x.Min 1048576)⟩
def hyp(x:bH):Int:=cl (dz x) (dz x).aC
def lV(l:ee)(sp:Int):Bool:=decide (sm (l.map hyp)<sp)
def jK(g:Bool)(a:bH)(s:Int):Bool:=if g=true then decide (a.Grow=0∨a.aC>s) else decide (a.Shrink=0∨a.aC<s)
def start(g:Bool)(l:ee):List It:=l.map fun x=>(dz x,if jK g (dz x) (hyp x)=true then some (hyp x) else none)
def gi(M:List It):b7:=M.map fun p=>p.2.getD 0
def resolve(l:ee)(sp:Int):b7:=gi (run (lV l sp) sp l.length (start (lV l sp) l))
structure lG(p:It):Prop where
 b:0≤p.1.aC∧p.1.aC≤1048576
 g:0≤p.1.Grow∧p.1.Grow≤1048576
 s:0≤p.1.Shrink∧p.1.Shrink≤1048576
 l:0≤p.1.Min∧p.1.Min≤p.1.Max∧p.1.Max≤1048576
 z:∀n,p.2=some n→p.1.Min≤n∧n≤p.1.Max
def Ok(M:List It):Prop:=∀p∈M,lG p
theorem jh(n:Int):0≤dD n 1048576∧dD n 1048576≤1048576:=Sh.jh (by omega)
theorem I1(x:bH)(o:Option Int)(h:o=none∨o=some (hyp x)):lG (dz x,o):=by
 have b:=jh x.aC;have c:=jh x.Grow;have d:=jh x.Shrink;have e:=jh x.Min;have f:=jh x.Max;refine⟨b,c,d,by simp only[dz];omega,fun n a=>?_⟩;rcases h with rfl|rfl
 ·cases a
 ·injection a with a;subst a
  simp only[hyp,cl,dz];omega
theorem abp(g:Bool)(l:ee):Ok (start g l):=by
 intro p a;obtain⟨x,_,rfl⟩:=Dk.1 a;refine I1 x _ ?_;split<;>simp
theorem Ca{p:It}(h:lG p)(n:Int):p.1.Min≤cl p.1 n∧cl p.1 n≤p.1.Max:=by have:=h.l;unfold cl;omega
theorem XP{g:Bool}{c:Int}{p:It}(h:lG p)(x:Int):lG (gw g c p x):=by
 unfold gw;split
 ·exact h
 ·split
  ·refine⟨h.b,h.g,h.s,h.l,fun n a=>?_⟩;injection a with a;subst a;exact Ca h _
  ·exact h
theorem BG(g:Bool)(sp:Int)(M:List It):(parts g sp M).length=M.length:=by unfold parts;rw[Sh.vC,Sh.gc];simp[zo]
theorem mL(g:Bool)(sp:Int)(M:List It):(round g sp M).length=M.length:=by unfold round;rw[amV,BG];omega
theorem IJ(g:Bool)(sp:Int)(M:List It){k:Nat}(a:k<M.length):(round g sp M)[k]'(by rw[mL];exact a)=gw g (change g sp M) M[k] ((parts g sp M).getD k default):=by
 unfold round;rw[amK,ca (by rw[BG];exact a)]
theorem acw{g:Bool}{sp:Int}{M:List It}(h:Ok M):Ok (round g sp M):=by
 intro p c;obtain⟨k,b,e⟩:=amR c;have a:k<M.length:=by rw[mL]at b;exact b
 rw[IJ g sp M a]at e;subst e;exact XP (h _ (n3 _)) _
theorem V7{g:Bool}{sp:Int}:∀(k:Nat) (M:List It),(run g sp k M).length=M.length
 | 0,M=>rfl
 | k+1,M=>by
  unfold run;split
  ·rfl
  ·rw[V7 k,mL]
theorem Jv(l:ee)(sp:Int):(resolve l sp).length=l.length:=by simp[resolve,gi,V7,start]
theorem Vj(g:Bool)(c:Int):∀(M:List It) (P:b7),M.length=P.length→opens (List.zipWith (gw g c) M P)≤opens M ∧
  ((∃k,∃h:k<M.length,∃f:k<P.length,M[k].2.isSome=false∧mj c (ns g M[k].1 P[k]) (cl M[k].1 (ns g M[k].1 P[k]))=true)→opens (List.zipWith (gw g c) M P)<opens M)
 | [],P,_=>⟨by simp[opens],fun⟨k,h,_⟩=>by simp at h⟩
 | p::M,[],h=>by simp at h
 | p::M,x::P,h=>by
  have m:=Vj g c M P (by simpa using h);have d:opens (p::M)=opens M+(if (!p.2.isSome)=true then 1 else 0):=by simp[opens,al6]
  have e:opens (List.zipWith (gw g c) (p::M) (x::P))=opens (List.zipWith (gw g c) M P)+(if (!(gw g c p x).2.isSome)=true then 1 else 0):=by simp[opens,al6]
  have n:(if (!(gw g c p x).2.isSome)=true then 1 else 0)≤(if (!p.2.isSome)=true then 1 else 0):=by
   unfold gw;by_cases j:p.2.isSome=true
   ·rw[kc j];exact jf _
   ·rw[kb j];by_cases i:mj c (ns g p.1 x) (cl p.1 (ns g p.1 x))=true
    ·rw[kc i];simp
    ·rw[kb i];exact jf _
  refine⟨by rw[d,e];omega,fun⟨k,l,f,a,b⟩=>?_⟩;cases k with
  | zero =>
   simp only[List.getElem_cons_zero]at a b;have:(if (!(gw g c p x).2.isSome)=true then 1 else 0)=0:=by
    have:gw g c p x=(p.1,some (cl p.1 (ns g p.1 x))):=by unfold gw;rw[kb (by rw[a];simp),kc b]
    rw[this];rfl
   rw[d,e,this,a];simp;omega
  | succ k =>
   simp only[List.getElem_cons_succ]at a b;have:=m.2 ⟨k,by simpa using l,by simpa using f,a,b⟩;rw[d,e];omega
theorem Wa:∀L:b7,0<sm L→∃k,∃h:k<L.length,0<L[k]
 | [],h=>by simp[sm]at h
 | x::L,h=>by
  simp only[sm]at h;by_cases c:0<x
  ·exact⟨0,by simp,c⟩
  ·obtain⟨k,b,a⟩:=Wa L (by omega);exact⟨k+1,by simpa using b,by simpa using a⟩
theorem Us:∀L:b7,sm L<0→∃k,∃h:k<L.length,L[k]<0
 | [],h=>by simp[sm]at h
 | x::L,h=>by
  simp only[sm]at h;by_cases c:x<0
  ·exact⟨0,by simp,c⟩
  ·obtain⟨k,b,a⟩:=Us L (by omega);exact⟨k+1,by simpa using b,by simpa using a⟩
theorem Nb{g:Bool}{sp:Int}{M:List It}(h:opens M≠0):opens (round g sp M)<opens M:=by
 have e:=BG g sp M;refine (Vj g (change g sp M) M (parts g sp M) e.symm).2 ?_;rcases Int.lt_trichotomy (change g sp M) 0 with d|d|d
 ·obtain⟨k,b,a⟩:=Us _ d;simp only[amV,e,Nat.min_self]at b;rw[amK]at a;unfold mI at a;by_cases c:M[k].2.isSome=true
  ·rw[kc c]at a;omega
  ·rw[kb c]at a;refine⟨k,b,by omega,by simpa using c,?_⟩;unfold mj;rw[qv];omega
 ·have:0<opens M:=by omega
  obtain⟨p,f,a⟩:=List.countP_pos_iff.1 this;obtain⟨k,b,rfl⟩:=amR f;refine⟨k,b,by omega,by simpa using a,?_⟩;unfold mj;rw[qv];omega
 ·obtain⟨k,b,a⟩:=Wa _ d;simp only[amV,e,Nat.min_self]at b;rw[amK]at a;unfold mI at a;by_cases c:M[k].2.isSome=true
  ·rw[kc c]at a;omega
  ·rw[kb c]at a;refine⟨k,b,by omega,by simpa using c,?_⟩;unfold mj;rw[qv];omega
theorem PD(M:List It):opens M≤M.length:=List.countP_le_length
theorem yJ{g:Bool}{sp:Int}{M:List It}(h:opens M=0):∀k,run g sp k M=M
 | 0=>rfl
 | k+1=>by unfold run;rw[kc h]
theorem O7{g:Bool}{sp:Int}:∀(k j:Nat) (M:List It),opens M≤k→opens M≤j→run g sp k M=run g sp j M
 | 0,j,M,h,_=>by rw[yJ (by omega),yJ (by omega)]
 | k+1,0,M,_,h=>by rw[yJ (by omega),yJ (by omega)]
 | k+1,j+1,M,h,b=>by
  unfold run;split
  ·rfl
  ·rename_i a;have:=Nb (g:=g) (sp:=sp) a;exact O7 k j _ (by omega) (by omega)
end Rs
namespace Rs
open Sh (share b8 dD mx jR nt)
open QSort (wn cJ du dq sb)
instance:Inhabited It:=⟨(default,none)⟩
def O(M:List It)(n:Nat):b7:=((List.range n).filter fun k=>!(M.getD k default).2.isSome).map fun (k:Nat)=>k
theorem Le M:O M 0=[]:=rfl
theorem xm M n:O M (n+1)=O M n++if (M.getD n default).2.isSome=true then [] else [(n:Int)]:=by
 unfold O;rw[amS,am0,OR]
 grind
theorem KR{M}{n}{x}:x∈O M n↔∃k:Nat,k<n∧x=k∧(M.getD k default).2.isSome=false:=by
 grind[O]
theorem BC M n:(O M n).length≤n:=by
 grind[O]
theorem Y2 M n:(O M n).Pairwise (· < ·):=by
 unfold O;rw[am6];refine amw (fun h=>?_) (anq _ amu);omega
theorem OY{M}{k}(a:k<(O M M.length).length):∃j:Nat,(O M M.length).getD k default=j∧j<M.length∧(M.getD j default).2.isSome=false:=by
 have b:(O M M.length).getD k default∈O M M.length:=by grind
 grind[KR]
theorem Hj:∀(a:List (Option Int)) (P:b7) (o:Option Int) (p:Int),a.length=P.length→pick (a++[o]) (P++[p])=pick a P++if o.isSome=true then [p] else []
 | [],[],o,p,_=>by cases o<;>simp[pick]
 | [],_::_,o,p,h=>by grind
 | _::_,[],o,p,h=>by grind
 | none::a,x::P,o,p,h=>by
  have:=Hj a P o p (by grind)
  grind[pick]
 | some w::a,x::P,o,p,h=>by
  have:=Hj a P o p (by grind)
  grind[pick]
theorem af1 g p:(gu g p).isSome=!p.2.isSome:=by grind[gu]
theorem iY{α:Type}[Inhabited α]{L:List α}{n}(h:n<L.length):L.take (n+1)=L.take n++[L.getD n default]:=by
 simp_all
theorem NA(g:Bool)(M:List It)(P:b7)(a:P.length=M.length):∀n,n≤M.length→pick ((M.take n).map (gu g)) (P.take n)=(O M n).map fun j=>P.getD j.toNat default
 | 0,_=>by simp[pick,Le]
 | n+1,h=>by
  rw[iY (show n<M.length by omega),iY (show n<P.length by omega),OR,rv,zt,Hj _ _ _ _ (by simp;omega),NA g M P a n (by omega),xm,OR,af1];congr 1;cases (M.getD n default).2.isSome<;>simp
theorem Rn(g:Bool)(M:List It){n}(h:n<M.length):op ((M.take (n+1)).map (gu g))=op ((M.take n).map (gu g))++if (M.getD n default).2.isSome=true then [] else [oF g (M.getD n default).1]:=by
 grind[iY,op,gu]
theorem H5 g M:∀n,n≤M.length→(op ((M.take n).map (gu g))).length=(O M n).length
 | 0,_=>by rfl
 | n+1,h=>by
  rw[Rn g M (by omega),xm,mm,mm,H5 g M n (by omega)]
  grind
theorem Wm(f:It→Int)(M:List It){n:Nat}(h:n<M.length):sm ((M.take (n+1)).map f)=sm ((M.take n).map f)+f (M.getD n default):=by
 rw[iY h,OR,lI];simp[sm]
theorem S3(F:Nat→Int)(M:List It)(h:∀k,(M.getD k default).2.isSome=true→F k=0):∀n,sm ((List.range n).map F)=sm ((O M n).map fun j=>F j.toNat)
 | 0=>by simp[Le]
 | n+1=>by
  rw[amS,OR,lI,S3 F M h n,xm,OR,lI];congr 1;cases a:(M.getD n default).2.isSome
  ·simp[sm]
  ·simp[sm,h n a]
theorem aes g sp M:change g sp M=sm ((O M M.length).map fun j=>mI g (M.getD j.toNat default) ((parts g sp M).getD j.toNat default)):=by
 rw[←S3 (fun k=>mI g (M.getD k default) ((parts g sp M).getD k default)) M (fun k c=>by grind[mI]) M.length];unfold change;congr 1;refine amh (by simp[BG]) (fun k a b=>?_)
 grind
theorem ahn g(M:List It){n}(h:n<M.length):fq g (M.take (n+1))=fq g (M.take n)+if (M.getD n default).2.isSome=true then 0 else m8 g (M.getD n default).1:=Wm _ M h
variable{g:Bool}{M:List It}
theorem Ok.at(h:Ok M){k}(a:k<M.length):lG (M.getD k default):=by rw[ca a];exact h _ (n3 _)
theorem ajD{p}(h:lG p):0≤fZ p∧fZ p≤1048576:=by
 unfold fZ;have:=h.b;have:=h.l;cases a:p.2 with
 | none=>grind
 | some n=>have:=h.z n a;grind
theorem aa0{p}(h:lG p):0≤m8 g p.1∧m8 g p.1≤1048576:=by unfold m8;have:=h.g;have:=h.s;omega
theorem Kg{p}(h:lG p):0≤oF g p.1∧oF g p.1≤1099511628:=by
 unfold oF;have b:=h.b;have c:=h.g;have a:=h.s;have:0≤p.1.aC*p.1.Shrink∧p.1.aC*p.1.Shrink≤1048576*1048576:=⟨alT b.1 a.1,ame b.2 a.2 a.1 (by omega)⟩;omega
theorem Vq{c}(a:0≤c) f(d:∀p∈M,0≤f p∧f p≤c) n(e:M.length≤19):0≤sm ((M.take n).map f)∧sm ((M.take n).map f)≤1000*c:=by
 refine⟨jR _ (fun x b=>?_),?_⟩
 ·grind
 ·have:=nt (c:=c) ((M.take n).map f) (fun x b=>by grind);refine Int.le_trans this (Int.mul_le_mul_of_nonneg_right ?_ a)
  grind
theorem Cm(h:Ok M)(a:M.length≤19) n:0≤sm ((M.take n).map fZ)∧sm ((M.take n).map fZ)≤1048576000:=by
 have:=Vq (M:=M) (c:=1048576) (by omega) fZ (fun p b=>ajD (h p b)) n a;omega
theorem K7(h:Ok M)(a:M.length≤19) n:0≤fq g (M.take n)∧fq g (M.take n)≤1048576000:=by
 have:=Vq (M:=M) (c:=1048576) (by omega) (fun p=>if p.2.isSome=true then 0 else m8 g p.1) (fun p b=>by
  have:=aa0 (g:=g) (h p b);omega) n a
 grind[fq]
theorem mR{α:Type}(L:List α):L.take L.length=L :=by grind
theorem afb(h:Ok M)(a:M.length≤19){sp}(b : -1125899906842624≤sp∧sp≤1125899906842624):0≤room g sp M∧room g sp M≤1125900955418624:=by
 have:=Cm h a M.length
 grind[mR,room]
theorem Y3(a f:Int):a / 1000*f+a % 1000*f / 1000=a*f / 1000:=by
 have h:a*f=1000*(a / 1000*f)+a % 1000*f:=by
  grind
 omega
theorem WU{w}(h:Ok M)(c:w∈zo (M.map (gu g))):0≤w∧w≤1099511628:=by
 obtain⟨o,a,rfl⟩:=Dk.1 c;obtain⟨p,b,rfl⟩:=Dk.1 a;unfold gu;have:=Kg (g:=g) (h p b)
 grind
theorem Qd{L}(h:∀w∈L,0≤w∧w≤2147483647):b8 L=L:=by
 conv=>rhs;rw[←List.map_id L]
 refine anv (fun w a=>?_);unfold Sh.dD Sh.mx;grind
theorem Xr{w}(h:Ok M)(c:w∈op (M.map (gu g))):0≤w∧w≤1099511628:=by
 obtain⟨o,a,e⟩:=amZ.1 c;obtain⟨p,b,rfl⟩:=Dk.1 a;unfold gu at e;have:=Kg (g:=g) (h p b)
 grind
theorem aaw(h:Ok M) sp:share (dD (oG g sp M) mx) (b8 (op (M.map (gu g))))=(O M M.length).map fun j=>(parts g sp M).getD j.toNat default:=by
 rw[Qd (fun w a=>by have:=Xr h a;omega),← YS];unfold parts;rw[Qd (fun w a=>by have:=WU h a;omega)];have:=NA g M (share (dD (oG g sp M) mx) (zo (M.map (gu g)))) (by rw[Sh.vC];simp[zo]) M.length (by omega);rw[mR,IT (by rw[Sh.vC];simp[zo])]at this
 grind
theorem adq{T}{W}(b:∀w∈W,0≤w)(d:0≤T){k}(c:k<W.length):0≤(share T W).getD k default∧(share T W).getD k default≤T+1:=by
 by_cases a:sm W=0
 ·rw[Sh.Jk a,ca (by grind)]
  grind
 ·rw[Sh.R8 a c];exact Sh.acs b d (by have:=jR W b;omega) c
theorem SN(h:Ok M) sp{k}(c:k<M.length):0≤(parts g sp M).getD k default∧(parts g sp M).getD k default≤2147483648:=by
 have a:=Sh.jh (n:=oG g sp M) (m:=mx) (by decide);have:=adq (T:=dD (oG g sp M) mx) (W:=b8 (zo (M.map (gu g)))) (fun w b=>(Sh.mr _ w b).1) a.1 (k:=k) (by rw[Sh.gc];grind[zo]);unfold parts;unfold Sh.mx at *;omega
theorem Pv{p}(h:lG p){x}(a:0≤x∧x≤2147483648): -2147483648≤ns g p.1 x∧ns g p.1 x≤2148532224:=by
 have:=h.b
 grind[ns]
structure Rl g(p:It)(x:bg):Prop where
 it:x.Item=p.1
 f:x.factor=m8 g p.1
 w:x.weight=oF g p.1
 fx:x.fixed=p.2.isSome
 s:∀n,p.2=some n→x.size=n
structure aX g(M:List It)(L:ed):Prop where
 len:L.length=M.length
 at_:∀k,k<M.length→Rl g (M.getD k default) (L.getD k default)
def gL(g:Bool):Int:=if g=true then 1 else -1
variable{K:Kn}{n:Nat}{L:ed}
theorem R6{a b}(h:a≤1001)(d:b≤1000)(c:0<b):fits a b=true:=c7 (aal (Nat.mul_le_mul h d) (by grind)) c
theorem aa9(b:Ok M)(t:aX g M L)(c:M.length≤19){sp:Int}(B : -1125899906842624≤sp∧sp≤1125899906842624):∀(m i:Nat),i≤M.length→M.length<m+i →
  wo K n L (gL g) m (sp-sm ((M.take i).map fZ)) (fq g (M.take i)) (i:Int) (O M i) (op ((M.take i).map (gu g)))=if (O M M.length).length=0 then some (false,L) else sx K n L (gL g) (O M M.length) (op (M.map (gu g))) (oG g sp M):=by
 intro m
 induction m with
 | zero=>intro i y A;omega
 | succ m u =>
  intro i y A;simp only[wo,BS,t.len];by_cases f:i<M.length
  ·have h:=t.at_ i f;have F:=b.at f;have v:=Cm b c i;have G:=Cm b c (i+1);have e:=K7 (g:=g) b c i;have E:=K7 (g:=g) b c (i+1);have r:=Wm fZ M f;have s:=ahn g M f;have k:=Rn g M f;have l:=xm M i;have H:=BC M i;have pl:=H5 g M i (by omega);rw[du (by omega),cJ (by omega),eT,h.fx];simp only[AR];have C:aa ((i:Int)+1)=((i+1:Nat):Int):=wn (by omega) (by omega);rw[C,h.it,h.f,h.w];cases j:(M.getD i default).2 with
   | some z =>
    simp only[j,Option.isSome_some,w3,Ts]at s k l⊢;rw[h.s z j];have p:fZ (M.getD i default)=z:=by unfold fZ;rw[j];rfl
    rw[p]at r;rw[bN (by omega) (by omega),show sp-sm ((M.take i).map fZ)-z=sp-sm ((M.take (i+1)).map fZ) by omega,show fq g (M.take i)=fq g (M.take (i+1)) by omega,← k,← l];exact u (i+1) (by omega) (by omega)
   | none =>
    simp only[j,Option.isSome_none,il,ol]at s k l⊢;have p:fZ (M.getD i default)=(M.getD i default).1.aC:=by unfold fZ;rw[j];rfl
    rw[p]at r;simp only[sb];rw[R6 (by simp only[la,u3];omega) (by omega) (by omega),R6 (by simp only[la,u3];omega) (by omega) (by omega),bc,bc,bN (by omega) (by omega),bN (by omega) (by omega),
     show sp-sm ((M.take i).map fZ)-(M.getD i default).1.aC=sp-sm ((M.take (i+1)).map fZ) by omega,show fq g (M.take i)+m8 g (M.getD i default).1=fq g (M.take (i+1)) by omega,← k,← l]
    exact u (i+1) (by omega) (by omega)
  ·obtain rfl:i=M.length:=by omega
   rw[dq (by omega),mR];have v:=Cm b c M.length;have e:=K7 (g:=g) b c M.length;rw[mR]at v e;have a:=afb (g:=g) b c B;have x:max (aa ((sp-sm (M.map fZ))*gL g)) 0=room g sp M:=by
    unfold room gL;cases g
    ·simp only[il,ol];rw[bN (by omega) (by omega)];omega
    ·simp only[w3];rw[bN (by omega) (by omega)];omega
   rw[x];by_cases q:(O M M.length).length=0
   ·rw[kc q,kc (by simp[q])]
   ·rw[kb q,kb (by rw[alJ];omega)];unfold oG;by_cases o:fq g M<1000
    ·rw[du o,kc o];have d:=Y3 (room g sp M) (fq g M);have D:0≤room g sp M / 1000*fq g M∧room g sp M / 1000*fq g M≤1125900955419*1000:=⟨alT (by omega) e.1,ame (by omega) (by omega) e.1 (by omega)⟩;have w:0≤room g sp M % 1000*fq g M∧room g sp M % 1000*fq g M≤1000*1000:=⟨alT (by omega) e.1,ame (by omega) (by omega) e.1 (by omega)⟩;rw[alV a.1,amX a.1];rw[bN (n:=room g sp M / 1000) (by omega) (by omega),bN (n:=room g sp M / 1000*fq g M) (by omega) (by omega),bN (n:=room g sp M % 1000*fq g M) (by omega) (by omega),alV w.1,
      bN (n:=room g sp M % 1000*fq g M / 1000) (by omega) (by omega),bN (by omega) (by omega),d]
    ·rw[dq o,kb o]
def dc(g:Bool)(sp:Int)(M:List It):b7:=(O M M.length).map fun j=>ns g (M.getD j.toNat default).1 ((parts g sp M).getD j.toNat default)
def i8(g:Bool)(sp:Int)(M:List It):b7:=(O M M.length).map fun j=>(parts g sp M).getD j.toNat default
def iL(g:Bool)(sp:Int)(M:List It):b7:=(O M M.length).map fun j=>mI g (M.getD j.toNat default) ((parts g sp M).getD j.toNat default)
theorem El{α:Type}[Inhabited α](f:Int→α)(l:b7){k}(a:k<l.length):(l.map f).getD k default=f (l.getD k default):=by
 grind
theorem agc(b:Ok M)(s:aX g M L)(V:M.length≤19){sp:Int}:∀(m i:Nat),i≤(O M M.length).length→(O M M.length).length<m+i →
  wy K n L (gL g) (O M M.length) m (sm ((iL g sp M).take i)) (i:Int) ((dc g sp M).take i++(i8 g sp M).drop i)=rR K n (O M M.length) (change g sp M) (dc g sp M) n 0 L:=by
 have X:=BC M M.length;intro m
 induction m with
 | zero=>intro i F G;omega
 | succ m R =>
  intro i F G;simp only[wy,Cj,s.len];have u:(dc g sp M).length=(O M M.length).length:=by simp[dc]
  have v:(i8 g sp M).length=(O M M.length).length:=by simp[i8]
  have W:(iL g sp M).length=(O M M.length).length:=by simp[iL]
  by_cases c:i<(O M M.length).length
  ·obtain⟨j,e,h,N⟩:=OY c;have P:=s.at_ j h;have a:=b.at h;have l:=SN (g:=g) b sp h;have d:=Pv (g:=g) a l;have H:=Ca a (ns g (M.getD j default).1 ((parts g sp M).getD j default));have I:=a.l;have p:((dc g sp M).take i++(i8 g sp M).drop i).length=(O M M.length).length:=by simp[u,v];omega
   have T:(i8 g sp M).getD i default=(parts g sp M).getD j default:=by unfold i8;rw[El _ _ c,e,Int.toNat_natCast]
   have v2:(dc g sp M).getD i default=ns g (M.getD j default).1 ((parts g sp M).getD j default):=by unfold dc;rw[El _ _ c,e,Int.toNat_natCast]
   have U:(iL g sp M).getD i default=cl (M.getD j default).1 ((dc g sp M).getD i default)-(dc g sp M).getD i default:=by
    rw[v2];unfold iL;rw[El _ _ c,e,Int.toNat_natCast];unfold mI;rw[N];simp
   have r:(i8 g sp M).drop i=(parts g sp M).getD j default::(i8 g sp M).drop (i+1):=by rw[lc (by omega),← ca (by omega),T]
   have D:((dc g sp M).take i++(i8 g sp M).drop i).getD i default=(parts g sp M).getD j default:=by
    rw[r];exact QSort.gd (by simp;omega)
   rw[du (by omega),cJ (by omega),eT,e,p,cJ (by omega),cJ (by omega),eT,D,P.it];simp only[sb];have f:aa ((M.getD j default).1.aC+aa (gL g*(parts g sp M).getD j default))=(dc g sp M).getD i default:=by
    rw[v2];have:=a.b;unfold ns at d⊢;unfold gL;cases g
    ·simp only[il,ol]at d⊢;rw[bN (n := -1*(parts false sp M).getD j default) (by omega) (by omega),bN (by omega) (by omega)];omega
    ·simp only[w3]at d⊢;rw[bN (n:=1*(parts true sp M).getD j default) (by omega) (by omega),bN (by omega) (by omega)];omega
   rw[f];have A:List.set ((dc g sp M).take i++(i8 g sp M).drop i) i ((dc g sp M).getD i default)=(dc g sp M).take (i+1)++(i8 g sp M).drop (i+1):=by
    rw[r,iY (by omega)];have:i=((dc g sp M).take i).length:=by simp;omega
    conv=>lhs;arg 2;rw[this]
    simp
   rw[A];have tn:((dc g sp M).take (i+1)++(i8 g sp M).drop (i+1)).length=(O M M.length).length:=by simp[u,v];omega
   have E:((dc g sp M).take (i+1)++(i8 g sp M).drop (i+1)).getD i default=(dc g sp M).getD i default:=by
    rw[iY (by omega),q7];exact QSort.gd (by simp;omega)
   rw[cJ (by omega),tn,cJ (by omega),E];simp only[qh,sb];have w:min (max ((dc g sp M).getD i default) (M.getD j default).1.Min) (M.getD j default).1.Max=cl (M.getD j default).1 ((dc g sp M).getD i default):=rfl;rw[w];have C:aa (cl (M.getD j default).1 ((dc g sp M).getD i default)-(dc g sp M).getD i default)=(iL g sp M).getD i default:=by rw[U];rw[v2];exact bN (by omega) (by omega)
   have q:∀i:Nat,-(1000*4294967296)≤sm ((iL g sp M).take i)∧sm ((iL g sp M).take i)≤1000*4294967296:=by
    intro i;have:=QG (B:=4294967296) (by omega) ((iL g sp M).take i) (fun x o=>by
     have o:=oR o;obtain⟨y,Q,rfl⟩:=Dk.1 o;obtain⟨k,t,rfl,S⟩:=KR.1 Q;rw[Int.toNat_natCast];have a:=b.at t;have l:=SN (g:=g) b sp t;have d:=Pv (g:=g) a l;have H:=Ca a (ns g (M.getD k default).1 ((parts g sp M).getD k default));have:=a.l;unfold mI;rw[S];simp only[il,ol];omega)
    have J:((iL g sp M).take i).length≤1000:=by simp;omega
    omega
   have Y:=q (i+1);have z:sm ((iL g sp M).take (i+1))=sm ((iL g sp M).take i)+(iL g sp M).getD i default:=by rw[iY (by omega),lI];simp[sm]
   rw[C,bN (n:=sm ((iL g sp M).take i)+(iL g sp M).getD i default) (by omega) (by omega),← z,wn (n:=(i:Int)+1) (k:=i+1) (by omega) (by omega),cJ (by omega),cJ (by omega)];exact R (i+1) (by omega) (by omega)
  ·rw[dq (by omega)];rw[IT (by omega),IT (by omega),ll (by omega),Ts];rw[aes];rfl
theorem Xb(S:Ok M)(X:M.length≤19){sp:Int}:∀(m i:Nat) (L:ed),i≤(O M M.length).length→(O M M.length).length<m+i→L.length=M.length →
  (∀k,k<M.length→Rl g (if (k:Int)∈(O M M.length).take i then (round g sp M).getD k default else M.getD k default) (L.getD k default)) →
  ∃G,aX g (round g sp M) G∧rR K n (O M M.length) (change g sp M) (dc g sp M) m (i:Int) L=some (true,G):=by
 have Z:=BC M M.length;have W:(dc g sp M).length=(O M M.length).length:=by simp[dc]
 intro m
 induction m with
 | zero=>intro i L Q R;omega
 | succ m I =>
  intro i L Q R u E;simp only[rR,B4];by_cases A:i<(O M M.length).length
  ·obtain⟨j,e,t,H⟩:=OY A;have f:=S.at t;have v2:(dc g sp M).getD i default=ns g (M.getD j default).1 ((parts g sp M).getD j default):=by unfold dc;rw[El _ _ A,e,Int.toNat_natCast]
   have B:(j:Int) ∉ (O M M.length).take i:=by
    intro p;obtain⟨k,V,Y,J⟩:=QSort.Pl p;have:=QSort.Bn (Y2 M M.length) V A;unfold QSort.at_ at this J;rw[J,e]at this;omega
   have s:=E j t;rw[kb B]at s;have F:aa ((i:Int)+1)=((i+1:Nat):Int):=wn (by omega) (by omega);rw[du (by omega),cJ (by omega),eT,e,u,cJ (by omega),eT,W];simp only[cJ (show(0:Int)≤(i:Int)∧(i:Int)<((O M M.length).length:Nat) by omega),qh,sb,s.it,ms,xO,u,F,Int.toNat_natCast,e];have P:min (max ((dc g sp M).getD i default) (M.getD j default).1.Min) (M.getD j default).1.Max=cl (M.getD j default).1 ((dc g sp M).getD i default):=rfl;rw[P];have C:(round g sp M).getD j default=gw g (change g sp M) (M.getD j default) ((parts g sp M).getD j default):=by
    rw[ca (by rw[mL];exact t),IJ g sp M t,ca t]
   have l:∀k,k<M.length→k≠j→((k:Int)∈(O M M.length).take (i+1)↔(k:Int)∈(O M M.length).take i):=by
    intro k f d;rw[iY A,e,ls,aio];constructor
    ·rintro (h|h)
     ·exact h
     ·omega
    ·exact .inl
   have D:(j:Int)∈(O M M.length).take (i+1):=by rw[iY A,e];simp
   have N:decide (j<M.length)=true:=by simpa using t
   by_cases x:mj (change g sp M) (ns g (M.getD j default).1 ((parts g sp M).getD j default)) (cl (M.getD j default).1 (ns g (M.getD j default).1 ((parts g sp M).getD j default)))=true
   ·-- it gets its size
    have r:(round g sp M).getD j default=((M.getD j default).1,some (cl (M.getD j default).1 ((dc g sp M).getD i default))):=by rw[C,v2];unfold gw;rw[H,kb (by simp),kc x]
    have c:=I (i+1) (List.set (List.set L j ({ (List.getD L j default)with size:=cl (M.getD j default).1 ((dc g sp M).getD i default) }:bg)) j ({ (List.getD (List.set L j ({ (List.getD L j default)with size:=cl (M.getD j default).1 ((dc g sp M).getD i default) }:bg)) j default)with fixed:=true }:bg)) (by omega) (by omega) (by simpa using u) (fun k f=>by
     by_cases d:k=j
     ·subst d;rw[kc D,r];have:List.getD (List.set L k ({ (List.getD L k default)with size:=cl (M.getD k default).1 ((dc g sp M).getD i default) }:bg)) k default=({ (List.getD L k default)with size:=cl (M.getD k default).1 ((dc g sp M).getD i default) }:bg):=by
       rw[ca (by simp;omega)];simp
      rw[this];have:∀z:bg,List.getD (List.set (List.set L k ({ (List.getD L k default)with size:=cl (M.getD k default).1 ((dc g sp M).getD i default) }:bg)) k z) k default=z:=by
       intro z;rw[ca (by simp;omega)];simp
      rw[this];exact⟨s.it,s.f,s.w,rfl,fun n T=>Option.some.inj T⟩
     ·have p:=E k f;have:∀a b:bg,List.getD (List.set (List.set L j a) j b) k default=L.getD k default:=by
       intro a b;rw[ca (by simp;omega),ca (by omega)];simp[List.getElem_set,show ¬ j=k by omega]
      rw[this];by_cases o:(k:Int)∈(O M M.length).take i
      ·rw[kc ((l k f d).2 o)];rwa[kc o]at p
      ·rw[kb (fun h=>o ((l k f d).1 h))];rwa[kb o]at p)
    simp only[s.it]at c;unfold mj at x;rw[qv,← v2]at x;simp only[w3,N,bc];by_cases v:change g sp M=0
    ·rw[kc (by simp[v])];exact c
    ·rw[kb (by simp[v])];by_cases q:change g sp M>0
     ·rw[du q,du (show cl (M.getD j default).1 ((dc g sp M).getD i default)>(dc g sp M).getD i default by omega)];exact c
     ·rw[dq q,du (show change g sp M<0 by omega),du (show cl (M.getD j default).1 ((dc g sp M).getD i default)<(dc g sp M).getD i default by omega)];exact c
   ·have r:(round g sp M).getD j default=M.getD j default:=by rw[C];unfold gw;rw[H,kb (by simp),kb x]
    have c:=I (i+1) L (by omega) (by omega) u (fun k f=>by
     by_cases d:k=j
     ·subst d;rw[kc D,r];exact s
     ·have p:=E k f;by_cases o:(k:Int)∈(O M M.length).take i
      ·rw[kc ((l k f d).2 o)];rwa[kc o]at p
      ·rw[kb (fun h=>o ((l k f d).1 h))];rwa[kb o]at p)
    have y:mj (change g sp M) (ns g (M.getD j default).1 ((parts g sp M).getD j default)) (cl (M.getD j default).1 (ns g (M.getD j default).1 ((parts g sp M).getD j default)))=false:=by simpa using x
    unfold mj at y;rw[decide_eq_false_iff_not,← v2]at y;simp only[w3,il,ol];rw[kb (by simp;omega)];by_cases q:change g sp M>0
    ·rw[du q,dq (show ¬ cl (M.getD j default).1 ((dc g sp M).getD i default)>(dc g sp M).getD i default by omega),dq (show ¬ change g sp M<0 by omega)];exact c
    ·rw[dq q];by_cases w:change g sp M<0
     ·rw[du w,dq (show ¬ cl (M.getD j default).1 ((dc g sp M).getD i default)<(dc g sp M).getD i default by omega)];exact c
     ·rw[dq w];exact c
  ·rw[dq (by omega)];refine⟨L,⟨by rw[u,mL],fun k f=>?_⟩,rfl⟩;rw[mL]at f;have p:=E k f;rw[IT (by omega)]at p;by_cases o:(k:Int)∈O M M.length
   ·rwa[kc o]at p
   ·rw[kb o]at p;have U:(M.getD k default).2.isSome=true:=by
     rcases Bool.eq_false_or_eq_true (M.getD k default).2.isSome with h|h
     ·exact h
     ·exact absurd (KR.2 ⟨k,f,rfl,h⟩) o
    have:(round g sp M).getD k default=M.getD k default:=by
     rw[ca (by rw[mL];exact f),IJ g sp M f,← ca f];unfold gw;rw[kc U]
    rw[this];exact p
theorem acV M:opens M=(O M M.length).length:=by
 have:∀n,n≤M.length→(M.take n).countP (fun p=>!p.2.isSome)=(O M n).length:=by
  intro n
  induction n with
  | zero=>intro _;rfl
  | succ n a =>
   grind[iY,xm]
 have h:=this M.length (by omega);rw[mR]at h;exact h
theorem aeG{lvl:Nat}(c:Ok M)(b:aX g M L)(f:M.length≤19){sp:Int}(o : -1125899906842624≤sp∧sp≤1125899906842624)(m:10001<n)(i:20010≤lvl):
  if opens M=0 then uc (KN lvl) n L sp (gL g)=some (false,L) else ∃a,aX g (round g sp M) a∧uc (KN lvl) n L sp (gL g)=some (true,a):=by
 have h:=aa9 (K:=KN lvl) (n:=n) c b f o n 0 (by omega) (by omega);have j:sp-sm ((M.take 0).map fZ)=sp:=by simp[sm]
 have r:=BC M M.length;unfold uc;rw[j,show fq g (M.take 0)=0 from rfl,show((0:Nat):Int)=0 from rfl,Le,show op ((M.take 0).map (gu g))=[] from rfl]at h;rw[h,← acV];by_cases d:opens M=0
 ·rw[kc d,kc d]
 ·rw[kb d,kb d];unfold sx;have pl:=H5 g M M.length (jf _);rw[mR]at pl;rw[Sh.mw _ _ (by omega) m i,aaw c,sb];have e:=agc (K:=KN lvl) (n:=n) c b f (sp:=sp) n 0 (by omega) (by omega);rw[alL,alL,If,Dy,show sm []=0 from rfl,show((0:Nat):Int)=0 from rfl]at e;unfold i8 at e;rw[e];obtain⟨a,p,q⟩:=Xb (K:=KN lvl) (n:=n) (g:=g) c f (sp:=sp) n 0 L (by omega) (by omega) b.len (fun k l=>by rw[kb (by simp)];exact b.at_ k l);exact⟨a,p,q⟩
end Rs
namespace Rs
open Sh (share b8 dD mx jR nt)
open QSort (wn cJ du dq sb)
variable{K:Kn}{n:Nat}
theorem aaA x:yQ K n x=some (dz x):=rfl
theorem Gn x:tA K n x=some (hyp x):=rfl
theorem Kx x:0≤hyp x∧hyp x≤1048576:=by
 have h:=I1 x none (.inl rfl);have a:=Ca h (dz x).aC;have b:=h.l
 grind[hyp]
def dH(x:bH):bg:=⟨dz x,0,0,hyp x,false⟩
theorem OG(l:ee)(b:l.length≤19) n:0≤sm ((l.take n).map hyp)∧sm ((l.take n).map hyp)≤1048576000:=by
 refine⟨jR _ (fun x a=>?_),?_⟩
 ·obtain⟨y,_,rfl⟩:=Dk.1 a;exact(Kx y).1
 ·have:=nt (c:=1048576) ((l.take n).map hyp) (fun x a=>by obtain⟨y,_,rfl⟩:=Dk.1 a;exact(Kx y).2)
  grind
theorem aaj(l:ee)(sp:Int)(b:l.length≤19):∀(m i:Nat),i≤l.length→l.length<m+i →
  AG K n l sp m (sm ((l.take i).map hyp)) (i:Int) ((l.take i).map dH++List.replicate (l.length-i) iV)=tD K n sp (l.map dH) (gL (lV l sp)):=by
 intro m
 induction m with
 | zero=>intro i g j;omega
 | succ m o =>
  intro i g j;simp only[AG,BB];by_cases a:i<l.length
  ·obtain⟨k,e⟩:∃k,l.length-i=k+1:=⟨l.length-i-1,by omega⟩;have p:((l.take i).map dH++List.replicate (l.length-i) iV).length=l.length:=by simp;omega
   have f:List.set ((l.take i).map dH++List.replicate (l.length-i) iV) i (dH (l.getD i default))=(l.take (i+1)).map dH++List.replicate (l.length-(i+1)) iV:=by
    rw[e,amU,show l.length-(i+1)=k by omega,iY a,OR];have:i=((l.take i).map dH).length:=by simp;omega
    conv=>lhs;arg 2;rw[this]
    simp
   have q:((l.take (i+1)).map dH++List.replicate (l.length-(i+1)) iV).length=l.length:=by simp;omega
   have d:((l.take (i+1)).map dH++List.replicate (l.length-(i+1)) iV).getD i default=dH (l.getD i default):=by
    rw[iY a,OR,q7,List.getD_eq_getElem?_getD,AT (by simp;omega)];have:i-((l.take i).map dH).length=0:=by simp;omega
    rw[this];rfl
   have r:=OG l b i;have s:=OG l b (i+1);have c:sm ((l.take (i+1)).map hyp)=sm ((l.take i).map hyp)+hyp (l.getD i default):=by rw[iY a,OR,lI];simp[sm]
   rw[du (by omega),cJ (by omega),eT,aaA,Gn];simp only[sb];rw[p,cJ (by omega)];rw[show({ (iV:bg)with Item:=dz (l.getD i default),size:=hyp (l.getD i default) }:bg)=dH (l.getD i default) from rfl,f,q,cJ (by omega),d];rw[show(dH (l.getD i default)).size=hyp (l.getD i default) from rfl,bN (by omega) (by omega),← c,wn (n:=(i:Int)+1) (k:=i+1) (by omega) (by omega)];exact o (i+1) (by omega) (by omega)
  ·obtain rfl:i=l.length:=by omega
   rw[dq (by omega),mR,anD,amT,Ts];by_cases h:sm (l.map hyp)<sp
   ·rw[du h];unfold lV gL;rw[kc (by simpa using h)]
   ·rw[dq h];unfold lV gL;rw[kb (by simpa using h)]
def gS(g:Bool)(x:bH):bg:=⟨dz x,m8 g (dz x),oF g (dz x),hyp x,jK g (dz x) (hyp x)⟩
theorem alm{α:Type}(L:List α) i a b:List.set (List.set L i a) i b=List.set L i b:=by simp
theorem WN{L:ed}{i}{a}(h:i<L.length):(List.set L i a).getD i default=a:=by grind
theorem abr(g:Bool)(l:ee)(sp:Int)(x:l.length≤19):∀(m i:Nat),i≤l.length→l.length<m+i →
  y8 K n sp (l.map dH) (gL g) m (i:Int) ((l.take i).map (gS g)++(l.drop i).map dH)=s9 K n sp (gL g) n (l.map (gS g)):=by
 intro m
 induction m with
 | zero=>intro i s t;omega
 | succ m v =>
  intro i s t;simp only[y8,Cb,nw];by_cases c:i<l.length
  ·have j:(l.drop i).map dH=dH (l.getD i default)::(l.drop (i+1)).map dH:=by rw[lc c,ca c];rfl
   have w:((l.take i).map (gS g)++(l.drop i).map dH).length=l.length:=by simp;omega
   have p:((l.take i).map (gS g)++(l.drop i).map dH).getD i default=dH (l.getD i default):=by
    rw[j,List.getD_eq_getElem?_getD,AT (by simp;omega)];have:i-((l.take i).map (gS g)).length=0:=by simp;omega
    rw[this];rfl
   have q:List.set ((l.take i).map (gS g)++(l.drop i).map dH) i (gS g (l.getD i default))=(l.take (i+1)).map (gS g)++(l.drop (i+1)).map dH:=by
    rw[j,iY c,OR];have:i=((l.take i).map (gS g)).length:=by simp;omega
    conv=>lhs;arg 2;rw[this]
    simp
   have e:=I1 (l.getD i default) none (.inl rfl);have y:=Kg (g:=false) e;have k:=e.b;have f:=e.s;have u:0≤(dz (l.getD i default)).aC*(dz (l.getD i default)).Shrink∧(dz (l.getD i default)).aC*(dz (l.getD i default)).Shrink≤1048576*1048576:=⟨alT k.1 f.1,ame k.2 f.2 f.1 (by omega)⟩;rw[du (by omega),cJ (by omega)];simp only[eT,sb,zf,yb,alm,alU,w,WN (show i<((l.take i).map (gS g)++(l.drop i).map dH).length by omega),p];have d:aa ((i:Int)+1)=((i+1:Nat):Int):=wn (by omega) (by omega);have r:aa (Int.tdiv (aa ((dH (l.getD i default)).Item.aC*(dH (l.getD i default)).Item.Shrink)) 1000)=oF false (dz (l.getD i default)):=by
    show aa (Int.tdiv (aa ((dz (l.getD i default)).aC*(dz (l.getD i default)).Shrink)) 1000)=_;rw[bN (n:=(dz (l.getD i default)).aC*(dz (l.getD i default)).Shrink) (by omega) (by omega),alV u.1,bN (by omega) (by omega)];rfl
   have o:decide (i<l.length)=true:=by simpa using c
   simp only[d,r,o,bc];have:=v (i+1) (by omega) (by omega);rw[←q]at this;rw[←this];cases g
   ·rw[dq (show ¬ gL false>0 by decide)];by_cases a:(dz (l.getD i default)).aC<hyp (l.getD i default)
    ·have:(decide ((dH (l.getD i default)).Item.aC<(dH (l.getD i default)).size))=true:=decide_eq_true a;have b:jK false (dz (l.getD i default)) (hyp (l.getD i default))=true:=by unfold jK;rw[kb (by simp),qv];exact .inr a
     simp only[this,w3];unfold gS;rw[b];rfl
    ·have:(decide ((dH (l.getD i default)).Item.aC<(dH (l.getD i default)).size))=false:=decide_eq_false a;have b:jK false (dz (l.getD i default)) (hyp (l.getD i default))=((dz (l.getD i default)).Shrink == 0):=by unfold jK;rw[kb (by simp),Bool.eq_iff_iff,qv,alJ];exact⟨fun h=>h.resolve_right a,.inl⟩
     simp only[this,il,ol];unfold gS;rw[b];rfl
   ·rw[du (show gL true>0 by decide)];by_cases a:(dz (l.getD i default)).aC>hyp (l.getD i default)
    ·have:(decide ((dH (l.getD i default)).Item.aC>(dH (l.getD i default)).size))=true:=decide_eq_true a;have b:jK true (dz (l.getD i default)) (hyp (l.getD i default))=true:=by unfold jK;rw[kc rfl,qv];exact .inr a
     simp only[this,w3];unfold gS;rw[b];rfl
    ·have:(decide ((dH (l.getD i default)).Item.aC>(dH (l.getD i default)).size))=false:=decide_eq_false a;have b:jK true (dz (l.getD i default)) (hyp (l.getD i default))=((dz (l.getD i default)).Grow == 0):=by unfold jK;rw[kc rfl,Bool.eq_iff_iff,qv,alJ];exact⟨fun h=>h.resolve_right a,.inl⟩
     simp only[this,il,ol];unfold gS;rw[b];rfl
  ·obtain rfl:i=l.length:=by omega
   rw[dq (by omega),mR,ll (jf _),zt,Ts]
theorem adJ g l:aX g (start g l) (l.map (gS g)):=by
 refine⟨by simp[start],fun k a=>?_⟩;have b:k<l.length:=by grind[start]
 rw[ca a,ca (by grind)];have e:(start g l)[k]=(dz l[k],if jK g (dz l[k]) (hyp l[k])=true then some (hyp l[k]) else none):=by simp[start]
 rw[e,al7];refine⟨rfl,rfl,rfl,?_,fun n c=>?_⟩
 ·show jK g (dz l[k]) (hyp l[k])=_
  grind
 grind[jK,dz,hyp,gS]
theorem YZ(L:ed)(g:L.length≤19):∀(m i:Nat),i≤L.length→L.length<m+i →
  yL K n (false,L) m (i:Int) ((L.take i).map (fun (x:bg)=>x.size)++List.replicate (L.length-i) 0)=some (L.map fun (x:bg)=>x.size):=by
 intro m
 induction m with
 | zero=>intro i b c;omega
 | succ m e =>
  intro i b c;simp only[yL,Cl];by_cases d:i<L.length
  ·obtain⟨k,a⟩:∃k,L.length-i=k+1:=⟨L.length-i-1,by omega⟩;have f:((L.take i).map (fun (x:bg)=>x.size)++List.replicate (L.length-i) 0).length=L.length:=by simp;omega
   rw[du (by omega),cJ (by omega),eT,f,cJ (by omega),a,Sh.BX (by simp;omega)];have:(L.take i).map (fun (x:bg)=>x.size)++[(L.getD i default).size]=(L.take (i+1)).map (fun (x:bg)=>x.size):=by rw[iY d,OR];rfl
   rw[this,wn (n:=(i:Int)+1) (k:=i+1) (by omega) (by omega),show k=L.length-(i+1) by omega];exact e (i+1) (by omega) (by omega)
  ·obtain rfl:i=L.length:=by omega
   rw[dq (by omega),mR,anD,amT,Ts]
theorem adz{lvl:Nat}(g:Bool){sp:Int}(v : -1125899906842624≤sp∧sp≤1125899906842624)(s:10001<n)(f:20010≤lvl):∀(m:Nat) (M:List It) (L:ed),opens M<m→Ok M→aX g M L→M.length≤19 →
  s9 (KN lvl) n sp (gL g) m L=some (gi (run g sp M.length M)):=by
 intro m
 induction m with
 | zero=>intro M L h;omega
 | succ m w =>
  intro M L h j a p;simp only[s9,Bj];have c:=aeG (lvl:=lvl) (n:=n) j a p v s f;by_cases b:opens M=0
  ·rw[kc b]at c;rw[c];simp only[sb,il,ol];rw[Sh.JD (by rw[a.len];omega) (by rw[a.len];omega),bc,eT];have:=YZ (K:=KN lvl) (n:=n) L (by rw[a.len];omega) n 0 (by omega) (by rw[a.len];omega);rw[alL,zt,Dy,alH,show((0:Nat):Int)=0 from rfl]at this;rw[this,yJ b];congr 1;refine amh (by simp[gi,a.len]) (fun k d e=>?_);have o:k<M.length:=by simpa[gi]using e
   simp only[gi,al7];have l:=a.at_ k o;rw[ca o,ca (by simpa using d)]at l;have t:M[k].2.isSome=true:=by
    have:=ant.1 b M[k] (n3 _);cases h:M[k].2 with
    | none=>rw[h]at this;simp at this
    | some z=>rfl
   obtain⟨z,i⟩:=Db.1 t;rw[l.s z i,i];rfl
  ·rw[kb b]at c;obtain⟨q,d,e⟩:=c;rw[e];simp only[sb,w3];have u:=Nb (g:=g) (sp:=sp) b;rw[w (round g sp M) q (by omega) (acw j) d (by rw[mL];exact p)];congr 2;have r:run g sp (M.length+1) M=run g sp M.length (round g sp M):=by rw[run,kb b]
   rw[mL,← r];have:=PD M;exact O7 _ _ _ (by omega) (by omega)
theorem mw{lvl:Nat}(l:ee){sp:Int}(b:l.length≤19)(d : -1125899906842624≤sp∧sp≤1125899906842624)(c:10001<n)(a:20010≤lvl):jy (KN lvl) n l sp=some (resolve l sp):=by
 unfold jy;rw[show min (max sp (-1125899906842624)) 1125899906842624=sp by omega];simp only[sb];rw[Sh.JD (by omega) (by omega),bc,eT];have:=aaj (K:=KN lvl) (n:=n) l sp b n 0 (by omega) (by omega);rw[alL,zt,zt,Dy,alH,show((0:Nat):Int)=0 from rfl,show sm []=0 from rfl]at this;rw[this];unfold tD;have:=abr (K:=KN lvl) (n:=n) (lV l sp) l sp b n 0 (by omega) (by omega);rw[alL,zt,Dy,If,show((0:Nat):Int)=0 from rfl]at this;rw[this];have e:(start (lV l sp) l).length=l.length:=by simp[start]
 have:=PD (start (lV l sp) l);rw[adz (lV l sp) d c a n (start (lV l sp) l) _ (by omega) (abp _ _) (adJ _ _) (by omega),e];rfl
end Rs
def mix{α:Type}(i:Nat)(N O:List α):List α:=N.take i++O.drop i
variable{α:Type}[Inhabited α]{i:Nat}{N O:List α}
theorem BN(h:N.length=O.length):(mix i N O).length=O.length:=by grind[mix]
theorem Hs(h:N.length=O.length):mix O.length N O=N:=by grind[mix]
theorem akM(h:N.length=O.length){k}(b:k<i)(a:i≤O.length):(mix i N O).getD k default=N.getD k default:=by
 grind[mix]
theorem ajc(h:N.length=O.length)(a:i<O.length):mix (i+1) N O=N.take i++N.getD i default::O.drop (i+1):=by
 unfold mix;rw[ace (by omega),ca (by omega),q7];rfl
theorem Gu(h:N.length=O.length)(a:i<O.length):List.set (mix i N O) i (N.getD i default)=mix (i+1) N O:=by
 rw[ajc h a];unfold mix;rw[lc a];have:i=(N.take i).length+0:=by grind
 conv=>lhs;arg 2;rw[this]
 grind
theorem acB(h:N.length=O.length)(a:i<O.length):(mix (i+1) N O).getD i default=N.getD i default :=by grind[akM]
end Go.Proofs.YtocgkfoifehcbaaGreat
namespace Go.Proofs.YtocgkfoifehcbaaGreat
set_option linter.all false
open Go.RowKit
theorem ajE(K:Kn)(n:Nat)(L:c6)(D:(L.length:Int)≤9223372036854775807):∀(m:Nat) (i h:Int) (b:bj) (t:Bool) (u:bj) (l:c6),0≤i→i≤L.length→(L.length:Int)<m+i→((l.length:Int)+L.length)*584≤140737488355328+i*584 →
  ∃r,kp K n L m h t i b u l=some r∧(r.1.length:Int)=l.length+L.length-i∧(∀f∈r.1,f∈l∨∃g∈L,f.Kids=g.Kids):=by
 intro m
 induction m with
 | zero=>intro i _ _ _ _ _ s v w _;omega
 | succ m B =>
  intro i h b t u l s v w C;simp only[kp,t8];by_cases k:i<(L.length:Int)
  ·have o:=dg s k;have A:aa (i+1)=i+1:=bN (by omega) (by omega);have c:fits (l.length+1) 584=true:=c7 (by omega) (by omega);have key:∀(j:Int) (q:Bool) (e a:bj) (y:Int),∃r,kp K n L m j q (i+1) e a (l++[{ L.getD i.toNat default with Y:=y }])=some r∧(r.1.length:Int)=l.length+L.length-i∧(∀f∈r.1,f∈l∨∃g∈L,f.Kids=g.Kids):=by
    intro j q e a y;obtain⟨r,z,d,x⟩:=B (i+1) j e q a (l++[{ L.getD i.toNat default with Y:=y }]) (by omega) (by omega) (by omega) (by simp only[mm,la,u3];omega);refine⟨r,z,by rw[d];simp only[mm,la,u3];omega,fun f c=>?_⟩;rcases x f c with hm|hm
    ·rcases ls.1 hm with hm|hm
     ·exact .inl hm
     ·right;have p:i.toNat<L.length:=by omega
      refine⟨L[i.toNat],n3 _,?_⟩;simp only[qk,aiD,amy]at hm;rw[hm,ca p]
    ·exact .inr hm
   simp only[k,anw,w3,o,bc,kF,gC,h7,ud,va,um,la,u3,DO,c,A]
   repeat (first|exact key _ _ _ _ _|split)
  ·have:decide (i<(L.length:Int))=false:=by simpa using k
   simp only[this,il,ol,ro];split<;>exact⟨_,rfl,by show(l.length:Int)=_;omega,fun f c=>.inl c⟩
theorem UU K n L(i:L.length<n)(e:L.length*584≤140737488355328):∃r,lY K n L=some r∧r.1.length=L.length∧∀f∈r.1,∃g∈L,f.Kids=g.Kids:=by
 obtain⟨r,b,a,c⟩:=ajE K n L (by omega) n 0 0 dJ true dJ [] (by omega) (by omega) (by omega) (by grind);exact⟨r,b,by grind,fun f d=>(c f d).elim (fun h=>by grind) (fun h=>h)⟩
theorem YY s:j8 s s=true:=by simp[j8,fL]
theorem aj6 s:Ba s s=true:=by simp[Ba]
def cK(l:cI)(b:Int):Int×Bool :=
 if l.Kind=1 then (min (max l.Value (-1048576)) 1048576,true)
 else if l.Kind=2 then (min (max (aa (Int.tdiv (aa ((min (max b 0) 1048576)*(min (max l.Value (-1000000)) 1000000))) 10000)) (-1048576)) 1048576,true)
 else (0,false)
def dS(x:Int):Int:=min (max x 0) 1048576
section
variable(K:Kn)(n:Nat)
theorem tv(x:Int):ic K n x=some (dS x):=rfl
theorem gn(l:cI)(b:Int):dW K n l b=some (cK l b):=by
 unfold dW cK;by_cases a:l.Kind=1
 ·simp[a,tQ]
 ·by_cases c:l.Kind=2
  ·simp[c,tQ,ic]
  ·simp[a,c]
def jb(s:aR)(w c:Int):Int :=
 let m:=if (cK s.MaxWidth w).2=true then min (max c 0) (max (cK s.MaxWidth w).1 0) else max c 0
 if (cK s.MinWidth w).2=true then max m (cK s.MinWidth w).1 else m
theorem DV(s:aR)(w c:Int):nJ K n s w c=some (jb s w c):=by
 unfold nJ jb;simp only[gn,h7,AK,vR]
 repeat (first|rfl|split)
def fS(s:aR)(w c:Int):cf :=
 ⟨⟨(cK s.Margin.a0 w).1,(cK s.Margin.a1 w).1,(cK s.Margin.a2 w).1,(cK s.Margin.a3 w).1⟩,⟨dS s.Border.a0,dS s.Border.a1,dS s.Border.a2,dS s.Border.a3⟩,
  ⟨max (cK s.Padding.a0 w).1 0,max (cK s.Padding.a1 w).1 0,max (cK s.Padding.a2 w).1 0,max (cK s.Padding.a3 w).1 0⟩,c⟩
theorem vb(s:aR)(w c:Int):jF K n s w c=some (fS s w c):=by
 simp only[jF,gn,tv,h7,fS]
def ii(z:cf):Int:=aa ((aa ((aa ((aa ((aa ((aa (z.Content+z.Margin.a1))+z.Margin.a3))+z.Border.a1))+z.Border.a3))+z.Padding.a1))+z.Padding.a3)
theorem uH(z:cf):kQ K n z=some (ii z):=rfl
def DN(s:aR)(a:Int)(e:cf)(c:Int):cf :=
 let r:=aa (a-ii { e with Content:=c })
 if r≤0 then { e with Content:=c }
 else if (cK s.Margin.a3 a).2=false∧(cK s.Margin.a1 a).2=false then { e with Content:=c,Margin:=⟨e.Margin.a0,aa (r-aa (Int.tdiv r 2)),e.Margin.a2,aa (Int.tdiv r 2)⟩ }
 else if (cK s.Margin.a3 a).2=false then { e with Content:=c,Margin:=⟨e.Margin.a0,e.Margin.a1,e.Margin.a2,r⟩ }
 else if (cK s.Margin.a1 a).2=false then { e with Content:=c,Margin:=⟨e.Margin.a0,r,e.Margin.a2,e.Margin.a3⟩ }
 else { e with Content:=c }
def ct(s:aR)(w:Int):cf :=
 let a:=dS w
 let e:=fS s a 0
 let x:=if (cK s.Width a).2=true then (cK s.Width a).1 else aa (a-ii e)
 DN s a e (jb s a x)
theorem adO(s:aR)(a:Int)(e:cf)(x:Int):rZ K n s a e x=some (DN s a e (jb s a x)):=by
 simp only[rZ,DV,uH,h7,gn,DN];cases c:(cK s.Margin.a3 a).2<;>cases b:(cK s.Margin.a1 a).2<;>simp[xo,pr,c,b]<;>split<;>rfl
theorem xR(s:aR)(w:Int):pS K n s w=some (ct s w):=by
 simp only[pS,tv,vb,gn,uH,h7,adO,ct];cases h:(cK s.Width (dS w)).2<;>simp[h]
def im(l:cI):Prop := -16777216≤l.Value∧l.Value≤16777216
theorem iH(l:cI):∃b,gh K n l=some b∧(b=true→im l):=by
 unfold gh xL;by_cases h:l.Value ≥ -16777216
 ·simp only[h,anw,w3];exact⟨_,rfl,fun e=>⟨h,jt e⟩⟩
 ·simp only[h,alX,il,ol];exact⟨_,rfl,fun e=>by cases e⟩
structure rE(x:aJ):Prop where
 text:(x.Text.size:Int)≤60
 left:im x.Style.Left
 top:im x.Style.Top
 width:im x.Style.Width
 height:im x.Style.Height
 minw:im x.Style.MinWidth
 maxw:im x.Style.MaxWidth
 basis:im x.Style.Basis
 lh:0≤x.Style.LineHeight∧x.Style.LineHeight≤65536
 fs:0≤x.Style.FontSize∧x.Style.FontSize≤65536
 grow:0≤x.Style.Grow∧x.Style.Grow≤1048576
 shrink:0≤x.Style.Shrink∧x.Style.Shrink≤1048576
 m0:im x.Style.Margin.a0
 m1:im x.Style.Margin.a1
 m2:im x.Style.Margin.a2
 m3:im x.Style.Margin.a3
 p0:im x.Style.Padding.a0
 p1:im x.Style.Padding.a1
 p2:im x.Style.Padding.a2
 p3:im x.Style.Padding.a3
theorem ajC(L:ew)(m:Int)(a:Int→Option Bool)(i:Int)(h0:0≤i)(k:i<L.length):nS K n L m a i=some false∨(rE (L.getD i.toNat default)∧nS K n L m a i=a (aa (i+1))):=by
 unfold nS;simp only[k,anw,w3,dg h0 k,bc];generalize hx:L.getD i.toNat default=x;have j5:∀b,tR K n L m i a b=if b=true then some false else a (aa (i+1)):=fun b=>rfl;obtain⟨C,J,S⟩:=iH K n x.Style.Left;obtain⟨D,M,T⟩:=iH K n x.Style.Top;obtain⟨E,N,U⟩:=iH K n x.Style.Width;obtain⟨F,O,V⟩:=iH K n x.Style.Height;obtain⟨G,P,W⟩:=iH K n x.Style.MinWidth;obtain⟨H,Q,X⟩:=iH K n x.Style.MaxWidth;obtain⟨I,R,Y⟩:=iH K n x.Style.Basis;obtain⟨c0,Z,k0⟩:=iH K n x.Style.Margin.a0;obtain⟨c1,g1,k1⟩:=iH K n x.Style.Margin.a1;obtain⟨c,g2,k2⟩:=iH K n x.Style.Margin.a2;obtain⟨d,g3,k3⟩:=iH K n x.Style.Margin.a3;obtain⟨e,q0,r0⟩:=iH K n x.Style.Padding.a0;obtain⟨f,q1,r1⟩:=iH K n x.Style.Padding.a1;obtain⟨g,q2,r2⟩:=iH K n x.Style.Padding.a2;obtain⟨j,q3,r3⟩:=iH K n x.Style.Padding.a3;have l:fz K n L m i a true=some false:=rfl;have j1:fz K n L m i a false=some false∨((c0=true∧c1=true∧c=true∧d=true∧e=true∧f=true∧g=true∧j=true)∧fz K n L m i a false=a (aa (i+1))):=by
  simp only[fz,y4,zu,xz,tR,hx,Z,g1,g2,g3,q0,q1,q2,q3,h7];cases c0<;>cases e<;>cases c1<;>cases f<;>cases c<;>cases g<;>cases d<;>cases j<;>simp
 simp only[J,M,N,O,P,Q,R,h7,l];by_cases o:(x.Text.size:Int)>60
 ·left;simp[o]
 simp only[o,alX,il,ol];cases C
 ·left;simp
 simp only[Do,il,ol];cases D
 ·left;simp
 simp only[Do,il,ol];cases E
 ·left;simp
 simp only[Do,il,ol];cases F
 ·left;simp
 simp only[Do,il,ol];cases G
 ·left;simp
 simp only[Do,il,ol];cases H
 ·left;simp
 simp only[Do,il,ol];cases I
 ·left;simp
 simp only[Do,il,ol];by_cases p:x.Style.LineHeight<0
 ·left;simp[p]
 simp only[p,alX,il,ol];by_cases q:x.Style.LineHeight>65536
 ·left;simp[q]
 simp only[q,alX,il,ol];by_cases r:x.Style.FontSize<0
 ·left;simp[r]
 simp only[r,alX,il,ol];by_cases s:x.Style.FontSize>65536
 ·left;simp[s]
 simp only[s,alX,il,ol];by_cases t:x.Style.Grow<0
 ·left;simp[t]
 simp only[t,alX,il,ol];by_cases u:x.Style.Grow>1048576
 ·left;simp[u]
 simp only[u,alX,il,ol];by_cases v:x.Style.Shrink<0
 ·left;simp[v]
 simp only[v,alX,il,ol];by_cases w:x.Style.Shrink>1048576
 ·left;simp only[w,anw];exact l
 simp only[w,alX];rcases j1 with h|⟨⟨y,z,A,B,p0,p1,p2,p3⟩,h⟩
 ·exact .inl h
 ·refine .inr ⟨⟨by omega,S rfl,T rfl,U rfl,V rfl,W rfl,X rfl,Y rfl,⟨by omega,by omega⟩,⟨by omega,by omega⟩,⟨by omega,by omega⟩,⟨by omega,by omega⟩,k0 y,k1 z,k2 A,k3 B,r0 p0,r1 p1,r2 p2,r3 p3⟩,h⟩
theorem abU(L:ew)(mx:Int)(t:(L.length:Int)≤9223372036854775807):∀(m:Nat) (i:Int),0≤i→i≤L.length→(L.length:Int)<m+i →
  ∃b,uL K n L mx m i=some b∧(b=true→(L.length:Int)≤mx∧∀k,i.toNat≤k→k<L.length→rE (L.getD k default)):=by
 intro m
 induction m with
 | zero=>intro i a l o;omega
 | succ m s =>
  intro i a l o;show ∃b,nS K n L mx (uL K n L mx m) i=some b∧_;by_cases d:i<(L.length:Int)
  ·rcases ajC K n L mx (uL K n L mx m) i a d with h|⟨h,j⟩
   ·exact⟨false,h,fun e=>by cases e⟩
   ·obtain⟨b,q,f⟩:=s (i+1) (by omega) (by omega) (by omega);rw[j,bN (by omega) (by omega)];refine⟨b,q,fun e=>⟨(f e).1,fun k p c=>?_⟩⟩;by_cases g:k=i.toNat
    ·subst g;exact h
    ·exact(f e).2 k (by omega) c
  ·have r:decide (i<(L.length:Int))=false:=by simpa using d
   unfold nS;simp only[r,il,ol];exact⟨_,rfl,fun e=>⟨jt e,fun k p c=>by omega⟩⟩
theorem SA(L:ew)(mx:Int)(f:(L.length:Int)≤9223372036854775807)(h:L.length<n):∃b,wt K n L mx=some b∧(b=true→(L.length:Int)≤mx∧∀x∈L,rE x):=by
 obtain⟨b,d,a⟩:=abU K n L mx f n 0 (by omega) (by omega) (by omega);refine⟨b,d,fun e=>⟨(a e).1,fun x g=>?_⟩⟩;obtain⟨k,c,rfl⟩:=alF.1 g;have:=(a e).2 k (by simp) c;rwa[ca c]at this
end
theorem AM{i:Nat}(h:i<1000000):aa ((i:Int)+1)=((i+1:Nat):Int):=by rw[bN (by omega) (by omega)];omega
theorem wI{i n:Nat}(h:i<n):decide ((i:Int)<(n:Int))=true:=by simpa using h
theorem C3{i n:Nat}(h:n≤i):decide ((i:Int)<(n:Int))=false:=by simpa using h
theorem qA{i n:Nat}(h:i<n):aN (i:Int) n=true:=dg (by omega) (by omega)
theorem drop_at'{α:Type}[Inhabited α]{L:List α}{i:Nat}(h:i<L.length):L.drop i=L.getD i default::L.drop (i+1):=by
 rw[ca h];exact lc h
theorem fU{α:Type}[Inhabited α]{L:List α}{i:Nat}(h:i<L.length):L.getD i default∈L:=by
 rw[ca h];exact n3 h
def gO(k:ab):Bool:=k.Kind == 3||k.Style.Position != 2
def eW(k:ab):Bool:=k.Kind == 1||(k.Kind == 6||k.Kind == 7)
theorem Uw(K:Kn)(n:Nat)(k:ab):kg K n k=some (gO k):=by
 unfold kg gO wJ;cases h:k.Kind == 3<;>simp
theorem Up(K:Kn)(n:Nat)(k:ab):tp K n k=some (eW k):=by
 unfold tp eW rU;cases h:k.Kind == 1<;>cases a:k.Kind == 6<;>simp
theorem ahr(K:Kn)(n:Nat)(d:∀x,K.lR (Fv.fn 145) x=some (eW x))(L:dO)(g:L.length≤20):∀(m i:Nat),i≤L.length→L.length<m+i →
  ∃r,mG K n L (Fv.fn 145) m i=some r∧decide (r≥0)=(L.drop i).any eW:=by
 intro m
 induction m with
 | zero=>intro i b c;omega
 | succ m f =>
  intro i b c;simp only[mG,wv];by_cases a:i<L.length
  ·rw[drop_at' a];simp only[wI a,w3,qA a,bc,d,h7,Int.toNat_natCast,List.any_cons,AM (show i<1000000 by omega)];cases h:eW (L.getD i default)
   ·simp only[il,ol,alR];exact f (i+1) (by omega) (by omega)
   ·exact⟨_,rfl,by simp⟩
  ·have e:i=L.length:=by omega
   subst e;simp only[C3 (jf _),il,ol,List.drop_length];exact⟨_,rfl,by simp⟩
theorem Zv(K:Kn)(n:Nat)(d:∀x,K.lR (Fv.fn 145) x=some (eW x))(L:dO)(c:L.length≤20)(e:20<n):oX K n L (Fv.fn 145)=some (L.any eW):=by
 obtain⟨r,a,b⟩:=ahr K n d L c n 0 (by omega) (by omega);unfold oX yX;rw[show mG K n L (Fv.fn 145) n 0=some r from a];simp only[h7,b,If]
theorem ac2(K:Kn)(n:Nat)(b:ab)(j:b.Kids.length≤20):∀(m i:Nat) (a:dO),i≤b.Kids.length→b.Kids.length<m+i→a.length≤i →
  wB K n b m i a=(oX K n (a++(b.Kids.drop i).filter gO) (Fv.fn 145)).bind fun v=>some (a++(b.Kids.drop i).filter gO,v):=by
 intro m
 induction m with
 | zero=>intro i a f g;omega
 | succ m d =>
  intro i a f g h;simp only[wB,A3];by_cases c:i<b.Kids.length
  ·rw[drop_at' c];simp only[wI c,w3,qA c,bc,Uw,h7,yj,Int.toNat_natCast,la,u3,AM (show i<1000000 by omega),amE];cases k:gO (b.Kids.getD i default)
   ·simp only[il,ol];exact d (i+1) a (by omega) (by omega) (by omega)
   ·simp only[w3];rw[c7 (by omega) (by omega),bc,d (i+1) _ (by omega) (by omega) (by simp;omega)];simp only[q7,alO]
  ·have e:i=b.Kids.length:=by omega
   subst e;simp only[C3 (jf _),il,ol,List.drop_length,ank,Ts]
def eF(b:ab):dO:=b.Kids.filter gO
theorem NI{b:ab}:(eF b).length≤b.Kids.length:=anl _ _
theorem D9(K:Kn)(n:Nat)(c:∀x,K.lR (Fv.fn 145) x=some (eW x))(b:ab)(a:b.Kids.length≤20)(d:20<n):uj K n b=some (eF b,(eF b).any eW):=by
 have h:=ac2 K n b a n 0 [] (by omega) (by omega) (by simp);unfold uj;refine (show _=_ from h).trans ?_;simp only[Dy,If];rw[show b.Kids.filter gO=eF b from rfl,Zv K n c _ (aal NI a) d];rfl
def rI(f:ae)(w:Int):ae :=
 if f.Style.Position=1 then { f with X:=aa (f.X+(cK f.Style.Left w).1),Y:=if f.Style.Top.Kind=1 then aa (f.Y+(cK f.Style.Top 0).1) else f.Y } else f
theorem NS(K:Kn)(n:Nat)(f:ae)(w:Int):uu K n f w=some (rI f w):=by
 unfold uu rI;simp only[gn,h7,yp];by_cases h:f.Style.Position=1
 ·by_cases a:f.Style.Top.Kind=1<;>simp[h,a]
 ·simp[h]
theorem V3(f:ae)(w:Int):(rI f w).Kids=f.Kids:=by unfold rI;split<;>rfl
namespace Od
open QSort (wn cJ du dq ry qf sb)
def ix(p:Nat→Bool)(n:Nat):b7:=((List.range n).filter p).map fun (k:Nat)=>(k:Int)
theorem QB(p:Nat→Bool)(n:Nat):ix p (n+1)=ix p n++if p n=true then [(n:Int)] else []:=by
 unfold ix;rw[amS,am0,OR];congr 1;cases h:p n<;>simp only[amE,ank,h,w3,il,ol,rv,zt]
theorem N2{p:Nat→Bool}{n:Nat}{x:Int}:x∈ix p n↔∃k:Nat,k<n∧x=k∧p k=true:=by
 simp only[ix,Dk,alN,acS];constructor
 ·rintro ⟨k,⟨a,b⟩,rfl⟩;exact⟨k,a,rfl,b⟩
 ·rintro ⟨k,a,rfl,b⟩;exact⟨k,⟨a,b⟩,rfl⟩
theorem Lv(p:Nat→Bool)(n:Nat):(ix p n).length≤n:=by
 unfold ix;rw[nw];have:=anl p (List.range n);rw[List.length_range]at this;exact this
theorem Z0(p:Nat→Bool)(n:Nat):(ix p n).Pairwise (· < ·):=by
 unfold ix;rw[am6];refine amw (fun h=>?_) (anq _ amu);omega
variable(B:dO)
def fl(k:Nat):Bool:=gO (B.getD k default)
def key(a:Int):Int:=(B.getD a.toNat default).Style.Order
structure Is(d:b7):Prop where
 p:d.Perm (ix (fl B) B.length)
 s:d.Pairwise (QSort.R (key B))
variable{B}
theorem Is.uniq{d e:b7}(h:Is B d)(c:Is B e):d=e:=by
 refine List.Perm.eq_of_pairwise (fun a b _ _ f c=>(f.asymm c).elim) h.s c.s (h.p.trans c.p.symm)
theorem Is.mem{d:b7}(h:Is B d){x:Int}(a:x∈d):∃k:Nat,k<B.length∧x=k∧gO (B.getD k default)=true:=N2.1 (h.p.mem_iff.1 a)
theorem Is.len{d:b7}(h:Is B d):d.length≤B.length:=by rw[h.p.length_eq];exact Lv _ _
variable(B)
theorem H2(m:Nat):QSort.uk (KN (m+1)) (Fv.c172 B) (fun a=>0≤a∧a<B.length) (key B):=by
 refine⟨fun a b f g=>?_⟩;show ∃c,vX (KN m) m a b B=some c∧_;unfold vX;rw[cJ f,cJ g];simp only[sc,rY,sb,bne_self_eq_false,il,ol,key];by_cases d:(B.getD a.toNat default).Style.Order<(B.getD b.toNat default).Style.Order
 ·rw[du d];exact⟨-1,rfl,by omega⟩
 ·rw[dq d];by_cases e:(B.getD a.toNat default).Style.Order>(B.getD b.toNat default).Style.Order
  ·rw[du e];exact⟨1,rfl,by omega⟩
  ·rw[dq e];exact⟨0,rfl,by omega⟩
theorem ae3(K:Kn)(n:Nat)(g:B.length≤19):∀(m i:Nat),i≤B.length→B.length<m+i →
  wT K n B m (i:Int) (ix (fl B) i)=lO K n (ix (fl B) B.length) (Fv.c172 B):=by
 intro m
 induction m with
 | zero=>intro i d e;omega
 | succ m a =>
  intro i d e;simp only[wT,Eu];by_cases f:i<B.length
  ·have h:=Lv (fl B) i;have b:=QB (fl B) i;have a:=a (i+1) (by omega) (by omega);rw[du (by omega),cJ (by omega),eT,Uw,sb];simp only[wL,wn (n:=(i:Int)+1) (k:=i+1) (by omega) (by omega)];cases c:gO (B.getD i default)
   ·rw[kb (by simp)];rw[b,kb (by unfold fl;rw[c];simp),Ts]at a;exact a
   ·rw[kc rfl,c7 (by simp only[la,u3];omega) (by omega),bc];rw[b,kc (by unfold fl;rw[c])]at a;exact a
  ·obtain rfl:i=B.length:=by omega
   rw[dq (by omega)];cases lO K n (ix (fl B) B.length) (Fv.c172 B)<;>rfl
theorem mw(g:B.length≤19){lvl n:Nat}(i:10001<n)(h:20010≤lvl):∃d,Is B d∧vj (KN lvl) n B=some d:=by
 have p:=Lv (fl B) B.length;obtain⟨d,b,c,e⟩:=QSort.PH (c0:=1) (f:=Fv.c172 B) (D:=fun a=>0≤a∧a<B.length) (key:=key B) (fun m o=>by
  obtain⟨k,rfl⟩:∃k,m=k+1:=⟨m-1,by omega⟩;exact H2 B k) (lvl:=lvl) (n:=n) (ix (fl B) B.length) i (by omega) (Z0 _ _) (fun x j=>by
   obtain⟨k,l,rfl,_⟩:=N2.1 j;omega) (by omega)
 refine⟨d,⟨b,c⟩,?_⟩;have:=ae3 B (KN lvl) n g n 0 (by omega) (by omega);unfold vj;rw[show ix (fl B) 0=[] from rfl,show((0:Nat):Int)=0 from rfl]at this;rw[this];exact e
end Od
mutual
/-- How many boxes. -/
def bL:ab→Nat
 | ⟨_,_,_,_,_,_,a⟩=>cZ a+1
def cZ:dO→Nat
 | []=>0
 | b::r=>bL b+cZ r
end
theorem iD(b:ab):bL b=cZ b.Kids+1:=by cases b;simp only[bL]
theorem gV(b:ab):1≤bL b:=by rw[iD];omega
theorem Ou:∀{l:dO} {b:ab},b∈l→bL b≤cZ l
 | [],b,h=>by cases h
 | c::r,b,h=>by
  simp only[cZ];rcases qk.1 h with rfl|h
  ·omega
  ·have:=Ou h;omega
theorem Dh:∀(l:dO),l.length≤cZ l
 | []=>jf _
 | c::r=>by simp only[cZ,la];have:=Dh r;have:=gV c;omega
theorem A5:∀(l m:dO),cZ (l++m)=cZ l+cZ m
 | [],m=>by simp[cZ]
 | c::r,m=>by simp only[aew,cZ,A5 r m];omega
theorem mD{b k:ab}(h:k∈b.Kids):bL k<bL b:=by rw[iD b];have:=Ou h;omega
theorem Cy(b:ab):b.Kids.length<bL b:=by rw[iD];have:=Dh b.Kids;omega
def nL(a b:ab):Bool:=(a.Kind == b.Kind)&&((a.Node == b.Node)&&((j8 a.Style b.Style)&&((a.Text.toList == b.Text.toList)&&((a.Rows == b.Rows)&&(a.Cols == b.Cols)))))
mutual
def eJ:ab→ab→Bool
 | ⟨k,n,s,t,r,c,d⟩,b=>nL ⟨k,n,s,t,r,c,[]⟩ b&&gy d b.Kids
def gy:dO→dO→Bool
 | [],[]=>true
 | a::r,b::q=>eJ a b&&gy r q
 | _,_=>false
end
theorem Co(a b:ab):eJ a b=(nL a b&&gy a.Kids b.Kids):=by cases a;simp only[eJ];rfl
theorem KT:∀{l m:dO},gy l m=true→l.length=m.length
 | [],[],_=>rfl
 | a::r,b::q,h=>by simp only[gy,h8]at h;simp[KT h.2]
 | [],_::_,h=>by cases h
 | _::_,[],h=>by cases h
theorem Z6(x:cI):fL x x=true:=by simp[fL]
theorem Ys(x:aR):j8 x x=true:=by simp[j8,Z6]
theorem adx(a:ab):nL a a=true:=by simp[nL,Ys]
mutual
theorem JM:∀a:ab,eJ a a=true
 | ⟨k,n,s,t,r,c,b⟩=>by
  rw[Co,adx,ama];exact UF b
theorem UF:∀l:dO,gy l l=true
 | []=>rfl
 | a::r=>by simp only[gy,JM a,UF r,amL]
end
theorem eB{i:Nat}(h:i<1000000000):aa ((i:Int)+1)=((i+1:Nat):Int):=by rw[bN (by omega) (by omega)];omega
theorem dA{i n:Nat}(h:i<n):aN ((i:Nat):Int) n=true:=dg (by omega) (by omega)
theorem eH{i n:Nat}(h:i<n):decide (((i:Nat):Int)<((n:Nat):Int))=true:=decide_eq_true (by omega)
theorem fd{i n:Nat}(h:n≤i):decide (((i:Nat):Int)<((n:Nat):Int))=false:=decide_eq_false (by omega)
theorem gN{α:Type}[Inhabited α]{L:List α}{k:Nat}(h:k<L.length):L.getD ((k:Nat):Int).toNat default=L[k]:=by rw[Int.toNat_natCast];exact ca h
theorem RJ{l m:dO}{i:Nat}(a:i<l.length)(b:i<m.length):gy (l.drop i) (m.drop i)=(eJ l[i] m[i]&&gy (l.drop (i+1)) (m.drop (i+1))):=by
 rw[lc a,lc b];simp only[gy]
theorem XB(K:Kn)(n:Nat)(a b:ab)(j:a.Kids.length=b.Kids.length)(l:a.Kids.length<1000000)(f:∀k∈a.Kids,∀q,K.uC k q=some (eJ k q)):∀(m i:Nat),i≤a.Kids.length→a.Kids.length<m+i →
  yo K n a b m i=some (gy (a.Kids.drop i) (b.Kids.drop i)):=by
 intro m
 induction m with
 | zero=>intro i d e;omega
 | succ m g =>
  intro i d e;simp only[yo,BE];by_cases c:i<a.Kids.length
  ·simp only[eH c,w3,dA c,dA (show i<b.Kids.length by omega),bc,gN c,gN (show i<b.Kids.length by omega),f _ (n3 c),h7];rw[RJ c (by omega)];cases h:eJ a.Kids[i] b.Kids[i] with
   | false=>simp
   | true =>
    simp only[Do,il,ol,ama];rw[eB (by omega)];exact g (i+1) (by omega) (by omega)
  ·simp only[fd (show a.Kids.length≤i by omega),il,ol];rw[ll (by omega),ll (by omega)];rfl
theorem Lg:∀(s N:Nat) (a b:ab),bL a≤s→s<1000000→s+2≤N→rh (KN N) N a b=some (eJ a b)
 | 0,_,a,_,h,_,_=>by have:=gV a;omega
 | s+1,0,_,_,_,_,h=>by omega
 | s+1,N+1,a,b,r,t,u=>by
  have e:∀k∈a.Kids,∀q,(KN (N+1)).uC k q=some (eJ k q):=fun k m q=>Lg s N k q (by have:=mD m;omega) (by omega) (by omega);have j:=Cy a;have c:jS (KN (N+1)) (N+1) a b true=some false:=rfl;have n:a.Kids.length=b.Kids.length→jS (KN (N+1)) (N+1) a b false=some (gy a.Kids b.Kids):=fun f=>by
   have:=XB (KN (N+1)) (N+1) a b f (by omega) e (N+1) 0 (tl _) (by omega);simpa[jS]using this
  unfold rh;rw[Co];unfold nL;cases c1:(a.Kind == b.Kind) with
  | false=>simp[bne,c1,c]
  | true =>
  cases d:(a.Node == b.Node) with
  | false=>simp[bne,c1,d,c]
  | true =>
  cases o:(j8 a.Style b.Style) with
  | false=>simp[bne,c1,d,c]
  | true =>
  cases p:(a.Text.toList == b.Text.toList) with
  | false=>simp[bne,c1,d,c]
  | true =>
  cases g:(a.Rows == b.Rows) with
  | false=>simp[bne,c1,d,g,c]
  | true =>
  cases i:(a.Cols == b.Cols) with
  | false=>simp[bne,c1,d,g,i,c]
  | true =>
   simp only[bne,c1,d,g,i,Do,il,ol,ama];by_cases f:a.Kids.length=b.Kids.length
   ·have:(((a.Kids.length:Nat):Int) == ((b.Kids.length:Nat):Int))=true:=by rw[f];simp
    rw[this,Do,n f]
   ·have:(((a.Kids.length:Nat):Int) == ((b.Kids.length:Nat):Int))=false:=by simp;omega
    rw[this,amf,c];cases l:gy a.Kids b.Kids with
    | false=>rfl
    | true=>exact absurd (KT l) f
theorem aki(K:Kn)(n:Nat)(l q:dO)(f:l.length=q.length)(g:l.length<1000000)(d:∀k∈l,∀p,K.qZ (Fv.fn 27) k p=some (eJ k p)):∀(m i:Nat),i≤l.length→l.length<m+i →
  xK K n l q (Fv.fn 27) m i=some (gy (l.drop i) (q.drop i)):=by
 intro m
 induction m with
 | zero=>intro i b c;omega
 | succ m e =>
  intro i b c;simp only[xK,B7];by_cases a:i<l.length
  ·simp only[eH a,w3,dA a,dA (show i<q.length by omega),bc,gN a,gN (show i<q.length by omega),d _ (n3 a),h7];rw[RJ a (by omega)];cases h:eJ l[i] q[i] with
   | false=>simp
   | true =>
    simp only[Do,il,ol,ama];rw[eB (by omega)];exact e (i+1) (by omega) (by omega)
  ·simp only[fd (show l.length≤i by omega),il,ol];rw[ll (by omega),ll (by omega)];rfl
theorem aiq(K:Kn)(n:Nat)(l q:dO)(d:l.length<1000000)(e:l.length<n)(c:∀k∈l,∀p,K.qZ (Fv.fn 27) k p=some (eJ k p)):yn K n l q (Fv.fn 27)=some (gy l q):=by
 unfold yn;by_cases a:l.length=q.length
 ·have:(((l.length:Nat):Int) != ((q.length:Nat):Int))=false:=by rw[a];simp
  rw[this];simpa using aki K n l q a d c n 0 (tl _) (by omega)
 ·have:(((l.length:Nat):Int) != ((q.length:Nat):Int))=true:=by simp[bne];omega
  rw[this,kc rfl];cases b:gy l q with
  | false=>rfl
  | true=>exact absurd (KT b) a
theorem Dl:∀(s N:Nat) (a b:ab),bL a≤s→s<1000000→s+2≤N→ow (KN N) N a b=some (eJ a b)
 | 0,_,a,_,h,_,_=>by have:=gV a;omega
 | s+1,0,_,_,_,_,h=>by omega
 | s+1,N+1,a,b,n,o,p=>by
  have c:∀k∈a.Kids,∀q,(KN (N+1)).qZ (Fv.fn 27) k q=some (eJ k q):=fun k f q=>Dl s N k q (by have:=mD f;omega) (by omega) (by omega);have d:=Cy a;have e:=aiq (KN (N+1)) (N+1) a.Kids b.Kids (by omega) (by omega) c;unfold ow;rw[Co,e];unfold nL;simp only[lu,h7];cases c1:(a.Kind == b.Kind) with
  | false=>simp
  | true =>
  cases g:(a.Node == b.Node) with
  | false=>simp
  | true =>
  cases i:(j8 a.Style b.Style) with
  | false=>simp
  | true =>
  cases j:(a.Text.toList == b.Text.toList) with
  | false=>simp
  | true =>
  cases l:(a.Rows == b.Rows) with
  | false=>simp
  | true =>
  cases m:(a.Cols == b.Cols) with
  | false=>simp
  | true=>simp
mutual
/-- b is within a box. -/
def fQ(b:ab):ab→Bool
 | ⟨k,n,s,t,r,c,a⟩=>eJ ⟨k,n,s,t,r,c,a⟩ b||oM b a
def oM(b:ab):dO→Bool
 | []=>false
 | k::r=>fQ b k||oM b r
end
theorem Pd(b a:ab):fQ b a=(eJ a b||oM b a.Kids):=by cases a;simp only[fQ]
theorem UL{b:ab}{l:dO}{i:Nat}(h:i<l.length):oM b (l.drop i)=(fQ b l[i]||oM b (l.drop (i+1))):=by
 rw[lc h];simp only[oM]
theorem aiC(K:Kn)(n:Nat)(a b:ab)(j:a.Kids.length<1000000)(f:∀k∈a.Kids,K.tq k b=some (fQ b k)):∀(m i:Nat),i≤a.Kids.length→a.Kids.length<m+i →
  ye K n a b m i=some (oM b (a.Kids.drop i)):=by
 intro m
 induction m with
 | zero=>intro i d e;omega
 | succ m g =>
  intro i d e;simp only[ye,AZ];by_cases c:i<a.Kids.length
  ·simp only[eH c,w3,dA c,bc,gN c,f _ (n3 c),h7];rw[UL c];cases h:fQ b a.Kids[i] with
   | true=>simp
   | false =>
    simp only[il,ol,alR];rw[eB (by omega)];exact g (i+1) (by omega) (by omega)
  ·simp only[fd (show a.Kids.length≤i by omega),il,ol];rw[ll (by omega)];rfl
theorem Uk:∀(s N:Nat) (a b:ab),bL a≤s→s<1000000→s+2≤N→tE (KN N) N a b=some (fQ b a)
 | 0,_,a,_,h,_,_=>by have:=gV a;omega
 | s+1,0,_,_,_,_,h=>by omega
 | s+1,N+1,a,b,e,f,g=>by
  have c:∀k∈a.Kids,(KN (N+1)).tq k b=some (fQ b k):=fun k i=>Uk s N k b (by have:=mD i;omega) (by omega) (by omega);have d:=Cy a;unfold tE;rw[Lg (s+1) (N+1) a b e f g,h7,Pd];cases h:eJ a b with
  | true=>simp
  | false =>
   simp only[il,ol,alR];simpa using aiC (KN (N+1)) (N+1) a b (by omega) c (N+1) 0 (tl _) (by omega)
theorem ady(K:Kn)(n:Nat)(l:dO)(b:ab)(g:l.length<1000000)(e:∀k∈l,K.lR (Fv.c65 b) k=some (fQ b k)):∀(m i:Nat),i≤l.length→l.length<m+i →
  ∃r,mG K n l (Fv.c65 b) m i=some r∧decide (r≥0)=oM b (l.drop i):=by
 intro m
 induction m with
 | zero=>intro i c d;omega
 | succ m f =>
  intro i c d;simp only[mG,wv];by_cases a:i<l.length
  ·simp only[eH a,w3,dA a,bc,gN a,e _ (n3 a),h7];rw[UL a];cases h:fQ b l[i] with
   | true=>exact⟨_,rfl,by simp⟩
   | false =>
    simp only[il,ol,alR];rw[eB (by omega)];exact f (i+1) (by omega) (by omega)
  ·simp only[fd (show l.length≤i by omega),il,ol];rw[ll (by omega)];exact⟨_,rfl,rfl⟩
theorem SS:∀(s N:Nat) (a b:ab),bL a≤s→s<100000→2*s+4≤N→rf (KN N) N a b=some (fQ b a)
 | 0,_,a,_,h,_,_=>by have:=gV a;omega
 | s+1,0,_,_,_,_,h=>by omega
 | s+1,1,_,_,_,_,h=>by omega
 | s+1,N+2,a,b,i,l,m=>by
  have c:∀k∈a.Kids,(KN (N+2)).lR (Fv.c65 b) k=some (fQ b k):=fun k j=>by
   show xi (KN (N+1)) (N+1) k b=_;unfold xi;show(rf (KN N) N k b).bind _=_;rw[SS s N k b (by have:=mD j;omega) (by omega) (by omega)];rfl
  have e:=Cy a;unfold rf;rw[Dl (s+1) (N+2) a b i (by omega) (by omega),h7,Pd];simp only[z7];cases h:eJ a b with
  | true=>simp
  | false =>
   simp only[il,ol,alR];unfold oX yX;obtain⟨r,f,g⟩:=ady (KN (N+2)) (N+2) a.Kids b (by omega) c (N+2) 0 (tl _) (by omega);have d:mG (KN (N+2)) (N+2) a.Kids (Fv.c65 b) (N+2) 0=some r:=f;rw[d];simp only[h7,g,If]
def ec(r:Int):List UInt8:=(Utf8.encode r).data.toList
def dB(r:Int):Prop:=(0≤r∧r<55296)∨(57344≤r∧r≤1114111)
theorem ajH{r}(h:dB r):Utf8.valid r=true:=by
 unfold dB at h;unfold Utf8.valid
 grind
theorem ga{n:Nat}(h:n<256):(UInt8.ofNat n).toNat=n:=by simp_all
theorem KM {r:Int} (h:dB r):∃ c:Nat,r=(c:Int) ∧
    ((c<128∧ec r=[UInt8.ofNat c])∨(128≤c∧c<2048∧ec r=[UInt8.ofNat (192+c / 64),UInt8.ofNat (128+c % 64)]) ∨
     (2048≤c∧c<65536∧(c<55296∨57344≤c)∧ec r=[UInt8.ofNat (224+c / 4096),UInt8.ofNat (128+c / 64 % 64),UInt8.ofNat (128+c % 64)]) ∨
     (65536≤c∧c≤1114111∧ec r=[UInt8.ofNat (240+c / 262144),UInt8.ofNat (128+c / 4096 % 64),UInt8.ofNat (128+c / 64 % 64),UInt8.ofNat (128+c % 64)])):=by
  refine⟨r.toNat,by unfold dB at h;omega,?_⟩;unfold ec Utf8.encode;simp only[ajH h,w3];unfold dB at h;generalize e:r.toNat=c at *;by_cases a:c<128
  · left;simp[a]
  · by_cases b:c<2048
    · right;left;simp[a,b];omega
    · by_cases d:c<65536
      · right;right;left;simp[a,b,d];omega
      · right;right;right;simp[a,b,d];omega
theorem LA{r:Int}(h:dB r)(t:List UInt8):Lib.decodeL (ec r++t)=(r.toNat,(ec r).length):=by
 obtain⟨c,rfl,h|h|h|h⟩:=KM h
 ·rw[h.2,amM];simp only[aew,Dy,aml,ga (show c<256 by omega),Int.toNat_natCast,la,u3];unfold Lib.decodeN;rw[kc h.1]
 ·rw[h.2.2,amM];simp only[aew,Dy,aml,amk,ga (show 192+c / 64<256 by omega),ga (show 128+c % 64<256 by omega),Int.toNat_natCast,la,u3];unfold Lib.decodeN;rw[kb (by omega),kc (by omega),kc (by omega)];congr 1;omega
 ·rw[h.2.2.2,amM];simp only[aew,Dy,aml,amk,ga (show 224+c / 4096<256 by omega),ga (show 128+c / 64 % 64<256 by omega),ga (show 128+c % 64<256 by omega),Int.toNat_natCast,la,u3];unfold Lib.decodeN;rw[kb (by omega),kb (by omega),kc (by omega),kc (by omega)];congr 1;omega
 ·rw[h.2.2,amM];simp only[aew,Dy,aml,amk,ga (show 240+c / 262144<256 by omega),ga (show 128+c / 4096 % 64<256 by omega),ga (show 128+c / 64 % 64<256 by omega),ga (show 128+c % 64<256 by omega),Int.toNat_natCast,la];unfold Lib.decodeN
  grind
theorem EC{r}(h:dB r):1≤(ec r).length∧(ec r).length≤4:=by
 grind[KM]
theorem abd n a b c d:dB (Lib.decodeN n a b c d).1:=by
 unfold Lib.decodeN dB
 grind
theorem acK l:dB (Lib.decodeL l).1:=by rw[amM];grind[abd]
def jL:Nat→List UInt8→b7
 | 0,_=>[]
 | n+1,l=>if l.isEmpty=true then [] else (Lib.decodeL l).1::jL n (l.drop (Lib.decodeL l).2)
theorem ahJ:∀(n m:Nat) (l:List UInt8),l.length≤n→l.length≤m→jL n l=jL m l:=by
 intro n
 induction n with
 | zero =>
  intro m l a b;have:l=[]:=nx (by omega);subst this;cases m<;>simp[jL]
 | succ n c =>
  intro m l a b;cases m with
  | zero =>
   grind
  | succ m =>
   unfold jL;split
   ·rfl
   ·have:=am7 l
    grind
def jJ(l:List UInt8):b7:=jL l.length l
theorem akl:jJ []=[]:=rfl
theorem Ry{l}(h:l≠[]):jJ l=((Lib.decodeL l).1:Int)::jJ (l.drop (Lib.decodeL l).2):=by
 unfold jJ;cases l with
 | nil=>grind
 | cons x r =>
  have:=am7 (x::r);rw[show jL (x::r).length (x::r)=((Lib.decodeL (x::r)).1:Int)::jL r.length ((x::r).drop (Lib.decodeL (x::r)).2) from rfl]
  grind[ahJ]
theorem aho{r:Int}(h:dB r)(t:List UInt8):jJ (ec r++t)=r::jJ t:=by
 have a:=EC h;rw[Ry (by intro e;rw[List.append_eq_nil_iff]at e;rw[e.1]at a;simp at a),LA h t];simp only[anr];congr 1;unfold dB at h;omega
def dG(rs:b7):List UInt8:=rs.flatMap ec
theorem Rf r rs:dG (r::rs)=ec r++dG rs:=by rfl
theorem Vc a b:dG (a++b)=dG a++dG b:=by simp[dG]
theorem Qx:∀{rs} t,(∀r∈rs,dB r)→jJ (dG rs++t)=rs++jJ t
 | [],t,_=>rfl
 | r::rs,t,h=>by
  rw[Rf,q7,aho (by grind),Qx t (fun x a=>h x (by grind))];rfl
theorem ZD{rs}(h:∀r∈rs,dB r):jJ (dG rs)=rs:=by
 have:=Qx [] h;grind[akl]
theorem P4:∀n l,∀r∈jL n l,dB r
 | 0,_,r,h=>by cases h
 | n+1,l,r,h=>by
  unfold jL at h;split at h
  ·grind
  ·rcases qk.1 h with rfl|h
   ·exact acK l
   ·exact P4 n _ r h
theorem GN{l}:∀r∈jJ l,dB r:=P4 _ _
theorem Qg:∀n l,(jL n l).length≤n
 | 0,_=>by simp[jL]
 | n+1,l=>by
  unfold jL;split
  ·simp
  ·have:=Qg n (l.drop (Lib.decodeL l).2);grind
theorem ahL l:(jJ l).length≤l.length:=Qg _ _
def iR(b:ByteArray)(p:Nat):b7:=jJ (b.data.toList.drop p)
theorem EL(b:ByteArray):b.data.toList.length=b.size:=rfl
theorem Uo{b}{p}(h:¬ p<b.size):iR b p=[]:=by
 unfold iR;rw[ll (by simp_all)];rfl
theorem OS{b:ByteArray}{p:Nat}(h:p<b.size):iR b p=((Utf8.decode b p).1:Int)::iR b (p+(Utf8.decode b p).2):=by
 unfold iR;rw[Ry (by intro e;have:=congrArg List.length e;simp at this;have a:=EL b;simp at a;omega),amH,al0]
theorem VU b p:1≤(Utf8.decode b p).2:=by rw[←amH];exact am7 _
def ints(l:List UInt8):b7:=l.map fun b=>b.toNat
theorem ada a b:ints (a++b)=ints a++ints b:=by simp[ints]
theorem aaI a:(ints a).length=a.length:=by simp[ints]
theorem aaF x y:g9 .u8 x y=bits .and .u8 x y:=rfl
theorem Cr x y:fg .u8 x y=bits .or .u8 x y:=rfl
theorem w8{n}(h:0≤n∧n<256):IntKind.wrap .u8 n=n:=by rw[anm];omega
theorem sM y:fg .u8 128 (g9 .u8 (IntKind.wrap .u8 y) 63)=128+y % 64:=by
 have h:0≤IntKind.wrap .u8 y∧IntKind.wrap .u8 y<256:=by rw[anm];omega
 rw[aaF,u8_and63 _ h.1 h.2,Cr,u8_or128 _ (by omega) (by omega),anm];omega
section
variable{K:Kn}{n:Nat}
theorem adD{r:Int}(h:dB r){L:b7}(f:L.length≤1000000):ut K n r L=some (L++ints (ec r)):=by
 have a:IntKind.wrap .u32 r=r:=by rw[IntKind.wrap_u32];unfold dB at h;omega
 unfold ut;rw[a];obtain⟨c,rfl,b|b|b|b⟩:=KM h
 ·rw[kc (by simp;omega),c7 (by simp;omega) (by omega),bc,b.2,w8 (by omega)];simp only[ints,rv,zt,ga (show c<256 by omega)]
 ·rw[kb (by simp;omega)];unfold tz;rw[a,kc (by simp;omega),c7 (by simp;omega) (by omega),bc,b.2.2];simp only[h7,ints,rv,zt,ga (show 192+c / 64<256 by omega),ga (show 128+c % 64<256 by omega)];rw[w8 (n:=(c:Int) / 64) (by omega),Cr 192,u8_or192 _ (by omega) (by omega),sM];congr 3<;>omega
 ·rw[kb (by simp;omega)];unfold tz;rw[a,kb (by simp;omega)];have e:oD K n (c:Int) L true=some (L++ints (ec (c:Int))):=by
   unfold oD;rw[kc rfl,c7 (by simp;omega) (by omega),bc,b.2.2.2];simp only[ints,rv,zt,ga (show 224+c / 4096<256 by omega),ga (show 128+c / 64 % 64<256 by omega),ga (show 128+c % 64<256 by omega)];rw[w8 (n:=(c:Int) / 4096) (by omega),Cr 224,u8_or224 _ (by omega) (by omega),sM,sM];congr 3<;>omega
  by_cases d:(c:Int)<55296
  ·rw[kc (by simpa using d),e];rfl
  ·rw[kb (by simpa using d),kc (by simp;omega),show decide ((c:Int)≤65535)=true by simp;omega,e];rfl
 ·rw[kb (by simp;omega)];unfold tz;rw[a,kb (by simp;omega),kb (by simp;omega),kc (by simp;omega),show decide ((c:Int)≤65535)=false by simp;omega];unfold oD;rw[a,kb (by simp),kc (by simp;omega),show decide ((c:Int)≤1114111)=true by simp;omega];unfold Av;rw[kc rfl,c7 (by simp;omega) (by omega),bc,b.2.2];simp only[h7,ints,rv,zt,ga (show 240+c / 262144<256 by omega),ga (show 128+c / 4096 % 64<256 by omega),ga (show 128+c / 64 % 64<256 by omega),ga (show 128+c % 64<256 by omega)];rw[w8 (n:=(c:Int) / 262144) (by omega),Cr 240,u8_or240 _ (by omega) (by omega),sM,sM,sM];congr 3<;>omega
theorem afw{r}(h:dB r){L}(a:L.length≤1000000) b:∃x,pk K n r b L=some (x,(),L++ints (ec r)):=by
 unfold pk;rw[adD h a]
 simp_all
end
theorem aer{l}(h:l≠[]):qC (ints l)=true:=by
 unfold qC ints;rw[h8];refine⟨?_,by simp_all⟩;rw[ne];intro n a;obtain⟨b,_,rfl⟩:=Dk.1 a;have:=UInt8.toNat_lt b
 grind
theorem YQ l:bytesOf (ints l)=⟨l.toArray⟩:=by
 unfold bytesOf ints;rw[List.map_map];congr 2
 conv=>rhs;rw[←List.map_id l]
 refine anv fun b _=>?_;simp
noncomputable section
def mh(r:Int):Bool:=r == 9||(r == 10||(r == 13||r == 32))
def BO(r:Int):Int:=(lv (KN 0) 0 r).getD 0
def afc(s:Int):Int:=min (max s 0) 1048576
def KS(r s:Int):Int:=aa (Int.tdiv (aa ((aa (BO r*afc s))+15)) 16)
def vZ(a b:Int):Bool:=bif mh b||BO b == 0 then false else bif mh a then true else bif a == 45&&b != 45 then true else decide (a≥11904)||decide (b≥11904)
def tw(e:aO):Bool:=e.Kind == 1&&(e.Box.Style.WhiteSpace != 1&&e.Box.Style.WhiteSpace != 2)
def iZ(a b:aO):Bool :=
 bif a.Kind == 3||b.Kind == 3 then (a.Kind == 3||tw a)&&(b.Kind == 3||tw b)
 else bif a.Kind != 1||(b.Kind != 1||(!tw a||(a.Char != 32&&!tw b))) then false else vZ a.Char b.Char
def ug{α:Type}(x:Option α):Prop:=∃u,x=some u
theorem UD{α}(u:α):ug (some u):=⟨u,rfl⟩
theorem Uy{α}{c}[Decidable c]{x y:Option α}(a:ug x)(b:ug y):ug (if c then x else y):=by grind
section
variable(K:Kn)(n:Nat)
theorem P2 r:sZ K n r=some (mh r):=by
 grind[sZ,mh,qx]
theorem aas(r:Int):ug (lv K n r):=by
 unfold lv lr;simp only[ij,gp,mT,yc]
 repeat first|exact UD _|apply Uy
theorem UE r:lv K n r=some (BO r):=by
 obtain⟨u,a⟩:=aas K n r;have e:lv (KN 0) 0 r=lv K n r:=rfl
 grind[BO]
theorem QS r s:nW K n r s=some (KS r s):=by
 unfold nW;rw[UE];rfl
theorem aic a b:xl K n a b=some (vZ a b):=by
 unfold xl vZ;rw[P2,UE]
 grind[zr,P2,yI,wK,mh]
theorem agv e:mO K n e=some (tw e):=by
 grind[mO,tw,sa]
end
theorem aeA a b:(runesBytes [a,b]).data.toList=ec a++ec b:=by
 rfl
theorem aeN(K:Kn){n:Nat}(p:3≤n){a b:Int}(e:dB a)(f:dB b):∃l,vU K n (runesBytes [a,b])=some l∧decide ((l.length:Int)>0)=vZ a b:=by
 generalize k:runesBytes [a,b]=B;have g:B.data.toList=ec a++ec b:=by rw[←k];exact aeA a b
 have r:=EC e;have s:=EC f;have q:B.size=(ec a).length+(ec b).length:=by rw[←EL,g,mm]
 have h:Utf8.decode B 0=(a.toNat,(ec a).length):=by
  rw[←amH,If,g,LA e]
 have d:Utf8.decode B (ec a).length=(b.toNat,(ec b).length):=by
  rw[←amH,g,anr];have:=LA f [];rwa[Ts]at this
 have i:((a.toNat:Nat):Int)=a:=by unfold dB at e;omega
 have j:((b.toNat:Nat):Int)=b:=by unfold dB at f;omega
 obtain⟨m,rfl⟩:∃m,n=m+3:=⟨n-3,by omega⟩;unfold vU;show ∃l,ny K (m+3) B (qi K (m+3) B (m+2)) 0 0 []=some l∧_;unfold ny;rw[kc (by simp;omega),kb (by simp)];unfold qK;rw[kb (by simp)];unfold pe;rw[h];simp only[DO,i];show ∃l,ny K (m+3) B (qi K (m+3) B (m+1)) a (ec a).length []=some l∧_;unfold ny;rw[kc (by simp;omega),kc (by simp;omega),d];simp only[j];rw[aic];simp only[h7];have c:∀(x:Int) (l:b7),qi K (m+3) B (m+1) x ((ec a).length+(ec b).length) l=some l:=fun x l=>by
  show ny K (m+3) B (qi K (m+3) B m) x _ l=some l;unfold ny;rw[kb (by simp;omega)]
 cases o:vZ a b with
 | true =>
  unfold qK;rw[kc rfl,c7 (by simp) (by omega),bc];unfold pe;rw[d];simp only[];rw[c];exact⟨_,rfl,by simp⟩
 | false =>
  unfold qK;rw[kb (by simp)];unfold pe;rw[d];simp only[];rw[c];exact⟨_,rfl,by simp⟩
theorem sW K{n}(e:3≤n){a b}(c:dB a.Char)(d:dB b.Char):l8 K n a b=some (iZ a b):=by
 obtain⟨l,f,g⟩:=aeN K e c d
 grind[n0,l8,iZ,yi,oo,agv]
def xM(s a:Int):b7→Int
 | []=>a
 | r::t=>xM s (aa (a+KS r s)) t
theorem abn(K:Kn)(n:Nat)(b:ByteArray)(s:Int):∀(m:Nat) (a:Int) (p:Nat),b.size-p<m→As K n b s m a p=some (xM s a (iR b p)):=by
 intro m
 induction m with
 | zero=>intro a p h;omega
 | succ m d =>
  intro a p h;show xJ K n b s (As K n b s m) a p=_;unfold xJ;by_cases c:p<b.size
  ·grind[VU,QS,OS,xM]
  ·rw[kb (by grind),Uo c];rfl
theorem UK K{n} b s(a:b.size<n):qX K n b s=some (xM s 0 (iR b 0)):=by
 grind[qX,abn]
def kB(s:aR):Int×Int:=(ov (KN 0) 0 s).getD default
theorem RM K n s:ov K n s=some (kB s):=rfl
def c9(x:d6):b7:=x.map fun e=>e.Char
def Dn(x:d6):Bool:=(x.getD (x.length-1) default).Soft
def IB(x:d6):b7:=bif Dn x then (c9 x).dropLast else c9 x
def gM(rs:b7):ByteArray:=⟨(dG rs).toArray⟩
def w6(x:d6):aR:=(x.getD 0 default).Box.Style
def eR(x:d6):aB :=
 { cX with Text:=gM (c9 x),Width:=xM (w6 x).FontSize 0 (IB x),Space:=bif Dn x then KS 32 (w6 x).FontSize else 0,Above:=(kB (w6 x)).1,Below:=(kB (w6 x)).2 }
theorem CU{rs}(h:∀r∈rs,dB r):rs.length≤(dG rs).length∧(dG rs).length≤4*rs.length:=by
 induction rs with
 | nil=>simp[dG]
 | cons r t a =>
  have:=EC (h r (by simp))
  grind[Rf]
theorem CP rs:(gM rs).size=(dG rs).length:=by rfl
theorem TH rs:(gM rs).data.toList=dG rs:=by grind[gM]
theorem OP{rs}(h:∀r∈rs,dB r):iR (gM rs) 0=rs:=by
 grind[iR,TH,ZD]
theorem ajZ{rs} a(h:rs.getLast a=32):dG rs=dG rs.dropLast++[32]:=by
 conv=>lhs;rw[←amN a]
 rw[Vc,h];rfl
theorem aaR{rs} a(h:rs.getLast a=32):(gM rs).extract 0 ((gM rs).size-1)=gM rs.dropLast:=by
 have e:=ajZ a h;have b:(gM rs).size=(dG rs.dropLast).length+1:=by grind[CP]
 apply ByteArray.ext;apply Array.ext'
 simp_all[TH]
structure km(e:aO):Prop where
 ch:dB e.Char
 soft:e.Soft=true→e.Char=32
theorem IU{x}(h:∀e∈x,km e):∀r∈c9 x,dB r:=by
 intro r b;obtain⟨e,a,rfl⟩:=Dk.1 b;exact(h e a).ch
section
variable{K:Kn}{n:Nat}{x:d6}
theorem ak4(z:x≠[])(I:x.length≤2000)(w:∀e∈x,km e)(J:8010≤n)(b:Bool):tJ K n x (ints (dG (c9 x))) b=some (eR x):=by
 have H:0<x.length:=amj.2 z;have v:c9 x≠[]:=by unfold c9;simp[z]
 have D:(c9 x).length=x.length:=by unfold c9;simp
 have f:=IU w;have j:=CU f;have p:dG (c9 x)≠[]:=by intro e;rw[e]at j;have:=j.1;simp only[u3]at this;omega
 have A:aa ((x.length:Int)-1)=((x.length-1:Nat):Int):=by rw[bN (by omega) (by omega)];omega
 have o:bytesOf (ints (dG (c9 x)))=gM (c9 x):=YQ _;have F:(gM (c9 x)).size=(dG (c9 x)).length:=CP _;have B:aa (((gM (c9 x)).size:Int)-1)=(((gM (c9 x)).size-1:Nat):Int):=by rw[bN (by omega) (by omega)];omega
 have key:∀(a:aR) (Y:ByteArray→Int→Option aB),(∀k l,Y k l=(qX K n k a.FontSize).bind fun t=>(ov K n a).bind fun m=>some ({ cX with Text:=bytesOf (ints (dG (c9 x))),Width:=t,Space:=l,Above:=m.1,Below:=m.2 }:aB))→a=w6 x →
   aE (qC (ints (dG (c9 x)))) (aE (aN (aa ((x.length:Int)-1)) x.length) ((some ((List.getD x ((aa ((x.length:Int)-1))).toNat default).Soft)).bind fun s =>
    if s=true then aE (cD (0:Int) (aa (((bytesOf (ints (dG (c9 x)))).size:Int)-1)) (bytesOf (ints (dG (c9 x)))).size) ((some (ByteArray.extract (bytesOf (ints (dG (c9 x)))) (0:Int).toNat ((aa (((bytesOf (ints (dG (c9 x)))).size:Int)-1))).toNat)).bind fun c=>(nW K n 32 a.FontSize).bind fun d=>Y c d)
    else Y (bytesOf (ints (dG (c9 x)))) 0))=some (eR x):=by
  intro a Y u G;subst G;rw[aer p,bc,A,dg (by omega) (by omega),bc];simp only[h7,Int.toNat_natCast];have y:(List.getD x (x.length-1) default).Soft=Dn x:=rfl;rw[y,o,B];cases h:Dn x with
  | true =>
   have g:(c9 x).getLast v=32:=by
    have E:x.getD (x.length-1) default∈x:=by rw[ca (by omega)];exact n3 _
    have:=(w _ E).soft (by rw[y];exact h);rw[List.getLast_eq_getElem];unfold c9;rw[al7];rw[ca (by omega)]at this;simpa using this
   rw[kc rfl,show cD (0:Int) (((gM (c9 x)).size-1:Nat):Int) (gM (c9 x)).size=true by simp only[cD,h8,qv];omega,bc];simp only[Int.toNat_zero,Int.toNat_natCast];rw[aaR v g,QS];simp only[h7];rw[u,UK K (gM (c9 x).dropLast) _ (by
    have C:=CU (rs:=(c9 x).dropLast) (fun r q=>f r ((ann _).subset q));rw[CP];simp at C;omega),OP (fun r q=>f r ((ann _).subset q)),RM,o]
   simp only[h7];unfold eR IB;rw[h];rfl
  | false =>
   rw[kb (by simp),u,UK K (gM (c9 x)) _ (by omega),OP f,RM,o];simp only[h7];unfold eR IB;rw[h];rfl
 unfold tJ;rw[dg (i:=(0:Int)) (by omega) (by omega)];simp only[bc,h7];cases b with
 | true=>rw[kc rfl];exact key _ (fun c d=>wD K n _ _ c d) (fun _ _=>rfl) rfl
 | false=>rw[kb (by simp)];exact key _ (fun c d=>zK K n _ _ c d) (fun _ _=>rfl) rfl
theorem abi(u:x≠[])(s:x.length≤2000)(g:∀e∈x,km e)(t:8010≤n):∀(m i:Nat) (b:Bool),i≤x.length→x.length<m+i→uJ K n x m (i:Int) b (ints (dG ((c9 x).take i)))=some (eR x):=by
 intro m
 induction m with
 | zero=>intro i b h j;omega
 | succ m p =>
  intro i b h j;show Ah K n x (uJ K n x m) i b _=_;unfold Ah;have f:(c9 x).length=x.length:=by unfold c9;simp
  by_cases a:i<x.length
  ·have k:x.getD i default∈x:=by rw[ca a];exact n3 _
   have c:=CU (rs:=(c9 x).take i) (fun r d=>IU g r (oR d));have l:(c9 x).take (i+1)=(c9 x).take i++[(x.getD i default).Char]:=by
    rw[am8,iN (by rw[f];exact a),ca a];simp[c9]
   have d:∀b,(pk K n ((List.getD x ((i:Int)).toNat default).Char) b (ints (dG ((c9 x).take i)))).bind (fun q=>uJ K n x m (aa ((i:Int)+1)) true q.2.2)=some (eR x):=fun b=>by
    rw[Int.toNat_natCast];obtain⟨y,o⟩:=afw (K:=K) (n:=n) (g _ k).ch (L:=ints (dG ((c9 x).take i))) (by rw[aaI];simp at c;omega) b;rw[o];simp only[h7];rw[bN (by omega) (by omega),show(i:Int)+1=((i+1:Nat):Int) by omega,← ada];have e:dG ((c9 x).take i)++ec (x.getD i default).Char=dG ((c9 x).take (i+1)):=by
     rw[l,Vc];simp[dG]
    rw[e];exact p (i+1) true (by omega) (by omega)
   cases b with
   | true=>rw[kc rfl,kc (by simpa using a),dg (by omega) (by omega),bc];exact d true
   | false=>rw[kb (by simp),kc (by simpa using a),dg (by omega) (by omega),bc];exact d false
  grind[c9,ak4]
theorem ID(d:x≠[])(a:x.length≤2000)(c:∀e∈x,km e)(b:8010≤n):tc K n x=some (eR x):=by
 exact abi d a c b n 0 false (by omega) (by omega)
end
end
noncomputable section
def jA(e:aO):Bool:=e.Box.Style.WhiteSpace == 2
def mX(a:d6):aO:=a.getD (a.length-1) default
def sC(a:d6):Bool:=a.isEmpty||((mX a).Soft||(mX a).Kind == 2)
def nM(a:d6)(e:aO):d6 :=
  bif mh e.Char then
    (bif jA e then (bif e.Char == 10 then a++[{ e with Kind:=2,Char:=32 }] else bif e.Char == 13 then a else a++[{ e with Char:=32 }])
     else bif sC a then a else a++[{ e with Soft:=true,Char:=32 }])
  else a++[e]
theorem Ur a e:(nM a e).length≤a.length+1:=by
 grind[nM]
section
variable(K:Kn)(n:Nat)
theorem FA{a}(b:a.length≤1000000) e:rC K n a e=some (a++[{ e with Char:=32 }]):=by
 grind[rC,c7,bc]
theorem afR{a:d6}(k:a.length≤1000000)(e:aO):zE K n e a=some (nM a e):=by
 have j:∀b,nh K n e a b=some (bif b then a else a++[{ e with Soft:=true,Char:=32 }]):=fun b=>by
  unfold nh;cases b with
  | true=>rfl
  | false=>rw[kb (by simp),FA K n k];rfl
 have o:∀b,jA e=b→∀c,tX K n e a c=some (bif c then a else bif b then a++[{ e with Char:=32 }] else bif sC a then a else a++[{ e with Soft:=true,Char:=32 }]):=fun b t c=>by
  unfold tX;cases c with
  | true=>rfl
  | false =>
   have h:(e.Box.Style.WhiteSpace == 2)=b:=t;rw[kb (by simp),h];cases b with
   | true=>rw[show(!true)=false from rfl,kb (by simp),FA K n k];rfl
   | false =>
    rw[show(!false)=true from rfl,kc rfl];by_cases f:a=[]
    ·subst f;rw[kc (by simp),j];rfl
    ·have p:0<a.length:=amj.2 f;have s:aa ((a.length:Int)-1)=((a.length-1:Nat):Int):=by rw[bN (by omega) (by omega)];omega
     have g:a.isEmpty=false:=by cases a;exact absurd rfl f;rfl
     rw[kb (by simp;exact f),s,dg (by omega) (by omega)];simp only[bc,Int.toNat_natCast]
     change (if (mX a).Soft=true then nh K n e a true else nh K n e a ((mX a).Kind == 2))=_
     cases q:(mX a).Soft with
     | true=>rw[kc rfl,j];unfold sC;rw[g,q];rfl
     | false=>rw[kb (by simp),j];unfold sC;rw[g,q];rfl
 have m:∀c,vH K n e a c=some (bif c then a++[{ e with Kind:=2,Char:=32 }] else bif jA e then (bif e.Char == 13 then a else a++[{ e with Char:=32 }]) else bif sC a then a else a++[{ e with Soft:=true,Char:=32 }]):=fun c=>by
  unfold vH;cases c with
  | true=>rw[kc rfl,FA K n k];rfl
  | false =>
   have h:(e.Box.Style.WhiteSpace == 2)=jA e:=rfl;rw[kb (by simp),h];cases d:jA e with
   | true=>rw[kc rfl,o true d];rfl
   | false=>rw[kb (by simp),o false d];rfl
 have i:l7 K n e a true=some (bif jA e then (bif e.Char == 10 then a++[{ e with Kind:=2,Char:=32 }] else bif e.Char == 13 then a else a++[{ e with Char:=32 }]) else bif sC a then a else a++[{ e with Soft:=true,Char:=32 }]):=by
  unfold l7;have h:(e.Box.Style.WhiteSpace == 2)=jA e:=rfl;rw[kc rfl,h];cases d:jA e with
  | true=>rw[kc rfl,m,d];rfl
  | false=>rw[kb (by simp),m,d];rfl
 have f:l7 K n e a false=some (a++[e]):=by
  unfold l7;rw[kb (by simp),c7 (by simp;omega) (by omega),bc]
 unfold zE nM mh;cases u:(e.Char == 9) with
 | true=>rw[kc rfl,i];rfl
 | false =>
  rw[kb (by simp)];cases l:(e.Char == 10) with
  | true=>rw[kc rfl,i,l];rfl
  | false =>
   rw[kb (by simp)];cases r:(e.Char == 13) with
   | true=>rw[kc rfl,i,l,r];rfl
   | false =>
    rw[kb (by simp)];cases v:(e.Char == 32) with
    | true=>rw[i,l,r];rfl
    | false=>rw[f];rfl
end
def nl(b:ab):Bool:=(kg (KN 0) 0 b).getD false
def pH(b:ab)(a:Int)(c:d6)(rs:b7):d6:=rs.foldl (fun o r=>nM o ⟨1,a,r,false,b⟩) c
def vM:Nat→dO→Int×d6→Int×d6
  | 0,_,s=>s
  | d+1,L,s=>L.foldl (fun s b=>bif nl b then
      (bif b.Kind == 2 then vM d b.Kids (aa (s.1+1),s.2)
       else bif b.Kind == 4 then (aa (s.1+1),s.2++[⟨2,aa (s.1+1),0,false,b⟩])
       else bif b.Kind == 5 then (aa (s.1+1),s.2++[⟨3,aa (s.1+1),0,false,b⟩])
       else bif b.Kind == 3 then (aa (s.1+1),pH b (aa (s.1+1)) s.2 (iR b.Text 0))
       else (aa (s.1+1),s.2)) else s) s
def gW (d : Nat) (s : Int × d6) (b : ab) : Int × d6 := bif nl b then
      (bif b.Kind == 2 then vM d b.Kids (aa (s.1+1),s.2)
       else bif b.Kind == 4 then (aa (s.1+1),s.2++[⟨2,aa (s.1+1),0,false,b⟩])
       else bif b.Kind == 5 then (aa (s.1+1),s.2++[⟨3,aa (s.1+1),0,false,b⟩])
       else bif b.Kind == 3 then (aa (s.1+1),pH b (aa (s.1+1)) s.2 (iR b.Text 0))
       else (aa (s.1+1),s.2)) else s
theorem lX d L s:vM (d+1) L s=L.foldl (gW d) s:=rfl
def eG:Nat→dO→Nat
 | 0,_=>0
 | d+1,L=>(L.map fun b=>1+b.Text.size+eG d b.Kids).sum
def Dp:Nat→dO→Prop
 | 0,_=>False
 | d+1,L=>L.length≤1000∧∀b∈L,b.Text.size≤1000∧(b.Kind=2→Dp d b.Kids)
theorem NZ b c:∀rs a,(pH b c a rs).length≤a.length+rs.length
 | [],a=>by simp[pH]
 | r::t,a=>by
  have:=NZ b c t (nM a ⟨1,c,r,false,b⟩);have:=Ur a ⟨1,c,r,false,b⟩
  grind[pH]
theorem ajY b p:(iR b p).length≤b.size:=by
 grind[iR,ahL,EL]
theorem MM d(a:∀L s,(vM d L s).2.length≤s.2.length+eG d L) s b:(gW d s b).2.length≤s.2.length+(1+b.Text.size+eG d b.Kids):=by
 unfold gW;cases nl b with
 | false=>grind
 | true =>
  grind[aa,NZ,iR,ajY]
theorem Ss:∀(d:Nat) (L:dO) (s:Int×d6),(vM d L s).2.length≤s.2.length+eG d L:=by
 intro d
 induction d with
 | zero=>intro L s;simp[vM,eG]
 | succ d e =>
  intro L
  induction L with
  | nil=>intro s;simp[vM,eG]
  | cons b r a =>
   intro s;have f:=MM d e s b;have c:=a (gW d s b);rw[lX,al2];rw[lX]at c;simp only[eG,rv,amq]at c⊢;omega
theorem W4 K n b:kg K n b=some (nl b):=by
 have e:kg (KN 0) 0 b=kg K n b:=rfl;have:ug (kg K n b):=by
  repeat first|exact UD _|apply Uy
 obtain⟨u,a⟩:=this
 grind[nl]
theorem aaL(K:Kn)(n:Nat)(L:dO)(i b:Int)(C:Int→Int→d6→Option (Int×d6))(j:i.toNat<L.length):∀(m p:Nat) (a:d6),(L.getD i.toNat default).Text.size-p<m→a.length+((L.getD i.toNat default).Text.size-p)≤900000 →
  Ag K n L i b C m p a=C (aa (i+1)) (aa (b+1)) (pH (L.getD i.toNat default) (aa (b+1)) a (iR (L.getD i.toNat default).Text p)):=by
 intro m
 induction m with
 | zero=>intro p a h;omega
 | succ m e =>
  intro p a f g;show zz K n L i b C (Ag K n L i b C m) p a=_;unfold zz;by_cases c:p<(L.getD i.toNat default).Text.size
  ·have k:=VU (L.getD i.toNat default).Text p;rw[kc (by simpa using c)];simp only[h7];rw[afR K n (by omega)];simp only[h7];have d:=Ur a ⟨1,aa (b+1),((Utf8.decode (L.getD i.toNat default).Text p).1:Int),false,L.getD i.toNat default⟩;rw[e _ _ (by omega) (by omega),OS c];rfl
  ·rw[kb (by grind),Uo c];rfl
theorem Xv:∀(d N:Nat) (L:dO) (s:Int×d6),Dp d L→s.2.length+eG d L≤800000→d+1100≤N→m9 (KN N) N L s.1 s.2=some (vM d L s):=by
 intro d
 induction d with
 | zero=>intro N L s h;exact h.elim
 | succ d z =>
  intro N L s n B A;obtain⟨N,rfl⟩:∃M,N=M+1:=⟨N-1,by omega⟩;unfold Dp at n;unfold m9;have k:∀(m i:Nat) (s:Int×d6),i≤L.length→L.length<m+i→s.2.length+eG (d+1) (L.drop i)≤800000→vG (KN (N+1)) (N+1) L m (i:Int) s.1 s.2=some (vM (d+1) (L.drop i) s):=by
   intro m
   induction m with
   | zero=>intro i s t u;omega
   | succ m p =>
    intro i s t u q;show wg (KN (N+1)) (N+1) L (vG (KN (N+1)) (N+1) L m) i s.1 s.2=_;unfold wg;by_cases j:i<L.length
    ·have r:L.getD i default∈L:=by rw[ca j];exact n3 _
     have o:L.drop i=L.getD i default::L.drop (i+1):=by rw[lc j,ca j]
     have y:aa ((i:Int)+1)=((i+1:Nat):Int):=by rw[bN (by omega) (by omega)];omega
     rw[o]at q⊢;rw[lX,al2,← lX];have x:=MM d (Ss d) s (L.getD i default);have v:s.2.length+((1+(L.getD i default).Text.size+eG d (L.getD i default).Kids)+eG (d+1) (L.drop (i+1)))≤800000:=by
      simpa only[eG,rv,amq]using q
     have l:=p (i+1) (gW d s (L.getD i default)) (by omega) (by omega) (by omega);rw[kc (by simpa using j),dg (by omega) (by omega),bc,W4];simp only[h7,Int.toNat_natCast];have step:∀s',gW d s (L.getD i default)=s'→vG (KN (N+1)) (N+1) L m (aa ((i:Int)+1)) s'.1 s'.2=some (vM (d+1) (L.drop (i+1)) (gW d s (L.getD i default))):=fun s' e=>by
      rw[←e,y];exact l
     cases g:nl (L.getD i default) with
     | false =>
      rw[show(!false)=true from rfl,kc rfl];unfold mV;exact step s (by unfold gW;rw[g];rfl)
     | true =>
      rw[show(!true)=false from rfl,kb (by simp)];cases a:((L.getD i default).Kind == 2) with
      | true =>
       have w:(L.getD i default).Kind=2:=by simpa using a
       have:=z N (L.getD i default).Kids (aa (s.1+1),s.2) ((n.2 _ r).2 w) (by simp only[];omega) (by omega);rw[kc rfl];show((m9 (KN N) N (L.getD i default).Kids (aa (s.1+1)) s.2).bind _)=_;rw[show m9 (KN N) N (L.getD i default).Kids (aa (s.1+1)) s.2=_ from this];simp only[h7];unfold ld mV;exact step _ (by unfold gW;rw[g,a];rfl)
      | false =>
       rw[kb (by simp)];cases b:((L.getD i default).Kind == 4) with
       | true =>
        rw[kc rfl,c7 (by simp;omega) (by omega),bc];unfold ld mV;exact step (_,_) (by unfold gW;rw[g,a,b];rfl)
       | false =>
        rw[kb (by simp)];cases f:((L.getD i default).Kind == 5) with
        | true =>
         rw[kc rfl,c7 (by simp;omega) (by omega),bc];unfold ld mV;exact step (_,_) (by unfold gW;rw[g,a,b,f];rfl)
        | false =>
         rw[kb (by simp)];cases c:((L.getD i default).Kind == 3) with
         | true =>
          have C:=(n.2 _ r).1;rw[kc rfl,aaL (KN (N+1)) (N+1) L i s.1 _ (by simpa using j) (N+1) 0 s.2 (by rw[Int.toNat_natCast];omega) (by rw[Int.toNat_natCast];omega)];rw[Int.toNat_natCast];exact step (_,_) (by unfold gW;rw[g,a,b,f,c];rfl)
         | false =>
          rw[kb (by simp)];unfold ld mV;exact step (_,_) (by unfold gW;rw[g,a,b,f,c];rfl)
    ·rw[kb (by simpa using j),ll (by omega)];rfl
  have:=k (N+1) 0 s (by omega) (by omega) (by grind)
  grind
def fu(d:Nat)(L:dO):d6:=(vM d L (0,[])).2
theorem FZ{d N}{L}(a:Dp d L)(c:eG d L≤800000)(b:d+1100≤N):rt (KN N) N L=some (fu d L):=by
 unfold rt;rw[show m9 (KN N) N L 0 []=_ from Xv d N L (0,[]) a (by grind) b];rfl
theorem DH d L:(fu d L).length≤eG d L:=by
 grind[Ss,fu]
theorem YI{P:aO→Prop}{a}{e}(h:∀x∈a,P x)(b:mh e.Char=false→P e)(c:jA e=true→P { e with Kind:=2,Char:=32 })(d:jA e=true→P { e with Char:=32 })(f:jA e=false→P { e with Soft:=true,Char:=32 }):∀x∈nM a e,P x:=by
 grind[nM]
theorem Bf{P:aO→Prop} b a(g:∀r,dB r→(mh r=false→P ⟨1,a,r,false,b⟩))(d:P ⟨2,a,32,false,b⟩)(e:b.Style.WhiteSpace=2→P ⟨1,a,32,false,b⟩)(f:b.Style.WhiteSpace≠2→P ⟨1,a,32,true,b⟩):∀rs c,(∀r∈rs,dB r)→(∀x∈c,P x)→∀x∈pH b a c rs,P x
 | [],c,_,h=>h
 | r::t,c,j,h=>by
  refine Bf b a g d e f t _ (fun x l=>j x (by grind)) (YI h (fun k=>g r (by grind) k) (fun _=>d) (fun i=>e (by grind[jA])) (fun i=>f (by grind[jA])))
theorem YN{P:aO→Prop}(i:∀(b:ab) (a r:Int),dB r→mh r=false→P ⟨1,a,r,false,b⟩)(j:∀(b:ab) (a:Int),P ⟨2,a,32,false,b⟩)(k:∀(b:ab) (a:Int),b.Style.WhiteSpace=2→P ⟨1,a,32,false,b⟩)(l:∀(b:ab) (a:Int),b.Style.WhiteSpace≠2→P ⟨1,a,32,true,b⟩)
  (m:∀(b:ab) (a:Int),P ⟨2,a,0,false,b⟩) (n:∀(b:ab) (a:Int),P ⟨3,a,0,false,b⟩):∀(d:Nat) (L:dO) (s:Int×d6),(∀x∈s.2,P x)→∀x∈(vM d L s).2,P x:=by
 have g:∀{e:d6} (y:aO),(∀x∈e,P x)→P y→∀x∈e++[y],P x:=fun y h q x c=>by
  rcases ls.1 c with c|c
  ·exact h x c
  ·rw[aio.1 c];exact q
 intro d
 induction d with
 | zero=>intro L s h;exact h
 | succ d t =>
  intro L
  induction L with
  | nil=>intro s h;exact h
  | cons b r f =>
   intro s h;rw[lX,al2,← lX];refine f _ ?_;unfold gW;cases nl b with
   | false=>exact h
   | true =>
    simp only[amt];cases (b.Kind == 2) with
    | true=>exact t _ _ h
    | false =>
     simp only[amb];cases (b.Kind == 4) with
     | true=>exact g _ h (m _ _)
     | false =>
      simp only[amb];cases (b.Kind == 5) with
      | true=>exact g _ h (n _ _)
      | false =>
       simp only[amb];cases (b.Kind == 3) with
       | true=>exact Bf b _ (fun r o p=>i b _ r o p) (j b _) (k b _) (l b _) _ _ GN h
       | false=>exact h
theorem Lf:dB 32:=by grind[dB]
theorem Qk:dB 0:=by grind[dB]
theorem Ee d L:∀x∈fu d L,km x :=
 YN (fun b a r c _=>⟨c,fun h=>by grind⟩) (fun b a=>⟨Lf,fun _=>rfl⟩) (fun b a _=>⟨Lf,fun _=>rfl⟩) (fun b a _=>⟨Lf,fun _=>rfl⟩) (fun b a=>⟨Qk,fun h=>by grind⟩) (fun b a=>⟨Qk,fun h=>by grind⟩) d L (0,[]) (fun x e=>by grind)
end
structure R4 where
 w:Int
 s:Int
 g:Bool
 f:Bool
instance:Inhabited R4:=⟨⟨0,0,false,false⟩⟩
def vI(r:aB):R4:=⟨r.Width,r.Space,r.Glued,r.Forced⟩
theorem xY{L:d4}{k} h:(L.map vI)[k]'(by simpa using h)=vI (L.getD k default):=by
 grind
def gr(l:List R4)(i:Nat):Nat:=i+((l.drop i).takeWhile R4.g).length
theorem m7 l i:i≤gr l i:=amF _ _
theorem ON{α:Type} p:∀l:List α,(l.takeWhile p).length≤l.length
 | []=>jf _
 | x::r=>by
  rw[al5];split
  ·simp;exact ON p r
  grind
theorem zH{l}{i}(h:i≤l.length):gr l i≤l.length:=by
 grind[ON,gr]
theorem YH{l}{i} h(a:l[i].g=true):gr l i=gr l (i+1):=by
 unfold gr;rw[lc h,al5,kc a];grind
theorem afm{l}{i} h(a:l[i].g=false):gr l i=i:=by
 unfold gr;rw[lc h,al5,kb (by grind)];simp
theorem agO{l}{i}(h:l.length≤i):gr l i=i:=by
 unfold gr;rw[ll h];simp
def wS(n a:Int):List R4→Int
 | []=>aa (n-a)
 | r::t=>wS (aa (n+aa (r.w+r.s))) (if r.f then a else r.s) t
def fP(l:List R4):Int:=wS 0 0 l
def tm(n:Int):List R4→Int
 | []=>n
 | r::t=>tm (aa (n+aa (r.w+r.s))) t
def iX(x:Int):List R4→Int
 | []=>x
 | r::t=>iX (if r.f then x else r.s) t
theorem UN:∀l n a,wS n a l=aa (tm n l-iX a l)
 | [],n,a=>rfl
 | r::t,n,a=>by unfold wS tm iX;exact UN t _ _
theorem Jr:∀l m x,iX x (l++m)=iX (iX x l) m
 | [],m,x=>rfl
 | r::t,m,x=>by simp only[aew];exact Jr t m _
theorem ab7 n:aa (aa n)=aa n:=by
 have : -9223372036854775808≤aa n∧aa n≤9223372036854775807:=by unfold aa;rw[amg];omega
 grind[bN]
section
variable{K:Kn}{n:Nat}{L:d4}
theorem agT:∀(m:Nat) (i:Int),0≤i→i≤L.length→L.length<m+i.toNat→(L.length:Int)<9223372036854775807→wk K n L m i=some ((gr (L.map vI) i.toNat:Nat):Int):=by
 intro m
 induction m with
 | zero=>intro i b f g;omega
 | succ m j =>
  intro i b f g h;show AC K n L (wk K n L m) i=_;unfold AC;by_cases d:i<(L.length:Int)
  ·have a:i.toNat<L.length:=by omega
   rw[kc (by simpa using d),dg b d,bc];unfold vo;have e:=xY a;cases c:(L.getD i.toNat default).Glued with
   | true =>
    rw[kc rfl,bN (by omega) (by omega),j (i+1) (by omega) (by omega) (by omega) h];rw[YH (l:=L.map vI) (i:=i.toNat) (by simpa using a) (by rw[e];exact c),show(i+1).toNat=i.toNat+1 by omega]
   | false =>
    rw[kb (by simp)];rw[afm (l:=L.map vI) (i:=i.toNat) (by simpa using a) (by rw[e];exact c)];congr 1;omega
  grind[vo,agO]
theorem K5{i:Int}(a:0≤i)(b:i<L.length)(d:L.length<n)(c:(L.length:Int)<9223372036854775807):pW K n L i=some (gr (L.map vI) (i.toNat+1):Int):=by
 grind[pW,bN,agT]
theorem afy:∀(m:Nat) (k:Nat),k≤L.length→k<m→(L.length:Int)<9223372036854775807 →
  ∃j:Int,qq K n L m ((k:Int)-1)=some j∧((j = -1∧∀x,iX x ((L.map vI).take k)=x)∨(0≤j∧j<k∧∀x,iX x ((L.map vI).take k)=(L.getD j.toNat default).Space)):=by
 intro m
 induction m with
 | zero=>intro k _ h;omega
 | succ m r =>
  intro k s t p;show ∃j,pT K n L (qq K n L m) ((k:Int)-1)=some j∧_;unfold pT;cases k with
  | zero=>rw[kb (by simp)];exact⟨-1,rfl,.inl ⟨rfl,fun x=>by simp[iX]⟩⟩
  | succ k =>
   have e:(((k+1:Nat):Int)-1)=(k:Int):=by omega
   rw[e,kc (by simp),dg (by omega) (by omega),bc,Int.toNat_natCast];have d:k<L.length:=by omega
   have q:=xY d;have g:(L.map vI).take (k+1)=(L.map vI).take k++[vI (L.getD k default)]:=by
    rw[am8,iN (by simpa using d),q];rfl
   cases f:(L.getD k default).Forced with
   | false =>
    rw[show(!false)=true from rfl,kc rfl];refine⟨(k:Int),rfl,.inr ⟨by omega,by omega,fun x=>?_⟩⟩;rw[g,Jr,Int.toNat_natCast];simp only[iX,vI,f,il,ol]
   | true =>
    rw[show(!true)=false from rfl,kb (by simp),bN (by omega) (by omega)];obtain⟨j,l,o⟩:=r k (by omega) (by omega) p;refine⟨j,l,?_⟩;have i:∀x,iX x ((L.map vI).take (k+1))=iX x ((L.map vI).take k):=fun x=>by
     rw[g,Jr];simp only[iX,vI,f,w3]
    obtain⟨a,b⟩|⟨a,b,c⟩:=o
    ·exact .inl ⟨a,fun x=>(i x).trans (b x)⟩
    ·exact .inr ⟨a,by omega,fun x=>(i x).trans (c x)⟩
theorem ait(d:L.length<n)(c:(L.length:Int)<9223372036854775807):∃j:Int,oB K n L=some j∧((j = -1∧∀x,iX x (L.map vI)=x)∨(0≤j∧j<L.length∧∀x,iX x (L.map vI)=(L.getD j.toNat default).Space)):=by
 unfold oB;rw[bN (by omega) (by omega)];obtain⟨j,a,b⟩:=afy (K:=K) (n:=n) (L:=L) n L.length (by omega) d c;refine⟨j,a,?_⟩;rw[IT (by simp)]at b
 grind
theorem ais(q:L.length<n)(p:(L.length:Int)<9223372036854775807):∀(m:Nat) (x i:Int),0≤i→i≤L.length→L.length<m+i.toNat→aa x=x →
  tm 0 (L.map vI)=tm x ((L.map vI).drop i.toNat)→zi K n L m x i=some (fP (L.map vI)):=by
 intro m
 induction m with
 | zero=>intro x i d f g;omega
 | succ m s =>
  intro x i d f g r b;show wh K n L (zi K n L m) x i=_;unfold wh;by_cases c:i<(L.length:Int)
  ·have e:i.toNat<L.length:=by omega
   rw[kc (by simpa using c),dg d c,bc,bN (n:=i+1) (by omega) (by omega)];refine s _ (i+1) (by omega) (by omega) (by omega) (ab7 _) ?_;rw[b,lc (by simpa using e),xY e,show(i+1).toNat=i.toNat+1 by omega];rfl
  ·rw[kb (by simpa using c)];rw[ll (by simp;omega)]at b;simp only[tm]at b;obtain⟨j,h,k⟩:=ait (K:=K) (L:=L) q p;rw[h];simp only[h7,zk];unfold fP;rw[UN,b];obtain⟨rfl,a⟩|⟨a,l,o⟩:=k
   ·rw[kb (by simp),a];simp[r]
   ·rw[kc (by simpa using a),dg a l,bc,o]
theorem Cs(b:L.length<n)(a:(L.length:Int)<9223372036854775807):pP K n L=some (fP (L.map vI)):=by
 exact ais b a n 0 0 (by omega) (by omega) (by grind) (by rfl) rfl
end
def sl{α:Type}(l:List α)(a b:Nat):List α:=List.drop a (List.take b l)
theorem KB{α β}(f:α→β) l a b:(sl l a b).map f=sl (l.map f) a b:=by simp_all[sl]
theorem w5{α}(l:List α) a b:(sl l a b).length≤l.length:=by grind[sl]
def lE(l:List R4)(w:Int)(a:Nat):Nat→Nat→Nat
 | 0,e=>e
 | m+1,e=>if e<l.length∧(l.getD (e-1) default).f=false∧¬ fP (sl l a (gr l (e+1)))>w then lE l w a m (gr l (e+1)) else e
def bM(l:List R4)(w:Int):Nat→Nat→d7
 | 0,_=>[]
 | m+1,a=>if a<l.length then a::bM l w m (lE l w a l.length (gr l (a+1))) else []
theorem zw l w a:∀m e,e≤lE l w a m e
 | 0,e=>jf _
 | m+1,e=>by
  unfold lE;split
  ·have:=zw l w a m (gr l (e+1));grind[m7]
  grind
theorem J4 l w a:∀m e,e≤l.length→lE l w a m e≤l.length
 | 0,e,h=>h
 | m+1,e,h=>by
  unfold lE;split
  ·exact J4 l w a m _ (zH (by omega))
  grind
theorem ags(l:List R4)(w:Int)(a:Nat):∀(m b e:Nat),l.length≤m+e→l.length≤b+e→lE l w a m e=lE l w a b e:=by
 intro m
 induction m with
 | zero =>
  intro b e h c;cases b with
  | zero=>rfl
  | succ b=>unfold lE;rw[kb (by omega)]
 | succ m d =>
  intro b e h c;cases b with
  | zero=>grind
  | succ b =>
   grind[lE,m7]
theorem abx l w:∀m b a,l.length<m+a→l.length<b+a→bM l w m a=bM l w b a:=by
 intro m
 induction m with
 | zero =>
  intro b a h c;cases b with
  | zero=>rfl
  | succ b=>grind[bM]
 | succ m d =>
  intro b a h c;cases b with
  | zero=>grind
  | succ b =>
   grind[bM,zw,gr,m7]
theorem IK l w:∀m a,(bM l w m a).length≤l.length-a
 | 0,a=>by simp[bM]
 | m+1,a=>by
  unfold bM;split
  ·have:=IK l w m (lE l w a l.length (gr l (a+1)))
   grind[zw,gr,m7]
  grind
section
variable{K:Kn}{n:Nat}{L:d4}{w:Int}
theorem afx(u:L.length<n)(r:(L.length:Int)<9223372036854775807)(a:Nat)(b:b7)(C:Int→b7→Option b7):∀(m e:Nat),1≤e→a≤e→e≤L.length→L.length<m+e →
  wu K n L w a b C m e=C ((lE (L.map vI) w a m e:Nat):Int) (b++[(a:Int)]):=by
 intro m
 induction m with
 | zero=>intro e j o p q;omega
 | succ m y =>
  intro e j o p q;show wH K n L w a b C (wu K n L w a b C m) e=_;unfold wH lE;by_cases d:e<L.length
  ·rw[kc (by simpa using d),bN (by omega) (by omega),dg (by omega) (by omega),bc];unfold uR;have h:((e:Int)-1).toNat=e-1:=by omega
   have x:=xY (L:=L) (k:=e-1) (by omega);have g:((L.map vI).getD (e-1) default).f=(L.getD ((e:Int)-1).toNat default).Forced:=by
    rw[ca (by simp;omega),x,h];rfl
   cases f:(L.getD ((e:Int)-1).toNat default).Forced with
   | true =>
    rw[show(!true)=false from rfl,kb (by simp),kb (by rw[g,f];simp)];rfl
   | false =>
    have s:=zH (l:=L.map vI) (i:=e+1) (by simp;omega);have t:=m7 (L.map vI) (e+1);simp only[nw]at s;rw[show(!false)=true from rfl,kc rfl,K5 (by omega) (by omega) u r];simp only[h7,Int.toNat_natCast];rw[show cD (a:Int) ((gr (L.map vI) (e+1):Nat):Int) L.length=true by simp only[cD,h8,qv];omega,bc];have v:List.drop a (List.take (gr (L.map vI) (e+1)) L)=sl L a (gr (L.map vI) (e+1)):=rfl;rw[v,Cs (by have:=w5 L a (gr (L.map vI) (e+1));omega) (by have:=w5 L a (gr (L.map vI) (e+1));omega),KB];simp only[h7];by_cases c:fP (sl (L.map vI) a (gr (L.map vI) (e+1)))>w
    ·rw[kc (by simpa using c),kb (by simp[c])];rfl
    ·rw[kb (by simpa using c),kc ⟨by simpa using d,by rw[g,f],c⟩];exact y _ (by omega) (by omega) (by omega) (by omega)
  ·rw[kb (by simpa using d),kb (by simp;omega)];unfold uR;rw[kb (by simp)];rfl
theorem aiM(f:L.length<n)(r:(L.length:Int)≤1000000):∀(m a:Nat) (b:b7),a≤L.length→b.length≤a→L.length<m+a→AI K n L w m a b=some (b++(bM (L.map vI) w m a).map fun (k:Nat)=>(k:Int)):=by
 intro m
 induction m with
 | zero=>intro a b g h j;omega
 | succ m q =>
  intro a b g h j;show AO K n L w (AI K n L w m) a b=_;unfold AO bM;by_cases e:a<L.length
  ·rw[kc (by simpa using e),kc (by simpa using e),c7 (by simp;omega) (by omega),bc,K5 (by omega) (by omega) f (by omega)];simp only[h7,Int.toNat_natCast];have c:=zH (l:=L.map vI) (i:=a+1) (by simp;omega);have p:=m7 (L.map vI) (a+1);simp only[nw]at c;rw[afx f (by omega) a b _ n _ (by omega) (by omega) c (by omega)];rw[ags (L.map vI) w a n (L.map vI).length _ (by simp;omega) (by simp)];have d:=J4 (L.map vI) w a (L.map vI).length (gr (L.map vI) (a+1)) (by simpa using c);have o:=zw (L.map vI) w a (L.map vI).length (gr (L.map vI) (a+1));simp only[nw]at d o⊢;rw[q _ _ d (by simp;omega) (by omega)];simp[q7]
  grind
theorem aje(b:L.length<n)(a:(L.length:Int)≤1000000):xr K n L w=some ((bM (L.map vI) w (L.length+1) 0).map fun (k:Nat)=>(k:Int)):=by
 unfold xr;rw[show(0:Int)=(0:Nat) from rfl,aiM b a n 0 [] (by omega) (by simp) (by omega),abx (L.map vI) w n (L.length+1) 0 (by grind) (by simp)];simp
end
noncomputable section
def jl(o:Int):aO→d6→Nat
 | _,[]=>0
 | a,b::r=>bif b.Kind == 1&&(b.Of == o&&!iZ a b) then jl o b r+1 else 0
theorem D3 o:∀l a,jl o a l≤l.length
 | [],_=>jf _
 | b::r,a=>by
  unfold jl;cases (b.Kind == 1&&(b.Of == o&&!iZ a b)) with
  | true=>have:=D3 o r b;grind
  | false=>simp
def t9(p:Option aO)(e:aO):Bool:=match p with
 | none=>false
 | some q=>q.Kind != 2&&!iZ q e
def runM(x:aB)(e:aO)(g:Bool):aB:={ x with Node:=e.Box.Node,Style:=e.Box.Style,Glued:=g }
def cM(pl:ab→aB):Nat→Option aO→d6→d4
 | 0,_,_=>[]
 | _+1,_,[]=>[]
 | m+1,p,e::r =>
  bif e.Kind == 2 then runM { cX with Forced:=true } e (t9 p e)::cM pl m (some e) r
  else bif e.Kind == 3 then runM (pl e.Box) e (t9 p e)::cM pl m (some e) r
  else runM (eR (e::r.take (jl e.Of e r))) e (t9 p e)::cM pl m (some (mX (e::r.take (jl e.Of e r)))) (r.drop (jl e.Of e r))
def dN(L:d6)(i:Nat):Option aO:=if i=0 then none else some (L.getD (i-1) default)
theorem Jt{α:Type}[Inhabited α]{L:List α}{i k:Nat}(h:i<L.length):sl L i (i+1+k)=L.getD i default::(L.drop (i+1)).take k:=by
 unfold sl;rw[List.drop_take,show i+1+k-i=k+1 by omega,lc h,amQ,ca h]
theorem Dt{α}{L:List α}{a b}{x}(h:x∈sl L a b):x∈L:=by
 grind[sl]
theorem Iu{α}{L:List α}{a b}(h:b≤L.length):(sl L a b).length=b-a:=by grind[sl]
theorem JW{L:d6}{i k}(h:i+k<L.length):mX (L.getD i default::(L.drop (i+1)).take k)=L.getD (i+k) default:=by
 grind[mX,sl]
section
variable{K:Kn}{n:Nat}{v2:Fv}{L:d6}{pl:ab→aB}
theorem aiH(q:∀e∈L,km e)(G:L.length≤2000)(z:8010≤n)(i:Nat)(c:d4)(g:Bool)(C:Int→d4→Option d4)(E:i<L.length):∀(m x:Nat),i<x→x≤L.length→L.length<m+x →
  uy K n v2 L (i:Int) c g C m (x:Int)=lU K n v2 L i c g C ((x+jl (L.getD i default).Of (L.getD (x-1) default) (L.drop x):Nat):Int) (eR (sl L i (x+jl (L.getD i default).Of (L.getD (x-1) default) (L.drop x)))):=by
 have h:∀y:Nat,i<y→y≤L.length→∀(D:Int→Option d4),lz K n v2 L (i:Int) c g (y:Int) C D false=lU K n v2 L i c g C (y:Int) (eR (sl L i y)):=fun y l j D=>by
  unfold lz;have r:List.drop i (List.take y L)=sl L i y:=rfl;have d:=Iu (L:=L) (a:=i) (b:=y) j;rw[kb (by simp),show cD (i:Int) (y:Int) L.length=true by simp only[cD,h8,qv];omega,bc];simp only[Int.toNat_natCast];rw[r,ID (by intro e;rw[e]at d;simp at d;omega) (by omega) (fun e w=>q e (Dt w)) z];rfl
 intro m
 induction m with
 | zero=>intro x l j t;omega
 | succ m B =>
  intro x l j t;show we K n v2 L i c g C (uy K n v2 L i c g C m) x=_;unfold we;by_cases k:x<L.length
  ·have p:L.drop x=L.getD x default::L.drop (x+1):=by rw[lc k,ca k]
   have o:L.getD x default∈L:=by rw[ca k];exact n3 _
   have u:L.getD (x-1) default∈L:=by rw[ca (by omega)];exact n3 _
   have s:aa ((x:Int)-1)=((x-1:Nat):Int):=by rw[bN (by omega) (by omega)];omega
   rw[kc (by simpa using k),dg (by omega) (by omega)];simp only[bc,Int.toNat_natCast,s];rw[p];unfold jl;have f:∀{b:Bool},b=false→lz K n v2 L (i:Int) c g (x:Int) C (uy K n v2 L i c g C m) false=lU K n v2 L i c g C ((x+(bif b then jl (L.getD i default).Of (L.getD x default) (L.drop (x+1))+1 else 0):Nat):Int) (eR (sl L i (x+(bif b then jl (L.getD i default).Of (L.getD x default) (L.drop (x+1))+1 else 0)))):=fun {b} o=>by
    subst o;exact h x l j _
   cases F:((L.getD x default).Kind == 1) with
   | false=>rw[kb (by simp)];exact f rfl
   | true =>
    rw[kc rfl];cases A:((L.getD x default).Of == (L.getD i default).Of) with
    | false=>rw[kb (by simp)];exact f rfl
    | true =>
     rw[kc rfl,dg (by omega) (by omega),bc,sW K (by omega) (q _ u).ch (q _ o).ch];simp only[h7];cases v:iZ (L.getD (x-1) default) (L.getD x default) with
     | true=>exact f rfl
     | false =>
      unfold lz;rw[show(!false)=true from rfl,kc rfl,bN (by omega) (by omega),show(x:Int)+1=((x+1:Nat):Int) by omega,B (x+1) (by omega) (by omega) (by omega)];simp only[agh,amL,amt];rw[show x+1+jl (L.getD i default).Of (L.getD x default) (L.drop (x+1))=x+(jl (L.getD i default).Of (L.getD x default) (L.drop (x+1))+1) by omega]
  ·rw[kb (by simpa using k),ll (by omega)];unfold jl;exact h x l j _
theorem KQ(i:Nat)(a:d4)(g:Bool)(C:Int→d4→Option d4)(b:a.length≤1000000)(y:Int)(x:aB):lU K n v2 L (i:Int) a g C y x=C y (a++[runM x (L.getD i default) g]):=by
 unfold lU;simp only[h7,Int.toNat_natCast];rw[c7 (by simp;omega) (by omega),bc];rfl
theorem Z8(l:∀e∈L,km e)(z:L.length≤2000)(A:8010≤n)(o:∀e∈L,e.Kind=3→K.sB v2 e.Box=some (pl e.Box)):∀(m i:Nat) (a:d4),i≤L.length→L.length<m+i→a.length≤i →
  uS K n v2 L m (i:Int) a=some (a++cM pl m (dN L i) (L.drop i)):=by
 intro m
 induction m with
 | zero=>intro i a u v;omega
 | succ m q =>
  intro i a u v C;show wN K n v2 L (uS K n v2 L m) i a=_;unfold wN;by_cases c:i<L.length
  ·have h:L.drop i=L.getD i default::L.drop (i+1):=by rw[lc c,ca c]
   have s:L.getD i default∈L:=by rw[ca c];exact n3 _
   rw[kc (by simpa using c),dg (by omega) (by omega)];simp only[bc,Int.toNat_natCast];rw[h];have p:aa ((i:Int)+1)=((i+1:Nat):Int):=by rw[bN (by omega) (by omega)];omega
   have b:dN L (i+1)=some (L.getD i default):=by unfold dN;rw[kb (by omega),agh]
   have key:∀g,g=t9 (dN L i) (L.getD i default)→pY K n v2 L (i:Int) a (uS K n v2 L m) g=some (a++cM pl (m+1) (dN L i) (L.getD i default::L.drop (i+1))):=by
    intro g x;unfold pY cM;simp only[h7,Int.toNat_natCast];rw[←x];cases D:((L.getD i default).Kind == 2) with
    | true =>
     rw[kc rfl,KQ i a g _ (by omega),p,q (i+1) _ (by omega) (by omega) (by simp;omega),b];simp[q7]
    | false =>
     rw[kb (by simp)];cases B:((L.getD i default).Kind == 3) with
     | true =>
      rw[kc rfl,o _ s (by simpa using B)];simp only[h7];rw[KQ i a g _ (by omega),p,q (i+1) _ (by omega) (by omega) (by simp;omega),b];simp[q7]
     | false =>
      rw[kb (by simp),p,aiH l z A i a g _ c n (i+1) (by omega) (by omega) (by omega),agh];simp only[amb];have y:=D3 (L.getD i default).Of (L.drop (i+1)) (L.getD i default);rw[agk]at y;generalize jl (L.getD i default).Of (L.getD i default) (L.drop (i+1))=k at *;rw[KQ i a g _ (by omega),q (i+1+k) _ (by omega) (by omega) (by simp;omega),Jt c,JW (by omega),al0];have f:dN L (i+1+k)=some (L.getD (i+k) default):=by unfold dN;rw[kb (by omega)];congr 2;omega
      rw[f];simp[q7]
   by_cases r:i=0
   ·rw[kb (by simp;omega)];exact key false (by unfold dN;rw[kc r];rfl)
   ·have w:L.getD (i-1) default∈L:=by rw[ca (by omega)];exact n3 _
    have t:aa ((i:Int)-1)=((i-1:Nat):Int):=by rw[bN (by omega) (by omega)];omega
    have f:dN L i=some (L.getD (i-1) default):=by unfold dN;rw[kb r]
    rw[kc (by simp;omega),t,dg (by omega) (by omega)];simp only[bc,Int.toNat_natCast];by_cases d:((L.getD (i-1) default).Kind != 2)=true
    ·rw[kc d,sW K (by omega) (l _ w).ch (l _ s).ch];simp only[h7];exact key _ (by rw[f];show _=((L.getD (i-1) default).Kind != 2&&!iZ (L.getD (i-1) default) (L.getD i default));rw[d];rfl)
    ·rw[kb d];have j:((L.getD (i-1) default).Kind != 2)=false:=by simpa using d
     exact key false (by rw[f];show _=((L.getD (i-1) default).Kind != 2&&!iZ (L.getD (i-1) default) (L.getD i default));rw[j];rfl)
  ·rw[kb (by simpa using c),ll (by omega)];simp[cM]
theorem Qo(pl:ab→aB):∀(m a:Nat) (p:Option aO) (l:d6),l.length<m→l.length<a→cM pl m p l=cM pl a p l:=by
 intro m
 induction m with
 | zero=>intro a p l h;omega
 | succ m b =>
  intro a p l h c;cases a with
  | zero=>omega
  | succ a =>
   cases l with
   | nil=>rfl
   | cons e r =>
    simp only[la]at h c;unfold cM;rw[b a (some e) r (by omega) (by omega),b a _ (r.drop (jl e.Of e r)) (by simp;omega) (by simp;omega)]
theorem Oz(pl:ab→aB):∀(m:Nat) (p:Option aO) (l:d6),(cM pl m p l).length≤l.length:=by
 intro m
 induction m with
 | zero=>intro p l;simp[cM]
 | succ m a =>
  intro p l;cases l with
  | nil=>simp[cM]
  | cons e r =>
   unfold cM;have c:=a (some e) r;have b:=a (some (mX (e::r.take (jl e.Of e r)))) (r.drop (jl e.Of e r));rw[agk]at b;cases (e.Kind == 2) with
   | true=>simp;omega
   | false =>
    cases (e.Kind == 3) with
    | true=>simp;omega
    | false=>simp;omega
def pw(pl:ab→aB)(L:d6):d4:=cM pl (L.length+1) none L
end
theorem ak7{N d:Nat}{B:dO}{v2:Fv}{pl:ab→aB}(c:Dp d B)(g:eG d B≤2000)(f:d+9000≤N)(a:∀e∈fu d B,e.Kind=3→(KN N).sB v2 e.Box=some (pl e.Box)):
  uD (KN N) N B v2=some (pw pl (fu d B)):=by
 have b:=DH d B;unfold uD;rw[FZ c (by omega) (by omega)];simp only[h7];rw[show(0:Int)=((0:Nat):Int) from rfl,Z8 (pl:=pl) (Ee d B) (by omega) (by omega) a N 0 [] (by omega) (by omega) (by simp),If,Dy];unfold pw;rw[Qo pl N ((fu d B).length+1) _ _ (by omega) (by omega)];rfl
end
noncomputable section
theorem BA(b:ByteArray):b.toList=b.data.toList:=ByteArray.toList_eq b
theorem ah4:(⟨#[]⟩:ByteArray).toList=[]:=by rw[BA]
def lD(b:ByteArray):Bool:=b.data.toList.getLast? == some 32
theorem ac7(K:Kn)(n:Nat){b:ByteArray}(i:b.size≤1000000):Aq K n b ⟨#[32]⟩=some (lD b):=by
 have g:(⟨#[32]⟩:ByteArray).size=1:=rfl;unfold Aq EV wx lD;rw[g];by_cases h:1≤b.size
 ·have d:aa ((b.size:Int)-((1:Nat):Int))=((b.size-1:Nat):Int):=by rw[bN (by omega) (by omega)];omega
  rw[kc (by simp;omega),d,show cD ((b.size-1:Nat):Int) (b.size:Int) b.size=true by simp only[cD,h8,qv];omega,bc];simp only[h7,Int.toNat_natCast];rw[BA,BA,ByteArray.data_extract,Array.toList_extract];have c:b.data.toList.length=b.size:=rfl;generalize b.data.toList=l at c;rw[←c]at h⊢;have a:l≠[]:=by intro e;rw[e]at h;simp at h
  have:(l.take l.length).drop (l.length-1)=[l.getLast a]:=by
   rw[alP]
   conv=>lhs;rw[←amN a]
   rw[mm,List.length_dropLast];simp
  rw[List.extract_eq_drop_take,List.getLast?_eq_some_getLast a];have f:List.take (l.length-(l.length-1)) (List.drop (l.length-1) l)=[l.getLast a]:=by
   rw[←this,alP,IT (by simp)]
  rw[f];show some ([l.getLast a] == [32])=some (some (l.getLast a) == some 32);congr 1;cases j:(l.getLast a == 32)<;>simp_all
 simp_all
def C2(b:ByteArray):ByteArray:=b.extract 0 (b.size-1)
def stripR(r:aB):aB:=bif lD r.Text&&r.Style.WhiteSpace != 2 then { r with Text:=C2 r.Text,Space:=0 } else r
def E6(a x:Int)(b:ae):ae:={ b with X:=aa (b.X+x),Y:=aa (b.Y+(aa ((aa (a-b.H))-aa (b.After.Pos+b.After.Neg)))) }
def LF(s:Int):Int:=min (max s 0) 1048576
def YR(s:Int):Int:=aa (LF s+(aa (Int.tdiv (aa (LF s+3)) 4)))
def Cz(a x:Int)(r:aB):c6:=bif r.Text.data.toList.isEmpty then [] else [⟨3,r.Node,x,aa (a-LF r.Style.FontSize),aa (r.Width+r.Space),YR r.Style.FontSize,0,r.Text,r.Style,dJ,dJ,false,[]⟩]
def mq(a x:Int)(r:aB):c6:=Cz a x r++r.Box.map (E6 a x)
def jO(a b:Int):Int→Int→d4→c6
 | _,_,[]=>[]
 | i,x,r::t =>
  let c:=bif i == b then stripR r else r
  mq a x c++jO a b (i+1) (aa (x+aa (c.Width+c.Space))) t
section
variable{K:Kn}{n:Nat}{L:d4}{s:aR}{w a d e:Int}
theorem adX(r:aB)(i:Int)(C:Int→Int→c6→Option ae)(x:Int)(o:r.Box.length≤1000):∀(m j:Nat) (b:c6),j≤r.Box.length→r.Box.length<m+j→b.length≤1000000+j →
  xD K n L s w a d e x i r C m (j:Int) b=C (aa (x+aa (r.Width+r.Space))) (aa (i+1)) (b++(r.Box.drop j).map (E6 a x)):=by
 intro m
 induction m with
 | zero=>intro j b f g;omega
 | succ m k =>
  intro j b f g l;show xW K n L s w a d e x i r C (xD K n L s w a d e x i r C m) j b=_;unfold xW;by_cases c:j<r.Box.length
  ·have h:r.Box.drop j=r.Box.getD j default::r.Box.drop (j+1):=by rw[lc c,ca c]
   rw[kc (by simpa using c),dg (by omega) (by omega)];simp only[bc,h7,Int.toNat_natCast,gC];rw[c7 (by simp;omega) (by omega),bc,bN (n:=(j:Int)+1) (by omega) (by omega),show(j:Int)+1=((j+1:Nat):Int) by omega,k (j+1) _ (by omega) (by omega) (by simp;omega),h,rv];rw[q7];rfl
  ·rw[kb (by simpa using c),ll (by omega)];simp
theorem abV(r:aB)(i:Int)(C:Int→Int→c6→Option ae)(x:Int)(j:r.Box.length≤1000)(m:1001≤n)(f:c6)(k:f.length≤900000):
  nU K n L s w a d e x i f C r=C (aa (x+aa (r.Width+r.Space))) (aa (i+1)) (f++mq a x r):=by
 unfold nU;rw[BA,ah4];simp only[h7];have g:∀c:c6,c.length≤1000000→vy K n L s w a d e x i r C c=C (aa (x+aa (r.Width+r.Space))) (aa (i+1)) (c++r.Box.map (E6 a x)):=fun c h=>by
  unfold vy;rw[show(0:Int)=((0:Nat):Int) from rfl,adX r i C x j n 0 c (by omega) (by omega) (by omega),If]
 unfold mq Cz;cases l:r.Text.data.toList with
 | nil =>
  rw[kb (by simp),g f (by omega)];simp
 | cons b t =>
  rw[kc (by simp)];simp only[yB,Af,q9,h7];rw[c7 (by simp;omega) (by omega),bc,g _ (by simp;omega)];simp only[List.isEmpty_cons,amb,q7];rfl
theorem ag1(D:∀r∈L,r.Box.length≤1∧r.Text.size≤100000)(O:L.length≤2000)(P:2002≤n):∀(m i:Nat) (x:Int) (b:c6),i≤L.length→L.length<m+i→b.length≤2*i →
  oK K n L s w a d e m x (i:Int) b=some { bV with Kind:=2,W:=w,H:=aa (a+d),aC:=a,Style:=s,Kids:=b++jO a e i x (L.drop i) }:=by
 intro m
 induction m with
 | zero=>intro i x b B C;omega
 | succ m J =>
  intro i x b B C N;show z5 K n L s w a d e (oK K n L s w a d e m) x i b=_;unfold z5;by_cases l:i<L.length
  ·have E:L.drop i=L.getD i default::L.drop (i+1):=by rw[lc l,ca l]
   have F:L.getD i default∈L:=by rw[ca l];exact n3 _
   obtain⟨u,M⟩:=D _ F;have v:aa ((i:Int)+1)=((i+1:Nat):Int):=by rw[bN (by omega) (by omega)];omega
   rw[kc (by simpa using l),dg (by omega) (by omega),bc];simp only[Int.toNat_natCast];have rl:∀(y:Int) (r:aB),r.Box.length≤1→(mq a y r).length≤2:=fun y r h=>by
    unfold mq Cz;cases r.Text.data.toList.isEmpty<;>simp<;>omega
   have step:∀g:aB,g.Box=(L.getD i default).Box→nU K n L s w a d e x i b (oK K n L s w a d e m) g=some { bV with Kind:=2,W:=w,H:=aa (a+d),aC:=a,Style:=s,Kids:=b++(mq a x g++jO a e ((i:Int)+1) (aa (x+aa (g.Width+g.Space))) (L.drop (i+1))) }:=fun g q=>by
    have G:=rl x g (by rw[q];exact u);rw[abV g i _ x (by rw[q];omega) (by omega) b (by omega),v,J (i+1) _ _ (by omega) (by omega) (by simp;omega)];rw[q7];rfl
   rw[E];unfold jO;by_cases f:(i:Int)=e
   ·rw[kc (by simpa using f),ac7 K n (by omega)];simp only[h7];rw[show((i:Int) == e)=true by simpa using f];simp only[amt];have t:∀c:Bool,om K n L s w a d e x i b (oK K n L s w a d e m) (lD (L.getD i default).Text&&c)=nU K n L s w a d e x i b (oK K n L s w a d e m) (bif lD (L.getD i default).Text&&c then { L.getD i default with Text:=C2 (L.getD i default).Text,Space:=0 } else L.getD i default):=fun c=>by
     unfold om;simp only[Int.toNat_natCast];cases j:lD (L.getD i default).Text with
     | false=>rw[kb (by simp)];rfl
     | true =>
      cases c with
      | false=>rw[kb (by simp)];rfl
      | true =>
       have I:1≤(L.getD i default).Text.size:=by
        unfold lD at j;rcases Nat.eq_zero_or_pos (L.getD i default).Text.size with o|o
        ·have:(L.getD i default).Text.data.toList=[]:=nx (by rw[EL];exact o);rw[this]at j;simp at j
        ·exact o
       have z:aa (((L.getD i default).Text.size:Int)-1)=(((L.getD i default).Text.size-1:Nat):Int):=by rw[bN (by omega) (by omega)];omega
       rw[kc (show(true&&true)=true from rfl),z,show cD (0:Int) (((L.getD i default).Text.size-1:Nat):Int) (L.getD i default).Text.size=true by simp only[cD,h8,qv];omega,bc];simp only[Int.toNat_natCast,Int.toNat_zero];rfl
    have p:stripR (L.getD i default)=(bif lD (L.getD i default).Text&&(L.getD i default).Style.WhiteSpace != 2 then { L.getD i default with Text:=C2 (L.getD i default).Text,Space:=0 } else L.getD i default):=rfl;rw[p];have k:∀c:Bool,(bif c then { L.getD i default with Text:=C2 (L.getD i default).Text,Space:=0 } else L.getD i default:aB).Box=(L.getD i default).Box:=fun c=>by cases c<;>rfl
    cases j:lD (L.getD i default).Text with
    | true =>
     rw[kc rfl];have:=t ((L.getD i default).Style.WhiteSpace != 2);rw[j,ama]at this;rw[this,ama];exact step _ (k _)
    | false =>
     rw[kb (by simp)];have:=t false;rw[j,Bool.false_and]at this;rw[this,Bool.false_and];exact step _ rfl
   ·rw[kb (by simpa using f)];have A:((i:Int) == e)=false:=by simpa using f
    rw[A];unfold om;rw[kb (by simp)];simp only[Int.toNat_natCast,amb];exact step _ rfl
  grind[jO]
end
def j4:Int×Int→d4→Int×Int
 | p,[]=>p
 | p,r::t=>j4 (bif r.Forced then p else (max p.1 r.Above,max p.2 r.Below)) t
theorem aeb p r t:j4 p (r::t)=j4 (bif r.Forced then p else (max p.1 r.Above,max p.2 r.Below)) t:=rfl
def pm(i a:Int):d4→Int
 | []=>a
 | r::t=>pm (i+1) (bif r.Forced then a else i) t
def C1(L:d4):Int:=pm 0 (-1) L
def yS(s:aR)(w u:Int):Int:=(sP (KN 0) 0 s w u).getD 0
def rG(s:aR)(w:Int)(L:d4):ae :=
 { bV with Kind:=2,W:=w,H:=aa ((j4 (kB s) L).1+(j4 (kB s) L).2),aC:=(j4 (kB s) L).1,Style:=s,Kids:=[]++jO (j4 (kB s) L).1 (C1 L) 0 (yS s w (fP (L.map vI))) L }
theorem UW:∀a r i b,pm i b (a++[r])=bif r.Forced then pm i b a else i+a.length
 | [],r,i,b=>by simp[pm]
 | x::t,r,i,b=>by
  simp only[aew,pm];rw[UW t r (i+1)]
  grind
theorem Xi K n s w u:sP K n s w u=some (yS s w u):=by
 grind[sP,yS]
section
variable{K:Kn}{n:Nat}{L:d4}{s:aR}{w:Int}
theorem ak1:∀(m k:Nat),k≤L.length→k<m→(L.length:Int)<9223372036854775807→qq K n L m ((k:Int)-1)=some (pm 0 (-1) (L.take k)):=by
 intro m
 induction m with
 | zero=>intro k _ h;omega
 | succ m f =>
  intro k i j b;show pT K n L (qq K n L m) ((k:Int)-1)=_;unfold pT;cases k with
  | zero=>rw[kb (by simp)];rfl
  | succ k =>
   have e:(((k+1:Nat):Int)-1)=(k:Int):=by omega
   have a:k<L.length:=by omega
   have d:L.take (k+1)=L.take k++[L.getD k default]:=by
    rw[am8,iN a,ca a];rfl
   rw[e,kc (by simp),dg (by omega) (by omega),bc,Int.toNat_natCast,d,UW];have c:(L.take k).length=k:=by simp;omega
   cases g:(L.getD k default).Forced with
   | false=>rw[show(!false)=true from rfl,kc rfl,c];simp
   | true=>rw[show(!true)=false from rfl,kb (by simp),bN (by omega) (by omega),f k (by omega) (by omega) b];rfl
theorem agb(b:L.length<n)(a:(L.length:Int)<9223372036854775807):oB K n L=some (C1 L):=by
 unfold oB;rw[bN (by omega) (by omega),ak1 n L.length (by omega) b a,alP];rfl
theorem abq(h:∀r∈L,r.Box.length≤1∧r.Text.size≤100000)(k:L.length≤2000)(l:2002≤n):∀(m i:Nat) (p:Int×Int),i≤L.length→L.length<m+i→j4 (kB s) L=j4 p (L.drop i)→zX K n L s w m p.1 p.2 (i:Int)=some (rG s w L):=by
 intro m
 induction m with
 | zero=>intro i p f g;omega
 | succ m d =>
  intro i p f g a;show xu K n L s w (zX K n L s w m) p.1 p.2 i=_;unfold xu;by_cases b:i<L.length
  ·have j:L.drop i=L.getD i default::L.drop (i+1):=by rw[lc b,ca b]
   rw[j,aeb]at a;have e:aa ((i:Int)+1)=((i+1:Nat):Int):=by rw[bN (by omega) (by omega)];omega
   rw[kc (by simpa using b),dg (by omega) (by omega),bc];simp only[Int.toNat_natCast];unfold yU;rw[e];cases c:(L.getD i default).Forced with
   | false =>
    rw[c]at a;rw[show(!false)=true from rfl,kc rfl];exact d (i+1) (_,_) (by omega) (by omega) a
   | true =>
    rw[c]at a;rw[show(!true)=false from rfl,kb (by simp)];exact d (i+1) p (by omega) (by omega) a
  ·rw[ll (by omega)]at a;have a:j4 (kB s) L=p:=a;rw[kb (by simpa using b),Cs (by omega) (by omega)];simp only[h7,Xi];rw[agb (by omega) (by omega)];simp only[h7];rw[show(0:Int)=((0:Nat):Int) from rfl,ag1 h k l n 0 _ [] (by omega) (by omega) (by simp),If];unfold rG;rw[a];rfl
theorem abs(a:∀r∈L,r.Box.length≤1∧r.Text.size≤100000)(b:L.length≤2000)(c:2002≤n):DZ K n L s w=some (rG s w L):=by
 exact abq a b c n 0 (kB s) (by omega) (by omega) rfl
end
def i9(s:aR)(w:Int)(X:d4):Int→d7→c6×Int
 | h,a::b::r =>
  let f:=rG s w (sl X a b)
  let q:=i9 s w X (aa (h+f.H)) (b::r)
  ({ f with Y:=h }::q.1,q.2)
 | h,_=>([],h)
theorem Np s w X:∀S h,(i9 s w X h S).1.length≤S.length
 | [],h=>by simp[i9]
 | [a],h=>by simp[i9]
 | a::b::r,h=>by
  have:=Np s w X (b::r) (aa (h+(rG s w (sl X a b)).H))
  grind[i9]
section
variable{K:Kn}{n:Nat}{X:d4}{s:aR}{w:Int}
def B9(N:Nat):d7→Prop
 | a::b::r=>a≤b∧b≤N∧B9 N (b::r)
 | _=>True
theorem Og{N}:∀{S},B9 N S→∀i,i+1<S.length→S.getD i 0≤S.getD (i+1) 0∧S.getD (i+1) 0≤N
 | [],_,i,h=>by grind
 | [a],_,i,h=>by grind
 | a::b::r,h,0,_=>⟨h.1,h.2.1⟩
 | a::b::r,h,i+1,c=>by
  have:=Og h.2.2 i (by grind)
  grind
theorem akd(C:∀r∈X,r.Box.length≤1∧r.Text.size≤100000)(J:X.length≤2000)(L:2010≤n)(v:Int)(D:min (max v 0) 1048576=w)(c S:d7)(A:S=c++[X.length])(z:B9 X.length S)(B:S.length≤2001):∀(m i:Nat) (h:Int) (a:c6),i<S.length→S.length<m+i→a.length≤i →
  wR K n s v X (c.map fun (k:Nat)=>(k:Int)) m h ((S.length-1:Nat):Int) (i:Int) a=some (a++(i9 s w X h (S.drop i)).1,(i9 s w X h (S.drop i)).2):=by
 have g:(c.map fun (k:Nat)=>(k:Int))++[(X.length:Int)]=S.map fun (k:Nat)=>(k:Int):=by rw[A];simp
 have b:∀j,j<S.length→(S.map fun (k:Nat)=>(k:Int)).getD j default=((S.getD j 0:Nat):Int):=fun j p=>by
  rw[ca (by simpa using p),al7];congr 1;simp[List.getD,p]
 intro m
 induction m with
 | zero=>intro i h a e y;omega
 | succ m E =>
  intro i h a e y H;show zj K n s v X (c.map fun (k:Nat)=>(k:Int)) (wR K n s v X (c.map fun (k:Nat)=>(k:Int)) m) h ((S.length-1:Nat):Int) i a=_;unfold zj;have t:aa ((i:Int)+1)=((i+1:Nat):Int):=by rw[bN (by omega) (by omega)];omega
  rw[g,t];have o:S.drop i=S.getD i 0::S.drop (i+1):=by rw[lc e];congr 1;simp[List.getD,e]
  by_cases f:i+1<S.length
  ·have u:=b i e;have x:=b (i+1) f;obtain⟨F,G⟩:=Og z i f;have d:S.drop (i+1)=S.getD (i+1) 0::S.drop (i+2):=by rw[lc f];congr 1;simp[List.getD,f]
   rw[kc (by simp;omega),dg (by omega) (by simp;omega),bc,dg (by omega) (by simp;omega),bc];simp only[Int.toNat_natCast,u,x];rw[show cD ((S.getD i 0:Nat):Int) ((S.getD (i+1) 0:Nat):Int) X.length=true by simp only[cD,h8,qv];omega,bc];have l:List.drop (S.getD i 0) (List.take (S.getD (i+1) 0) X)=sl X (S.getD i 0) (S.getD (i+1) 0):=rfl;have I:=w5 X (S.getD i 0) (S.getD (i+1) 0);rw[l,D,abs (fun r q=>C r (by unfold sl at q;exact oR (v9 q))) (by omega) (by omega)];simp only[h7];rw[c7 (by simp;omega) (by omega),bc,E (i+1) _ _ (by omega) (by omega) (by simp;omega),o,d]
   conv=>rhs;unfold i9
   rw[←d];simp[q7]
  ·rw[kb (by simp;omega),o,ll (by omega)];simp[i9]
end
end
noncomputable section
theorem alh(l:List R4)(w:Int)(m a:Nat)(b:a≤l.length)(c:l.length<m+a):∃r,bM l w m a++[l.length]=a::r:=by
 cases m with
 | zero=>omega
 | succ m =>
  unfold bM;by_cases h:a<l.length
  ·rw[kc h];exact⟨_,rfl⟩
  ·rw[kb h];exact⟨[],by rw[Dy,show a=l.length by omega]⟩
theorem ai0(l:List R4)(w:Int):∀(m a:Nat),a≤l.length→l.length<m+a→B9 l.length (bM l w m a++[l.length]):=by
 intro m
 induction m with
 | zero=>intro a d e;omega
 | succ m g =>
  intro a d e;unfold bM;by_cases h:a<l.length
  ·rw[kc h];have j:=zH (l:=l) (i:=a+1) (by omega);have k:=m7 l (a+1);have b:=J4 l w a l.length _ j;have n:=zw l w a l.length (gr l (a+1));have c:=g (lE l w a l.length (gr l (a+1))) b (by omega);obtain⟨r,f⟩:=alh l w m (lE l w a l.length (gr l (a+1))) b (by omega);rw[aew];rw[f]at c⊢;exact⟨by omega,b,c⟩
  ·rw[kb h];trivial
theorem Px{P:aB→Prop}{pl:ab→aB}(q:∀e g,P (runM { cX with Forced:=true } e g)):∀(m:Nat) (p:Option aO) (l:d6),(∀e∈l,e.Kind=3→∀g,P (runM (pl e.Box) e g))→(∀e g (x:d6),x≠[]→x.length≤l.length→(∀y∈x,y∈l)→P (runM (eR x) e g))→∀r∈cM pl m p l,P r:=by
 intro m
 induction m with
 | zero=>intro p l _ _ r a;cases a
 | succ m j =>
  intro p l h i r a;cases l with
  | nil=>cases a
  | cons e t =>
   unfold cM at a;cases k:(e.Kind == 2) with
   | true =>
    rw[k]at a;rcases qk.1 a with rfl|a
    ·exact q _ _
    ·exact j (some e) t (fun e c=>h e (by simp[c])) (fun e g x d o f=>i e g x d (by simp;omega) (fun y b=>by simp[f y b])) r a
   | false =>
    cases n:(e.Kind == 3) with
    | true =>
     rw[k,n]at a;rcases qk.1 a with rfl|a
     ·exact h e (by simp) (by simpa using n) _
     ·exact j (some e) t (fun e c=>h e (by simp[c])) (fun e g x d o f=>i e g x d (by simp;omega) (fun y b=>by simp[f y b])) r a
    | false =>
     rw[k,n]at a;rcases qk.1 a with rfl|a
     ·refine i _ _ _ (by simp) (by simp;omega) (fun y b=>?_);rcases qk.1 b with rfl|b
      ·simp
      ·exact pt _ (oR b)
     ·refine j _ _ (fun e c=>h e (pt _ (v9 c))) (fun e g x d o f=>i e g x d (by simp at o⊢;omega) (fun y b=>pt _ (v9 (f y b)))) r a
theorem aiS{x:d6}(h:∀e∈x,km e):(eR x).Text.size≤4*x.length:=by
 have:=CU (IU h);unfold eR;simp only[];rw[CP];have:(c9 x).length=x.length:=by unfold c9;simp
 omega
def gm(v:Int):Int:=min (max v 0) 1048576
def ku(X:d4)(w:Int):d7:=bM (X.map vI) w (X.length+1) 0++[X.length]
def ge(L:dO):Prop:=∀b∈L,b.Kind=3
theorem ahi:∀(L:dO) (s:Int×d6),ge L→(∀x∈s.2,x.Kind≠3)→∀x∈(vM 1 L s).2,x.Kind≠3:=by
 intro L
 induction L with
 | nil=>intro s _ a;exact a
 | cons b r d =>
  intro s e a;rw[lX,al2,← lX];have f:=e b u6;refine d _ (fun c g=>e c (pt _ g)) ?_;unfold gW;rw[f];cases nl b with
  | false=>exact a
  | true=>exact Bf (P:=fun x=>x.Kind≠3) b _ (fun _ _ _=>(by show(1:Int)≠3;decide)) (by show(2:Int)≠3;decide) (fun _=>(by show(1:Int)≠3;decide)) (fun _=>(by show(1:Int)≠3;decide)) _ _ GN a
def IM(b:ab):aB:=cX
def jC(a:dO):d4:=pw IM (fu 1 a)
theorem RO(a:dO):(jC a).length≤eG 1 a:=by
 unfold jC pw;have b:=Oz IM ((fu 1 a).length+1) none (fu 1 a);have c:=DH 1 a;omega
theorem BR{a:dO}(h:ge a):∀e∈fu 1 a,e.Kind≠3:=ahi a (0,[]) h (fun x b=>by cases b)
theorem aby{a:dO}(h:ge a)(j:eG 1 a≤2000):∀r∈jC a,r.Box.length≤1∧r.Text.size≤100000:=by
 have b:=DH 1 a;unfold jC pw;refine Px (P:=fun r=>r.Box.length≤1∧r.Text.size≤100000) (fun e g=>⟨by simp[runM,cX],by show(⟨#[]⟩:ByteArray).size≤100000;decide⟩) _ _ _ (fun e d c g=>absurd c (BR h e d)) (fun e g x k l i=>⟨by simp[runM,eR,cX],?_⟩);have:=aiS (x:=x) (fun y f=>Ee 1 a y (i y f));show(eR x).Text.size≤100000;omega
theorem NV{a:dO}(h:ge a)(d:a.length≤1000)(f:∀b∈a,b.Text.size≤1000):Dp 1 a:=by
 unfold Dp;exact⟨d,fun b c=>⟨f b c,fun e=>by rw[h b c]at e;cases e⟩⟩
theorem aia{a:dO}(h:ge a)(g:a.length≤1000)(i:∀b∈a,b.Text.size≤1000)(d:eG 1 a≤2000){N:Nat}(j:9001≤N)(w:Int)(env:bB):zN (KN N) N a w env=some (jC a):=by
 unfold zN;rw[show uD (KN N) N a _=_ from ak7 (pl:=IM) (NV h g i) d (by omega) (fun e f c=>absurd c (BR h e f))];rfl
def nk(a:dO)(s:aR)(v:Int):c6×Int:=i9 s (gm v) (jC a) 0 (ku (jC a) (gm v))
theorem ad5{a:dO}(h:ge a)(o:a.length≤1000)(q:∀b∈a,b.Text.size≤1000)(j:eG 1 a≤2000){N:Nat}(l:9001≤N)(s:aR)(v:Int)(env:bB):yt (KN N) N a s v env=some (nk a s v):=by
 have p:=aia h o q j l (gm v) env;have m:=RO a;have e:=aby h j;unfold nk;generalize jC a=X at *;unfold yt;rw[show min (max v 0) 1048576=gm v from rfl,p];simp only[h7];rw[aje (by omega) (by omega)];simp only[h7];have f:=IK (X.map vI) (gm v) (X.length+1) 0;simp only[nw]at f;rw[c7 (by simp;omega) (by omega),bc];have i:=ai0 (X.map vI) (gm v) (X.length+1) 0 (by omega) (by simp);rw[nw]at i;have c:(ku X (gm v)).length≤2001:=by unfold ku;simp only[mm,la,u3];omega
 have d:0<(ku X (gm v)).length:=by unfold ku;simp
 have g:(((bM (X.map vI) (gm v) (X.length+1) 0).map fun (k:Nat)=>(k:Int))++[(X.length:Int)]).length=(ku X (gm v)).length:=by unfold ku;simp
 rw[g,show aa (((ku X (gm v)).length:Int)-1)=(((ku X (gm v)).length-1:Nat):Int) by rw[bN (by omega) (by omega)];omega];have:=akd (K:=KN N) (n:=N) (X:=X) (s:=s) (w:=gm v) e (by omega) (by omega) v rfl (bM (X.map vI) (gm v) (X.length+1) 0) (ku X (gm v)) rfl i c N 0 0 [] d (by omega) (by simp);rw[If,Dy]at this;exact this
end
abbrev cn:=dt
def oN(b:Bool)(z:cf)(a:Int)(f:ae):ae :=
 if b=true then rI { f with X:=aa (f.X+aa (z.Border.a3+z.Padding.a3)),Y:=aa (f.Y+aa (aa (z.Border.a0+z.Padding.a0)+a)) } z.Content
 else { f with X:=aa (f.X+aa (z.Border.a3+z.Padding.a3)),Y:=aa (f.Y+aa (aa (z.Border.a0+z.Padding.a0)+a)) }
theorem agD b z a f:(oN b z a f).Kids=f.Kids:=by
 grind[oN,V3]
def mH(b:ab)(z:cf)(e:Bool)(L:c6)(d:Int)(c a:bj)(f:Bool)(h:Int):ae :=
 ⟨1,b.Node,z.Margin.a3,0,aa (z.Content+aa (aa (aa (z.Border.a3+z.Padding.a3)+z.Border.a1)+z.Padding.a1)),aa (aa (aa (aa (h+z.Border.a0)+z.Padding.a0)+z.Border.a2)+z.Padding.a2),0,⟨#[]⟩,b.Style,c,a,f,L.map (oN e z d)⟩
theorem I8{α:Type}(A R:List α) x y:(A++x::R).set A.length y=A++y::R:=by
 grind
theorem K1{α:Type}(A R:List α) x d:(A++x::R).getD A.length d=x:=by grind
theorem ai1(K:Kn)(n:Nat)(b:ab)(z:cf)(v6:dO×Bool)(L:c6)(l q:Int)(S:cn)(d:Int)(i h:bj)(j:Bool)(f H:Int)(w:L.length≤100000)(t:v6.2=true→v6.1.length=L.length∧∀k∈v6.1,eW k=true):
  ∀(m:Nat) (A R:c6),A.length+R.length=L.length→R.length<m→zb K n b z v6 L l q S d i h j f H m (A.length:Int) (A++R) =
   some (⟨1,b.Node,z.Margin.a3,0,aa (z.Content+f),H,0,⟨#[]⟩,b.Style,i,h,j,A++R.map (oN v6.2 z d)⟩,l,q,S):=by
 intro m
 induction m with
 | zero=>intro A R _ p;omega
 | succ m u =>
  intro A R o p;simp only[zb,Eg];cases R with
  | nil =>
   have e:A.length=L.length:=by simpa using o
   simp only[C3 (show L.length≤A.length by omega),il,ol,zt]
  | cons x R =>
   simp only[la]at o p;have s:A.length<L.length:=by omega
   have a:=u (A++[oN v6.2 z d x]) R (by simp;omega) (by omega);simp only[q7,alO,mm,la,u3,DO]at a;simp only[wI s,w3,Int.toNat_natCast,I8,K1,qA (show A.length<(A++x::R).length by simp),mm,la,qA (show A.length<A.length+(R.length+1) by omega),bc,Up,h7,xV,xS,NS,AM (show A.length<1000000 by omega),rv];cases g:v6.2 with
   | false =>
    rw[g]at a;simp only[il,ol];simp only[oN,il,ol]at a⊢;exact a
   | true =>
    rw[g]at a;obtain⟨v,r⟩:=t g;have c:A.length<v6.1.length:=by omega
    simp only[w3,qA c,bc,r _ (fU c)];simp only[oN,w3]at a⊢;exact a
def pD(s:aR)(h:Int):Int:=if s.Height.Kind=1 then max (min (max s.Height.Value (-1048576)) 1048576) 0 else max h 0
def dQ(a b:bj):bj:=⟨max a.Pos b.Pos,min a.Neg b.Neg⟩
def iA(x:Int):bj:=⟨max x 0,min x 0⟩
def ru(b:ab)(z:cf)(t i f:Bool)(h:Int)(k:Bool)(g j:bj)(L:c6):ae :=
 let a:=iA z.Margin.a0
 let c:=iA z.Margin.a2
 let e:=if t=true then 0 else if (!k)=true then aa (g.Pos+g.Neg) else if (!i)=true then aa (g.Pos+g.Neg) else 0
 let d:=if t=true then dQ a g else a
 if (k&&(t&&i))=true then mH b z f L e (dQ d c) (dQ d c) true (pD b.Style 0)
 else if k=true then (if i=true then mH b z f L e d (dQ c g) false (pD b.Style e) else mH b z f L e d c false (pD b.Style e))
 else if i=true then mH b z f L e d (dQ c j) false (pD b.Style (aa (h+e))) else mH b z f L e d c false (pD b.Style (aa (h+aa (e+aa (j.Pos+j.Neg)))))
section
variable(K:Kn)(n:Nat)(b:ab)(z:cf)(L:c6)(e:L.length≤100000)(g:L.length<n)(a c:Int)(S:cn)(v6:dO×Bool)(f:v6.2=true→v6.1.length=L.length∧∀k∈v6.1,eW k=true)
include g e f
theorem Xt d i g j h:rX K n b z v6 L a c S d i g j h=some (mH b z v6.2 L d i g j h,a,c,S):=by
 unfold rX;simp only[Ey];exact ai1 K n b z v6 L a c S d i g j _ _ e f n [] L (by simp) (by omega)
theorem sj6 d h j i k:ml K n b z v6 L a c S d h j i k=some (mH b z v6.2 L d j i k (pD b.Style h),a,c,S):=by
 unfold ml;simp only[gn,zg,Xt K n b z L e g a c S v6 f]
 grind[pD,cK]
theorem QV(t d:Bool)(h:Int)(i:Bool)(k j:bj):rj K n b z t d v6 h i k j L a c S=some (ru b z t d v6.2 h i k j L,a,c,S):=by
 have l:∀x y,kF K n x y=some (dQ x y):=fun x y=>rfl;have o:∀x,gC K n x=some (aa (x.Pos+x.Neg)):=fun x=>rfl;have m:∀x,mY K n x=some (iA x):=fun x=>rfl;unfold rj;simp only[m,h7,xq,uZ,tr,l,o,sj6 K n b z L e g a c S v6 f];unfold ru;cases t<;>cases d<;>cases i<;>simp
end
def qU(f:ab→Int→Int→cn→Option (ae×Int×Int×cn)):dO→Int→Int→cn→Option (c6×Int×Int×cn)
 | [],a,b,S=>some ([],a,b,S)
 | k::r,a,b,S=>(f k a b S).bind fun x=>(qU f r x.2.1 x.2.2.1 x.2.2.2).bind fun y=>some (x.1::y.1,y.2)
theorem ahH(K:Kn)(n:Nat)(b:ab)(z:cf)(g v4:Bool)(env:bB)(v6:dO×Bool)(q:v6.1.length≤1000):
  ∀(m i:Nat) (a:c6) (d e:Int) (S:cn),i≤v6.1.length→v6.1.length<m+i→a.length≤i→si K n b z g v4 env v6 m i a d e S =
   (qU (fun k=>K.dp env.Layout k z.Content) (v6.1.drop i) d e S).bind fun r=>(lY K n (a++r.1)).bind fun c=>rj K n b z g v4 v6 c.2.1 c.2.2.2.2 c.2.2.1 c.2.2.2.1 c.1 r.2.1 r.2.2.1 r.2.2.2:=by
 intro m
 induction m with
 | zero=>intro i a d e S _ h;omega
 | succ m j =>
  intro i a d e S l h o;simp only[si,Bo];by_cases f:i<v6.1.length
  ·rw[drop_at' f];simp only[wI f,w3,qA f,bc,Int.toNat_natCast,la,u3,AM (show i<1000000 by omega),qU];cases p:K.dp env.Layout (v6.1.getD i default) z.Content d e S with
   | none=>rfl
   | some x =>
    simp only[h7];rw[c7 (by omega) (by omega),bc,j (i+1) _ _ _ _ (by omega) (by omega) (by simp;omega)];cases qU (fun k=>K.dp env.Layout k z.Content) (v6.1.drop (i+1)) x.2.1 x.2.2.1 x.2.2.2 with
    | none=>rfl
    | some y=>simp only[h7,q7,alO]
  grind[qU]
theorem Kz K n l(a:l.length≤100000):rd K n l=some l:=by
 unfold rd nY
 grind[fits,ae,c7,bc]
def DF:Nat→ae→Prop
 | 0,_=>False
 | d+1,f=>f.Kids.length≤3000∧∀k∈f.Kids,DF d k
theorem uM:∀{d} {f g},f.Kids=g.Kids→DF d g→DF d f
 | 0,_,_,_,h=>h
 | d+1,f,g,e,h=>by grind[DF]
theorem K2:∀{d e} {f},DF d f→d≤e→DF e f
 | 0,_,_,h,_=>h.elim
 | d+1,0,_,_,h=>by omega
 | d+1,e+1,f,h,b=>⟨h.1,fun k a=>K2 (h.2 k a) (by omega)⟩
theorem afE{d}{b}{z}{e}{L}{g}{c a}{i}{h}(k:L.length≤3000)(j:∀f∈L,DF d f):DF (d+1) (mH b z e L g c a i h):=by
 unfold DF
 grind[mH,oN,uM,agD]
theorem RC{d}{b}{z}{t e o}{h}{g}{c a}{L}(j:L.length≤3000)(i:∀f∈L,DF d f):DF (d+1) (ru b z t e o h g c a L):=by
 grind[ru,afE]
theorem Eb N:∀x,(KN (N+1)).lR (Fv.fn 145) x=some (eW x):=fun x=>Up (KN N) N x
theorem ahv{a}(h:ge a):∀r∈jC a,r.Box=[]:=by
 exact Px (P:=fun r=>r.Box=[]) (fun e g=>rfl) _ _ _ (fun e c b g=>absurd b (BR h e c)) (fun e g x d f i=>rfl)
theorem WM{f}(h:f.Kids=[]):DF 1 f:=by grind[DF]
theorem L0(a b:Int):∀(X:d4) (i x:Int),(∀r∈X,r.Box=[])→(jO a b i x X).length≤X.length∧∀f∈jO a b i x X,DF 1 f
 | [],i,x,_=>⟨by simp[jO],fun f c=>by simp[jO]at c⟩
 | r::t,i,x,h=>by
  have g:=h r u6;have l:(bif i == b then stripR r else r).Box=[]:=by
   cases (i == b)
   ·exact g
   ·show(stripR r).Box=[];unfold stripR;cases (lD r.Text&&r.Style.WhiteSpace != 2)<;>exact g
  simp only[jO];generalize (bif i == b then stripR r else r)=e at *;obtain⟨m,j⟩:=L0 a b t (i+1) (aa (x+aa (e.Width+e.Space))) (fun q k=>h q (pt _ k));have d:(mq a x e).length≤1∧∀f∈mq a x e,DF 1 f:=by
   unfold mq Cz;rw[l];cases e.Text.data.toList.isEmpty with
   | true=>exact⟨by simp,fun f c=>by simp at c⟩
   | false=>exact⟨by simp,fun f c=>by simp at c;subst c;exact WM rfl⟩
  refine⟨by rw[mm,la];omega,fun f c=>?_⟩;rcases ls.1 c with c|c
  ·exact d.2 f c
  ·exact j f c
theorem Yq{s}{w}{X}(h:∀r∈X,r.Box=[])(e:X.length≤3000):DF 2 (rG s w X):=by
 obtain⟨d,a⟩:=L0 (j4 (kB s) X).1 (C1 X) X 0 (yS s w (fP (X.map vI))) h;exact⟨by show([]++jO _ _ _ _ X).length≤3000;grind,fun k b=>a k (by have c:k∈[]++jO (j4 (kB s) X).1 (C1 X) 0 (yS s w (fP (X.map vI))) X:=b;grind)⟩
theorem QE{s}{w}{X}(h:∀r∈X,r.Box=[])(d:X.length≤3000):∀S y,∀f∈(i9 s w X y S).1,DF 2 f
 | [],y=>fun f c=>by grind[i9]
 | [a],y=>fun f c=>by grind[i9]
 | a::b::r,y=>fun f c=>by
  simp only[i9,qk]at c;rcases c with rfl|c
  ·have g:∀q∈sl X a b,q.Box=[]:=fun q e=>h q (Dt e)
   grind[sl,uM,rG,Yq]
  ·exact QE h d (b::r) _ f c
theorem ai5{a}(h:ge a)(e:eG 1 a≤2000) s v:(nk a s v).1.length≤2001∧∀f∈(nk a s v).1,DF 2 f:=by
 have b:=RO a;unfold nk;have d:=Np s (gm v) (jC a) (ku (jC a) (gm v)) 0;have c:=IK ((jC a).map vI) (gm v) ((jC a).length+1) 0
 grind[QE,ahv,ku]
theorem Zl{x y}:fL x y=true↔x=y:=by
 cases x;cases y;simp[fL]
theorem Vp{α:Type}[Inhabited α]{L:List α}{i}(h:i<L.length):L.set i (L.getD i default)=L:=by
 simp_all
theorem adl(K:Kn)(n:Nat)(f:ae)(L:c6)(e:L.length≤100000)(d:∀k∈L,K.zL k=some k):∀(m i:Nat),i≤L.length→L.length<m+i →
  xd K n f L m i L=some { f with Kids:=L }:=by
 intro m
 induction m with
 | zero=>intro i b c;omega
 | succ m g =>
  intro i b c;simp only[xd,Cw];by_cases a:i<L.length
  ·simp only[eH a,w3,dA a,bc,Int.toNat_natCast,d _ (fU a),h7,Vp a]
   grind[eB]
  grind
theorem Cp:∀d N f,DF d f→d+3010≤N→oJ (KN N) N f=some f
 | 0,_,_,h,_=>h.elim
 | d+1,0,_,_,h=>by omega
 | d+1,N+1,f,h,b=>by
  unfold DF at h;unfold oJ;rw[Kz _ _ _ (by omega),h7];have e:=adl (KN (N+1)) (N+1) f f.Kids (by omega) (fun k a=>Cp d N k (h.2 k a) (by omega)) (N+1) 0 (tl _) (by omega);rw[show((0:Nat):Int)=0 from rfl]at e;rw[e];cases f;rfl
theorem agd(K:Kn)(n:Nat)(f:ae)(L:c6)(e:L.length≤100000)(d:∀k∈L,K.yx k=some k):∀(m i:Nat),i≤L.length→L.length<m+i →
  zx K n f L m i L=some { f with Kids:=L }:=by
 intro m
 induction m with
 | zero=>intro i b c;omega
 | succ m g =>
  intro i b c;simp only[zx,Be];by_cases a:i<L.length
  ·simp only[eH a,w3,dA a,bc,Int.toNat_natCast,d _ (fU a),h7,Vp a]
   grind[eB]
  grind
theorem KC:∀d N f,DF d f→d+3010≤N→sJ (KN N) N f=some f
 | 0,_,_,h,_=>h.elim
 | d+1,0,_,_,h=>by omega
 | d+1,N+1,f,h,b=>by
  unfold DF at h;unfold sJ;rw[Kz _ _ _ (by omega),h7];have e:=agd (KN (N+1)) (N+1) f f.Kids (by omega) (fun k a=>KC d N k (h.2 k a) (by omega)) (N+1) 0 (tl _) (by omega);rw[show((0:Nat):Int)=0 from rfl]at e;rw[e];cases f;rfl
def agF(w:Int)(m:aA):Prop:=m.Width=w∧bL m.Box≤100∧DF (bL m.Box+2) m.Fragment
def fC(b:ab)(w:Int)(m:aA):Bool:=m.Width == w&&eJ m.Box b
def vm(b:ab)(w a c:Int)(S R:cn):ae×Bool×Int×Int×cn :=
 match R.find? (fC b w) with
 | some m=>(m.Fragment,true,a,c,S)
 | none=>(bV,false,a,c,S)
theorem af5 N b w f a e(S:cn)(h:S.length≤3000)(g:3200≤N) d(i:DF d f)(c:d≤150)(j:0≤a∧a<100000):yV (KN N) N b w f a e S=some (a+1,e,S++[⟨b,w,f⟩]):=by
 unfold yV
 grind[Cp,c7,bc,bN]
namespace Wd
theorem jh x:0≤dS x∧dS x≤1048576:=by grind[dS]
theorem tn l w:(cK l w).2=(l.Kind == 1||l.Kind == 2):=by
 grind[cK]
end Wd
theorem tC l b: -1048576≤(cK l b).1∧(cK l b).1≤1048576:=by
 grind[cK]
def br(l:cI):cI:=if l.Kind=2 then cm else l
def gv(s:aR):aR:={ s with Width:=br s.Width,MinWidth:=br s.MinWidth,MaxWidth:=br s.MaxWidth,Margin:=⟨br s.Margin.a0,br s.Margin.a1,br s.Margin.a2,br s.Margin.a3⟩,Padding:=⟨br s.Padding.a0,br s.Padding.a1,br s.Padding.a2,br s.Padding.a3⟩ }
theorem fw{α:Type} l(f:cI→α) y(a:y=f l):(if (l.Kind == 2)=true then f cm else y)=f (br l):=by
 grind[br]
section
variable(K:Kn)(n:Nat)
theorem sN(s:aR):rL K n s=some (gv s):=by
 unfold rL;refine (fw s.Width (fun l=>ss K n { s with Width:=l }) _ rfl).trans ?_;unfold ss;refine (fw s.MinWidth (fun l=>tN K n { s with Width:=br s.Width,MinWidth:=l }) _ rfl).trans ?_;unfold tN;refine (fw s.MaxWidth (fun l=>sT K n { s with Width:=br s.Width,MinWidth:=br s.MinWidth,MaxWidth:=l }) _ rfl).trans ?_;unfold sT;refine (fw s.Margin.a0 (fun l=>vg K n { s with Width:=br s.Width,MinWidth:=br s.MinWidth,MaxWidth:=br s.MaxWidth,Margin:=⟨l,s.Margin.a1,s.Margin.a2,s.Margin.a3⟩ }) _ rfl).trans ?_;unfold vg;refine (fw s.Padding.a0 (fun l=>uP K n { s with Width:=br s.Width,MinWidth:=br s.MinWidth,MaxWidth:=br s.MaxWidth,Margin:=⟨br s.Margin.a0,s.Margin.a1,s.Margin.a2,s.Margin.a3⟩,Padding:=⟨l,s.Padding.a1,s.Padding.a2,s.Padding.a3⟩ }) _ rfl).trans ?_;unfold uP;refine (fw s.Margin.a1 (fun l=>uQ K n { s with Width:=br s.Width,MinWidth:=br s.MinWidth,MaxWidth:=br s.MaxWidth,Margin:=⟨br s.Margin.a0,l,s.Margin.a2,s.Margin.a3⟩,Padding:=⟨br s.Padding.a0,s.Padding.a1,s.Padding.a2,s.Padding.a3⟩ }) _ rfl).trans ?_
 unfold uQ;refine (fw s.Padding.a1 (fun l=>uO K n { s with Width:=br s.Width,MinWidth:=br s.MinWidth,MaxWidth:=br s.MaxWidth,Margin:=⟨br s.Margin.a0,br s.Margin.a1,s.Margin.a2,s.Margin.a3⟩,Padding:=⟨br s.Padding.a0,l,s.Padding.a2,s.Padding.a3⟩ }) _ rfl).trans ?_;unfold uO;refine (fw s.Margin.a2 (fun l=>sn K n { s with Width:=br s.Width,MinWidth:=br s.MinWidth,MaxWidth:=br s.MaxWidth,Margin:=⟨br s.Margin.a0,br s.Margin.a1,l,s.Margin.a3⟩,Padding:=⟨br s.Padding.a0,br s.Padding.a1,s.Padding.a2,s.Padding.a3⟩ }) _ rfl).trans ?_;unfold sn;refine (fw s.Padding.a2 (fun l=>sv K n { s with Width:=br s.Width,MinWidth:=br s.MinWidth,MaxWidth:=br s.MaxWidth,Margin:=⟨br s.Margin.a0,br s.Margin.a1,br s.Margin.a2,s.Margin.a3⟩,Padding:=⟨br s.Padding.a0,br s.Padding.a1,l,s.Padding.a3⟩ }) _ rfl).trans ?_;unfold sv;refine (fw s.Margin.a3 (fun l=>rN K n { s with Width:=br s.Width,MinWidth:=br s.MinWidth,MaxWidth:=br s.MaxWidth,Margin:=⟨br s.Margin.a0,br s.Margin.a1,br s.Margin.a2,l⟩,Padding:=⟨br s.Padding.a0,br s.Padding.a1,br s.Padding.a2,s.Padding.a3⟩ }) _ rfl).trans ?_
 unfold rN;refine (fw s.Padding.a3 (fun l=>xP K n { s with Width:=br s.Width,MinWidth:=br s.MinWidth,MaxWidth:=br s.MaxWidth,Margin:=⟨br s.Margin.a0,br s.Margin.a1,br s.Margin.a2,br s.Margin.a3⟩,Padding:=⟨br s.Padding.a0,br s.Padding.a1,br s.Padding.a2,l⟩ }) _ rfl).trans ?_;rfl
end
namespace Fw
open QSort (wn cJ du dq ry qf sb)
section
variable(K:Kn)(n:Nat)
theorem Ov(s:aR):xy K n s=some (gv s):=by
 unfold xy;refine (fw s.Width (fun l=>vp K n { s with Width:=l }) _ rfl).trans ?_;unfold vp;refine (fw s.MinWidth (fun l=>ua K n { s with Width:=br s.Width,MinWidth:=l }) _ rfl).trans ?_;unfold ua;refine (fw s.MaxWidth (fun l=>vq K n { s with Width:=br s.Width,MinWidth:=br s.MinWidth,MaxWidth:=l }) _ rfl).trans ?_;unfold vq;refine (fw s.Margin.a0 (fun l=>se K n { s with Width:=br s.Width,MinWidth:=br s.MinWidth,MaxWidth:=br s.MaxWidth,Margin:=⟨l,s.Margin.a1,s.Margin.a2,s.Margin.a3⟩ }) _ rfl).trans ?_;unfold se;refine (fw s.Padding.a0 (fun l=>tM K n { s with Width:=br s.Width,MinWidth:=br s.MinWidth,MaxWidth:=br s.MaxWidth,Margin:=⟨br s.Margin.a0,s.Margin.a1,s.Margin.a2,s.Margin.a3⟩,Padding:=⟨l,s.Padding.a1,s.Padding.a2,s.Padding.a3⟩ }) _ rfl).trans ?_;unfold tM;refine (fw s.Margin.a1 (fun l=>vA K n { s with Width:=br s.Width,MinWidth:=br s.MinWidth,MaxWidth:=br s.MaxWidth,Margin:=⟨br s.Margin.a0,l,s.Margin.a2,s.Margin.a3⟩,Padding:=⟨br s.Padding.a0,s.Padding.a1,s.Padding.a2,s.Padding.a3⟩ }) _ rfl).trans ?_
 unfold vA;refine (fw s.Padding.a1 (fun l=>ul K n { s with Width:=br s.Width,MinWidth:=br s.MinWidth,MaxWidth:=br s.MaxWidth,Margin:=⟨br s.Margin.a0,br s.Margin.a1,s.Margin.a2,s.Margin.a3⟩,Padding:=⟨br s.Padding.a0,l,s.Padding.a2,s.Padding.a3⟩ }) _ rfl).trans ?_;unfold ul;refine (fw s.Margin.a2 (fun l=>s8 K n { s with Width:=br s.Width,MinWidth:=br s.MinWidth,MaxWidth:=br s.MaxWidth,Margin:=⟨br s.Margin.a0,br s.Margin.a1,l,s.Margin.a3⟩,Padding:=⟨br s.Padding.a0,br s.Padding.a1,s.Padding.a2,s.Padding.a3⟩ }) _ rfl).trans ?_;unfold s8;refine (fw s.Padding.a2 (fun l=>sd K n { s with Width:=br s.Width,MinWidth:=br s.MinWidth,MaxWidth:=br s.MaxWidth,Margin:=⟨br s.Margin.a0,br s.Margin.a1,br s.Margin.a2,s.Margin.a3⟩,Padding:=⟨br s.Padding.a0,br s.Padding.a1,l,s.Padding.a3⟩ }) _ rfl).trans ?_;unfold sd;refine (fw s.Margin.a3 (fun l=>s6 K n { s with Width:=br s.Width,MinWidth:=br s.MinWidth,MaxWidth:=br s.MaxWidth,Margin:=⟨br s.Margin.a0,br s.Margin.a1,br s.Margin.a2,l⟩,Padding:=⟨br s.Padding.a0,br s.Padding.a1,br s.Padding.a2,s.Padding.a3⟩ }) _ rfl).trans ?_
 unfold s6;refine (fw s.Padding.a3 (fun l=>wY K n { s with Width:=br s.Width,MinWidth:=br s.MinWidth,MaxWidth:=br s.MaxWidth,Margin:=⟨br s.Margin.a0,br s.Margin.a1,br s.Margin.a2,br s.Margin.a3⟩,Padding:=⟨br s.Padding.a0,br s.Padding.a1,br s.Padding.a2,l⟩ }) _ rfl).trans ?_;rfl
end
def cC(b:ab)(d:b7):dO:=d.map fun j=>b.Kids.getD j.toNat default
theorem vK b d:(cC b d).length=d.length:=by simp[cC]
theorem W9 b d{k}(a:k<d.length):(cC b d).getD k default=b.Kids.getD (d.getD k default).toNat default:=by
 grind[cC]
theorem DW{b}{d}(h:Od.Is b.Kids d){k}(c:k∈cC b d):k∈b.Kids:=by
 obtain⟨j,a,rfl⟩:=Dk.1 c;obtain⟨i,e,rfl,_⟩:=h.mem a
 grind
theorem ZV{b:ab}{d:b7}(h:Od.Is b.Kids d):(cC b d).Perm (eF b):=by
 have e:∀n,n≤b.Kids.length→(Od.ix (Od.fl b.Kids) n).map (fun j=>b.Kids.getD j.toNat default)=(b.Kids.take n).filter gO:=by
  intro n
  induction n with
  | zero=>intro _;rfl
  | succ n f =>
   intro g;rw[Od.QB,OR,f (by omega),ace (by omega),am0];congr 1;rw[←ca (show n<b.Kids.length by omega)];unfold Od.fl;cases c:gO (b.Kids.getD n default)<;>simp only[amE,ank,c,w3,il,ol,rv,zt,Int.toNat_natCast]
 have a:=e b.Kids.length (by omega);rw[alP]at a;have:=h.p.map (fun j=>b.Kids.getD j.toNat default);rw[a]at this;exact this
theorem adB(K:Kn)(n:Nat){b:ab}(o:b.Kids.length≤19){d:b7}(h:Od.Is b.Kids d):∀(m i:Nat),i≤d.length→d.length<m+i →
  zP K n b d m (i:Int) ((cC b d).take i)=some (cC b d):=by
 have l:=h.len;intro m
 induction m with
 | zero=>intro i f g;omega
 | succ m a =>
  intro i f g;simp only[zP,Ej];by_cases c:i<d.length
  ·obtain⟨j,p,e,_⟩:=h.mem (QSort.Po (A:=d) c);unfold QSort.at_ at e;have a:=a (i+1) (by omega) (by omega);rw[ace (by rw[vK];exact c),← ca (by rw[vK];exact c),W9 b d c]at a;rw[du (by omega),cJ (by omega),eT,e,cJ (by omega),eT,c7 (by simp only[la,u3,IN];omega) (by omega),bc,wn (n:=(i:Int)+1) (k:=i+1) (by omega) (by omega)];rw[e,eT]at a;exact a
  ·rw[dq (by omega),IT (by rw[vK];omega)]
theorem TN{b}(a:b.Kids.length≤19){d}(h:Od.Is b.Kids d){K}{n}(c:vj K n b.Kids=some d)(f:100<n):k7 K n b=some (cC b d):=by
 have e:=h.len;unfold k7;rw[c,sb];exact adB K n a h n 0 (by omega) (by omega)
end Fw
namespace Fl
open QSort (wn cJ du dq ry qf sb)
open Fw
def ki(l:cI):cI:=if l.Kind=1∨l.Kind=2 then l else { cm with Kind:=1 }
def nQ(b:ab)(n:Int):ab:={ b with Style:={ b.Style with Width:=⟨1,n⟩,MinWidth:=cm,MaxWidth:=cm,Margin:=⟨ki b.Style.Margin.a0,ki b.Style.Margin.a1,ki b.Style.Margin.a2,ki b.Style.Margin.a3⟩ } }
theorem BM{α:Type} l(f:cI→α):(if (!(l.Kind == 1||l.Kind == 2))=true then f { cm with Kind:=1 } else f l)=f (ki l):=by
 grind[ki]
theorem ZL(K:Kn)(n:Nat)(b:ab)(x:Int):wE K n b x=some (nQ b x):=by
 unfold wE;simp only[gn,h7,Wd.tn];rw[BM b.Style.Margin.a0 (fun l=>ve K n b x ⟨l,b.Style.Margin.a1,b.Style.Margin.a2,b.Style.Margin.a3⟩)];unfold ve;simp only[gn,h7,Wd.tn];rw[BM b.Style.Margin.a1 (fun l=>uz K n b x ⟨ki b.Style.Margin.a0,l,b.Style.Margin.a2,b.Style.Margin.a3⟩)];unfold uz;simp only[gn,h7,Wd.tn];rw[BM b.Style.Margin.a2 (fun l=>sf K n b x ⟨ki b.Style.Margin.a0,ki b.Style.Margin.a1,l,b.Style.Margin.a3⟩)];unfold sf;simp only[gn,h7,Wd.tn];rw[BM b.Style.Margin.a3 (fun l=>ww K n b x ⟨ki b.Style.Margin.a0,ki b.Style.Margin.a1,ki b.Style.Margin.a2,l⟩)];rfl
def eL(l:cI)(c o:Int):Int:=if (cK l c).2=true then (cK l c).1 else o
theorem Ct K n l c o:ng K n l c o=some (eL l c o):=by
 grind[ng,eL,gn,sb]
theorem Ju(s:aR)(w:Int): -6291456≤ii (fS s w 0)∧ii (fS s w 0)≤6291456:=by
 have a:=tC s.Margin.a1 w;have b:=tC s.Margin.a3 w;have c:=tC s.Padding.a1 w;have d:=tC s.Padding.a3 w;have e:=Wd.jh s.Border.a1;have f:=Wd.jh s.Border.a3;unfold ii fS;simp only[];rw[bN (n:=0+(cK s.Margin.a1 w).1) (by omega) (by omega),bN (n:=0+(cK s.Margin.a1 w).1+(cK s.Margin.a3 w).1) (by omega) (by omega),bN (n:=0+(cK s.Margin.a1 w).1+(cK s.Margin.a3 w).1+dS s.Border.a1) (by omega) (by omega),bN (n:=0+(cK s.Margin.a1 w).1+(cK s.Margin.a3 w).1+dS s.Border.a1+dS s.Border.a3) (by omega) (by omega),bN (n:=0+(cK s.Margin.a1 w).1+(cK s.Margin.a3 w).1+dS s.Border.a1+dS s.Border.a3+max (cK s.Padding.a1 w).1 0) (by omega) (by omega),bN (by omega) (by omega)];omega
theorem Xu s w c:0≤jb s w c∧jb s w c≤max c 1048576:=by
 have:=tC s.MinWidth w
 grind[jb]
theorem DR s w:0≤(ct s w).Content∧(ct s w).Content≤8388608:=by
 have e:∃x,(ct s w).Content=jb s (dS w) x∧x≤8388608:=by
  have a:(if (cK s.Width (dS w)).2=true then (cK s.Width (dS w)).1 else aa (dS w-ii (fS s (dS w) 0)))≤8388608:=by
   have b:=tC s.Width (dS w);have c:=Ju s (dS w);have d:=Wd.jh w
   grind[bN]
  refine⟨_,?_,a⟩
  grind[ct,DN]
 obtain⟨x,a,f⟩:=e;have:=Xu s (dS w) x;omega
def Small(B:Int)(l:b7):Prop:=∀x∈l,-B≤x∧x≤B
def wr(sp:Int):Int→Nat→b7→b7
 | _,_,[]=>[]
 | s,i,x::r=>if s+x>sp then i::wr sp x (i+1) r else wr sp (s+x) (i+1) r
def mF(sp:Int):b7→b7
 | []=>[]
 | x::r=>0::wr sp x 1 r
variable{B:Int}{L:b7}
theorem alD(K:Kn)(n:Nat)(sp:Int)(a:0≤B∧B≤1073741824)(h:Small B L)(r:L.length≤100):∀(m i:Nat) (s:Int) (o:b7),1≤i→i≤L.length→L.length<m+i→o.length≤i → -(i*B)≤s→s≤i*B →
  uq K n L sp m s i o=some (o++wr sp s i (L.drop i)):=by
 intro m
 induction m with
 | zero=>intro i s o e f g;omega
 | succ m d =>
  intro i s o e f g t u l;simp only[uq,wj];by_cases c:i<L.length
  ·have v:=h (L.getD i default) (fU c);have j:(i:Int)*B≤100*1073741824:=ame (by omega) a.2 a.1 (by omega);have q:((i+1:Nat):Int)*B=i*B+B:=by simp[anG]
   have p:¬ ((i:Int) == 0)=true:=by rw[alJ];omega
   rw[du (by omega),cJ (by omega),eT,bN (by omega) (by omega),sb,kb p];simp only[sD,vx,eT];rw[drop_at' c];simp only[wr];rw[wn (n:=(i:Int)+1) (k:=i+1) (by omega) (by omega),c7 (by simp only[la,u3];omega) (by omega),bc];by_cases b:s+L.getD i default>sp
   ·rw[du b,kc b,d (i+1) (L.getD i default) (o++[(i:Int)]) (by omega) (by omega) (by omega) (by simp;omega) (by have:=alT (show(0:Int)≤i by omega) a.1;omega) (by have:=alT (show(0:Int)≤i by omega) a.1;omega)];simp
   ·rw[dq b,kb b,d (i+1) (s+L.getD i default) o (by omega) (by omega) (by omega) (by omega) (by omega) (by omega)]
  grind[wr]
theorem aaB(K:Kn){n:Nat}(sp:Int)(d:0≤B∧B≤1073741824)(c:Small B L)(f:L.length≤100)(h:101<n):qo K n L sp=some (mF sp L):=by
 unfold qo;obtain⟨m,rfl⟩:∃m,n=m+1:=⟨n-1,by omega⟩;cases L with
 | nil=>rfl
 | cons x r =>
  have i:=c x (by simp);simp only[la]at f;simp only[uq,wj];have a:(0:Int)<(((x::r).length:Nat):Int):=by simp only[la];omega
  have g:aa (0+List.getD (x::r) (Int.toNat 0) default)=x:=by
   show aa (0+x)=x;rw[Int.zero_add];exact bN (by omega) (by omega)
  have b:aa ((0:Int)+1)=((1:Nat):Int):=wn (by omega) (by omega);have e:List.getD (x::r) (Int.toNat 0) default=x:=rfl;rw[du a,cJ ⟨anH 0,a⟩,g,sb,kc (by rfl)];simp only[sD,vx,e,b];rw[c7 (by simp) (by omega),bc,alD K (m+1) sp d c (by simp only[la];omega) m 1 x ([]++[0]) (by omega) (by simp) (by simp only[la];omega) (by simp) (by omega) (by omega)];simp[mF]
inductive rF n:Nat→b7→Prop
 | nil a (h:a≤n):rF n a []
 | cons a b t (h:a≤b) (h2:rF n b t):rF n a (b::t)
theorem FN sp n:∀r a i s,a≤i→i+r.length≤n→rF n a (wr sp s i r)
 | [],a,i,s,b,c=>.nil _ (by omega)
 | x::r,a,i,s,b,c=>by
  simp only[la]at c;unfold wr;split
  ·exact .cons _ _ _ b (FN sp n r i (i+1) x (by omega) (by omega))
  ·exact FN sp n r a (i+1) (s+x) (by omega) (by omega)
theorem rF.le{n a}{t}(h:rF n a t):a≤n:=by
 induction h with
 | nil a h=>grind
 | cons a b t h c d=>omega
theorem LV{n a:Nat}{t:b7}(h:rF n a t):∀k,k<t.length+1→∃x y:Nat,((a:Int)::(t++[(n:Int)])).getD k default=(x:Int)∧((a:Int)::(t++[(n:Int)])).getD (k+1) default=(y:Int)∧x≤y∧y≤n:=by
 induction h with
 | nil a h =>
  intro k c;simp only[u3]at c;obtain rfl:k=0:=by omega
  exact⟨a,n,rfl,rfl,h,jf _⟩
 | cons a b t h f i =>
  intro k c;cases k with
  | zero=>exact⟨a,b,rfl,rfl,h,f.le⟩
  | succ k =>
   obtain⟨x,y,d,e,g⟩:=i k (by simpa using c);exact⟨x,y,by simpa using d,by simpa using e,g⟩
theorem FF sp:∀r s i,(wr sp s i r).length≤r.length
 | [],s,i=>by simp[wr]
 | x::r,s,i=>by
  unfold wr;have a:=FF sp r x (i+1);have b:=FF sp r (s+x) (i+1)
  grind
structure St n(S:b7):Prop where
 len:S.length≤n+1
 get:∀k,k<S.length→∃x y:Nat,(S++[(n:Int)]).getD k default=x∧(S++[(n:Int)]).getD (k+1) default=y∧x≤y∧y≤n
theorem Xx(n:Nat):St n [0]:=⟨by simp,fun k b=>by
 have:=LV (n:=n) (a:=0) (t:=[]) (.nil _ (tl _)) k (by simpa using b);simpa using this⟩
theorem akN(sp:Int)(L:b7):St L.length (mF sp L):=by
 cases L with
 | nil=>exact⟨by simp[mF],fun k b=>by simp[mF]at b⟩
 | cons x r =>
  have c:=FF sp r x 1;refine⟨by simp only[mF,la];omega,fun k b=>?_⟩;simp only[mF,la]at b;have:=LV (n:=(x::r).length) (a:=0) (FN sp (x::r).length r 0 1 x (by omega) (by simp;omega)) k (by omega);simpa[mF]using this
end Fl
abbrev Dw:=ab→Int→Int→Int→cn→Option (ae×Int×Int×cn)
def dj(f:Dw):hZ→Int→Int→cn→Option (c6×Int×Int×cn)
 | [],a,b,S=>some ([],a,b,S)
 | p::r,a,b,S=>(f p.1 p.2 a b S).bind fun x=>(dj f r x.2.1 x.2.2.1 x.2.2.2).bind fun y=>some (x.1::y.1,y.2)
theorem tT{f:Dw}:∀{l:hZ} {a b:Int} {S:cn} {r:c6×Int×Int×cn},dj f l a b S=some r→r.1.length=l.length
 | [],a,b,S,r,h=>by injection h with h;subst h;rfl
 | k::l,a,b,S,r,h=>by
  obtain⟨x,d,h⟩:=aw h;obtain⟨y,c,h⟩:=aw h;injection h with h;subst h
  simp[tT c]
theorem NJ(f:Dw):∀(l m:hZ) (a b:Int) (S:cn),dj f (l++m) a b S=(dj f l a b S).bind fun x=>(dj f m x.2.1 x.2.2.1 x.2.2.2).bind fun y=>some (x.1++y.1,y.2)
 | [],m,a,b,S=>by
  simp only[Dy,dj,h7];cases dj f m a b S<;>rfl
 | k::l,m,a,b,S=>by
  simp only[aew,dj];cases f k.1 k.2 a b S with
  | none=>rfl
  | some x =>
   simp only[h7];rw[NJ f l m];cases dj f l x.2.1 x.2.2.1 x.2.2.2 with
   | none=>rfl
   | some y =>
    simp only[h7];cases dj f m y.2.1 y.2.2.1 y.2.2.2<;>rfl
theorem SK(f:Dw)(w:Int):∀(l:dO) (a b:Int) (S:cn),qU (fun k=>f k w) l a b S=dj f (l.map fun k=>(k,w)) a b S
 | [],a,b,S=>rfl
 | k::r,a,b,S=>by
  simp only[qU,rv,dj];cases f k w a b S with
  | none=>rfl
  | some x=>simp only[h7,SK f w r]
def pU(f:ae):Int:=if f.Empty=true then 0 else aa (f.After.Pos+f.After.Neg)
def nj(m:bj):Int:=aa (m.Pos+m.Neg)
theorem T4(K:Kn)(n:Nat)(f:ae):tK K n f=some (pU f):=by
 unfold tK pU;cases f.Empty<;>rfl
theorem Jl(K:Kn)(n:Nat)(m:bj):gC K n m=some (nj m):=rfl
def Er(y:Int)(p:Int×Int)(a:Int×Int×c6)(f:ae):Int×Int×c6 :=
 (aa (a.1+aa (p.1+p.2)),max a.2.1 (aa (aa (nj f.Before+f.H)+pU f)),a.2.2++[{ f with X:=aa (f.X+a.1),Y:=aa (y+nj f.Before) }])
def jB(y:Int):List eg→c6→Int×Int×c6→Int×Int×c6
 | p::ps,f::b,a=>jB y ps b (Er y p a f)
 | _,_,a=>a
theorem GD(y:Int):∀(ps:List eg) (c:c6) (a:Int×Int×c6),ps.length=c.length→(jB y ps c a).2.2.length=a.2.2.length+c.length∧∀f∈(jB y ps c a).2.2,f∈a.2.2∨∃g∈c,f.Kids=g.Kids
 | [],[],a,_=>⟨by simp[jB],fun f k=>.inl k⟩
 | p::ps,f::c,a,h=>by
  simp only[la]at h;obtain⟨i,j⟩:=GD y ps c (Er y p a f) (by omega);simp only[jB];refine⟨by rw[i];simp only[Er,mm,la,u3];omega,fun q b=>?_⟩;rcases j q b with b|⟨g,d,e⟩
  ·simp only[Er]at b;rcases ls.1 b with b|b
   ·exact .inl b
   ·simp only[qk,aiD,amy]at b;subst b;exact .inr ⟨f,u6,rfl⟩
  ·exact .inr ⟨g,pt _ d,e⟩
 | [],_::_,_,h=>by simp at h
 | _::_,[],_,h=>by simp at h
open Fl
def ja(c:Int)(L:dO):Nat→b7→hZ
 | _,[]=>[]
 | j,z::Z=>(nQ (L.getD j default) z,c)::ja c L (j+1) Z
def jg(ED:b7):Nat→b7→List eg
 | _,[]=>[]
 | j,z::Z=>(z,ED.getD j default)::jg ED (j+1) Z
theorem Fe(c:Int)(L:dO):∀(Z:b7) (j:Nat),(ja c L j Z).length=Z.length
 | [],j=>rfl
 | z::Z,j=>by simp only[ja,la,Fe c L Z]
theorem Hl(ED:b7):∀(Z:b7) (j:Nat),(jg ED j Z).length=Z.length
 | [],j=>rfl
 | z::Z,j=>by simp only[jg,la,Hl ED Z]
theorem SP{c:Int}{L:dO}:∀{Z:b7} {j:Nat} {p:ab×Int},j+Z.length≤L.length→p∈ja c L j Z→p.2=c∧∃k∈L,∃z,p.1=nQ k z
 | [],j,p,_,h=>by cases h
 | z::Z,j,p,a,h=>by
  simp only[la]at a;simp only[ja,qk]at h;rcases h with rfl|h
  ·exact⟨rfl,_,fU (show j<L.length by omega),z,rfl⟩
  ·exact SP (by omega) h
abbrev Wi:=Int→Int→c6→Int→Int→cn→Option (c6×Int×Int×Int×cn)
theorem abK(K:Kn)(n:Nat)(c:Int)(env:bB)(L:dO)(o:ee)(ED ST:b7)(y:Int)(k:Nat)(Z:b7)(l:Wi)(a:Nat)(j:ST.getD k default=(a:Int))(A:a+Z.length≤L.length)(z:ED.length=L.length)(B:L.length≤1000):
  ∀(m i:Nat) (x h:Int) (d:c6) (e f:Int) (S:cn),i≤Z.length→Z.length<m+i→d.length+(Z.length-i)≤5000→tG K n c env L o ED ST y (k:Int) Z l m x h (i:Int) d e f S =
   (dj (fun b w=>K.dp env.Layout b w) (ja c L (a+i) (Z.drop i)) e f S).bind fun r=>l (aa (y+(jB y (jg ED (a+i) (Z.drop i)) r.1 (x,h,d)).2.1)) (aa ((k:Int)+1)) (jB y (jg ED (a+i) (Z.drop i)) r.1 (x,h,d)).2.2 r.2.1 r.2.2.1 r.2.2.2:=by
 intro m
 induction m with
 | zero=>intro i x h d e f S s t;omega
 | succ m u =>
  intro i x h d e f S s t v;simp only[tG,ES];by_cases g:i<Z.length
  ·have p:aa ((a:Int)+(i:Int))=((a+i:Nat):Int):=by rw[bN (by omega) (by omega)];omega
   rw[drop_at' g];simp only[ja,jg,dj];simp only[eH g,w3,dA g,bc,Int.toNat_natCast,j,p,dA (show a+i<L.length by omega),dA (show a+i<ED.length by omega),ZL,h7];cases C:K.dp env.Layout (nQ (L.getD (a+i) default) (Z.getD i default)) c e f S with
   | none=>rfl
   | some q =>
    simp only[h7,Jl,T4,List.length_singleton];rw[c7 (by omega) (by omega),bc,eB (by omega),u (i+1) _ _ _ _ _ _ (by omega) (by omega) (by rw[mm];simp only[List.length_singleton];omega)];rw[show a+(i+1)=a+i+1 by omega];cases dj (fun b w=>K.dp env.Layout b w) (ja c L (a+i+1) (Z.drop (i+1))) q.2.1 q.2.2.1 q.2.2.2 with
    | none=>rfl
    | some r=>rfl
  ·simp only[fd (show Z.length≤i by omega),il,ol];rw[ll (by omega)];rfl
def gt:Int→b7→Int
 | s,[]=>s
 | s,e::r=>gt (aa (s-e)) r
theorem Tv{B:Int}(a:0≤B∧B≤1073741824):∀(l:b7) (s A:Int),Small B l → -A≤s∧s≤A→A+l.length*B≤1125899906842624 → -(A+l.length*B)≤gt s l∧gt s l≤A+l.length*B
 | [],s,A,_,c,_=>by simpa[gt]using c
 | e::r,s,A,b,c,f=>by
  have i:=b e u6;have d:(((e::r).length:Nat):Int)*B=r.length*B+B:=by simp[anG]
  rw[d]at f⊢;have h:=alT (show(0:Int)≤(r.length:Int) by omega) a.1;have:=Tv a r (aa (s-e)) (A+B) (fun x g=>b x (pt _ g)) (by rw[bN (by omega) (by omega)];omega) (by omega);simp only[gt];omega
def eu{α:Type}(l:List α)(a b:Nat):List α:=List.drop a (List.take b l)
theorem Kq{α:Type}(l:List α){a b:Nat}(h:a≤b)(c:b≤l.length):(eu l a b).length=b-a:=by unfold eu;simp;omega
theorem agx(K:Kn)(n:Nat)(c:Int)(env:bB)(L:dO)(b:ee)(ED ST:b7)(y:Int)(k:Nat)(a:c6)(g h:Int)(S:cn)(e:Int)(f:Wi)(G:b7)(p:G.length≤1000):∀(m j:Nat) (s:Int),j≤G.length→G.length<m+j →
  uK K n c env L b ED ST y (k:Int) a g h S e f m s G (G.length:Int) (j:Int)=aE (cD (ST.getD k default) e b.length) ((jy K n (List.drop (ST.getD k default).toNat (List.take e.toNat b)) (gt s (G.drop j))).bind fun Z=>tG K n c env L b ED ST y (k:Int) Z f n 0 0 0 a g h S):=by
 intro m
 induction m with
 | zero=>intro j s i l;omega
 | succ m o =>
  intro j s i l;simp only[uK,BZ];by_cases d:j<G.length
  ·rw[drop_at' d];simp only[eH d,w3,dA d,bc,Int.toNat_natCast,gt];rw[eB (by omega)];exact o (j+1) _ (by omega) (by omega)
  ·simp only[fd (show G.length≤j by omega),il,ol,Int.toNat_natCast];rw[show G.drop j=[] from ll (by omega)];rfl
def ou(c:Int)(n:Nat)(a:ee)(ED ST:b7)(k:Nat):Nat×b7 :=
 (((ST++[(n:Int)]).getD k default).toNat,Rs.resolve (eu a ((ST++[(n:Int)]).getD k default).toNat ((ST++[(n:Int)]).getD (k+1) default).toNat) (gt c (eu ED ((ST++[(n:Int)]).getD k default).toNat ((ST++[(n:Int)]).getD (k+1) default).toNat)))
def gX(c:Int)(n:Nat)(a:ee)(ED ST:b7):Nat→Nat→List (Nat×b7)
 | _,0=>[]
 | k,m+1=>ou c n a ED ST k::gX c n a ED ST (k+1) m
def gY(c:Int)(L:dO):List (Nat×b7)→hZ
 | []=>[]
 | l::a=>ja c L l.1 l.2++gY c L a
def jn(ED:b7):List (Nat×b7)→c6→Int→c6→c6×Int
 | [],_,y,a=>(a,y)
 | l::b,r,y,a=>jn ED b (r.drop l.2.length) (aa (y+(jB y (jg ED l.1 l.2) (r.take l.2.length) (0,0,a)).2.1)) (jB y (jg ED l.1 l.2) (r.take l.2.length) (0,0,a)).2.2
theorem Xd{B:Int}{l:b7}(h:Small B l)(a b:Nat):Small B (eu l a b):=fun x c=>h x (oR (v9 c))
theorem Sc{α:Type}{l:List α}{x d:α}{k:Nat}(h:k<l.length):(l++[x]).getD k d=l.getD k d:=by
 rw[List.getD_eq_getElem?_getD,List.getD_eq_getElem?_getD,Dz h]
theorem Ua{α:Type}{l:List α}{x d:α}{k:Nat}(h:k=l.length):(l++[x]).getD k d=x:=by
 subst h;simp[List.getD_eq_getElem?_getD]
theorem Za(N:Nat)(R:20010≤N)(c:Int)(hc:0≤c∧c≤8388608)(env:bB)(L:dO)(hl:L.length≤19)(e:ee)(ED ST:b7)(hI:e.length=L.length)(Q:ED.length=L.length)(A:Small 6291456 ED)(o:St L.length ST):
  ∀(m k:Nat) (y:Int) (f:c6) (g h:Int) (S:cn),k≤ST.length→ST.length<m+k→f.length≤20*k→jz (KN N) N c env L e ED ST m y (k:Int) f g h S =
   (dj (fun b w=>(KN N).dp env.Layout b w) (gY c L (gX c L.length e ED ST k (ST.length-k))) g h S).bind fun r=>some ((jn ED (gX c L.length e ED ST k (ST.length-k)) r.1 y f).1,(jn ED (gX c L.length e ED ST k (ST.length-k)) r.1 y f).2,r.2.1,r.2.2.1,r.2.2.2):=by
 have T:=o.len;intro m
 induction m with
 | zero=>intro k y f g h S O P;omega
 | succ m W =>
  intro k y f g h S O P Z;simp only[jz,Ef];by_cases u:k<ST.length
  ·obtain⟨a,d,H,t,I,Y⟩:=o.get k u;have j:ST.getD k default=(a:Int):=by rw[←Sc (x:=(L.length:Int)) u];exact H
   have U:ou c L.length e ED ST k=(a,Rs.resolve (eu e a d) (gt c (eu ED a d))):=by unfold ou;rw[H,t];rfl
   have s:(eu ED a d).length=d-a:=Kq ED I (by omega);have E:(eu e a d).length=d-a:=Kq e I (by omega);have C:=Tv (B:=6291456) (by omega) (eu ED a d) c 8388608 (Xd A a d) (by omega) (by rw[s];omega);have J:(Rs.resolve (eu e a d) (gt c (eu ED a d))).length=d-a:=by rw[Rs.Jv,E]
   have p:aa ((k:Int)+1)=((k+1:Nat):Int):=eB (by omega);have X:nf (KN N) N c env L e ED ST y (k:Int) f g h S (jz (KN N) N c env L e ED ST m) (d:Int) =
     (dj (fun b w=>(KN N).dp env.Layout b w) (ja c L a (Rs.resolve (eu e a d) (gt c (eu ED a d)))) g h S).bind fun r=>jz (KN N) N c env L e ED ST m (aa (y+(jB y (jg ED a (Rs.resolve (eu e a d) (gt c (eu ED a d)))) r.1 (0,0,f)).2.1)) ((k+1:Nat):Int) (jB y (jg ED a (Rs.resolve (eu e a d) (gt c (eu ED a d)))) r.1 (0,0,f)).2.2 r.2.1 r.2.2.1 r.2.2.2:=by
    unfold nf;simp only[Int.toNat_natCast,j];rw[show cD (a:Int) (d:Int) ED.length=true by simp[cD];omega,bc];have K:=agx (KN N) N c env L e ED ST y k f g h S (d:Int) (jz (KN N) N c env L e ED ST m) (eu ED a d) (by omega) N 0 c (tl _) (by omega);have v:uK (KN N) N c env L e ED ST y (k:Int) f g h S (d:Int) (jz (KN N) N c env L e ED ST m) N c (List.drop a (List.take d ED)) ((List.drop a (List.take d ED)).length:Int) 0=_:=K;rw[v,j];simp only[Int.toNat_natCast,If];rw[show cD (a:Int) (d:Int) e.length=true by simp[cD];omega,bc];have M:=Rs.mw (n:=N) (lvl:=N) (eu e a d) (sp:=gt c (eu ED a d)) (by omega) (by rw[s]at C;omega) (by omega) R;have z:jy (KN N) N (List.drop a (List.take d e)) (gt c (eu ED a d))=_:=M;rw[z,h7];have G:=abK (KN N) N c env L e ED ST y k (Rs.resolve (eu e a d) (gt c (eu ED a d))) (jz (KN N) N c env L e ED ST m) a j (by rw[J];omega) Q (by omega) N 0 0 0 f g h S (tl _) (by omega) (by omega)
    rw[p,alS,If]at G;exact G
   have F:(if (decide (aa ((k:Int)+1)<(ST.length:Int)))=true then
     aE (aN (aa ((k:Int)+1)) ST.length) (nf (KN N) N c env L e ED ST y (k:Int) f g h S (jz (KN N) N c env L e ED ST m) (ST.getD (aa ((k:Int)+1)).toNat default))
     else nf (KN N) N c env L e ED ST y (k:Int) f g h S (jz (KN N) N c env L e ED ST m) (L.length:Int))=nf (KN N) N c env L e ED ST y (k:Int) f g h S (jz (KN N) N c env L e ED ST m) (d:Int):=by
    rw[p];by_cases l:k+1<ST.length
    ·rw[kc (eH l),dA l,bc,Int.toNat_natCast,← Sc (x:=(L.length:Int)) l,t]
    ·rw[fd (show ST.length≤k+1 by omega),kb (by simp)];rw[Ua (by omega)]at t;rw[t]
   simp only[eH u,w3,dA u,bc,h7];rw[F,X,show ST.length-k=(ST.length-(k+1))+1 by omega];simp only[gX,gY,jn,U];rw[NJ];cases V:dj (fun b w=>(KN N).dp env.Layout b w) (ja c L a (Rs.resolve (eu e a d) (gt c (eu ED a d)))) g h S with
   | none=>rfl
   | some r =>
    have i:=tT V;rw[Fe]at i;simp only[h7];have D:=GD y (jg ED a (Rs.resolve (eu e a d) (gt c (eu ED a d)))) r.1 (0,0,f) (by rw[Hl,i]);rw[W (k+1) _ _ _ _ _ (by omega) (by omega) (by rw[D.1,i,J];simp only;omega)];cases dj (fun b w=>(KN N).dp env.Layout b w) (gY c L (gX c L.length e ED ST (k+1) (ST.length-(k+1)))) r.2.1 r.2.2.1 r.2.2.2 with
    | none=>rfl
    | some q =>
     simp only[h7];rw[←i,List.take_left,anr]
  ·simp only[fd (show ST.length≤k by omega),il,ol];rw[show ST.length-k=0 by omega];rfl
end Go.Proofs.YtocgkfoifehcbaaGreat
