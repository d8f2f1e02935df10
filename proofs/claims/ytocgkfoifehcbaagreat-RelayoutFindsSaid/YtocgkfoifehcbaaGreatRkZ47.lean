/- Plain laws about the plain functions: words for all of them. No program in sight. -/
import Derived.Test.YtocgkfoifehcbaaGreatRkGf
import Derived.Lib.TrimUEq
import Derived.Laws.BitsLemmas
namespace Go.Proofs.YtocgkfoifehcbaaGreat
set_option linter.all false
open Go.RowKit
abbrev il:=List f6
def tl:=@List.append_assoc
def ack:=@List.cons_append
def ahp:=@List.countP_append
def aiO:=@List.singleton_append
def akp:=@List.not_mem_nil
def akr:=@List.take_append_drop
def akx:=@Int.mul_nonneg
def akD:=@Int.tdiv_eq_ediv_of_nonneg
def akE:=@List.getElem_map
def akH:=@List.pairwise_cons
def akI:=@decide_false
def akQ:=@List.takeWhile_cons
def akS:=@List.countP_cons
def akT:=@cond_false
def akZ:=@Int.mul_le_mul
def ak2:=@List.ext_getElem
def ak3:=@List.getD_cons_succ
def ak4:=@List.getD_cons_zero
def alb:=@cond_true
def alc:=@List.pairwise_lt_range
def alf:=@List.Pairwise.imp
def alk:=@Int.mul_le_mul_of_nonneg_right
def alo:=@Int.mul_le_mul_of_nonneg_left
def alp:=@Lib.decodeL_drop
def alq:=@List.pairwise_append
def alr:=@List.getElem_zipWith
def alt:=@Bool.and_self
def alu:=@Lib.decodeL_N
def alv:=@List.dropLast_concat_getLast
def alz:=@List.getElem_of_mem
def alA:=@List.range_succ
def alB:=@List.replicate_zero
def alC:=@List.replicate_succ
def alD:=@List.length_zipWith
def alF:=@Int.tmod_eq_emod_of_nonneg
def alI:=@List.filter_append
def alJ:=@or_false
def alR:=@List.pairwise_map
def alS:=@Lib.decodeL_width
def alT:=@List.take_add_one
def al1:=@ByteArray.data_extract
def al6:=@List.filter_nil
def al7:=@List.length_filter_le
def al8:=@IntKind.wrap_u8
def al9:=@List.dropLast_sublist
def amb:=@List.Pairwise.filter
def amc:=@Array.toList_extract
def amd:=@List.drop_left
def amf:=@Int.add_mul
def amg:=@List.countP_eq_zero
def amh:=@List.drop_succ_cons
def ami:=@List.map_congr_left
def amj:=@decide_true
def amk:=@Int.le_refl
def ams:=@Nat.sub_self
theorem bL{n:Int}(a : -9223372036854775808≤n)(b:n≤9223372036854775807):aa n=n:=by
 unfold aa;rw[akR];omega
theorem ba{α:Type}(x:Option α):aE true x=x:=rfl
theorem di{i:Int}{n:Nat}(a:0≤i)(b:i<n):aP i n=true:=by simp[aP,a,b]
theorem bR{α:Type}[Inhabited α]{L:List α}{k:Nat}(h:k<L.length):L.getD k default=L[k]:=by simp[List.getD_eq_getElem?_getD,jt h]
theorem db{n b:Nat}(h:n*b≤140737488355328)(c:0<b):fits n b=true:=by
 have d:n≤n*b:=Nat.le_mul_of_pos_right n c;have a:n≤9223372036854775807:=by omega
 simp only[fits,iN,q7];exact⟨a,h⟩
set_option maxRecDepth 20000
theorem eN(i:Nat):((i:Int)).toNat=i:=by omega
def sm:ck→Int
 | []=>0
 | x::r=>x+sm r
theorem lD:∀(a b:ck),sm (a++b)=sm a+sm b
 | [],b=>by simp[sm]
 | x::r,b=>by simp only[ack,sm,lD r b];omega
theorem Mq{B:Int}(b:0≤B):∀(a:ck),(∀x∈a,-B≤x∧x≤B) → -(a.length*B)≤sm a∧sm a≤a.length*B
 | [],_=>by simp[sm]
 | x::r,h=>by
  have d:=h x (by simp);have f:=Mq b r (fun y c=>h y (by simp[c]));have e:((x::r).length:Int)*B=r.length*B+B:=by simp[amf]
  simp only[sm];rw[e];omega
end Go.Proofs.YtocgkfoifehcbaaGreat
namespace Go.Proofs.YtocgkfoifehcbaaGreat.QSort
set_option linter.all false
open Go.RowKit
theorem cD{α:Type}{i:Int}{m:Nat}{x:Option α}(h:0≤i∧i<m):aE (aP i m) x=x:=by rw[di h.1 h.2];rfl
theorem gd{A B:ck}{x:Int}{i:Nat}(h:i=A.length):(A++x::B).getD i default=x:=by subst h;simp[List.getD_eq_getElem?_getD]
theorem Ng{A B:ck}{x y:Int}{i:Nat}(h:i=A.length+1):(A++x::y::B).getD i default=y:=by subst h;simp[List.getD_eq_getElem?_getD]
theorem sw{A B:ck}{x y:Int}{i j:Nat}(h:i=A.length)(a:j=A.length+1):List.set (List.set (A++x::y::B) j x) i y=A++y::x::B:=by subst h;subst a;simp[List.set_append]
theorem wn{n:Int}{k:Nat}(h:n=k)(a:k≤4000000000):aa n=(k:Int):=by subst h;exact bL (by omega) (by omega)
theorem dh{α:Type}{p:Prop}[Decidable p]{x y:α}(h:p):(if decide p=true then x else y)=x:=by simp[h]
theorem dd{α:Type}{p:Prop}[Decidable p]{x y:α}(h:¬ p):(if decide p=true then x else y)=y:=by simp[h]
theorem rk{α:Type}{p:Prop}[Decidable p]{x y:α}(h:¬ p):(if (!decide p)=true then x else y)=x:=by simp[h]
theorem rf{α:Type}{p:Prop}[Decidable p]{x y:α}(h:p):(if (!decide p)=true then x else y)=y:=by simp[h]
theorem sb{α β:Type}(x:α)(k:α→Option β):(some x).bind k=k x:=rfl
structure vF(K:Kn)(f:Fv)(D:Int→Prop)(key:Int→Int):Prop where
 ok:∀a b,D a→D b→∃c,K.sF f a b=some c∧(c<0↔key a<key b)
def R(key:Int→Int)(a b:Int):Prop:=key a<key b∨key a=key b∧a<b
theorem R.trans{key:Int→Int}{a b c:Int}(h:R key a b)(d:R key b c):R key a c:=by unfold R at *;omega
theorem R.yL{key:Int→Int}{a:Int}(h:R key a a):False:=by unfold R at *;omega
theorem R.asymm{key:Int→Int}{a b:Int}(h:R key a b)(c:R key b a):False:=by unfold R at *;omega
theorem R.Mf{key:Int→Int}{a b:Int}(h:b<a):key a<key b↔R key a b:=by unfold R;omega
theorem R.not{key:Int→Int}{a b:Int}(h:a≠b)(c:¬ R key a b):R key b a:=by unfold R at *;omega
variable{K:Kn}{n:Nat}{f:Fv}{D:Int→Prop}{key:Int→Int}
theorem Yj(I:vF K f D key)(P T:ck)(b i:Int)(B:Int→ck→Option ck):∀(m:Nat) (g e:ck) (x:Int),g.length<m→(∀y∈g,y<x∧D y)→D x→(g++e).Pairwise (R key)→(∀y∈e,R key x y)→P.length+g.length≤10000 →
  ∃l,l.Perm (x::(g++e))∧l.Pairwise (R key)∧sr K n ((P.length:Nat):Int) b f i B m ((P.length+g.length:Nat):Int) (P++g++x::e++T)=B (aa (i+1)) (P++l++T):=by
 intro m
 induction m with
 | zero=>intro g e x h;omega
 | succ m N =>
  intro g e x M C F q s L;simp only[sr,Al];rcases List.eq_nil_or_concat g with rfl|⟨d,y,rfl⟩
  ·refine⟨x::e,by simp,?_,?_⟩
   ·rw[akH];exact⟨s,by simpa using q⟩
   ·rw[dd (by simp)];simp[uw]
  ·simp only[List.concat_eq_append]at *;have w:=C y (by simp);simp only[nw,lp,th]at M L;have G:P++(d++[y])++x::e++T=(P++d)++y::x::(e++T):=by simp
   have O:((P.length+(d++[y]).length:Nat):Int)=((P.length+d.length+1:Nat):Int):=by simp;omega
   have E:((P++d)++y::x::(e++T)).length≥P.length+d.length+2:=by simp;omega
   rw[G,O,dh (by omega)];rw[wn (n:=((P.length+d.length+1:Nat):Int)-1) (k:=P.length+d.length) (by omega) (by omega)];rw[cD (by omega),cD (by omega)];simp only[Int.toNat_natCast];rw[Ng (i:=P.length+d.length+1) (by simp),gd (i:=P.length+d.length) (by simp)];obtain⟨c,J,o⟩:=I.ok x y F w.2;rw[J,sb];simp only[uw];by_cases r:c<0
   ·rw[dh r];rw[wn (n:=((P.length+d.length+1:Nat):Int)-1) (k:=P.length+d.length) (by omega) (by omega)];simp only[akz];rw[cD (by omega),cD (by omega),cD (by omega),cD (by omega)];simp only[Int.toNat_natCast];rw[Ng (i:=P.length+d.length+1) (by simp),gd (i:=P.length+d.length) (by simp),sw (by simp) (by simp)];have v:R key x y:=(R.Mf w.1).1 (o.1 r);obtain⟨l,p1,Q,S⟩:=N d (y::e) x (by omega) (fun z j=>C z (by simp[j])) F (by simpa using q)
     (fun z j=>by
      rcases oR.1 j with rfl|j
      ·exact v
      ·exact s z j) (by omega)
    refine⟨l,by simpa using p1,Q,?_⟩;have H:P++d++x::y::(e++T)=P++d++x::(y::e)++T:=by simp
    rw[H,S]
   ·rw[dd r];have p:R key y x:=R.not (by omega) (fun h=>r (o.2 ((R.Mf w.1).2 h)));refine⟨d++y::x::e,?_,?_,by simp⟩
    ·exact(List.Perm.of_eq (by simp)).trans (List.perm_middle (l₁:=d++[y]) (a:=x) (l₂:=e))
    ·simp only[tl,ack,Db,alq,akH,oR]at q⊢;obtain⟨U,⟨V,W⟩,A⟩:=q;refine⟨U,⟨?_,s,W⟩,?_⟩
     ·rintro z (rfl|j)
      ·exact p
      ·exact V z j
     ·rintro u t z (rfl|rfl|j)
      ·exact A u t z (.inl rfl)
      ·exact(A u t y (.inl rfl)).trans p
      ·exact A u t z (.inr j)
theorem ai9(t:vF K f D key)(P Q:ck)(F:10001<n):∀(m:Nat) (S T:ck),T.length<m→S≠[]→(∀y∈S,∀z∈T,y<z)→T.Pairwise (· < ·)→(∀y∈S++T,D y)→S.Pairwise (R key)→P.length+S.length+T.length≤10000 →
  ∃c,c.Perm (S++T)∧c.Pairwise (R key)∧oE K n ((P.length:Nat):Int) ((P.length+S.length+T.length:Nat):Int) f m ((P.length+S.length:Nat):Int) (P++S++T++Q)=some (P++c++Q):=by
 intro m
 induction m with
 | zero=>intro S T h;omega
 | succ m A =>
  intro S T v w j o i p u;simp only[oE,uc];cases T with
  | nil=>exact⟨S,by simp,p,by rw[dd (by simp)];simp⟩
  | cons x T =>
   simp only[lp]at v u⊢;rw[dh (by omega)];rw[akH]at o;obtain⟨c,p1,B,r⟩:=Yj (n:=n) t P (T++Q) ((P.length+S.length+(T.length+1):Nat):Int) ((P.length+S.length:Nat):Int)
    (oE K n ((P.length:Nat):Int) ((P.length+S.length+(T.length+1):Nat):Int) f m) n S [] x (by omega) (fun y b=>⟨j y b x (by simp),i y (by simp[b])⟩) (i x (by simp)) (by simpa using p) (by simp) (by omega)
   have e:P++S++[x]++(T++Q)=P++S++x::T++Q:=by simp
   rw[e]at r;rw[r,wn (k:=P.length+(S.length+1)) (by omega) (by omega)];simp only[List.append_nil]at p1;have d:c.length=S.length+1:=by rw[p1.length_eq];simp
   have g:∀y,y∈c↔y=x∨y∈S:=fun y=>by rw[p1.mem_iff];simp
   obtain⟨l,C,E,s⟩:=A c T (by omega) (by intro h;subst h;simp at d) (fun y b z q=>by
     rcases (g y).1 b with rfl|b
     ·exact o.1 z q
     ·exact j y b z (by simp[q])) o.2 (fun y b=>by
     rcases n5.1 b with b|b
     ·rcases (g y).1 b with rfl|b
      ·exact i y (by simp)
      ·exact i y (by simp[b])
     ·exact i y (by simp[b])) B (by omega)
   refine⟨l,?_,E,?_⟩
   ·refine C.trans ((p1.append_right T).trans ?_);exact(List.perm_middle (l₁:=S) (a:=x) (l₂:=T)).symm
   ·rw[d,show P.length+(S.length+1)+T.length=P.length+S.length+(T.length+1) by omega,show P++c++T++Q=P++c++(T++Q) by simp]at s;exact s
theorem adc(d:vF K f D key)(P S Q:ck)(h:10001<n)(b:S.Pairwise (· < ·))(e:∀y∈S,D y)(g:P.length+S.length≤10000):
  ∃a,a.Perm S∧a.Pairwise (R key)∧uG K n (P++S++Q) ((P.length:Nat):Int) ((P.length+S.length:Nat):Int) f=some (P++a++Q):=by
 unfold uG;rw[wn (k:=P.length+1) (by omega) (by omega)];cases S with
 | nil =>
  obtain⟨m,rfl⟩:∃m,n=m+1:=⟨n-1,by omega⟩;refine⟨[],by simp,by simp,?_⟩;simp only[oE,uc];rw[dd (by simp;omega)]
 | cons x T =>
  rw[akH]at b;simp only[lp]at g⊢;obtain⟨a,p1,i,c⟩:=ai9 (n:=n) d P Q h n [x] T (by omega) (by simp) (by simpa using b.1) b.2 (by simpa using e) (by simp) (by simp;omega);refine⟨a,by simpa using p1,i,?_⟩;simp only[lp,th,Dy]at c;rw[show P.length+(T.length+1)=P.length+1+T.length by omega,show P++x::T++Q=P++[x]++T++Q by simp];exact c
end Go.Proofs.YtocgkfoifehcbaaGreat.QSort
namespace Go.Proofs.YtocgkfoifehcbaaGreat.QSort
set_option linter.all false
open Go.RowKit
variable{K:Kn}{n:Nat}{f:Fv}{D:Int→Prop}{key:Int→Int}
def at_(L:ck)(k:Nat):Int:=L.getD k default
theorem OK{A:ck}{k:Nat}(h:k<A.length):at_ A k∈A:=by unfold at_;rw[bR h];exact ob _
theorem I4{A:ck}{x:Int}(h:x∈A):∃k,k<A.length∧at_ A k=x:=by
 obtain⟨k,a,e⟩:=alz h;exact⟨k,a,by unfold at_;rw[bR a,e]⟩
theorem Cb{r:Int→Int→Prop}{A:ck}(h:A.Pairwise r){i j:Nat}(a:i<j)(b:j<A.length):r (at_ A i) (at_ A j):=by
 unfold at_;rw[bR (by omega:i<A.length),bR b];exact List.pairwise_iff_getElem.1 h i j (by omega) b a
theorem Sy{A:ck}{t k:Nat}(h:k<t):at_ (A.take t) k=at_ A k:=by simp[at_,List.getD_eq_getElem?_getD,In,h]
theorem ahN{A:ck}{t k:Nat}:at_ (A.drop t) k=at_ A (t+k):=by simp[at_,List.getD_eq_getElem?_getD]
theorem Lk{A:ck}{t:Nat}{x:Int}(h:x∈A.take t):∃k,k<t∧k<A.length∧at_ A k=x:=by
 obtain⟨k,a,e⟩:=I4 h;simp at a;exact⟨k,by omega,by omega,by rw[←e,Sy (by omega)]⟩
theorem agW{A:ck}{t:Nat}{x:Int}(h:x∈A.drop t):∃k,t≤k∧k<A.length∧at_ A k=x:=by
 obtain⟨k,a,e⟩:=I4 h;simp at a;exact⟨t+k,by omega,by omega,by rw[←e,ahN]⟩
end Go.Proofs.YtocgkfoifehcbaaGreat.QSort
namespace Go.Proofs.YtocgkfoifehcbaaGreat.QSort
set_option linter.all false
open Go.RowKit
variable{f:Fv}{D:Int→Prop}{key:Int→Int}
theorem LK{c0:Nat}(c:∀m,c0≤m→vF (KN m) f D key){lvl n:Nat}(S:ck)(i:10001<n)(h:c0+(S.length+1)+10002≤lvl)(g:S.Pairwise (· < ·))(e:∀x∈S,D x)(k:S.length≤19):
  ∃d,d.Perm S∧d.Pairwise (R key)∧lJ (KN lvl) n S f=some d:=by
 unfold lJ Es;obtain⟨m,rfl⟩:∃m,n=m+1:=⟨n-1,by omega⟩;obtain⟨b,p1,j,a⟩:=adc (n:=m+1) (c lvl (by omega)) [] S [] i g e (by simp;omega);simp only[th,Db,List.append_nil,Dy]at a;simp only[xT,zw];rw[dd (by omega)];rw[show((0:Nat):Int)=0 from rfl]at a;rw[a,sb];simp only[wY,AY];rw[dd (by omega)];exact⟨b,p1,j,rfl⟩
end Go.Proofs.YtocgkfoifehcbaaGreat.QSort
namespace Go.Proofs.YtocgkfoifehcbaaGreat
set_option linter.all false
open Go.RowKit
namespace Sh
def idx(n:Nat):ck:=(List.range n).map fun (k:Nat)=>(k:Int)
instance(key:Int→Int)(a b:Int):Decidable (QSort.R key a b):=by unfold QSort.R;infer_instance
theorem ut(n:Nat):(idx n).length=n:=by simp[idx]
theorem FS{n:Nat}{x:Int}:x∈idx n↔∃k:Nat,k<n∧x=k:=by
 simp only[idx,BY,aa8];exact⟨fun⟨k,h,e⟩=>⟨k,h,e.symm⟩,fun⟨k,h,e⟩=>⟨k,h,e.symm⟩⟩
theorem Oj(n:Nat):(idx n).Pairwise (· < ·):=by
 unfold idx;rw[alR];refine alf (fun h=>?_) alc;omega
theorem KE(n:Nat):idx (n+1)=idx n++[(n:Int)]:=by simp[idx,alA]
def dw(n a:Int):Int:=min (max n 0) a
def mx:Int:=2147483647
theorem jd{n m:Int}(h:0≤m):0≤dw n m∧dw n m≤m:=by unfold dw;omega
def q(T S w:Int):Int:=T*w / S
def r(T S w:Int):Int:=T*w % S
def left(T:Int)(W:ck):Int:=T-sm (W.map (q T (sm W)))
def nP(T:Int)(W:ck)(k:Nat):Prop :=
 0<r T (sm W) (W.getD k default)∧(((W.take k).countP (fun w=>decide (r T (sm W) (W.getD k default)≤r T (sm W) w))+(W.drop (k+1)).countP (fun w=>decide (r T (sm W) (W.getD k default)<r T (sm W) w)):Nat):Int)<left T W
instance(T:Int)(W:ck)(k:Nat):Decidable (nP T W k):=by unfold nP;infer_instance
def part(T:Int)(W:ck)(k:Nat):Int:=q T (sm W) (W.getD k default)+if nP T W k then 1 else 0
def share(T:Int)(W:ck):ck:=if sm W=0 then List.replicate W.length 0 else (List.range W.length).map (part T W)
theorem wa(T:Int)(W:ck):(share T W).length=W.length:=by unfold share;split<;>simp
def inc:ck→ck→ck
 | p,[]=>p
 | p,i::l=>inc (p.set i.toNat (p.getD i.toNat default+1)) l
theorem Ls:∀(l p:ck),(inc p l).length=p.length
 | [],p=>rfl
 | i::l,p=>by simp[inc,Ls l]
theorem ZL{p:ck}{i j:Nat}{x:Int}(h:i≠j):(p.set i x).getD j default=p.getD j default:=by simp[List.getD_eq_getElem?_getD,aky,h]
theorem adi{p:ck}{i:Nat}{x:Int}(h:i<p.length):(p.set i x).getD i default=x:=by simp[List.getD_eq_getElem?_getD,aky,h]
theorem Rq:∀(l p:ck) (k:Nat),l.Nodup→(∀i∈l,0≤i)→k<p.length→(inc p l).getD k default=p.getD k default+if (k:Int)∈l then 1 else 0
 | [],p,k,_,_,_=>by simp[inc]
 | i::l,p,k,a,b,c=>by
  simp only[inc];rw[List.nodup_cons]at a;rw[Rq l _ k a.2 (fun j f=>b j (by simp[f])) (by simpa using c)];have g:=b i (by simp);by_cases e:i.toNat=k
  ·have d:i=(k:Int):=by omega
   subst d;rw[Int.toNat_natCast,adi c,kb a.1,lc (by simp)];omega
  ·rw[ZL e];have:((k:Int)∈i::l)↔(k:Int)∈l:=by
    rw[oR];constructor
    ·rintro (h|h)
     ·omega
     ·exact h
    ·exact .inr
   simp only[this]
theorem ajt{a b:ck}(h:a.Perm b):sm a=sm b:=by
 induction h with
 | nil=>rfl
 | cons x _ e=>simp[sm,e]
 | swap x y l=>simp only[sm];omega
 | trans _ _ c d=>rw[c,d]
theorem T8(T S:Int)(a:0<S):∀W:ck,S*sm (W.map (q T S))+sm (W.map (r T S))=T*sm W
 | []=>by simp[sm]
 | w::W=>by
  have:=T8 T S a W;have h:=Int.mul_ediv_add_emod (T*w) S;simp only[q6,sm,Int.mul_add];unfold q r at *;omega
theorem mw{c:Int}:∀L:ck,(∀x∈L,x≤c)→sm L≤L.length*c
 | [],_=>by simp[sm]
 | x::L,h=>by
  have:=mw L (fun y a=>h y (by simp[a]));have:=h x (by simp);simp only[sm,lp];rw[show((L.length+1:Nat):Int)*c=L.length*c+c by simp[amf]];omega
theorem kj:∀L:ck,(∀x∈L,0≤x)→0≤sm L
 | [],_=>by simp[sm]
 | x::L,h=>by
  have:=kj L (fun y a=>h y (by simp[a]));have:=h x (by simp);simp only[sm];omega
theorem wW:∀(L:ck),(∀x∈L,0≤x)→∀x∈L,x≤sm L
 | [],_,_,a=>by simp at a
 | y::L,h,x,a=>by
  have c:=kj L (fun y b=>h y (by simp[b]));have d:=h y (by simp);simp only[sm];rcases oR.1 a with rfl|a
  ·omega
  ·have:=wW L (fun y b=>h y (by simp[b])) x a;omega
theorem JB{T S w:Int}(a:0<S):0≤r T S w∧r T S w<S:=⟨Int.emod_nonneg _ (by omega),Int.emod_lt_of_pos _ a⟩
theorem Cz{T S w:Int}(c:0<S)(b:0≤T)(d:0≤w)(a:w≤S):0≤q T S w∧q T S w≤T:=by
 refine⟨Int.ediv_nonneg (akx b d) (by omega),?_⟩;unfold q;have h:T*w≤T*S:=alo a b
 calc T*w / S≤T*S / S:=Int.ediv_le_ediv c h
  _=T:=Int.mul_ediv_cancel _ (by omega)
theorem TE(T:Int)(W:ck)(a:0<sm W):sm W*left T W=sm (W.map (r T (sm W))):=by
 have:=T8 T (sm W) a W;unfold left;rw[Int.mul_sub,al2 (sm W) T];omega
theorem Ib(T:Int)(W:ck)(a:0<sm W):0≤left T W∧left T W≤W.length:=by
 have h:=TE T W a;have d:0≤sm (W.map (r T (sm W))):=kj _ (fun x b=>by
  obtain⟨w,_,rfl⟩:=BY.1 b;exact(JB a).1)
 have c:sm (W.map (r T (sm W)))≤(W.map (r T (sm W))).length*sm W:=mw _ (fun x b=>by
  obtain⟨w,_,rfl⟩:=BY.1 b;have:=(JB (T:=T) (w:=w) a).2;omega)
 rw[nx,← h,al2]at c;refine⟨?_,Int.le_of_mul_le_mul_right c a⟩;rw[←h]at d;rcases Int.lt_or_le (left T W) 0 with h|h
 ·have:=Int.mul_neg_of_pos_of_neg a h;omega
 ·exact h
def key(rs:ck)(a:Int):Int := - rs.getD a.toNat default
structure Ord(rs d:ck):Prop where
 p:d.Perm (idx rs.length)
 s:d.Pairwise (QSort.R (key rs))
theorem Ord.nodup{rs d:ck}(h:Ord rs d):d.Nodup:=by
 refine alf (fun a e=>?_) h.s;subst e;exact a.yL
theorem Ord.mem{rs d:ck}(h:Ord rs d){x:Int}:x∈d↔∃k:Nat,k<rs.length∧x=k:=by rw[h.p.mem_iff,FS]
theorem Ord.len{rs d:ck}(h:Ord rs d):d.length=rs.length:=by rw[h.p.length_eq,ut]
theorem Df(rs:ck)(p:Int→Bool):∀n,n≤rs.length→(idx n).countP (fun a=>p (rs.getD a.toNat default))=(rs.take n).countP p
 | 0,_=>by simp[idx]
 | n+1,h=>by
  rw[KE,ahp,Df rs p n (by omega),MO (by omega),ahp];simp[List.getD_eq_getElem?_getD,jt (show n<rs.length by omega)]
theorem ZS{rs d:ck}(h:Ord rs d){t k:Nat}(i:t<d.length)(p:d.getD t default=(k:Int)):(rs.take k).countP (fun w=>decide (rs.getD k default≤w))+(rs.drop (k+1)).countP (fun w=>decide (rs.getD k default<w))=t:=by
 have m:k<rs.length:=by
  have:d.getD t default∈d:=by rw[bR i];exact ob _
  rw[p]at this;obtain⟨j,n,o⟩:=h.mem.1 this;omega
 -- in the sorted order there are t ahead of k
 have c1:d.countP (fun a=>decide (QSort.R (key rs) a k))=t:=by
  have e:d=d.take t++d.drop t:=(akr t d).symm;have z:d.drop t=(k:Int)::d.drop (t+1):=by rw[ls i,← bR i,p]
  rw[z]at e;have g:=h.s;rw[e,alq,akH]at g;rw[e,ahp,akS];have A:(d.take t).countP (fun a=>decide (QSort.R (key rs) a k))=t:=by
   rw[List.countP_eq_length.2 (fun a b=>by simpa using g.2.2 a b k (by simp))];simp;omega
  have B:(d.drop (t+1)).countP (fun a=>decide (QSort.R (key rs) a k))=0:=by
   rw[amg];intro a b c;exact(g.2.1.1 a b).asymm (by simpa using c)
  have C:(if decide (QSort.R (key rs) (k:Int) k)=true then 1 else 0)=0:=by
   rw[kb];intro c;exact(by simpa using c:QSort.R (key rs) (k:Int) k).yL
  rw[A,B,C];omega
 rw[h.p.countP_eq]at c1
 -- the indices below k,k,those above
 have e:idx rs.length=idx k++(k:Int)::(idx rs.length).drop (k+1):=by
  have n:(idx rs.length).take k=idx k:=by unfold idx;rw[←List.map_take,List.take_range,Nat.min_eq_left (Nat.le_of_lt m)]
  have o:k<(idx rs.length).length:=by rw[ut];exact m
  conv=>lhs;rw[←akr k (idx rs.length),n,ls o]
  congr 2;simp[idx]
 have r:(idx k).countP (fun a=>decide (QSort.R (key rs) a k))=(rs.take k).countP (fun w=>decide (rs.getD k default≤w)):=by
  rw[←Df rs (fun w=>decide (rs.getD k default≤w)) k (by omega)];refine List.countP_congr (fun a b=>?_);obtain⟨j,E,rfl⟩:=FS.1 b;simp only[q7];simp only[QSort.R,key,Int.toNat_natCast];omega
 have s:((idx rs.length).drop (k+1)).countP (fun a=>decide (QSort.R (key rs) a k))=(rs.drop (k+1)).countP (fun w=>decide (rs.getD k default<w)):=by
  have f:=Df rs (fun w=>decide (rs.getD k default<w)) rs.length (ll _);have l:=Df rs (fun w=>decide (rs.getD k default<w)) (k+1) (by omega);rw[aka]at f;have v:rs.countP (fun w=>decide (rs.getD k default<w))=(rs.take (k+1)).countP (fun w=>decide (rs.getD k default<w))+(rs.drop (k+1)).countP (fun w=>decide (rs.getD k default<w)):=by
   rw[←ahp,akr]
  have x:idx rs.length=idx (k+1)++(idx rs.length).drop (k+1):=by
   rw[KE];conv=>lhs;rw[e]
   simp
  rw[x,ahp,l]at f;have y:((idx rs.length).drop (k+1)).countP (fun a=>decide (QSort.R (key rs) a k))=((idx rs.length).drop (k+1)).countP (fun a=>(fun w=>decide (rs.getD k default<w)) (rs.getD a.toNat default)):=by
   refine List.countP_congr (fun a b=>?_);have:(k:Int)<a:=by
    have q:=Oj rs.length;rw[e,alq,akH]at q;exact q.2.1.1 a b
   have D:0≤a:=by omega
   obtain⟨j,rfl⟩:∃j:Nat,a=j:=⟨a.toNat,by omega⟩;simp only[q7];simp only[QSort.R,key,Int.toNat_natCast];omega
  rw[y];dsimp only at f l v⊢;omega
 have u:(if decide (QSort.R (key rs) (k:Int) k)=true then 1 else 0)=0:=by
  rw[kb];intro c;exact(by simpa using c:QSort.R (key rs) (k:Int) k).yL
 rw[e,ahp,akS,r,s,u]at c1;omega
theorem Bm(T S:Int)(W:ck){k:Nat}(h:k<W.length):(W.map (r T S)).getD k default=r T S (W.getD k default):=by simp[List.getD_eq_getElem?_getD,h]
theorem aak(T:Int)(W d:ck)(Q:∀w∈W,0≤w)(P:sm W≠0)(h:Ord (W.map (r T (sm W))) d):share T W=inc (W.map (q T (sm W))) (d.take (left T W).toNat):=by
 have l:0<sm W:=by have:=kj W Q;omega
 have U:=Ib T W l;have y:=TE T W l;have R:d.length=W.length:=by rw[h.len,nx]
 unfold share;rw[kb P];refine ak2 (by rw[Ls];simp) (fun k L M=>?_);have o:k<W.length:=by simpa using L
 rw[←bR M,Rq _ _ _ (h.nodup.sublist (List.take_sublist _ _)) (fun i S=>by
  obtain⟨j,_,rfl⟩:=h.mem.1 (wl S);omega) (by simpa using o)]
 simp only[akE,List.getElem_range,part];have J:(W.map (q T (sm W))).getD k default=q T (sm W) (W.getD k default):=by simp[List.getD_eq_getElem?_getD,o]
 rw[J];congr 1
 -- where is k in the order?
 obtain⟨t,G,m⟩:=QSort.I4 (A:=d) (x:=(k:Int)) (h.mem.2 ⟨k,by simpa using o,rfl⟩);have C:=ZS h G m;rw[Bm _ _ _ o,← List.map_take,← amn,List.countP_map,List.countP_map]at C;have e:((k:Int)∈d.take (left T W).toNat)↔t<(left T W).toNat:=by
  constructor
  ·intro z;obtain⟨I,Z,X,H⟩:=QSort.Lk z;have:I=t:=by
    rcases Nat.lt_trichotomy t I with b|b|b
    ·have:=QSort.Cb h.s b X;rw[m,H]at this;exact absurd this (fun x=>x.yL)
    ·exact b.symm
    ·have:=QSort.Cb h.s b G;rw[m,H]at this;exact absurd this (fun x=>x.yL)
   omega
  ·intro z;have:d.take (left T W).toNat=d.take (left T W).toNat:=rfl;have N:t<(d.take (left T W).toNat).length:=by simp;omega
   have:=QSort.OK N;rwa[QSort.Sy z,m]at this
 have f:nP T W k↔t<(left T W).toNat:=by
  unfold nP;simp only[Function.comp_def]at C;rw[C];constructor
  ·intro b;omega
  ·intro b;refine⟨?_,by omega⟩
   -- a rest of 0 does not nP: all behind it are 0,too
   rcases Int.lt_or_le 0 (r T (sm W) (W.getD k default))with B|B
   ·exact B
   ·exfalso;have g:sm (d.map fun a=>(W.map (r T (sm W))).getD a.toNat default)=sm (W.map (r T (sm W))):=by
     rw[ajt (h.p.map _)];congr 1;refine ak2 (by simp[idx]) (fun i V u=>?_);simp only[akE,idx,List.getElem_range,Int.toNat_natCast,Bm T (sm W) W (show i<W.length by simpa using u)];rw[bR (show i<W.length by simpa using u)]
    have v:d=d.take t++d.drop t:=(akr t d).symm;have p:sm (d.map fun a=>(W.map (r T (sm W))).getD a.toNat default)=sm ((d.take t).map fun a=>(W.map (r T (sm W))).getD a.toNat default)+sm ((d.drop t).map fun a=>(W.map (r T (sm W))).getD a.toNat default):=by
     conv=>lhs;rw[v]
     rw[IF,lD]
    have E:∀a∈d,0≤(W.map (r T (sm W))).getD a.toNat default∧(W.map (r T (sm W))).getD a.toNat default≤sm W-1:=by
     intro a n;obtain⟨j,F,rfl⟩:=h.mem.1 n;rw[nx]at F;rw[Int.toNat_natCast,Bm T (sm W) W F];have:=JB (T:=T) (w:=W.getD j default) l;omega
    have s1:sm ((d.take t).map fun a=>(W.map (r T (sm W))).getD a.toNat default)≤t*(sm W-1):=by
     have:=mw (c:=sm W-1) ((d.take t).map fun a=>(W.map (r T (sm W))).getD a.toNat default) (fun x D=>by
      obtain⟨a,n,rfl⟩:=BY.1 D;exact(E a (wl n)).2)
     rw[nx,ajN,Nat.min_eq_left (by omega)]at this;exact this
    have Y:sm ((d.drop t).map fun a=>(W.map (r T (sm W))).getD a.toNat default)≤(((d.drop t).map fun a=>(W.map (r T (sm W))).getD a.toNat default).length:Int)*0:=by
     refine mw _ (fun x D=>?_);obtain⟨a,n,rfl⟩:=BY.1 D;obtain⟨i,V,u,rfl⟩:=QSort.agW n;have K:(W.map (r T (sm W))).getD k default≤0:=by rw[Bm T (sm W) W o];exact B
     rcases Nat.lt_or_ge t i with q|q
     ·have:=QSort.Cb h.s q u;rw[m]at this;unfold QSort.R key at this;rw[Int.toNat_natCast]at this;omega
     ·obtain rfl:i=t:=by omega
      rw[m,Int.toNat_natCast];exact K
    rw[Int.mul_zero]at Y;have:sm W*left T W≤t*(sm W-1):=by rw[y,← g,p];omega
    have O:sm W*((t:Int)+1)≤sm W*left T W:=alo (by omega) (by omega);rw[Int.mul_add,Int.mul_one,al2 (sm W) t]at O;rw[Int.mul_sub,Int.mul_one]at this;omega
 by_cases s:nP T W k
 ·rw[lc s,lc (e.2 (f.1 s))]
 ·rw[kb s,kb (fun b=>s (f.2 (e.1 b)))]
end Sh
end Go.Proofs.YtocgkfoifehcbaaGreat
namespace Go.Proofs.YtocgkfoifehcbaaGreat
set_option linter.all false
open Go.RowKit
namespace Sh
open QSort (wn cD dh dd sb)
variable{K:Kn}{n:Nat}
def bX(L:ck):ck:=L.map fun w=>dw w mx
theorem fM L:(bX L).length=L.length:=by simp[bX]
theorem mH L:∀w∈bX L,0≤w∧w≤2147483647:=by
 intro w a;obtain⟨x,_,rfl⟩:=BY.1 a;exact jd (m:=mx) (by decide)
theorem Nw{L}{k}(h:k<L.length):(bX L).getD k default=dw (L.getD k default) mx:=by grind[bX]
theorem Ll{L}(h:L.length≤19):0≤sm (bX L)∧sm (bX L)≤21474836470000:=by
 refine⟨kj _ (fun w a=>(mH L w a).1),?_⟩;have:=mw (c:=2147483647) (bX L) (fun w a=>(mH L w a).2)
 grind[fM]
theorem Ut{W:ck}(h:∀w∈W,0≤w)(i:Nat):0≤sm (W.take i)∧sm (W.take i)≤sm W:=by
 have b:=kj (W.take i) (fun w a=>h w (wl a));have c:=kj (W.drop i) (fun w a=>h w (IN a));have:sm W=sm (W.take i)+sm (W.drop i):=by rw[←lD,akr]
 omega
theorem Z1{W:ck}{i:Nat}(h:i<W.length):sm (W.take (i+1))=sm (W.take i)+W.getD i default:=by
 rw[MO h,lD,bR h];simp[sm]
theorem BO{A:ck}{k i}{y z}(h:i=A.length):List.set (A++List.replicate (k+1) z) i y=(A++[y])++List.replicate k z:=by
 subst h;grind
theorem Y6{A:ck}{k i}{y z}(h:i=A.length):List.getD ((A++[y])++List.replicate k z) i default=y:=by
 grind
theorem Xs{a b:Int}(d:0≤a)(e:a≤2147483647)(c:0≤b)(f:b≤2147483647):0≤a*b∧a*b≤4611686014132420609:=by
 refine⟨akx d c,?_⟩;have:=akZ e f c (by omega);omega
theorem EU(g:Int→Int){W:ck}{i:Nat}(h:i<W.length):(W.take (i+1)).map g=(W.take i).map g++[g (W.getD i default)]:=by
 rw[MO h,IF,bR h];rfl
theorem aek{T}{W}(d:0≤T)(b:∀w∈W,0≤w)(a:0<sm W) i:0≤sm ((W.take i).map (q T (sm W)))∧sm ((W.take i).map (q T (sm W)))≤T:=by
 have e:∀x∈W.map (q T (sm W)),0≤x:=fun x f=>by
  obtain⟨w,c,rfl⟩:=BY.1 f;exact(Cz a d (b w c) (wW W b w c)).1
 have:=Ut e i;rw[←List.map_take]at this;have g:=(Ib T W a).1
 grind[left]
theorem agR(L:ck)(T:Int)(c f g:ck)(l:L.length≤19):∀(m i:Nat),i≤L.length→L.length<m+i →
  wk K n L T c f g m (sm ((bX L).take i)) (i:Int)=if (sm (bX L) == 0)=true then some c else q8 K n L T (sm (bX L)) n T 0 c f g:=by
 intro m
 induction m with
 | zero=>intro i h j;omega
 | succ m p =>
  intro i h j;simp only[wk,wX];by_cases d:i<L.length
  ·have q:=Ll l;have a:=Ut (W:=bX L) (fun w o=>(mH L w o).1) (i+1);have e:=Z1 (W:=bX L) (i:=i) (by rw[fM];exact d);have b:=Nw d;rw[dh (by omega),cD (by omega),eN];simp only[iG,sb];rw[wn (n:=(i:Int)+1) (k:=i+1) (by omega) (by omega)];rw[show aa (sm ((bX L).take i)+min (max (L.getD i default) 0) 2147483647)=sm ((bX L).take (i+1)) by
    rw[e,b];exact bL (by rw[e,b]at a;unfold dw mx at a;omega) (by rw[e,b]at a;unfold dw mx at a;omega)]
   exact p (i+1) (by omega) (by omega)
  ·rw[dd (by omega),Dz (by rw[fM];omega)]
theorem abA(L:ck)(T:Int)(d:0≤T∧T≤2147483647)(F:L.length≤19)(g:0<sm (bX L)):∀(m i:Nat),i≤L.length→L.length<m+i →
  q8 K n L T (sm (bX L)) m (T-sm (((bX L).take i).map (q T (sm (bX L))))) (i:Int) (((bX L).take i).map (q T (sm (bX L)))++List.replicate (L.length-i) 0) (((bX L).take i).map (r T (sm (bX L)))++List.replicate (L.length-i) 0) (idx i++List.replicate (L.length-i) 0) =
  (lJ K n (idx L.length) (Fv.c165 ((bX L).map (r T (sm (bX L)))))).bind fun a =>
  aE (cQ (0:Int) (left T (bX L)) a.length) (
  qn K n n (List.drop ((0:Int)).toNat (List.take (left T (bX L)).toNat a)) ((List.drop ((0:Int)).toNat (List.take (left T (bX L)).toNat a)).length:Int) 0 ((bX L).map (q T (sm (bX L))))):=by
 intro m
 induction m with
 | zero=>intro i x y;omega
 | succ m A =>
  intro i x y;simp only[q8,Bg];by_cases b:i<L.length
  ·have h:=fun w c=>(mH L w c).1;have f:=aek d.1 h g;have u:=Nw b;obtain⟨k,t⟩:∃k,L.length-i=k+1:=⟨L.length-i-1,by omega⟩;have c:=mH L ((bX L).getD i default) (by rw[bR (by rw[fM];exact b)];exact ob _);have j:=Xs d.1 d.2 c.1 c.2;rw[dh (by omega),cD (by omega),eN];simp only[iG,sb];have e:min (max (L.getD i default) 0) 2147483647=(bX L).getD i default:=by rw[u];rfl
   rw[e,bL (n:=T*(bX L).getD i default) (by omega) (by omega)];have z:(sm (bX L) != 0)=true:=by simp;omega
   rw[z,ba,ba];have o:(((bX L).take i).map (q T (sm (bX L)))++List.replicate (L.length-i) 0).length=L.length:=by simp[fM];omega
   have C:(((bX L).take i).map (r T (sm (bX L)))++List.replicate (L.length-i) 0).length=L.length:=by simp[fM];omega
   have D:(idx i++List.replicate (L.length-i) 0).length=L.length:=by simp[ut];omega
   rw[o,C,D,cD (by omega),cD (by omega),cD (by omega)];simp only[akz];rw[o,cD (by omega),t];have l:i=(((bX L).take i).map (q T (sm (bX L)))).length:=by simp[fM];omega
   have B:i=(((bX L).take i).map (r T (sm (bX L)))).length:=by simp[fM];omega
   rw[BO l,BO B,BO (ut i).symm,Y6 l];have G:=Cz g d.1 c.1 (wW _ h _ (by rw[bR (by rw[fM];exact b)];exact ob _));have s:aa (Int.tdiv (T*(bX L).getD i default) (sm (bX L)))=q T (sm (bX L)) ((bX L).getD i default):=by
    rw[akD j.1];exact bL (by show _≤q _ _ _;omega) (by show q _ _ _≤_;omega)
   have v:Int.tmod (T*(bX L).getD i default) (sm (bX L))=r T (sm (bX L)) ((bX L).getD i default):=by
    rw[alF j.1];rfl
   rw[s,v,← EU _ (by rw[fM];exact b),← EU _ (by rw[fM];exact b),← KE];have p:aa (T-sm (((bX L).take i).map (q T (sm (bX L))))-q T (sm (bX L)) ((bX L).getD i default))=T-sm (((bX L).take (i+1)).map (q T (sm (bX L)))):=by
    rw[EU _ (by rw[fM];exact b),lD];simp only[sm];have E:=f i;rw[bL (by omega) (by omega)];omega
   rw[p,wn (n:=(i:Int)+1) (k:=i+1) (by omega) (by omega)];have:=A (i+1) (by omega) (by omega);rw[show L.length-(i+1)=k by omega]at this;exact this
  ·have:i=L.length:=by omega
   subst this;rw[dd (by omega)];have e:(bX L).take L.length=bX L:=Dz (by rw[fM];omega);rw[e];simp only[ams,alB,List.append_nil];rfl
theorem ahX(l:ck)(q:l.length≤19):∀(m i:Nat) (p:ck),i≤l.length→l.length<m+i→(∀x∈l,0≤x∧x.toNat<p.length)→(∀x∈p,0≤x∧x+l.length≤4611686018427387904+i) →
  qn K n m l (l.length:Int) (i:Int) p=some (inc p (l.drop i)):=by
 intro m
 induction m with
 | zero=>intro i p e f;omega
 | succ m o =>
  intro i p e f d c;simp only[qn,xx];by_cases a:i<l.length
  ·have g:=d (l.getD i default) (by rw[bR a];exact ob _);have j:=c (p.getD (l.getD i default).toNat default) (by rw[bR g.2];exact ob _);rw[dh (by omega),cD (by omega),eN,cD (by omega),cD (by omega),wn (n:=(i:Int)+1) (k:=i+1) (by omega) (by omega),bL (by omega) (by omega)];rw[o (i+1) _ (by omega) (by omega) (by simpa using d) (fun x b=>by
    rcases alM b with h|h
    ·have:=c x h;omega
    ·subst h;omega)]
   rw[ls a,← bR a];rfl
  ·rw[dd (by omega),l3 (by omega)];rfl
theorem J7 rs m:QSort.vF (KN (m+1)) (Fv.c165 rs) (fun a=>0≤a∧a<rs.length) (key rs):=by
 refine⟨fun a b d e=>?_⟩;show ∃c,AG (KN m) m a b rs=some c∧_;unfold AG;rw[cD e,cD d]
 grind[t6,rP,sb,key]
theorem sorted rs{lvl n}(h:10001<n)(i:rs.length≤19)(g:20010≤lvl):∃d,Ord rs d∧lJ (KN lvl) n (idx rs.length) (Fv.c165 rs)=some d:=by
 obtain⟨d,b,c,e⟩:=QSort.LK (c0:=1) (f:=Fv.c165 rs) (D:=fun a=>0≤a∧a<rs.length) (key:=key rs) (fun m j=>by
  obtain⟨k,rfl⟩:∃k,m=k+1:=⟨m-1,by omega⟩
  grind[J7]) (lvl:=lvl) (n:=n) (idx rs.length) h (by grind[ut]) (Oj _) (fun x l=>by
   grind[FS]) (by grind[ut])
 exact⟨d,⟨b,c⟩,e⟩
theorem W2{a b:Int}{n:Nat}(c:0≤a)(d:a≤b)(e:b≤n):cQ a b n=true:=by grind[cQ]
theorem IS{n b:Nat}(h:n*b≤140737488355328)(a:n≤4611686018427387904):fA n b=true:=by
 grind[fA]
theorem mF{lvl n:Nat}(T:Int)(L:ck)(c:L.length≤19)(u:10001<n)(g:20010≤lvl):AM (KN lvl) n T L=some (share (dw T mx) (bX L)):=by
 unfold AM;have o:0≤dw T mx∧dw T mx≤2147483647:=jd (m:=mx) (by decide);simp only[iG,sb,IS (show L.length*8≤140737488355328 by omega) (by omega),ba,eN];have l:=agR (K:=KN lvl) (n:=n) L (dw T mx) (List.replicate L.length 0) (List.replicate L.length 0) (List.replicate L.length 0) c n 0 (by omega) (by omega);rw[show sm ((bX L).take 0)=0 from rfl,show((0:Nat):Int)=0 from rfl]at l;rw[show min (max T 0) 2147483647=dw T mx from rfl,l];have v:=Ll c;by_cases i:sm (bX L)=0
 ·rw[lc (by simp[i])];unfold share;rw[lc i,fM]
 ·rw[kb (by simp[i])];have f:0<sm (bX L):=by omega
  have e:=abA (K:=KN lvl) (n:=n) L (dw T mx) o c f n 0 (by omega) (by omega);simp only[akw,yk,Db,akG,sm,Int.sub_zero,show idx 0=[] from rfl]at e;rw[show((0:Nat):Int)=0 from rfl]at e;rw[e];obtain⟨d,j,p⟩:=sorted ((bX L).map (r (dw T mx) (sm (bX L)))) (lvl:=lvl) (n:=n) u (by simp[fM,c]) g;rw[nx,fM]at p;rw[p,sb];have s:d.length=L.length:=by rw[j.len,nx,fM]
  have a:=Ib (dw T mx) (bX L) f;rw[fM]at a;rw[W2 (by omega) a.1 (by rw[s];exact a.2),ba];rw[show(0:Int).toNat=0 from rfl,List.drop_zero];rw[aak (dw T mx) (bX L) d (fun w b=>(mH L w b).1) (by omega) j];have:=ahX (K:=KN lvl) (n:=n) (d.take (left (dw T mx) (bX L)).toNat) (by simp;omega) n 0 ((bX L).map (q (dw T mx) (sm (bX L)))) (by omega) (by simp;omega) (fun x h=>by
   obtain⟨k,t,rfl⟩:=j.mem.1 (wl h);simp at t;simp;omega) (fun x h=>by
   obtain⟨w,b,rfl⟩:=BY.1 h;have:=Cz f o.1 (mH L w b).1 (wW _ (fun w b=>(mH L w b).1) w b);have y:(d.take (left (dw T mx) (bX L)).toNat).length≤10000:=by simp;omega
   omega)
  rw[show((0:Nat):Int)=0 from rfl,List.drop_zero]at this;exact this
end Sh
namespace Sh
theorem Mt{T:Int}{W:ck}(a:sm W≠0){k:Nat}(b:k<W.length):(share T W).getD k default=part T W k:=by
 rw[bR (by rw[wa];exact b)];unfold share;simp[a]
theorem Ip{T:Int}{W:ck}(a:sm W=0):share T W=List.replicate W.length 0:=by unfold share;rw[lc a]
theorem aiI{T:Int}{W:ck}(a:∀w∈W,0≤w)(d:0≤T)(c:0<sm W){k:Nat}(e:k<W.length):0≤part T W k∧part T W k≤T+1:=by
 have b:W.getD k default∈W:=by rw[bR e];exact ob _
 have:=Cz c d (a _ b) (wW W a _ b);unfold part;split<;>omega
end Sh
namespace Rs
open Sh (share bX dw mx q r left nP part)
def aux(T S l:Int):ck→ck→ck
 | _,[]=>[]
 | A,w::B=>(q T S w+if 0<r T S w∧((A.countP (fun x=>decide (r T S w≤r T S x))+B.countP (fun x=>decide (r T S w<r T S x)):Nat):Int)<l then 1 else 0)::aux T S l (A++[w]) B
theorem QW(T S l:Int):∀(B A:ck),(aux T S l A B).length=B.length
 | [],A=>rfl
 | w::B,A=>by simp[aux,QW T S l B]
theorem RJ(T S l:Int):∀(B A:ck) (k:Nat),k<B.length→(aux T S l A B).getD k default=q T S (B.getD k default)+if 0<r T S (B.getD k default)∧(((A++B.take k).countP (fun x=>decide (r T S (B.getD k default)≤r T S x))+(B.drop (k+1)).countP (fun x=>decide (r T S (B.getD k default)<r T S x)):Nat):Int)<l then 1 else 0
 | [],A,k,h=>by simp at h
 | w::B,A,0,h=>by simp[aux]
 | w::B,A,k+1,h=>by
  have:=RJ T S l B (A++[w]) k (by simpa using h);simp only[aux,ak3,this,List.take_succ_cons,amh,tl,aiO]
theorem K7(T:Int)(W:ck)(d:sm W≠0):share T W=aux T (sm W) (left T W) [] W:=by
 refine ak2 (by rw[Sh.wa,QW]) (fun k a c=>?_);have b:k<W.length:=by rw[Sh.wa]at a;exact a
 rw[←bR a,← bR c,Sh.Mt d b,RJ _ _ _ _ _ _ b];rfl
def zo(a:List (Option Int)):ck:=a.map fun o=>o.getD 0
def op(a:List (Option Int)):ck:=a.filterMap id
def pick:List (Option Int)→ck→ck
 | some _::a,p::P=>p::pick a P
 | none::a,_::P=>pick a P
 | _,_=>[]
theorem sE:∀a:List (Option Int),sm (zo a)=sm (op a)
 | []=>rfl
 | some w::a=>by have:=sE a;simp only[zo,op]at *;simp[sm,this]
 | none::a=>by have:=sE a;simp only[zo,op]at *;simp[sm,this]
theorem Ws(T S:Int):q T S 0=0:=by simp[q]
theorem K3(T S:Int):r T S 0=0:=by simp[r]
theorem EH(T S:Int):∀a:List (Option Int),sm ((zo a).map (q T S))=sm ((op a).map (q T S))
 | []=>rfl
 | some w::a=>by
  have:=EH T S a;have b:zo (some w::a)=w::zo a:=rfl;have c:op (some w::a)=w::op a:=rfl;rw[b,c,q6,q6,sm,sm,this]
 | none::a=>by
  have:=EH T S a;have b:zo (none::a)=0::zo a:=rfl;have c:op (none::a)=op a:=rfl;rw[b,c,q6,sm,this,Ws];omega
theorem E5(p:Int→Bool)(b:p 0=false):∀a:List (Option Int),(zo a).countP p=(op a).countP p
 | []=>rfl
 | some w::a=>by have:=E5 p b a;simp only[zo,op]at *;simp[akS,this]
 | none::a=>by have:=E5 p b a;simp only[zo,op]at *;simp[akS,this,b]
theorem EO(T S l:Int):∀(a:List (Option Int)) (A b:ck),(∀x,0<x→A.countP (fun y=>decide (x≤r T S y))=b.countP (fun y=>decide (x≤r T S y))) →
  pick a (aux T S l A (zo a))=aux T S l b (op a)
 | [],A,b,h=>rfl
 | some w::a,A,b,h=>by
  have i:=EO T S l a (A++[w]) (b++[w]) (fun x g=>by rw[ahp,ahp,h x g]);have c:zo (some w::a)=w::zo a:=rfl;have d:op (some w::a)=w::op a:=rfl;rw[c,d];simp only[aux,pick,i];congr 2;by_cases f:0<r T S w
  ·rw[h _ f,E5 _ (by simp[K3];omega)]
  ·rw[kb (fun e=>f e.1),kb (fun e=>f e.1)]
 | none::a,A,b,h=>by
  have i:=EO T S l a (A++[0]) b (fun x g=>by
   rw[ahp,h x g];simp[K3];omega)
  have c:zo (none::a)=0::zo a:=rfl;have d:op (none::a)=op a:=rfl;rw[c,d];simp only[aux,pick,i]
theorem Ge:∀a:List (Option Int),pick a (List.replicate a.length 0)=List.replicate (op a).length 0
 | []=>rfl
 | some w::a=>by simp[pick,op,alC];exact Ge a
 | none::a=>by simp[pick,op,alC];exact Ge a
theorem abm(T:Int)(a:List (Option Int)):pick a (share T (zo a))=share T (op a):=by
 by_cases b:sm (zo a)=0
 ·rw[Sh.Ip b,Sh.Ip (by rw[←sE];exact b)];have:(zo a).length=a.length:=by simp[zo]
  rw[this];exact Ge a
 ·rw[K7 T _ b,K7 T _ (by rw[←sE];exact b)];have e:left T (zo a)=left T (op a):=by unfold left;rw[EH,sE]
  rw[e,sE];exact EO T _ _ a [] [] (fun _ _=>rfl)
def mg(g:Bool)(a:bC):Int:=if g=true then a.Grow else a.Shrink
def oo(g:Bool)(a:bC):Int:=if g=true then a.Grow else a.aA*a.Shrink / 1000
abbrev It:=bC×Option Int
def fP(p:It):Int:=p.2.getD p.1.aA
def gk(g:Bool)(p:It):Option Int:=if p.2.isSome=true then none else some (oo g p.1)
def eV(g:Bool)(M:List It):Int:=sm (M.map fun p=>if p.2.isSome=true then 0 else mg g p.1)
def room(g:Bool)(sp:Int)(M:List It):Int:=max (if g=true then sp-sm (M.map fP) else-(sp-sm (M.map fP))) 0
def oO(g:Bool)(sp:Int)(M:List It):Int:=if eV g M<1000 then room g sp M*eV g M / 1000 else room g sp M
def parts(g:Bool)(sp:Int)(M:List It):ck:=share (dw (oO g sp M) mx) (bX (zo (M.map (gk g))))
def ns(g:Bool)(a:bC)(p:Int):Int:=if g=true then a.aA+p else a.aA-p
def cl(a:bC)(n:Int):Int:=min (max n a.Min) a.Max
def ml(g:Bool)(p:It)(x:Int):Int:=if p.2.isSome=true then 0 else cl p.1 (ns g p.1 x)-ns g p.1 x
def change(g:Bool)(sp:Int)(M:List It):Int:=sm (List.zipWith (ml g) M (parts g sp M))
def k7(c n l:Int):Bool:=decide (c=0∨(0<c∧n<l)∨(c<0∧l<n))
def gh(g:Bool)(c:Int)(p:It)(x:Int):It:=if p.2.isSome=true then p else if k7 c (ns g p.1 x) (cl p.1 (ns g p.1 x))=true then (p.1,some (cl p.1 (ns g p.1 x))) else p
def round(g:Bool)(sp:Int)(M:List It):List It:=List.zipWith (gh g (change g sp M)) M (parts g sp M)
def opens(M:List It):Nat:=M.countP fun p=>!p.2.isSome
def run(g:Bool)(sp:Int):Nat→List It→List It
 | 0,M=>M
 | k+1,M=>if opens M=0 then M else run g sp k (round g sp M)
def dq(x:bC):bC:=⟨dw x.aA 1048576,dw x.Grow 1048576,dw x.Shrink 1048576,dw x.Min 1048576,max (dw x.Max 1048576) (dw x.Min 1048576)⟩
def hyp(x:bC):Int:=cl (dq x) (dq x).aA
def lK(l:ek)(sp:Int):Bool:=decide (sm (l.map hyp)<sp)
def jh(g:Bool)(a:bC)(s:Int):Bool:=if g=true then decide (a.Grow=0∨a.aA>s) else decide (a.Shrink=0∨a.aA<s)
def start(g:Bool)(l:ek):List It:=l.map fun x=>(dq x,if jh g (dq x) (hyp x)=true then some (hyp x) else none)
def fW(M:List It):ck:=M.map fun p=>p.2.getD 0
def resolve(l:ek)(sp:Int):ck:=fW (run (lK l sp) sp l.length (start (lK l sp) l))
structure lU(p:It):Prop where
 b:0≤p.1.aA∧p.1.aA≤1048576
 g:0≤p.1.Grow∧p.1.Grow≤1048576
 s:0≤p.1.Shrink∧p.1.Shrink≤1048576
 l:0≤p.1.Min∧p.1.Min≤p.1.Max∧p.1.Max≤1048576
 z:∀n,p.2=some n→p.1.Min≤n∧n≤p.1.Max
def Ok(M:List It):Prop:=∀p∈M,lU p
theorem jd(n:Int):0≤dw n 1048576∧dw n 1048576≤1048576:=Sh.jd (by omega)
theorem JE(x:bC)(o:Option Int)(h:o=none∨o=some (hyp x)):lU (dq x,o):=by
 have b:=jd x.aA;have c:=jd x.Grow;have d:=jd x.Shrink;have e:=jd x.Min;have f:=jd x.Max;refine⟨b,c,d,by simp only[dq];omega,fun n a=>?_⟩;rcases h with rfl|rfl
 ·cases a
 ·injection a with a;subst a
  simp only[hyp,cl,dq];omega
theorem akc(g:Bool)(l:ek):Ok (start g l):=by
 intro p a;obtain⟨x,_,rfl⟩:=BY.1 a;refine JE x _ ?_;split<;>simp
theorem B7{p:It}(h:lU p)(n:Int):p.1.Min≤cl p.1 n∧cl p.1 n≤p.1.Max:=by have:=h.l;unfold cl;omega
theorem aha{g:Bool}{c:Int}{p:It}(h:lU p)(x:Int):lU (gh g c p x):=by
 unfold gh;split
 ·exact h
 ·split
  ·refine⟨h.b,h.g,h.s,h.l,fun n a=>?_⟩;injection a with a;subst a;exact B7 h _
  ·exact h
theorem C8(g:Bool)(sp:Int)(M:List It):(parts g sp M).length=M.length:=by unfold parts;rw[Sh.wa,Sh.fM];simp[zo]
theorem mM(g:Bool)(sp:Int)(M:List It):(round g sp M).length=M.length:=by unfold round;rw[alD,C8];omega
theorem H6(g:Bool)(sp:Int)(M:List It){k:Nat}(a:k<M.length):(round g sp M)[k]'(by rw[mM];exact a)=gh g (change g sp M) M[k] ((parts g sp M).getD k default):=by
 unfold round;rw[alr,bR (by rw[C8];exact a)]
theorem Yu{g:Bool}{sp:Int}{M:List It}(h:Ok M):Ok (round g sp M):=by
 intro p c;obtain⟨k,b,e⟩:=alz c;have a:k<M.length:=by rw[mM]at b;exact b
 rw[H6 g sp M a]at e;subst e;exact aha (h _ (ob _)) _
theorem Qq{g:Bool}{sp:Int}:∀(k:Nat) (M:List It),(run g sp k M).length=M.length
 | 0,M=>rfl
 | k+1,M=>by
  unfold run;split
  ·rfl
  ·rw[Qq k,mM]
theorem IV(l:ek)(sp:Int):(resolve l sp).length=l.length:=by simp[resolve,fW,Qq,start]
theorem MZ(g:Bool)(c:Int):∀(M:List It) (P:ck),M.length=P.length→opens (List.zipWith (gh g c) M P)≤opens M ∧
  ((∃k,∃h:k<M.length,∃f:k<P.length,M[k].2.isSome=false∧k7 c (ns g M[k].1 P[k]) (cl M[k].1 (ns g M[k].1 P[k]))=true)→opens (List.zipWith (gh g c) M P)<opens M)
 | [],P,_=>⟨by simp[opens],fun⟨k,h,_⟩=>by simp at h⟩
 | p::M,[],h=>by simp at h
 | p::M,x::P,h=>by
  have m:=MZ g c M P (by simpa using h);have d:opens (p::M)=opens M+(if (!p.2.isSome)=true then 1 else 0):=by simp[opens,akS]
  have e:opens (List.zipWith (gh g c) (p::M) (x::P))=opens (List.zipWith (gh g c) M P)+(if (!(gh g c p x).2.isSome)=true then 1 else 0):=by simp[opens,akS]
  have n:(if (!(gh g c p x).2.isSome)=true then 1 else 0)≤(if (!p.2.isSome)=true then 1 else 0):=by
   unfold gh;by_cases j:p.2.isSome=true
   ·rw[lc j];exact ll _
   ·rw[kb j];by_cases i:k7 c (ns g p.1 x) (cl p.1 (ns g p.1 x))=true
    ·rw[lc i];simp
    ·rw[kb i];exact ll _
  refine⟨by rw[d,e];omega,fun⟨k,l,f,a,b⟩=>?_⟩;cases k with
  | zero =>
   simp only[List.getElem_cons_zero]at a b;have:(if (!(gh g c p x).2.isSome)=true then 1 else 0)=0:=by
    have:gh g c p x=(p.1,some (cl p.1 (ns g p.1 x))):=by unfold gh;rw[kb (by rw[a];simp),lc b]
    rw[this];rfl
   rw[d,e,this,a];simp;omega
  | succ k =>
   simp only[List.getElem_cons_succ]at a b;have:=m.2 ⟨k,by simpa using l,by simpa using f,a,b⟩;rw[d,e];omega
theorem Lb:∀L:ck,0<sm L→∃k,∃h:k<L.length,0<L[k]
 | [],h=>by simp[sm]at h
 | x::L,h=>by
  simp only[sm]at h;by_cases c:0<x
  ·exact⟨0,by simp,c⟩
  ·obtain⟨k,b,a⟩:=Lb L (by omega);exact⟨k+1,by simpa using b,by simpa using a⟩
theorem Rt:∀L:ck,sm L<0→∃k,∃h:k<L.length,L[k]<0
 | [],h=>by simp[sm]at h
 | x::L,h=>by
  simp only[sm]at h;by_cases c:x<0
  ·exact⟨0,by simp,c⟩
  ·obtain⟨k,b,a⟩:=Rt L (by omega);exact⟨k+1,by simpa using b,by simpa using a⟩
theorem MC{g:Bool}{sp:Int}{M:List It}(h:opens M≠0):opens (round g sp M)<opens M:=by
 have e:=C8 g sp M;refine (MZ g (change g sp M) M (parts g sp M) e.symm).2 ?_;rcases Int.lt_trichotomy (change g sp M) 0 with d|d|d
 ·obtain⟨k,b,a⟩:=Rt _ d;simp only[alD,e,Nat.min_self]at b;rw[alr]at a;unfold ml at a;by_cases c:M[k].2.isSome=true
  ·rw[lc c]at a;omega
  ·rw[kb c]at a;refine⟨k,b,by omega,by simpa using c,?_⟩;unfold k7;rw[q7];omega
 ·have:0<opens M:=by omega
  obtain⟨p,f,a⟩:=List.countP_pos_iff.1 this;obtain⟨k,b,rfl⟩:=alz f;refine⟨k,b,by omega,by simpa using a,?_⟩;unfold k7;rw[q7];omega
 ·obtain⟨k,b,a⟩:=Lb _ d;simp only[alD,e,Nat.min_self]at b;rw[alr]at a;unfold ml at a;by_cases c:M[k].2.isSome=true
  ·rw[lc c]at a;omega
  ·rw[kb c]at a;refine⟨k,b,by omega,by simpa using c,?_⟩;unfold k7;rw[q7];omega
theorem T6(M:List It):opens M≤M.length:=List.countP_le_length
theorem yp{g:Bool}{sp:Int}{M:List It}(h:opens M=0):∀k,run g sp k M=M
 | 0=>rfl
 | k+1=>by unfold run;rw[lc h]
theorem Nz{g:Bool}{sp:Int}:∀(k j:Nat) (M:List It),opens M≤k→opens M≤j→run g sp k M=run g sp j M
 | 0,j,M,h,_=>by rw[yp (by omega),yp (by omega)]
 | k+1,0,M,_,h=>by rw[yp (by omega),yp (by omega)]
 | k+1,j+1,M,h,b=>by
  unfold run;split
  ·rfl
  ·rename_i a;have:=MC (g:=g) (sp:=sp) a;exact Nz k j _ (by omega) (by omega)
end Rs
namespace Rs
open Sh (share bX dw mx kj mw)
open QSort (wn cD dh dd sb)
instance:Inhabited It:=⟨(default,none)⟩
def O(M:List It)(n:Nat):ck:=((List.range n).filter fun k=>!(M.getD k default).2.isSome).map fun (k:Nat)=>k
theorem J8 M:O M 0=[]:=rfl
theorem zr M n:O M (n+1)=O M n++if (M.getD n default).2.isSome=true then [] else [(n:Int)]:=by
 unfold O;rw[alA,alI,IF]
 grind
theorem Jf{M}{n}{x}:x∈O M n↔∃k:Nat,k<n∧x=k∧(M.getD k default).2.isSome=false:=by
 grind[O]
theorem Dm M n:(O M n).length≤n:=by
 grind[O]
theorem aeA M n:(O M n).Pairwise (· < ·):=by
 unfold O;rw[alR];refine alf (fun h=>?_) (amb _ alc);omega
theorem Sm{M}{k}(a:k<(O M M.length).length):∃j:Nat,(O M M.length).getD k default=j∧j<M.length∧(M.getD j default).2.isSome=false:=by
 have b:(O M M.length).getD k default∈O M M.length:=by grind
 grind[Jf]
theorem FY:∀(a:List (Option Int)) (P:ck) (o:Option Int) (p:Int),a.length=P.length→pick (a++[o]) (P++[p])=pick a P++if o.isSome=true then [p] else []
 | [],[],o,p,_=>by cases o<;>simp[pick]
 | [],_::_,o,p,h=>by grind
 | _::_,[],o,p,h=>by grind
 | none::a,x::P,o,p,h=>by
  have:=FY a P o p (by grind)
  grind[pick]
 | some w::a,x::P,o,p,h=>by
  have:=FY a P o p (by grind)
  grind[pick]
theorem agq g p:(gk g p).isSome=!p.2.isSome:=by grind[gk]
theorem iM{α:Type}[Inhabited α]{L:List α}{n}(h:n<L.length):L.take (n+1)=L.take n++[L.getD n default]:=by
 simp_all
theorem NY(g:Bool)(M:List It)(P:ck)(a:P.length=M.length):∀n,n≤M.length→pick ((M.take n).map (gk g)) (P.take n)=(O M n).map fun j=>P.getD j.toNat default
 | 0,_=>by simp[pick,J8]
 | n+1,h=>by
  rw[iM (show n<M.length by omega),iM (show n<P.length by omega),IF,q6,yk,FY _ _ _ _ (by simp;omega),NY g M P a n (by omega),zr,IF,agq];congr 1;cases (M.getD n default).2.isSome<;>simp
theorem OH(g:Bool)(M:List It){n}(h:n<M.length):op ((M.take (n+1)).map (gk g))=op ((M.take n).map (gk g))++if (M.getD n default).2.isSome=true then [] else [oo g (M.getD n default).1]:=by
 grind[iM,op,gk]
theorem H0 g M:∀n,n≤M.length→(op ((M.take n).map (gk g))).length=(O M n).length
 | 0,_=>by rfl
 | n+1,h=>by
  rw[OH g M (by omega),zr,nw,nw,H0 g M n (by omega)]
  grind
theorem Oc(f:It→Int)(M:List It){n:Nat}(h:n<M.length):sm ((M.take (n+1)).map f)=sm ((M.take n).map f)+f (M.getD n default):=by
 rw[iM h,IF,lD];simp[sm]
theorem O2(F:Nat→Int)(M:List It)(h:∀k,(M.getD k default).2.isSome=true→F k=0):∀n,sm ((List.range n).map F)=sm ((O M n).map fun j=>F j.toNat)
 | 0=>by simp[J8]
 | n+1=>by
  rw[alA,IF,lD,O2 F M h n,zr,IF,lD];congr 1;cases a:(M.getD n default).2.isSome
  ·simp[sm]
  ·simp[sm,h n a]
theorem Wb g sp M:change g sp M=sm ((O M M.length).map fun j=>ml g (M.getD j.toNat default) ((parts g sp M).getD j.toNat default)):=by
 rw[←O2 (fun k=>ml g (M.getD k default) ((parts g sp M).getD k default)) M (fun k c=>by grind[ml]) M.length];unfold change;congr 1;refine ak2 (by simp[C8]) (fun k a b=>?_)
 grind
theorem aj3 g(M:List It){n}(h:n<M.length):eV g (M.take (n+1))=eV g (M.take n)+if (M.getD n default).2.isSome=true then 0 else mg g (M.getD n default).1:=Oc _ M h
variable{g:Bool}{M:List It}
theorem Ok.at(h:Ok M){k}(a:k<M.length):lU (M.getD k default):=by rw[bR a];exact h _ (ob _)
theorem ae0{p}(h:lU p):0≤fP p∧fP p≤1048576:=by
 unfold fP;have:=h.b;have:=h.l;cases a:p.2 with
 | none=>grind
 | some n=>have:=h.z n a;grind
theorem Wg{p}(h:lU p):0≤mg g p.1∧mg g p.1≤1048576:=by unfold mg;have:=h.g;have:=h.s;omega
theorem Ke{p}(h:lU p):0≤oo g p.1∧oo g p.1≤1099511628:=by
 unfold oo;have b:=h.b;have c:=h.g;have a:=h.s;have:0≤p.1.aA*p.1.Shrink∧p.1.aA*p.1.Shrink≤1048576*1048576:=⟨akx b.1 a.1,akZ b.2 a.2 a.1 (by omega)⟩;omega
theorem Ru{c}(a:0≤c) f(d:∀p∈M,0≤f p∧f p≤c) n(e:M.length≤19):0≤sm ((M.take n).map f)∧sm ((M.take n).map f)≤1000*c:=by
 refine⟨kj _ (fun x b=>?_),?_⟩
 ·grind
 ·have:=mw (c:=c) ((M.take n).map f) (fun x b=>by grind);refine Int.le_trans this (alk ?_ a)
  grind
theorem Ee(h:Ok M)(a:M.length≤19) n:0≤sm ((M.take n).map fP)∧sm ((M.take n).map fP)≤1048576000:=by
 have:=Ru (M:=M) (c:=1048576) (by omega) fP (fun p b=>ae0 (h p b)) n a;omega
theorem Gg(h:Ok M)(a:M.length≤19) n:0≤eV g (M.take n)∧eV g (M.take n)≤1048576000:=by
 have:=Ru (M:=M) (c:=1048576) (by omega) (fun p=>if p.2.isSome=true then 0 else mg g p.1) (fun p b=>by
  have:=Wg (g:=g) (h p b);omega) n a
 grind[eV]
theorem me{α:Type}(L:List α):L.take L.length=L :=by grind
theorem ah8(h:Ok M)(a:M.length≤19){sp}(b : -1125899906842624≤sp∧sp≤1125899906842624):0≤room g sp M∧room g sp M≤1125900955418624:=by
 have:=Ee h a M.length
 grind[me,room]
theorem ae2(a f:Int):a / 1000*f+a % 1000*f / 1000=a*f / 1000:=by
 have h:a*f=1000*(a / 1000*f)+a % 1000*f:=by
  grind
 omega
theorem aeK{w}(h:Ok M)(c:w∈zo (M.map (gk g))):0≤w∧w≤1099511628:=by
 obtain⟨o,a,rfl⟩:=BY.1 c;obtain⟨p,b,rfl⟩:=BY.1 a;unfold gk;have:=Ke (g:=g) (h p b)
 grind
theorem QH{L}(h:∀w∈L,0≤w∧w≤2147483647):bX L=L:=by
 conv=>rhs;rw[←List.map_id L]
 refine ami (fun w a=>?_);unfold Sh.dw Sh.mx;grind
theorem aeb{w}(h:Ok M)(c:w∈op (M.map (gk g))):0≤w∧w≤1099511628:=by
 obtain⟨o,a,e⟩:=alH.1 c;obtain⟨p,b,rfl⟩:=BY.1 a;unfold gk at e;have:=Ke (g:=g) (h p b)
 grind
theorem ahI(h:Ok M) sp:share (dw (oO g sp M) mx) (bX (op (M.map (gk g))))=(O M M.length).map fun j=>(parts g sp M).getD j.toNat default:=by
 rw[QH (fun w a=>by have:=aeb h a;omega),← abm];unfold parts;rw[QH (fun w a=>by have:=aeK h a;omega)];have:=NY g M (share (dw (oO g sp M) mx) (zo (M.map (gk g)))) (by rw[Sh.wa];simp[zo]) M.length (by omega);rw[me,Dz (by rw[Sh.wa];simp[zo])]at this
 grind
theorem YE{T}{W}(b:∀w∈W,0≤w)(d:0≤T){k}(c:k<W.length):0≤(share T W).getD k default∧(share T W).getD k default≤T+1:=by
 by_cases a:sm W=0
 ·rw[Sh.Ip a,bR (by grind)]
  grind
 ·rw[Sh.Mt a c];exact Sh.aiI b d (by have:=kj W b;omega) c
theorem L0(h:Ok M) sp{k}(c:k<M.length):0≤(parts g sp M).getD k default∧(parts g sp M).getD k default≤2147483648:=by
 have a:=Sh.jd (n:=oO g sp M) (m:=mx) (by decide);have:=YE (T:=dw (oO g sp M) mx) (W:=bX (zo (M.map (gk g)))) (fun w b=>(Sh.mH _ w b).1) a.1 (k:=k) (by rw[Sh.fM];grind[zo]);unfold parts;unfold Sh.mx at *;omega
theorem Oe{p}(h:lU p){x}(a:0≤x∧x≤2147483648): -2147483648≤ns g p.1 x∧ns g p.1 x≤2148532224:=by
 have:=h.b
 grind[ns]
structure Rl g(p:It)(x:aZ):Prop where
 it:x.Item=p.1
 f:x.factor=mg g p.1
 w:x.weight=oo g p.1
 fx:x.fixed=p.2.isSome
 s:∀n,p.2=some n→x.size=n
structure aU g(M:List It)(L:ed):Prop where
 len:L.length=M.length
 at_:∀k,k<M.length→Rl g (M.getD k default) (L.getD k default)
def gz(g:Bool):Int:=if g=true then 1 else -1
variable{K:Kn}{n:Nat}{L:ed}
theorem S8{a b}(h:a≤1001)(d:b≤1000)(c:0<b):fits a b=true:=db (RX (Nat.mul_le_mul h d) (by grind)) c
theorem ajF(b:Ok M)(t:aU g M L)(c:M.length≤19){sp:Int}(B : -1125899906842624≤sp∧sp≤1125899906842624):∀(m i:Nat),i≤M.length→M.length<m+i →
  uF K n L (gz g) m (sp-sm ((M.take i).map fP)) (eV g (M.take i)) (i:Int) (O M i) (op ((M.take i).map (gk g)))=if (O M M.length).length=0 then some (false,L) else vu K n L (gz g) (O M M.length) (op (M.map (gk g))) (oO g sp M):=by
 intro m
 induction m with
 | zero=>intro i y A;omega
 | succ m u =>
  intro i y A;simp only[uF,ze,t.len];by_cases f:i<M.length
  ·have h:=t.at_ i f;have F:=b.at f;have v:=Ee b c i;have G:=Ee b c (i+1);have e:=Gg (g:=g) b c i;have E:=Gg (g:=g) b c (i+1);have r:=Oc fP M f;have s:=aj3 g M f;have k:=OH g M f;have l:=zr M i;have H:=Dm M i;have pl:=H0 g M i (by omega);rw[dh (by omega),cD (by omega),eN,h.fx];simp only[z7];have C:aa ((i:Int)+1)=((i+1:Nat):Int):=wn (by omega) (by omega);rw[C,h.it,h.f,h.w];cases j:(M.getD i default).2 with
   | some z =>
    simp only[j,Option.isSome_some,zt,List.append_nil]at s k l⊢;rw[h.s z j];have p:fP (M.getD i default)=z:=by unfold fP;rw[j];rfl
    rw[p]at r;rw[bL (by omega) (by omega),show sp-sm ((M.take i).map fP)-z=sp-sm ((M.take (i+1)).map fP) by omega,show eV g (M.take i)=eV g (M.take (i+1)) by omega,← k,← l];exact u (i+1) (by omega) (by omega)
   | none =>
    simp only[j,Option.isSome_none,iO,qv]at s k l⊢;have p:fP (M.getD i default)=(M.getD i default).1.aA:=by unfold fP;rw[j];rfl
    rw[p]at r;simp only[sb];rw[S8 (by simp only[lp,th];omega) (by omega) (by omega),S8 (by simp only[lp,th];omega) (by omega) (by omega),ba,ba,bL (by omega) (by omega),bL (by omega) (by omega),
     show sp-sm ((M.take i).map fP)-(M.getD i default).1.aA=sp-sm ((M.take (i+1)).map fP) by omega,show eV g (M.take i)+mg g (M.getD i default).1=eV g (M.take (i+1)) by omega,← k,← l]
    exact u (i+1) (by omega) (by omega)
  ·obtain rfl:i=M.length:=by omega
   rw[dd (by omega),me];have v:=Ee b c M.length;have e:=Gg (g:=g) b c M.length;rw[me]at v e;have a:=ah8 (g:=g) b c B;have x:max (aa ((sp-sm (M.map fP))*gz g)) 0=room g sp M:=by
    unfold room gz;cases g
    ·simp only[iO,qv];rw[bL (by omega) (by omega)];omega
    ·simp only[zt];rw[bL (by omega) (by omega)];omega
   rw[x];by_cases q:(O M M.length).length=0
   ·rw[lc q,lc (by simp[q])]
   ·rw[kb q,kb (by rw[agA];omega)];unfold oO;by_cases o:eV g M<1000
    ·rw[dh o,lc o];have d:=ae2 (room g sp M) (eV g M);have D:0≤room g sp M / 1000*eV g M∧room g sp M / 1000*eV g M≤1125900955419*1000:=⟨akx (by omega) e.1,akZ (by omega) (by omega) e.1 (by omega)⟩;have w:0≤room g sp M % 1000*eV g M∧room g sp M % 1000*eV g M≤1000*1000:=⟨akx (by omega) e.1,akZ (by omega) (by omega) e.1 (by omega)⟩;rw[akD a.1,alF a.1];rw[bL (n:=room g sp M / 1000) (by omega) (by omega),bL (n:=room g sp M / 1000*eV g M) (by omega) (by omega),bL (n:=room g sp M % 1000*eV g M) (by omega) (by omega),akD w.1,
      bL (n:=room g sp M % 1000*eV g M / 1000) (by omega) (by omega),bL (by omega) (by omega),d]
    ·rw[dd o,kb o]
def c8(g:Bool)(sp:Int)(M:List It):ck:=(O M M.length).map fun j=>ns g (M.getD j.toNat default).1 ((parts g sp M).getD j.toNat default)
def jk(g:Bool)(sp:Int)(M:List It):ck:=(O M M.length).map fun j=>(parts g sp M).getD j.toNat default
def iH(g:Bool)(sp:Int)(M:List It):ck:=(O M M.length).map fun j=>ml g (M.getD j.toNat default) ((parts g sp M).getD j.toNat default)
theorem C3{α:Type}[Inhabited α](f:Int→α)(l:ck){k}(a:k<l.length):(l.map f).getD k default=f (l.getD k default):=by
 grind
theorem aan(b:Ok M)(s:aU g M L)(V:M.length≤19){sp:Int}:∀(m i:Nat),i≤(O M M.length).length→(O M M.length).length<m+i →
  wt K n L (gz g) (O M M.length) m (sm ((iH g sp M).take i)) (i:Int) ((c8 g sp M).take i++(jk g sp M).drop i)=o6 K n (O M M.length) (change g sp M) (c8 g sp M) n 0 L:=by
 have X:=Dm M M.length;intro m
 induction m with
 | zero=>intro i F G;omega
 | succ m R =>
  intro i F G;simp only[wt,Ab,s.len];have u:(c8 g sp M).length=(O M M.length).length:=by simp[c8]
  have v:(jk g sp M).length=(O M M.length).length:=by simp[jk]
  have W:(iH g sp M).length=(O M M.length).length:=by simp[iH]
  by_cases c:i<(O M M.length).length
  ·obtain⟨j,e,h,N⟩:=Sm c;have P:=s.at_ j h;have a:=b.at h;have l:=L0 (g:=g) b sp h;have d:=Oe (g:=g) a l;have H:=B7 a (ns g (M.getD j default).1 ((parts g sp M).getD j default));have I:=a.l;have p:((c8 g sp M).take i++(jk g sp M).drop i).length=(O M M.length).length:=by simp[u,v];omega
   have T:(jk g sp M).getD i default=(parts g sp M).getD j default:=by unfold jk;rw[C3 _ _ c,e,Int.toNat_natCast]
   have v2:(c8 g sp M).getD i default=ns g (M.getD j default).1 ((parts g sp M).getD j default):=by unfold c8;rw[C3 _ _ c,e,Int.toNat_natCast]
   have U:(iH g sp M).getD i default=cl (M.getD j default).1 ((c8 g sp M).getD i default)-(c8 g sp M).getD i default:=by
    rw[v2];unfold iH;rw[C3 _ _ c,e,Int.toNat_natCast];unfold ml;rw[N];simp
   have r:(jk g sp M).drop i=(parts g sp M).getD j default::(jk g sp M).drop (i+1):=by rw[ls (by omega),← bR (by omega),T]
   have D:((c8 g sp M).take i++(jk g sp M).drop i).getD i default=(parts g sp M).getD j default:=by
    rw[r];exact QSort.gd (by simp;omega)
   rw[dh (by omega),cD (by omega),eN,e,p,cD (by omega),cD (by omega),eN,D,P.it];simp only[sb];have f:aa ((M.getD j default).1.aA+aa (gz g*(parts g sp M).getD j default))=(c8 g sp M).getD i default:=by
    rw[v2];have:=a.b;unfold ns at d⊢;unfold gz;cases g
    ·simp only[iO,qv]at d⊢;rw[bL (n := -1*(parts false sp M).getD j default) (by omega) (by omega),bL (by omega) (by omega)];omega
    ·simp only[zt]at d⊢;rw[bL (n:=1*(parts true sp M).getD j default) (by omega) (by omega),bL (by omega) (by omega)];omega
   rw[f];have A:List.set ((c8 g sp M).take i++(jk g sp M).drop i) i ((c8 g sp M).getD i default)=(c8 g sp M).take (i+1)++(jk g sp M).drop (i+1):=by
    rw[r,iM (by omega)];have:i=((c8 g sp M).take i).length:=by simp;omega
    conv=>lhs;arg 2;rw[this]
    simp
   rw[A];have s8:((c8 g sp M).take (i+1)++(jk g sp M).drop (i+1)).length=(O M M.length).length:=by simp[u,v];omega
   have E:((c8 g sp M).take (i+1)++(jk g sp M).drop (i+1)).getD i default=(c8 g sp M).getD i default:=by
    rw[iM (by omega),tl];exact QSort.gd (by simp;omega)
   rw[cD (by omega),s8,cD (by omega),E];simp only[o7,sb];have w:min (max ((c8 g sp M).getD i default) (M.getD j default).1.Min) (M.getD j default).1.Max=cl (M.getD j default).1 ((c8 g sp M).getD i default):=rfl;rw[w];have C:aa (cl (M.getD j default).1 ((c8 g sp M).getD i default)-(c8 g sp M).getD i default)=(iH g sp M).getD i default:=by rw[U];rw[v2];exact bL (by omega) (by omega)
   have q:∀i:Nat,-(1000*4294967296)≤sm ((iH g sp M).take i)∧sm ((iH g sp M).take i)≤1000*4294967296:=by
    intro i;have:=Mq (B:=4294967296) (by omega) ((iH g sp M).take i) (fun x o=>by
     have o:=wl o;obtain⟨y,Q,rfl⟩:=BY.1 o;obtain⟨k,t,rfl,S⟩:=Jf.1 Q;rw[Int.toNat_natCast];have a:=b.at t;have l:=L0 (g:=g) b sp t;have d:=Oe (g:=g) a l;have H:=B7 a (ns g (M.getD k default).1 ((parts g sp M).getD k default));have:=a.l;unfold ml;rw[S];simp only[iO,qv];omega)
    have J:((iH g sp M).take i).length≤1000:=by simp;omega
    omega
   have Y:=q (i+1);have z:sm ((iH g sp M).take (i+1))=sm ((iH g sp M).take i)+(iH g sp M).getD i default:=by rw[iM (by omega),lD];simp[sm]
   rw[C,bL (n:=sm ((iH g sp M).take i)+(iH g sp M).getD i default) (by omega) (by omega),← z,wn (n:=(i:Int)+1) (k:=i+1) (by omega) (by omega),cD (by omega),cD (by omega)];exact R (i+1) (by omega) (by omega)
  ·rw[dd (by omega)];rw[Dz (by omega),Dz (by omega),l3 (by omega),List.append_nil];rw[Wb];rfl
theorem VS(S:Ok M)(X:M.length≤19){sp:Int}:∀(m i:Nat) (L:ed),i≤(O M M.length).length→(O M M.length).length<m+i→L.length=M.length →
  (∀k,k<M.length→Rl g (if (k:Int)∈(O M M.length).take i then (round g sp M).getD k default else M.getD k default) (L.getD k default)) →
  ∃G,aU g (round g sp M) G∧o6 K n (O M M.length) (change g sp M) (c8 g sp M) m (i:Int) L=some (true,G):=by
 have Z:=Dm M M.length;have W:(c8 g sp M).length=(O M M.length).length:=by simp[c8]
 intro m
 induction m with
 | zero=>intro i L Q R;omega
 | succ m I =>
  intro i L Q R u E;simp only[o6,wQ];by_cases A:i<(O M M.length).length
  ·obtain⟨j,e,t,H⟩:=Sm A;have f:=S.at t;have v2:(c8 g sp M).getD i default=ns g (M.getD j default).1 ((parts g sp M).getD j default):=by unfold c8;rw[C3 _ _ A,e,Int.toNat_natCast]
   have B:(j:Int) ∉ (O M M.length).take i:=by
    intro p;obtain⟨k,V,Y,J⟩:=QSort.Lk p;have:=QSort.Cb (aeA M M.length) V A;unfold QSort.at_ at this J;rw[J,e]at this;omega
   have s:=E j t;rw[kb B]at s;have F:aa ((i:Int)+1)=((i+1:Nat):Int):=wn (by omega) (by omega);rw[dh (by omega),cD (by omega),eN,e,u,cD (by omega),eN,W];simp only[cD (show(0:Int)≤(i:Int)∧(i:Int)<((O M M.length).length:Nat) by omega),o7,sb,s.it,mh,AX,u,F,Int.toNat_natCast,e];have P:min (max ((c8 g sp M).getD i default) (M.getD j default).1.Min) (M.getD j default).1.Max=cl (M.getD j default).1 ((c8 g sp M).getD i default):=rfl;rw[P];have C:(round g sp M).getD j default=gh g (change g sp M) (M.getD j default) ((parts g sp M).getD j default):=by
    rw[bR (by rw[mM];exact t),H6 g sp M t,bR t]
   have l:∀k,k<M.length→k≠j→((k:Int)∈(O M M.length).take (i+1)↔(k:Int)∈(O M M.length).take i):=by
    intro k f d;rw[iM A,e,n5,ags];constructor
    ·rintro (h|h)
     ·exact h
     ·omega
    ·exact .inl
   have D:(j:Int)∈(O M M.length).take (i+1):=by rw[iM A,e];simp
   have N:decide (j<M.length)=true:=by simpa using t
   by_cases x:k7 (change g sp M) (ns g (M.getD j default).1 ((parts g sp M).getD j default)) (cl (M.getD j default).1 (ns g (M.getD j default).1 ((parts g sp M).getD j default)))=true
   ·-- it gets its size
    have r:(round g sp M).getD j default=((M.getD j default).1,some (cl (M.getD j default).1 ((c8 g sp M).getD i default))):=by rw[C,v2];unfold gh;rw[H,kb (by simp),lc x]
    have c:=I (i+1) (List.set (List.set L j ({ (List.getD L j default)with size:=cl (M.getD j default).1 ((c8 g sp M).getD i default) }:aZ)) j ({ (List.getD (List.set L j ({ (List.getD L j default)with size:=cl (M.getD j default).1 ((c8 g sp M).getD i default) }:aZ)) j default)with fixed:=true }:aZ)) (by omega) (by omega) (by simpa using u) (fun k f=>by
     by_cases d:k=j
     ·subst d;rw[lc D,r];have:List.getD (List.set L k ({ (List.getD L k default)with size:=cl (M.getD k default).1 ((c8 g sp M).getD i default) }:aZ)) k default=({ (List.getD L k default)with size:=cl (M.getD k default).1 ((c8 g sp M).getD i default) }:aZ):=by
       rw[bR (by simp;omega)];simp
      rw[this];have:∀z:aZ,List.getD (List.set (List.set L k ({ (List.getD L k default)with size:=cl (M.getD k default).1 ((c8 g sp M).getD i default) }:aZ)) k z) k default=z:=by
       intro z;rw[bR (by simp;omega)];simp
      rw[this];exact⟨s.it,s.f,s.w,rfl,fun n T=>Option.some.inj T⟩
     ·have p:=E k f;have:∀a b:aZ,List.getD (List.set (List.set L j a) j b) k default=L.getD k default:=by
       intro a b;rw[bR (by simp;omega),bR (by omega)];simp[List.getElem_set,show ¬ j=k by omega]
      rw[this];by_cases o:(k:Int)∈(O M M.length).take i
      ·rw[lc ((l k f d).2 o)];rwa[lc o]at p
      ·rw[kb (fun h=>o ((l k f d).1 h))];rwa[kb o]at p)
    simp only[s.it]at c;unfold k7 at x;rw[q7,← v2]at x;simp only[zt,N,ba];by_cases v:change g sp M=0
    ·rw[lc (by simp[v])];exact c
    ·rw[kb (by simp[v])];by_cases q:change g sp M>0
     ·rw[dh q,dh (show cl (M.getD j default).1 ((c8 g sp M).getD i default)>(c8 g sp M).getD i default by omega)];exact c
     ·rw[dd q,dh (show change g sp M<0 by omega),dh (show cl (M.getD j default).1 ((c8 g sp M).getD i default)<(c8 g sp M).getD i default by omega)];exact c
   ·have r:(round g sp M).getD j default=M.getD j default:=by rw[C];unfold gh;rw[H,kb (by simp),kb x]
    have c:=I (i+1) L (by omega) (by omega) u (fun k f=>by
     by_cases d:k=j
     ·subst d;rw[lc D,r];exact s
     ·have p:=E k f;by_cases o:(k:Int)∈(O M M.length).take i
      ·rw[lc ((l k f d).2 o)];rwa[lc o]at p
      ·rw[kb (fun h=>o ((l k f d).1 h))];rwa[kb o]at p)
    have y:k7 (change g sp M) (ns g (M.getD j default).1 ((parts g sp M).getD j default)) (cl (M.getD j default).1 (ns g (M.getD j default).1 ((parts g sp M).getD j default)))=false:=by simpa using x
    unfold k7 at y;rw[decide_eq_false_iff_not,← v2]at y;simp only[zt,iO,qv];rw[kb (by simp;omega)];by_cases q:change g sp M>0
    ·rw[dh q,dd (show ¬ cl (M.getD j default).1 ((c8 g sp M).getD i default)>(c8 g sp M).getD i default by omega),dd (show ¬ change g sp M<0 by omega)];exact c
    ·rw[dd q];by_cases w:change g sp M<0
     ·rw[dh w,dd (show ¬ cl (M.getD j default).1 ((c8 g sp M).getD i default)<(c8 g sp M).getD i default by omega)];exact c
     ·rw[dd w];exact c
  ·rw[dd (by omega)];refine⟨L,⟨by rw[u,mM],fun k f=>?_⟩,rfl⟩;rw[mM]at f;have p:=E k f;rw[Dz (by omega)]at p;by_cases o:(k:Int)∈O M M.length
   ·rwa[lc o]at p
   ·rw[kb o]at p;have U:(M.getD k default).2.isSome=true:=by
     rcases Bool.eq_false_or_eq_true (M.getD k default).2.isSome with h|h
     ·exact h
     ·exact absurd (Jf.2 ⟨k,f,rfl,h⟩) o
    have:(round g sp M).getD k default=M.getD k default:=by
     rw[bR (by rw[mM];exact f),H6 g sp M f,← bR f];unfold gh;rw[lc U]
    rw[this];exact p
theorem acS M:opens M=(O M M.length).length:=by
 have:∀n,n≤M.length→(M.take n).countP (fun p=>!p.2.isSome)=(O M n).length:=by
  intro n
  induction n with
  | zero=>intro _;rfl
  | succ n a =>
   grind[iM,zr]
 have h:=this M.length (by omega);rw[me]at h;exact h
theorem WM{lvl:Nat}(c:Ok M)(b:aU g M L)(f:M.length≤19){sp:Int}(o : -1125899906842624≤sp∧sp≤1125899906842624)(m:10001<n)(i:20010≤lvl):
  if opens M=0 then vg (KN lvl) n L sp (gz g)=some (false,L) else ∃a,aU g (round g sp M) a∧vg (KN lvl) n L sp (gz g)=some (true,a):=by
 have h:=ajF (K:=KN lvl) (n:=n) c b f o n 0 (by omega) (by omega);have j:sp-sm ((M.take 0).map fP)=sp:=by simp[sm]
 have r:=Dm M M.length;unfold vg;rw[j,show eV g (M.take 0)=0 from rfl,show((0:Nat):Int)=0 from rfl,J8,show op ((M.take 0).map (gk g))=[] from rfl]at h;rw[h,← acS];by_cases d:opens M=0
 ·rw[lc d,lc d]
 ·rw[kb d,kb d];unfold vu;have pl:=H0 g M M.length (ll _);rw[me]at pl;rw[Sh.mF _ _ (by omega) m i,ahI c,sb];have e:=aan (K:=KN lvl) (n:=n) c b f (sp:=sp) n 0 (by omega) (by omega);rw[akw,akw,List.drop_zero,Db,show sm []=0 from rfl,show((0:Nat):Int)=0 from rfl]at e;unfold jk at e;rw[e];obtain⟨a,p,q⟩:=VS (K:=KN lvl) (n:=n) (g:=g) c f (sp:=sp) n 0 L (by omega) (by omega) b.len (fun k l=>by rw[kb (by simp)];exact b.at_ k l);exact⟨a,p,q⟩
end Rs
namespace Rs
open Sh (share bX dw mx kj mw)
open QSort (wn cD dh dd sb)
variable{K:Kn}{n:Nat}
theorem ady(x:bC):zS K n x=some (dq x):=rfl
theorem KP(x:bC):vD K n x=some (hyp x):=rfl
theorem Fn(x:bC):0≤hyp x∧hyp x≤1048576:=by
 have h:=JE x none (.inl rfl);have a:=B7 h (dq x).aA;have b:=h.l
 dsimp only at a b
 unfold hyp;omega
def dz(x:bC):aZ:=⟨dq x,0,0,hyp x,false⟩
theorem Se(l:ek)(d:l.length≤19)(n:Nat):0≤sm ((l.take n).map hyp)∧sm ((l.take n).map hyp)≤1048576000:=by
 refine⟨kj _ (fun x a=>?_),?_⟩
 ·obtain⟨y,_,rfl⟩:=BY.1 a;exact(Fn y).1
 ·have:=mw (c:=1048576) ((l.take n).map hyp) (fun x a=>by obtain⟨y,_,rfl⟩:=BY.1 a;exact(Fn y).2);have b:(((l.take n).map hyp).length:Int)≤1000:=by simp;omega
  have:=alk b (show(0:Int)≤1048576 by omega);omega
theorem abH(l:ek)(sp:Int)(b:l.length≤19):∀(m i:Nat),i≤l.length→l.length<m+i →
  vO K n l sp m (sm ((l.take i).map hyp)) (i:Int) ((l.take i).map dz++List.replicate (l.length-i) iV)=wC K n sp (l.map dz) (gz (lK l sp)):=by
 intro m
 induction m with
 | zero=>intro i g j;omega
 | succ m o =>
  intro i g j;simp only[vO,AZ];by_cases a:i<l.length
  ·obtain⟨k,e⟩:∃k,l.length-i=k+1:=⟨l.length-i-1,by omega⟩;have p:((l.take i).map dz++List.replicate (l.length-i) iV).length=l.length:=by simp;omega
   have f:List.set ((l.take i).map dz++List.replicate (l.length-i) iV) i (dz (l.getD i default))=(l.take (i+1)).map dz++List.replicate (l.length-(i+1)) iV:=by
    rw[e,alC,show l.length-(i+1)=k by omega,iM a,IF];have:i=((l.take i).map dz).length:=by simp;omega
    conv=>lhs;arg 2;rw[this]
    simp
   have q:((l.take (i+1)).map dz++List.replicate (l.length-(i+1)) iV).length=l.length:=by simp;omega
   have d:((l.take (i+1)).map dz++List.replicate (l.length-(i+1)) iV).getD i default=dz (l.getD i default):=by
    rw[iM a,IF,tl,List.getD_eq_getElem?_getD,Dj (by simp;omega)];have:i-((l.take i).map dz).length=0:=by simp;omega
    rw[this];rfl
   have r:=Se l b i;have s:=Se l b (i+1);have c:sm ((l.take (i+1)).map hyp)=sm ((l.take i).map hyp)+hyp (l.getD i default):=by rw[iM a,IF,lD];simp[sm]
   rw[dh (by omega),cD (by omega),eN,ady,KP];simp only[sb];rw[p,cD (by omega)];rw[show({ (iV:aZ)with Item:=dq (l.getD i default),size:=hyp (l.getD i default) }:aZ)=dz (l.getD i default) from rfl,f,q,cD (by omega),d];rw[show(dz (l.getD i default)).size=hyp (l.getD i default) from rfl,bL (by omega) (by omega),← c,wn (n:=(i:Int)+1) (k:=i+1) (by omega) (by omega)];exact o (i+1) (by omega) (by omega)
  ·obtain rfl:i=l.length:=by omega
   rw[dd (by omega),me,ams,alB,List.append_nil];by_cases h:sm (l.map hyp)<sp
   ·rw[dh h];unfold lK gz;rw[lc (by simpa using h)]
   ·rw[dd h];unfold lK gz;rw[kb (by simpa using h)]
def gM(g:Bool)(x:bC):aZ:=⟨dq x,mg g (dq x),oo g (dq x),hyp x,jh g (dq x) (hyp x)⟩
theorem aiM{α:Type}(L:List α)(i:Nat)(a b:α):List.set (List.set L i a) i b=List.set L i b:=by simp
theorem aey{L:ed}{i:Nat}{a:aZ}(h:i<L.length):(List.set L i a).getD i default=a:=by rw[bR (by simpa using h)];simp
theorem ajl(g:Bool)(l:ek)(sp:Int)(x:l.length≤19):∀(m i:Nat),i≤l.length→l.length<m+i →
  uY K n sp (l.map dz) (gz g) m (i:Int) ((l.take i).map (gM g)++(l.drop i).map dz)=pL K n sp (gz g) n (l.map (gM g)):=by
 intro m
 induction m with
 | zero=>intro i s t;omega
 | succ m v =>
  intro i s t;simp only[uY,xS,nx];by_cases c:i<l.length
  ·have j:(l.drop i).map dz=dz (l.getD i default)::(l.drop (i+1)).map dz:=by rw[ls c,bR c];rfl
   have w:((l.take i).map (gM g)++(l.drop i).map dz).length=l.length:=by simp;omega
   have p:((l.take i).map (gM g)++(l.drop i).map dz).getD i default=dz (l.getD i default):=by
    rw[j,List.getD_eq_getElem?_getD,Dj (by simp;omega)];have:i-((l.take i).map (gM g)).length=0:=by simp;omega
    rw[this];rfl
   have q:List.set ((l.take i).map (gM g)++(l.drop i).map dz) i (gM g (l.getD i default))=(l.take (i+1)).map (gM g)++(l.drop (i+1)).map dz:=by
    rw[j,iM c,IF];have:i=((l.take i).map (gM g)).length:=by simp;omega
    conv=>lhs;arg 2;rw[this]
    simp
   have e:=JE (l.getD i default) none (.inl rfl);have y:=Ke (g:=false) e;have k:=e.b;have f:=e.s;have u:0≤(dq (l.getD i default)).aA*(dq (l.getD i default)).Shrink∧(dq (l.getD i default)).aA*(dq (l.getD i default)).Shrink≤1048576*1048576:=⟨akx k.1 f.1,akZ k.2 f.2 f.1 (by omega)⟩;rw[dh (by omega),cD (by omega)];simp only[eN,sb,zj,AL,aiM,akz,w,aey (show i<((l.take i).map (gM g)++(l.drop i).map dz).length by omega),p];have d:aa ((i:Int)+1)=((i+1:Nat):Int):=wn (by omega) (by omega);have r:aa (Int.tdiv (aa ((dz (l.getD i default)).Item.aA*(dz (l.getD i default)).Item.Shrink)) 1000)=oo false (dq (l.getD i default)):=by
    show aa (Int.tdiv (aa ((dq (l.getD i default)).aA*(dq (l.getD i default)).Shrink)) 1000)=_;rw[bL (n:=(dq (l.getD i default)).aA*(dq (l.getD i default)).Shrink) (by omega) (by omega),akD u.1,bL (by omega) (by omega)];rfl
   have o:decide (i<l.length)=true:=by simpa using c
   simp only[d,r,o,ba];have:=v (i+1) (by omega) (by omega);rw[←q]at this;rw[←this];cases g
   ·rw[dd (show ¬ gz false>0 by decide)];by_cases a:(dq (l.getD i default)).aA<hyp (l.getD i default)
    ·have:(decide ((dz (l.getD i default)).Item.aA<(dz (l.getD i default)).size))=true:=decide_eq_true a;have b:jh false (dq (l.getD i default)) (hyp (l.getD i default))=true:=by unfold jh;rw[kb (by simp),q7];exact .inr a
     simp only[this,zt];unfold gM;rw[b];rfl
    ·have:(decide ((dz (l.getD i default)).Item.aA<(dz (l.getD i default)).size))=false:=decide_eq_false a;have b:jh false (dq (l.getD i default)) (hyp (l.getD i default))=((dq (l.getD i default)).Shrink == 0):=by unfold jh;rw[kb (by simp),Bool.eq_iff_iff,q7,agA];exact⟨fun h=>h.resolve_right a,.inl⟩
     simp only[this,iO,qv];unfold gM;rw[b];rfl
   ·rw[dh (show gz true>0 by decide)];by_cases a:(dq (l.getD i default)).aA>hyp (l.getD i default)
    ·have:(decide ((dz (l.getD i default)).Item.aA>(dz (l.getD i default)).size))=true:=decide_eq_true a;have b:jh true (dq (l.getD i default)) (hyp (l.getD i default))=true:=by unfold jh;rw[lc rfl,q7];exact .inr a
     simp only[this,zt];unfold gM;rw[b];rfl
    ·have:(decide ((dz (l.getD i default)).Item.aA>(dz (l.getD i default)).size))=false:=decide_eq_false a;have b:jh true (dq (l.getD i default)) (hyp (l.getD i default))=((dq (l.getD i default)).Grow == 0):=by unfold jh;rw[lc rfl,Bool.eq_iff_iff,q7,agA];exact⟨fun h=>h.resolve_right a,.inl⟩
     simp only[this,iO,qv];unfold gM;rw[b];rfl
  ·obtain rfl:i=l.length:=by omega
   rw[dd (by omega),me,l3 (ll _),yk,List.append_nil]
theorem adf(g:Bool)(l:ek):aU g (start g l) (l.map (gM g)):=by
 refine⟨by simp[start],fun k c=>?_⟩;have b:k<l.length:=by simpa[start]using c
 rw[bR c,bR (by simpa using b)];have e:(start g l)[k]=(dq l[k],if jh g (dq l[k]) (hyp l[k])=true then some (hyp l[k]) else none):=by simp[start]
 rw[e,akE];refine⟨rfl,rfl,rfl,?_,fun n a=>?_⟩
 ·show jh g (dq l[k]) (hyp l[k])=_;cases h:jh g (dq l[k]) (hyp l[k])<;>simp
 ·cases h:jh g (dq l[k]) (hyp l[k])
  ·rw[h]at a;simp at a
  ·rw[h]at a;simpa[gM]using a
theorem acT(L:ed)(g:L.length≤19):∀(m i:Nat),i≤L.length→L.length<m+i →
  uS K n (false,L) m (i:Int) ((L.take i).map (fun (x:aZ)=>x.size)++List.replicate (L.length-i) 0)=some (L.map fun (x:aZ)=>x.size):=by
 intro m
 induction m with
 | zero=>intro i b c;omega
 | succ m e =>
  intro i b c;simp only[uS,zO];by_cases d:i<L.length
  ·obtain⟨k,a⟩:∃k,L.length-i=k+1:=⟨L.length-i-1,by omega⟩;have f:((L.take i).map (fun (x:aZ)=>x.size)++List.replicate (L.length-i) 0).length=L.length:=by simp;omega
   rw[dh (by omega),cD (by omega),eN,f,cD (by omega),a,Sh.BO (by simp;omega)];have:(L.take i).map (fun (x:aZ)=>x.size)++[(L.getD i default).size]=(L.take (i+1)).map (fun (x:aZ)=>x.size):=by rw[iM d,IF];rfl
   rw[this,wn (n:=(i:Int)+1) (k:=i+1) (by omega) (by omega),show k=L.length-(i+1) by omega];exact e (i+1) (by omega) (by omega)
  ·obtain rfl:i=L.length:=by omega
   rw[dd (by omega),me,ams,alB,List.append_nil]
theorem ahS{lvl:Nat}(g:Bool){sp:Int}(v : -1125899906842624≤sp∧sp≤1125899906842624)(s:10001<n)(f:20010≤lvl):∀(m:Nat) (M:List It) (L:ed),opens M<m→Ok M→aU g M L→M.length≤19 →
  pL (KN lvl) n sp (gz g) m L=some (fW (run g sp M.length M)):=by
 intro m
 induction m with
 | zero=>intro M L h;omega
 | succ m w =>
  intro M L h j a p;simp only[pL,Bf];have c:=WM (lvl:=lvl) (n:=n) j a p v s f;by_cases b:opens M=0
  ·rw[lc b]at c;rw[c];simp only[sb,iO,qv];rw[Sh.IS (by rw[a.len];omega) (by rw[a.len];omega),ba,eN];have:=acT (K:=KN lvl) (n:=n) L (by rw[a.len];omega) n 0 (by omega) (by rw[a.len];omega);rw[akw,yk,Db,akG,show((0:Nat):Int)=0 from rfl]at this;rw[this,yp b];congr 1;refine ak2 (by simp[fW,a.len]) (fun k d e=>?_);have o:k<M.length:=by simpa[fW]using e
   simp only[fW,akE];have l:=a.at_ k o;rw[bR o,bR (by simpa using d)]at l;have t:M[k].2.isSome=true:=by
    have:=amg.1 b M[k] (ob _);cases h:M[k].2 with
    | none=>rw[h]at this;simp at this
    | some z=>rfl
   obtain⟨z,i⟩:=v9.1 t;rw[l.s z i,i];rfl
  ·rw[kb b]at c;obtain⟨q,d,e⟩:=c;rw[e];simp only[sb,zt];have u:=MC (g:=g) (sp:=sp) b;rw[w (round g sp M) q (by omega) (Yu j) d (by rw[mM];exact p)];congr 2;have r:run g sp (M.length+1) M=run g sp M.length (round g sp M):=by rw[run,kb b]
   rw[mM,← r];have:=T6 M;exact Nz _ _ _ (by omega) (by omega)
theorem mF{lvl:Nat}(l:ek){sp:Int}(b:l.length≤19)(d : -1125899906842624≤sp∧sp≤1125899906842624)(c:10001<n)(a:20010≤lvl):jH (KN lvl) n l sp=some (resolve l sp):=by
 unfold jH;rw[show min (max sp (-1125899906842624)) 1125899906842624=sp by omega];simp only[sb];rw[Sh.IS (by omega) (by omega),ba,eN];have:=abH (K:=KN lvl) (n:=n) l sp b n 0 (by omega) (by omega);rw[akw,yk,yk,Db,akG,show((0:Nat):Int)=0 from rfl,show sm []=0 from rfl]at this;rw[this];unfold wC;have:=ajl (K:=KN lvl) (n:=n) (lK l sp) l sp b n 0 (by omega) (by omega);rw[akw,yk,Db,List.drop_zero,show((0:Nat):Int)=0 from rfl]at this;rw[this];have e:(start (lK l sp) l).length=l.length:=by simp[start]
 have:=T6 (start (lK l sp) l);rw[ahS (lK l sp) d c a n (start (lK l sp) l) _ (by omega) (akc _ _) (adf _ _) (by omega),e];rfl
end Rs
def mix{α:Type}(i:Nat)(N O:List α):List α:=N.take i++O.drop i
variable{α:Type}[Inhabited α]{i:Nat}{N O:List α}
theorem B3(h:N.length=O.length):(mix i N O).length=O.length:=by unfold mix;simp;omega
theorem E4(h:N.length=O.length):mix O.length N O=N:=by unfold mix;rw[Dz (by omega),l3 (ll _),List.append_nil]
theorem YI(h:N.length=O.length){k:Nat}(a:k<i)(b:i≤O.length):(mix i N O).getD k default=N.getD k default:=by
 unfold mix;rw[List.getD_eq_getElem?_getD,z3 (by simp;omega),List.getElem?_take_of_lt a,List.getD_eq_getElem?_getD]
theorem WW(h:N.length=O.length)(a:i<O.length):mix (i+1) N O=N.take i++N.getD i default::O.drop (i+1):=by
 unfold mix;rw[MO (by omega:i<N.length),bR (by omega:i<N.length),tl];rfl
theorem HY(h:N.length=O.length)(a:i<O.length):List.set (mix i N O) i (N.getD i default)=mix (i+1) N O:=by
 rw[WW h a];unfold mix;rw[ls a];have:i=(N.take i).length+0:=by simp;omega
 conv=>lhs;arg 2;rw[this]
 rw[List.set_append_right _ _ (by omega),alV,List.set_cons_zero]
theorem aj2(h:N.length=O.length)(a:i<O.length):(mix (i+1) N O).getD i default=N.getD i default:=YI h (by omega) (by omega)
end Go.Proofs.YtocgkfoifehcbaaGreat
namespace Go.Proofs.YtocgkfoifehcbaaGreat
set_option linter.all false
open Go.RowKit
theorem VI(K:Kn)(n:Nat)(L:dn)(D:(L.length:Int)≤9223372036854775807):∀(m:Nat) (i h:Int) (b:bc) (t:Bool) (u:bc) (l:dn),0≤i→i≤L.length→(L.length:Int)<m+i→((l.length:Int)+L.length)*584≤140737488355328+i*584 →
  ∃r,jK K n L m h t i b u l=some r∧(r.1.length:Int)=l.length+L.length-i∧(∀f∈r.1,f∈l∨∃g∈L,f.Kids=g.Kids):=by
 intro m
 induction m with
 | zero=>intro i _ _ _ _ _ s v w _;omega
 | succ m B =>
  intro i h b t u l s v w C;simp only[jK,qo];by_cases k:i<(L.length:Int)
  ·have o:=di s k;have A:aa (i+1)=i+1:=bL (by omega) (by omega);have c:fits (l.length+1) 584=true:=db (by omega) (by omega);have key:∀(j:Int) (q:Bool) (e a:bc) (y:Int),∃r,jK K n L m j q (i+1) e a (l++[{ L.getD i.toNat default with Y:=y }])=some r∧(r.1.length:Int)=l.length+L.length-i∧(∀f∈r.1,f∈l∨∃g∈L,f.Kids=g.Kids):=by
    intro j q e a y;obtain⟨r,z,d,x⟩:=B (i+1) j e q a (l++[{ L.getD i.toNat default with Y:=y }]) (by omega) (by omega) (by omega) (by simp only[nw,lp,th];omega);refine⟨r,z,by rw[d];simp only[nw,lp,th];omega,fun f c=>?_⟩;rcases x f c with hm|hm
    ·rcases n5.1 hm with hm|hm
     ·exact .inl hm
     ·right;have p:i.toNat<L.length:=by omega
      refine⟨L[i.toNat],ob _,?_⟩;simp only[oR,akp,alJ]at hm;rw[hm,bR p]
    ·exact .inr hm
   simp only[k,amj,zt,o,ba,kv,gI,iF,sa,vG,vA,lp,th,Dy,c,A]
   repeat (first|exact key _ _ _ _ _|split)
  ·have:decide (i<(L.length:Int))=false:=by simpa using k
   simp only[this,iO,qv,re];split<;>exact⟨_,rfl,by show(l.length:Int)=_;omega,fun f c=>.inl c⟩
theorem US(K:Kn)(n:Nat)(L:dn)(i:L.length<n)(e:L.length*584≤140737488355328):∃r,lN K n L=some r∧r.1.length=L.length∧∀f∈r.1,∃g∈L,f.Kids=g.Kids:=by
 obtain⟨r,b,a,c⟩:=VI K n L (by omega) n 0 0 dA true dA [] (by omega) (by omega) (by omega) (by simp;omega);exact⟨r,b,by simp only[th]at a;omega,fun f d=>(c f d).elim (fun h=>by cases h) (fun h=>h)⟩
theorem aby(s:aI):ly s s=true:=by simp[ly,fH]
theorem Xp(s:bc):BC s s=true:=by simp[BC]
def cz(l:cw)(b:Int):Int×Bool :=
 if l.Kind=1 then (min (max l.Value (-1048576)) 1048576,true)
 else if l.Kind=2 then (min (max (aa (Int.tdiv (aa ((min (max b 0) 1048576)*(min (max l.Value (-1000000)) 1000000))) 10000)) (-1048576)) 1048576,true)
 else (0,false)
def dI(x:Int):Int:=min (max x 0) 1048576
section
variable(K:Kn)(n:Nat)
theorem we(x:Int):gU K n x=some (dI x):=rfl
theorem OS(x:Int):lO K n x=some (dI x):=rfl
theorem gi(l:cw)(b:Int):dQ K n l b=some (cz l b):=by
 unfold dQ cz;by_cases a:l.Kind=1
 ·simp[a,tD]
 ·by_cases c:l.Kind=2
  ·simp[c,tD,gU]
  ·simp[a,c]
theorem DW(l:cw)(b:Int):gy K n l b=some (cz l b):=by
 unfold gy cz;by_cases a:l.Kind=1
 ·simp[a,s7]
 ·by_cases c:l.Kind=2
  ·simp[c,s7,lO]
  ·simp[a,c]
def gp(s:aI)(w c:Int):Int :=
 let m:=if (cz s.MaxWidth w).2=true then min (max c 0) (max (cz s.MaxWidth w).1 0) else max c 0
 if (cz s.MinWidth w).2=true then max m (cz s.MinWidth w).1 else m
theorem C1(s:aI)(w c:Int):nE K n s w c=some (gp s w c):=by
 unfold nE gp;simp only[gi,iF,AF,AP]
 repeat (first|rfl|split)
theorem Y8(s:aI)(w c:Int):xG K n s w c=some (gp s w c):=by
 unfold xG gp;simp only[DW,iF,yE,y3]
 repeat (first|rfl|split)
def eW(s:aI)(w c:Int):bD :=
 ⟨⟨(cz s.Margin.a0 w).1,(cz s.Margin.a1 w).1,(cz s.Margin.a2 w).1,(cz s.Margin.a3 w).1⟩,⟨dI s.Border.a0,dI s.Border.a1,dI s.Border.a2,dI s.Border.a3⟩,
  ⟨max (cz s.Padding.a0 w).1 0,max (cz s.Padding.a1 w).1 0,max (cz s.Padding.a2 w).1 0,max (cz s.Padding.a3 w).1 0⟩,c⟩
theorem uH(s:aI)(w c:Int):jL K n s w c=some (eW s w c):=by
 simp only[jL,gi,we,iF,eW]
theorem Zv(s:aI)(w c:Int):A4 K n s w c=some (eW s w c):=by
 simp only[A4,DW,OS,iF,eW]
def gB(z:bD):Int:=aa ((aa ((aa ((aa ((aa ((aa (z.Content+z.Margin.a1))+z.Margin.a3))+z.Border.a1))+z.Border.a3))+z.Padding.a1))+z.Padding.a3)
theorem rL(z:bD):kF K n z=some (gB z):=rfl
theorem P8(z:bD):xg K n z=some (gB z):=rfl
def tA(s:aI)(a:Int)(e:bD)(c:Int):bD :=
 let r:=aa (a-gB { e with Content:=c })
 if r≤0 then { e with Content:=c }
 else if (cz s.Margin.a3 a).2=false∧(cz s.Margin.a1 a).2=false then { e with Content:=c,Margin:=⟨e.Margin.a0,aa (r-aa (Int.tdiv r 2)),e.Margin.a2,aa (Int.tdiv r 2)⟩ }
 else if (cz s.Margin.a3 a).2=false then { e with Content:=c,Margin:=⟨e.Margin.a0,e.Margin.a1,e.Margin.a2,r⟩ }
 else if (cz s.Margin.a1 a).2=false then { e with Content:=c,Margin:=⟨e.Margin.a0,r,e.Margin.a2,e.Margin.a3⟩ }
 else { e with Content:=c }
def cm(s:aI)(w:Int):bD :=
 let a:=dI w
 let e:=eW s a 0
 let x:=if (cz s.Width a).2=true then (cz s.Width a).1 else aa (a-gB e)
 tA s a e (gp s a x)
theorem WA(s:aI)(a:Int)(e:bD)(x:Int):rV K n s a e x=some (tA s a e (gp s a x)):=by
 simp only[rV,C1,rL,iF,gi,tA];cases c:(cz s.Margin.a3 a).2<;>cases b:(cz s.Margin.a1 a).2<;>simp[Ap,qY,c,b]<;>split<;>rfl
theorem Zd(s:aI)(a:Int)(e:bD)(x:Int):rW K n s a e x=some (tA s a e (gp s a x)):=by
 simp only[rW,Y8,P8,iF,DW,tA];cases c:(cz s.Margin.a3 a).2<;>cases b:(cz s.Margin.a1 a).2<;>simp[wV,qH,c,b]<;>split<;>rfl
theorem DX(s:aI)(w:Int):qt K n s w=some (cm s w):=by
 simp only[qt,we,uH,gi,rL,iF,WA,cm];cases h:(cz s.Width (dI w)).2<;>simp[h]
theorem ain(s:aI)(w:Int):zU K n s w=some (cm s w):=by
 simp only[zU,OS,Zv,DW,P8,iF,Zd,cm];cases h:(cz s.Width (dI w)).2<;>simp[h]
def gS(l:cw):Prop := -16777216≤l.Value∧l.Value≤16777216
theorem iU(l:cw):∃b,fS K n l=some b∧(b=true→gS l):=by
 unfold fS xb;by_cases h:l.Value ≥ -16777216
 ·simp only[h,amj,zt];exact⟨_,rfl,fun e=>⟨h,kc e⟩⟩
 ·simp only[h,akI,iO,qv];exact⟨_,rfl,fun e=>by cases e⟩
structure qA(x:cg):Prop where
 text:(x.Text.size:Int)≤60
 left:gS x.Style.Left
 top:gS x.Style.Top
 width:gS x.Style.Width
 height:gS x.Style.Height
 minw:gS x.Style.MinWidth
 maxw:gS x.Style.MaxWidth
 basis:gS x.Style.Basis
 lh:0≤x.Style.LineHeight∧x.Style.LineHeight≤65536
 fs:0≤x.Style.FontSize∧x.Style.FontSize≤65536
 grow:0≤x.Style.Grow∧x.Style.Grow≤1048576
 shrink:0≤x.Style.Shrink∧x.Style.Shrink≤1048576
 m0:gS x.Style.Margin.a0
 m1:gS x.Style.Margin.a1
 m2:gS x.Style.Margin.a2
 m3:gS x.Style.Margin.a3
 p0:gS x.Style.Padding.a0
 p1:gS x.Style.Padding.a1
 p2:gS x.Style.Padding.a2
 p3:gS x.Style.Padding.a3
theorem agh(L:h7)(m:Int)(a:Int→Option Bool)(i:Int)(h0:0≤i)(k:i<L.length):mZ K n L m a i=some false∨(qA (L.getD i.toNat default)∧mZ K n L m a i=a (aa (i+1))):=by
 unfold mZ;simp only[k,amj,zt,di h0 k,ba];generalize hx:L.getD i.toNat default=x;have j5:∀b,u0 K n L m i a b=if b=true then some false else a (aa (i+1)):=fun b=>rfl;obtain⟨C,J,S⟩:=iU K n x.Style.Left;obtain⟨D,M,T⟩:=iU K n x.Style.Top;obtain⟨E,N,U⟩:=iU K n x.Style.Width;obtain⟨F,O,V⟩:=iU K n x.Style.Height;obtain⟨G,P,W⟩:=iU K n x.Style.MinWidth;obtain⟨H,Q,X⟩:=iU K n x.Style.MaxWidth;obtain⟨I,R,Y⟩:=iU K n x.Style.Basis;obtain⟨c0,Z,k0⟩:=iU K n x.Style.Margin.a0;obtain⟨c1,g1,k1⟩:=iU K n x.Style.Margin.a1;obtain⟨c,g2,k2⟩:=iU K n x.Style.Margin.a2;obtain⟨d,g3,k3⟩:=iU K n x.Style.Margin.a3;obtain⟨e,q0,r0⟩:=iU K n x.Style.Padding.a0;obtain⟨f,q1,r1⟩:=iU K n x.Style.Padding.a1;obtain⟨g,q2,r2⟩:=iU K n x.Style.Padding.a2;obtain⟨j,q3,r3⟩:=iU K n x.Style.Padding.a3;have l:eT K n L m i a true=some false:=rfl;have j1:eT K n L m i a false=some false∨((c0=true∧c1=true∧c=true∧d=true∧e=true∧f=true∧g=true∧j=true)∧eT K n L m i a false=a (aa (i+1))):=by
  simp only[eT,wO,zg,Bc,u0,hx,Z,g1,g2,g3,q0,q1,q2,q3,iF];cases c0<;>cases e<;>cases c1<;>cases f<;>cases c<;>cases g<;>cases d<;>cases j<;>simp
 simp only[J,M,N,O,P,Q,R,iF,l];by_cases o:(x.Text.size:Int)>60
 ·left;simp[o]
 simp only[o,akI,iO,qv];cases C
 ·left;simp
 simp only[OR,iO,qv];cases D
 ·left;simp
 simp only[OR,iO,qv];cases E
 ·left;simp
 simp only[OR,iO,qv];cases F
 ·left;simp
 simp only[OR,iO,qv];cases G
 ·left;simp
 simp only[OR,iO,qv];cases H
 ·left;simp
 simp only[OR,iO,qv];cases I
 ·left;simp
 simp only[OR,iO,qv];by_cases p:x.Style.LineHeight<0
 ·left;simp[p]
 simp only[p,akI,iO,qv];by_cases q:x.Style.LineHeight>65536
 ·left;simp[q]
 simp only[q,akI,iO,qv];by_cases r:x.Style.FontSize<0
 ·left;simp[r]
 simp only[r,akI,iO,qv];by_cases s:x.Style.FontSize>65536
 ·left;simp[s]
 simp only[s,akI,iO,qv];by_cases t:x.Style.Grow<0
 ·left;simp[t]
 simp only[t,akI,iO,qv];by_cases u:x.Style.Grow>1048576
 ·left;simp[u]
 simp only[u,akI,iO,qv];by_cases v:x.Style.Shrink<0
 ·left;simp[v]
 simp only[v,akI,iO,qv];by_cases w:x.Style.Shrink>1048576
 ·left;simp only[w,amj];exact l
 simp only[w,akI];rcases j1 with h|⟨⟨y,z,A,B,p0,p1,p2,p3⟩,h⟩
 ·exact .inl h
 ·refine .inr ⟨⟨by omega,S rfl,T rfl,U rfl,V rfl,W rfl,X rfl,Y rfl,⟨by omega,by omega⟩,⟨by omega,by omega⟩,⟨by omega,by omega⟩,⟨by omega,by omega⟩,k0 y,k1 z,k2 A,k3 B,r0 p0,r1 p1,r2 p2,r3 p3⟩,h⟩
theorem aap(L:h7)(mx:Int)(t:(L.length:Int)≤9223372036854775807):∀(m:Nat) (i:Int),0≤i→i≤L.length→(L.length:Int)<m+i →
  ∃b,pV K n L mx m i=some b∧(b=true→(L.length:Int)≤mx∧∀k,i.toNat≤k→k<L.length→qA (L.getD k default)):=by
 intro m
 induction m with
 | zero=>intro i a l o;omega
 | succ m s =>
  intro i a l o;show ∃b,mZ K n L mx (pV K n L mx m) i=some b∧_;by_cases d:i<(L.length:Int)
  ·rcases agh K n L mx (pV K n L mx m) i a d with h|⟨h,j⟩
   ·exact⟨false,h,fun e=>by cases e⟩
   ·obtain⟨b,q,f⟩:=s (i+1) (by omega) (by omega) (by omega);rw[j,bL (by omega) (by omega)];refine⟨b,q,fun e=>⟨(f e).1,fun k p c=>?_⟩⟩;by_cases g:k=i.toNat
    ·subst g;exact h
    ·exact(f e).2 k (by omega) c
  ·have r:decide (i<(L.length:Int))=false:=by simpa using d
   unfold mZ;simp only[r,iO,qv];exact⟨_,rfl,fun e=>⟨kc e,fun k p c=>by omega⟩⟩
theorem K8(L:h7)(mx:Int)(f:(L.length:Int)≤9223372036854775807)(h:L.length<n):∃b,AR K n L mx=some b∧(b=true→(L.length:Int)≤mx∧∀x∈L,qA x):=by
 obtain⟨b,d,a⟩:=aap K n L mx f n 0 (by omega) (by omega) (by omega);refine⟨b,d,fun e=>⟨(a e).1,fun x g=>?_⟩⟩;obtain⟨k,c,rfl⟩:=ajz.1 g;have:=(a e).2 k (by simp) c;rwa[bR c]at this
end
theorem xC{i:Nat}(h:i<1000000):aa ((i:Int)+1)=((i+1:Nat):Int):=by rw[bL (by omega) (by omega)];omega
theorem z4{i n:Nat}(h:i<n):decide ((i:Int)<(n:Int))=true:=by simpa using h
theorem BQ{i n:Nat}(h:n≤i):decide ((i:Int)<(n:Int))=false:=by simpa using h
theorem rD{i n:Nat}(h:i<n):aP (i:Int) n=true:=di (by omega) (by omega)
theorem drop_at'{α:Type}[Inhabited α]{L:List α}{i:Nat}(h:i<L.length):L.drop i=L.getD i default::L.drop (i+1):=by
 rw[bR h];exact ls h
theorem ga{α:Type}[Inhabited α]{L:List α}{i:Nat}(h:i<L.length):L.getD i default∈L:=by
 rw[bR h];exact ob h
def gR(k:ab):Bool:=k.Kind == 3||k.Style.Position != 2
def eM(k:ab):Bool:=k.Kind == 1||(k.Kind == 6||k.Kind == 7)
theorem Pg(K:Kn)(n:Nat)(k:ab):j4 K n k=some (gR k):=by
 unfold j4 gR yT;cases h:k.Kind == 3<;>simp
theorem LZ(K:Kn)(n:Nat)(k:ab):vw K n k=some (eM k):=by
 unfold vw eM sL;cases h:k.Kind == 1<;>cases a:k.Kind == 6<;>simp
theorem XS(K:Kn)(n:Nat)(d:∀x,K.k9 (Fv.fn 145) x=some (eM x))(L:d4)(g:L.length≤20):∀(m i:Nat),i≤L.length→L.length<m+i →
  ∃r,lI K n L (Fv.fn 145) m i=some r∧decide (r≥0)=(L.drop i).any eM:=by
 intro m
 induction m with
 | zero=>intro i b c;omega
 | succ m f =>
  intro i b c;simp only[lI,sk];by_cases a:i<L.length
  ·rw[drop_at' a];simp only[z4 a,zt,rD a,ba,d,iF,Int.toNat_natCast,List.any_cons,xC (show i<1000000 by omega)];cases h:eM (L.getD i default)
   ·simp only[iO,qv,akO];exact f (i+1) (by omega) (by omega)
   ·exact⟨_,rfl,by simp⟩
  ·have e:i=L.length:=by omega
   subst e;simp only[BQ (ll _),iO,qv,List.drop_length];exact⟨_,rfl,by simp⟩
theorem aaT(K:Kn)(n:Nat)(d:∀x,K.k9 (Fv.fn 145) x=some (eM x))(L:d4)(c:L.length≤20)(e:20<n):ov K n L (Fv.fn 145)=some (L.any eM):=by
 obtain⟨r,a,b⟩:=XS K n d L c n 0 (by omega) (by omega);unfold ov Ak;rw[show lI K n L (Fv.fn 145) n 0=some r from a];simp only[iF,b,List.drop_zero]
theorem XO(K:Kn)(n:Nat)(b:ab)(j:b.Kids.length≤20):∀(m i:Nat) (a:d4),i≤b.Kids.length→b.Kids.length<m+i→a.length≤i →
  wE K n b m i a=(ov K n (a++(b.Kids.drop i).filter gR) (Fv.fn 145)).bind fun v=>some (a++(b.Kids.drop i).filter gR,v):=by
 intro m
 induction m with
 | zero=>intro i a f g;omega
 | succ m d =>
  intro i a f g h;simp only[wE,yh];by_cases c:i<b.Kids.length
  ·rw[drop_at' c];simp only[z4 c,zt,rD c,ba,Pg,iF,w7,Int.toNat_natCast,lp,th,xC (show i<1000000 by omega),alm];cases k:gR (b.Kids.getD i default)
   ·simp only[iO,qv];exact d (i+1) a (by omega) (by omega) (by omega)
   ·simp only[zt];rw[db (by omega) (by omega),ba,d (i+1) _ (by omega) (by omega) (by simp;omega)];simp only[tl,aiO]
  ·have e:i=b.Kids.length:=by omega
   subst e;simp only[BQ (ll _),iO,qv,List.drop_length,al6,List.append_nil]
def eB(b:ab):d4:=b.Kids.filter gR
theorem Om{b:ab}:(eB b).length≤b.Kids.length:=al7 _ _
theorem Bq(K:Kn)(n:Nat)(c:∀x,K.k9 (Fv.fn 145) x=some (eM x))(b:ab)(a:b.Kids.length≤20)(d:20<n):rX K n b=some (eB b,(eB b).any eM):=by
 have h:=XO K n b a n 0 [] (by omega) (by omega) (by simp);unfold rX;refine (show _=_ from h).trans ?_;simp only[Db,List.drop_zero];rw[show b.Kids.filter gR=eB b from rfl,aaT K n c _ (RX Om a) d];rfl
def ui(f:ae)(w:Int):ae :=
 if f.Style.Position=1 then { f with X:=aa (f.X+(cz f.Style.Left w).1),Y:=if f.Style.Top.Kind=1 then aa (f.Y+(cz f.Style.Top 0).1) else f.Y } else f
theorem Ry(K:Kn)(n:Nat)(f:ae)(w:Int):tQ K n f w=some (ui f w):=by
 unfold tQ ui;simp only[gi,iF,xX];by_cases h:f.Style.Position=1
 ·by_cases a:f.Style.Top.Kind=1<;>simp[h,a]
 ·simp[h]
theorem RP(f:ae)(w:Int):(ui f w).Kids=f.Kids:=by unfold ui;split<;>rfl
namespace Od
open QSort (wn cD dh dd rk rf sb)
def ix(p:Nat→Bool)(n:Nat):ck:=((List.range n).filter p).map fun (k:Nat)=>(k:Int)
theorem Sx(p:Nat→Bool)(n:Nat):ix p (n+1)=ix p n++if p n=true then [(n:Int)] else []:=by
 unfold ix;rw[alA,alI,IF];congr 1;cases h:p n<;>simp only[alm,al6,h,zt,iO,qv,q6,yk]
theorem SN{p:Nat→Bool}{n:Nat}{x:Int}:x∈ix p n↔∃k:Nat,k<n∧x=k∧p k=true:=by
 simp only[ix,BY,akB,aa8];constructor
 ·rintro ⟨k,⟨a,b⟩,rfl⟩;exact⟨k,a,rfl,b⟩
 ·rintro ⟨k,a,rfl,b⟩;exact⟨k,⟨a,b⟩,rfl⟩
theorem Kk(p:Nat→Bool)(n:Nat):(ix p n).length≤n:=by
 unfold ix;rw[nx];have:=al7 p (List.range n);rw[List.length_range]at this;exact this
theorem aeO(p:Nat→Bool)(n:Nat):(ix p n).Pairwise (· < ·):=by
 unfold ix;rw[alR];refine alf (fun h=>?_) (amb _ alc);omega
variable(B:d4)
def fl(k:Nat):Bool:=gR (B.getD k default)
def key(a:Int):Int:=(B.getD a.toNat default).Style.Order
structure Is(d:ck):Prop where
 p:d.Perm (ix (fl B) B.length)
 s:d.Pairwise (QSort.R (key B))
variable{B}
theorem Is.uniq{d e:ck}(h:Is B d)(c:Is B e):d=e:=by
 refine List.Perm.eq_of_pairwise (fun a b _ _ f c=>(f.asymm c).elim) h.s c.s (h.p.trans c.p.symm)
theorem Is.mem{d:ck}(h:Is B d){x:Int}(a:x∈d):∃k:Nat,k<B.length∧x=k∧gR (B.getD k default)=true:=SN.1 (h.p.mem_iff.1 a)
theorem Is.len{d:ck}(h:Is B d):d.length≤B.length:=by rw[h.p.length_eq];exact Kk _ _
variable(B)
theorem J7(m:Nat):QSort.vF (KN (m+1)) (Fv.c172 B) (fun a=>0≤a∧a<B.length) (key B):=by
 refine⟨fun a b f g=>?_⟩;show ∃c,Az (KN m) m a b B=some c∧_;unfold Az;rw[cD f,cD g];simp only[t6,rP,sb,bne_self_eq_false,iO,qv,key];by_cases d:(B.getD a.toNat default).Style.Order<(B.getD b.toNat default).Style.Order
 ·rw[dh d];exact⟨-1,rfl,by omega⟩
 ·rw[dd d];by_cases e:(B.getD a.toNat default).Style.Order>(B.getD b.toNat default).Style.Order
  ·rw[dh e];exact⟨1,rfl,by omega⟩
  ·rw[dd e];exact⟨0,rfl,by omega⟩
theorem WN(K:Kn)(n:Nat)(g:B.length≤19):∀(m i:Nat),i≤B.length→B.length<m+i →
  wA K n B m (i:Int) (ix (fl B) i)=lJ K n (ix (fl B) B.length) (Fv.c172 B):=by
 intro m
 induction m with
 | zero=>intro i d e;omega
 | succ m a =>
  intro i d e;simp only[wA,wM];by_cases f:i<B.length
  ·have h:=Kk (fl B) i;have b:=Sx (fl B) i;have a:=a (i+1) (by omega) (by omega);rw[dh (by omega),cD (by omega),eN,Pg,sb];simp only[Bh,wn (n:=(i:Int)+1) (k:=i+1) (by omega) (by omega)];cases c:gR (B.getD i default)
   ·rw[kb (by simp)];rw[b,kb (by unfold fl;rw[c];simp),List.append_nil]at a;exact a
   ·rw[lc rfl,db (by simp only[lp,th];omega) (by omega),ba];rw[b,lc (by unfold fl;rw[c])]at a;exact a
  ·obtain rfl:i=B.length:=by omega
   rw[dd (by omega)];cases lJ K n (ix (fl B) B.length) (Fv.c172 B)<;>rfl
theorem mF(g:B.length≤19){lvl n:Nat}(i:10001<n)(h:20010≤lvl):∃d,Is B d∧sy (KN lvl) n B=some d:=by
 have p:=Kk (fl B) B.length;obtain⟨d,b,c,e⟩:=QSort.LK (c0:=1) (f:=Fv.c172 B) (D:=fun a=>0≤a∧a<B.length) (key:=key B) (fun m o=>by
  obtain⟨k,rfl⟩:∃k,m=k+1:=⟨m-1,by omega⟩;exact J7 B k) (lvl:=lvl) (n:=n) (ix (fl B) B.length) i (by omega) (aeO _ _) (fun x j=>by
   obtain⟨k,l,rfl,_⟩:=SN.1 j;omega) (by omega)
 refine⟨d,⟨b,c⟩,?_⟩;have:=WN B (KN lvl) n g n 0 (by omega) (by omega);unfold sy;rw[show ix (fl B) 0=[] from rfl,show((0:Nat):Int)=0 from rfl]at this;rw[this];exact e
end Od
mutual
/-- How many boxes. -/
def bU:ab→Nat
 | ⟨_,_,_,_,_,_,a⟩=>cW a+1
def cW:d4→Nat
 | []=>0
 | b::r=>bU b+cW r
end
theorem gY(b:ab):bU b=cW b.Kids+1:=by cases b;simp only[bU]
theorem iP(b:ab):1≤bU b:=by rw[gY];omega
theorem Th:∀{l:d4} {b:ab},b∈l→bU b≤cW l
 | [],b,h=>by cases h
 | c::r,b,h=>by
  simp only[cW];rcases oR.1 h with rfl|h
  ·omega
  ·have:=Th h;omega
theorem xn:∀(l:d4),l.length≤cW l
 | []=>ll _
 | c::r=>by simp only[cW,lp];have:=xn r;have:=iP c;omega
theorem B5:∀(l m:d4),cW (l++m)=cW l+cW m
 | [],m=>by simp[cW]
 | c::r,m=>by simp only[ack,cW,B5 r m];omega
theorem rG{b k:ab}(h:k∈b.Kids):bU k<bU b:=by rw[gY b];have:=Th h;omega
theorem LF(b:ab):b.Kids.length<bU b:=by rw[gY];have:=xn b.Kids;omega
def qp(a b:ab):Bool:=(a.Kind == b.Kind)&&((a.Node == b.Node)&&((ly a.Style b.Style)&&((a.Text.toList == b.Text.toList)&&((a.Rows == b.Rows)&&(a.Cols == b.Cols)))))
mutual
def fZ:ab→ab→Bool
 | ⟨k,n,s,t,r,c,d⟩,b=>qp ⟨k,n,s,t,r,c,[]⟩ b&&iC d b.Kids
def iC:d4→d4→Bool
 | [],[]=>true
 | a::r,b::q=>fZ a b&&iC r q
 | _,_=>false
end
theorem Ja(a b:ab):fZ a b=(qp a b&&iC a.Kids b.Kids):=by cases a;simp only[fZ];rfl
theorem Vk:∀{l m:d4},iC l m=true→l.length=m.length
 | [],[],_=>rfl
 | a::r,b::q,h=>by simp only[iC,iN]at h;simp[Vk h.2]
 | [],_::_,h=>by cases h
 | _::_,[],h=>by cases h
theorem ac2(x:cw):fH x x=true:=by simp[fH]
theorem VU(x:aI):ly x x=true:=by simp[ly,ac2]
theorem WS(a:ab):qp a a=true:=by simp[qp,VU]
mutual
theorem zq:∀a:ab,fZ a a=true
 | ⟨k,n,s,t,r,c,b⟩=>by
  rw[Ja,WS,als];exact Up b
theorem Up:∀l:d4,iC l l=true
 | []=>rfl
 | a::r=>by simp only[iC,zq a,Up r,alt]
end
theorem fe{i:Nat}(h:i<1000000000):aa ((i:Int)+1)=((i+1:Nat):Int):=by rw[bL (by omega) (by omega)];omega
theorem dP{i n:Nat}(h:i<n):aP ((i:Nat):Int) n=true:=di (by omega) (by omega)
theorem fj{i n:Nat}(h:i<n):decide (((i:Nat):Int)<((n:Nat):Int))=true:=decide_eq_true (by omega)
theorem fB{i n:Nat}(h:n≤i):decide (((i:Nat):Int)<((n:Nat):Int))=false:=decide_eq_false (by omega)
theorem gN{α:Type}[Inhabited α]{L:List α}{k:Nat}(h:k<L.length):L.getD ((k:Nat):Int).toNat default=L[k]:=by rw[Int.toNat_natCast];exact bR h
theorem agC{l m:d4}{i:Nat}(a:i<l.length)(b:i<m.length):iC (l.drop i) (m.drop i)=(fZ l[i] m[i]&&iC (l.drop (i+1)) (m.drop (i+1))):=by
 rw[ls a,ls b];simp only[iC]
theorem YS(K:Kn)(n:Nat)(l q:d4)(f:l.length=q.length)(g:l.length<1000000)(d:∀k∈l,∀p,K.pb (Fv.fn 27) k p=some (fZ k p)):∀(m i:Nat),i≤l.length→l.length<m+i →
  vf K n l q (Fv.fn 27) m i=some (iC (l.drop i) (q.drop i)):=by
 intro m
 induction m with
 | zero=>intro i b c;omega
 | succ m e =>
  intro i b c;simp only[vf,AB];by_cases a:i<l.length
  ·simp only[fj a,zt,dP a,dP (show i<q.length by omega),ba,gN a,gN (show i<q.length by omega),d _ (ob a),iF];rw[agC a (by omega)];cases h:fZ l[i] q[i] with
   | false=>simp
   | true =>
    simp only[OR,iO,qv,als];rw[fe (by omega)];exact e (i+1) (by omega) (by omega)
  ·simp only[fB (show l.length≤i by omega),iO,qv];rw[l3 (by omega),l3 (by omega)];rfl
theorem agn(K:Kn)(n:Nat)(l q:d4)(d:l.length<1000000)(e:l.length<n)(c:∀k∈l,∀p,K.pb (Fv.fn 27) k p=some (fZ k p)):Ai K n l q (Fv.fn 27)=some (iC l q):=by
 unfold Ai;by_cases a:l.length=q.length
 ·have:(((l.length:Nat):Int) != ((q.length:Nat):Int))=false:=by rw[a];simp
  rw[this];simpa using YS K n l q a d c n 0 (u6 _) (by omega)
 ·have:(((l.length:Nat):Int) != ((q.length:Nat):Int))=true:=by simp[bne];omega
  rw[this,lc rfl];cases b:iC l q with
  | false=>rfl
  | true=>exact absurd (Vk b) a
theorem Bk:∀(s N:Nat) (a b:ab),bU a≤s→s<1000000→s+2≤N→oG (KN N) N a b=some (fZ a b)
 | 0,_,a,_,h,_,_=>by have:=iP a;omega
 | s+1,0,_,_,_,_,h=>by omega
 | s+1,N+1,a,b,n,o,p=>by
  have c:∀k∈a.Kids,∀q,(KN (N+1)).pb (Fv.fn 27) k q=some (fZ k q):=fun k f q=>Bk s N k q (by have:=rG f;omega) (by omega) (by omega);have d:=LF a;have e:=agn (KN (N+1)) (N+1) a.Kids b.Kids (by omega) (by omega) c;unfold oG;rw[Ja,e];unfold qp;simp only[lV,iF];cases c1:(a.Kind == b.Kind) with
  | false=>simp
  | true =>
  cases g:(a.Node == b.Node) with
  | false=>simp
  | true =>
  cases i:(ly a.Style b.Style) with
  | false=>simp
  | true =>
  cases j:(a.Text.toList == b.Text.toList) with
  | false=>simp
  | true =>
  cases l:(a.Rows == b.Rows) with
  | false=>simp
  | true =>
  cases m:(a.Cols == b.Cols) with
  | false=>simp
  | true=>simp
mutual
/-- b is within a box. -/
def ji(b:ab):ab→Bool
 | ⟨k,n,s,t,r,c,a⟩=>fZ ⟨k,n,s,t,r,c,a⟩ b||mI b a
def mI(b:ab):d4→Bool
 | []=>false
 | k::r=>ji b k||mI b r
end
theorem Fo(b a:ab):ji b a=(fZ a b||mI b a.Kids):=by cases a;simp only[ji]
theorem afV{b:ab}{l:d4}{i:Nat}(h:i<l.length):mI b (l.drop i)=(ji b l[i]||mI b (l.drop (i+1))):=by
 rw[ls h];simp only[mI]
theorem Yq(K:Kn)(n:Nat)(l:d4)(b:ab)(g:l.length<1000000)(e:∀k∈l,K.k9 (Fv.c65 b) k=some (ji b k)):∀(m i:Nat),i≤l.length→l.length<m+i →
  ∃r,lI K n l (Fv.c65 b) m i=some r∧decide (r≥0)=mI b (l.drop i):=by
 intro m
 induction m with
 | zero=>intro i c d;omega
 | succ m f =>
  intro i c d;simp only[lI,sk];by_cases a:i<l.length
  ·simp only[fj a,zt,dP a,ba,gN a,e _ (ob a),iF];rw[afV a];cases h:ji b l[i] with
   | true=>exact⟨_,rfl,by simp⟩
   | false =>
    simp only[iO,qv,akO];rw[fe (by omega)];exact f (i+1) (by omega) (by omega)
  ·simp only[fB (show l.length≤i by omega),iO,qv];rw[l3 (by omega)];exact⟨_,rfl,rfl⟩
theorem LW:∀(s N:Nat) (a b:ab),bU a≤s→s<100000→2*s+4≤N→qM (KN N) N a b=some (ji b a)
 | 0,_,a,_,h,_,_=>by have:=iP a;omega
 | s+1,0,_,_,_,_,h=>by omega
 | s+1,1,_,_,_,_,h=>by omega
 | s+1,N+2,a,b,i,l,m=>by
  have c:∀k∈a.Kids,(KN (N+2)).k9 (Fv.c65 b) k=some (ji b k):=fun k j=>by
   show yn (KN (N+1)) (N+1) k b=_;unfold yn;show(qM (KN N) N k b).bind _=_;rw[LW s N k b (by have:=rG j;omega) (by omega) (by omega)];rfl
  have e:=LF a;unfold qM;rw[Bk (s+1) (N+2) a b i (by omega) (by omega),iF,Fo];simp only[zV];cases h:fZ a b with
  | true=>simp
  | false =>
   simp only[iO,qv,akO];unfold ov Ak;obtain⟨r,f,g⟩:=Yq (KN (N+2)) (N+2) a.Kids b (by omega) c (N+2) 0 (u6 _) (by omega);have d:lI (KN (N+2)) (N+2) a.Kids (Fv.c65 b) (N+2) 0=some r:=f;rw[d];simp only[iF,g,List.drop_zero]
def dV(r:Int):List UInt8:=(Utf8.encode r).data.toList
def dv(r:Int):Prop:=(0≤r∧r<55296)∨(57344≤r∧r≤1114111)
theorem aaj{r:Int}(h:dv r):Utf8.valid r=true:=by
 unfold dv at h;unfold Utf8.valid;simp only[Io,iN,q7];omega
theorem fL{n:Nat}(h:n<256):(UInt8.ofNat n).toNat=n:=by rw[UInt8.toNat_ofNat',ak1 h]
theorem Im {r:Int} (h:dv r):∃ c:Nat,r=(c:Int) ∧
    ((c<128∧dV r=[UInt8.ofNat c])∨(128≤c∧c<2048∧dV r=[UInt8.ofNat (192+c / 64),UInt8.ofNat (128+c % 64)]) ∨
     (2048≤c∧c<65536∧(c<55296∨57344≤c)∧dV r=[UInt8.ofNat (224+c / 4096),UInt8.ofNat (128+c / 64 % 64),UInt8.ofNat (128+c % 64)]) ∨
     (65536≤c∧c≤1114111∧dV r=[UInt8.ofNat (240+c / 262144),UInt8.ofNat (128+c / 4096 % 64),UInt8.ofNat (128+c / 64 % 64),UInt8.ofNat (128+c % 64)])):=by
  refine⟨r.toNat,by unfold dv at h;omega,?_⟩;unfold dV Utf8.encode;simp only[aaj h,zt];unfold dv at h;generalize e:r.toNat=c at *;by_cases a:c<128
  · left;simp[a]
  · by_cases b:c<2048
    · right;left;simp[a,b];omega
    · by_cases d:c<65536
      · right;right;left;simp[a,b,d];omega
      · right;right;right;simp[a,b,d];omega
theorem Gd{r:Int}(h:dv r)(t:List UInt8):Lib.decodeL (dV r++t)=(r.toNat,(dV r).length):=by
 obtain⟨c,rfl,h|h|h|h⟩:=Im h
 ·rw[h.2,alu];simp only[ack,Db,ak4,fL (show c<256 by omega),Int.toNat_natCast,lp,th];unfold Lib.decodeN;rw[lc h.1]
 ·rw[h.2.2,alu];simp only[ack,Db,ak4,ak3,fL (show 192+c / 64<256 by omega),fL (show 128+c % 64<256 by omega),Int.toNat_natCast,lp,th];unfold Lib.decodeN;rw[kb (by omega),lc (by omega),lc (by omega)];congr 1;omega
 ·rw[h.2.2.2,alu];simp only[ack,Db,ak4,ak3,fL (show 224+c / 4096<256 by omega),fL (show 128+c / 64 % 64<256 by omega),fL (show 128+c % 64<256 by omega),Int.toNat_natCast,lp,th];unfold Lib.decodeN;rw[kb (by omega),kb (by omega),lc (by omega),lc (by omega)];congr 1;omega
 ·rw[h.2.2,alu];simp only[ack,Db,ak4,ak3,fL (show 240+c / 262144<256 by omega),fL (show 128+c / 4096 % 64<256 by omega),fL (show 128+c / 64 % 64<256 by omega),fL (show 128+c % 64<256 by omega),Int.toNat_natCast,lp,th];unfold Lib.decodeN;rw[kb (by omega),kb (by omega),kb (by omega),lc (by omega),lc (by omega)];congr 1;omega
theorem D8{r:Int}(h:dv r):1≤(dV r).length∧(dV r).length≤4:=by
 obtain⟨c,_,h|h|h|h⟩:=Im h
 ·rw[h.2];simp
 ·rw[h.2.2];simp
 ·rw[h.2.2.2];simp
 ·rw[h.2.2];simp
theorem ahr(n a b c d:Nat):dv ((Lib.decodeN n a b c d).1:Int):=by
 unfold Lib.decodeN dv
 repeat' split
 all_goals simp only[]
 all_goals omega
theorem aac(l:List UInt8):dv ((Lib.decodeL l).1:Int):=by rw[alu];exact ahr _ _ _ _ _
def iY:Nat→List UInt8→ck
 | 0,_=>[]
 | n+1,l=>if l.isEmpty=true then [] else ((Lib.decodeL l).1:Int)::iY n (l.drop (Lib.decodeL l).2)
theorem acl:∀(n m:Nat) (l:List UInt8),l.length≤n→l.length≤m→iY n l=iY m l:=by
 intro n
 induction n with
 | zero =>
  intro m l a b;have:l=[]:=n3 (by omega);subst this;cases m<;>simp[iY]
 | succ n c =>
  intro m l a b;cases m with
  | zero =>
   have:l=[]:=n3 (by omega);subst this;simp[iY]
  | succ m =>
   unfold iY;split
   ·rfl
   ·have:=alS l;rw[c m _ (by simp;omega) (by simp;omega)]
def jG(l:List UInt8):ck:=iY l.length l
theorem ZK:jG []=[]:=rfl
theorem Ti{l:List UInt8}(h:l≠[]):jG l=((Lib.decodeL l).1:Int)::jG (l.drop (Lib.decodeL l).2):=by
 unfold jG;cases l with
 | nil=>exact absurd rfl h
 | cons x r =>
  have:=alS (x::r);rw[show iY (x::r).length (x::r)=((Lib.decodeL (x::r)).1:Int)::iY r.length ((x::r).drop (Lib.decodeL (x::r)).2) from rfl];rw[acl r.length _ _ (by simp;omega) (ll _)]
theorem adZ{r:Int}(h:dv r)(t:List UInt8):jG (dV r++t)=r::jG t:=by
 have a:=D8 h;rw[Ti (by intro e;rw[List.append_eq_nil_iff]at e;rw[e.1]at a;simp at a),Gd h t];simp only[amd];congr 1;unfold dv at h;omega
def dx(rs:ck):List UInt8:=rs.flatMap dV
theorem Qm(r:Int)(rs:ck):dx (r::rs)=dV r++dx rs:=by simp[dx]
theorem Qi(a b:ck):dx (a++b)=dx a++dx b:=by simp[dx]
theorem PJ:∀{rs:ck} (t:List UInt8),(∀r∈rs,dv r)→jG (dx rs++t)=rs++jG t
 | [],t,_=>rfl
 | r::rs,t,h=>by
  rw[Qm,tl,adZ (h r (by simp)),PJ t (fun x a=>h x (by simp[a]))];rfl
theorem ahC{rs:ck}(h:∀r∈rs,dv r):jG (dx rs)=rs:=by
 have:=PJ [] h;simpa[ZK]using this
theorem NT:∀(n:Nat) (l:List UInt8),∀r∈iY n l,dv r
 | 0,_,r,h=>by cases h
 | n+1,l,r,h=>by
  unfold iY at h;split at h
  ·cases h
  ·rcases oR.1 h with rfl|h
   ·exact aac l
   ·exact NT n _ r h
theorem Gv{l:List UInt8}:∀r∈jG l,dv r:=NT _ _
theorem RV:∀(n:Nat) (l:List UInt8),(iY n l).length≤n
 | 0,_=>by simp[iY]
 | n+1,l=>by
  unfold iY;split
  ·simp
  ·have:=RV n (l.drop (Lib.decodeL l).2);simp;omega
theorem aj1(l:List UInt8):(jG l).length≤l.length:=RV _ _
def iu(b:ByteArray)(p:Nat):ck:=jG (b.data.toList.drop p)
theorem xR(b:ByteArray):b.data.toList.length=b.size:=rfl
theorem Mn{b:ByteArray}{p:Nat}(h:¬ p<b.size):iu b p=[]:=by
 unfold iu;rw[l3 (by rw[xR];omega)];rfl
theorem M5{b:ByteArray}{p:Nat}(h:p<b.size):iu b p=((Utf8.decode b p).1:Int)::iu b (p+(Utf8.decode b p).2):=by
 unfold iu;rw[Ti (by intro e;have:=congrArg List.length e;simp at this;have a:=xR b;simp at a;omega),alp,akJ]
theorem Ua(b:ByteArray)(p:Nat):1≤(Utf8.decode b p).2:=by rw[←alp];exact alS _
def ints(l:List UInt8):ck:=l.map fun b=>(b.toNat:Int)
theorem adX(a b:List UInt8):ints (a++b)=ints a++ints b:=by simp[ints]
theorem aiF(a:List UInt8):(ints a).length=a.length:=by simp[ints]
theorem ab0(x y:Int):gP .u8 x y=bits .and .u8 x y:=rfl
theorem DV(x y:Int):fg .u8 x y=bits .or .u8 x y:=rfl
theorem w8{n:Int}(h:0≤n∧n<256):IntKind.wrap .u8 n=n:=by rw[al8];omega
theorem sZ(y:Int):fg .u8 128 (gP .u8 (IntKind.wrap .u8 y) 63)=128+y % 64:=by
 have h:0≤IntKind.wrap .u8 y∧IntKind.wrap .u8 y<256:=by rw[al8];omega
 rw[ab0,u8_and63 _ h.1 h.2,DV,u8_or128 _ (by omega) (by omega),al8];omega
section
variable{K:Kn}{n:Nat}
theorem Y7{r:Int}(h:dv r){L:ck}(f:L.length≤1000000):tX K n r L=some (L++ints (dV r)):=by
 have a:IntKind.wrap .u32 r=r:=by rw[IntKind.wrap_u32];unfold dv at h;omega
 unfold tX;rw[a];obtain⟨c,rfl,b|b|b|b⟩:=Im h
 ·rw[lc (by simp;omega),db (by simp;omega) (by omega),ba,b.2,w8 (by omega)];simp only[ints,q6,yk,fL (show c<256 by omega)]
 ·rw[kb (by simp;omega)];unfold uX;rw[a,lc (by simp;omega),db (by simp;omega) (by omega),ba,b.2.2];simp only[iF,ints,q6,yk,fL (show 192+c / 64<256 by omega),fL (show 128+c % 64<256 by omega)];rw[w8 (n:=(c:Int) / 64) (by omega),DV 192,u8_or192 _ (by omega) (by omega),sZ];congr 3<;>omega
 ·rw[kb (by simp;omega)];unfold uX;rw[a,kb (by simp;omega)];have e:nU K n (c:Int) L true=some (L++ints (dV (c:Int))):=by
   unfold nU;rw[lc rfl,db (by simp;omega) (by omega),ba,b.2.2.2];simp only[ints,q6,yk,fL (show 224+c / 4096<256 by omega),fL (show 128+c / 64 % 64<256 by omega),fL (show 128+c % 64<256 by omega)];rw[w8 (n:=(c:Int) / 4096) (by omega),DV 224,u8_or224 _ (by omega) (by omega),sZ,sZ];congr 3<;>omega
  by_cases d:(c:Int)<55296
  ·rw[lc (by simpa using d),e];rfl
  ·rw[kb (by simpa using d),lc (by simp;omega),show decide ((c:Int)≤65535)=true by simp;omega,e];rfl
 ·rw[kb (by simp;omega)];unfold uX;rw[a,kb (by simp;omega),kb (by simp;omega),lc (by simp;omega),show decide ((c:Int)≤65535)=false by simp;omega];unfold nU;rw[a,kb (by simp),lc (by simp;omega),show decide ((c:Int)≤1114111)=true by simp;omega];unfold yi;rw[lc rfl,db (by simp;omega) (by omega),ba,b.2.2];simp only[iF,ints,q6,yk,fL (show 240+c / 262144<256 by omega),fL (show 128+c / 4096 % 64<256 by omega),fL (show 128+c / 64 % 64<256 by omega),fL (show 128+c % 64<256 by omega)];rw[w8 (n:=(c:Int) / 262144) (by omega),DV 240,u8_or240 _ (by omega) (by omega),sZ,sZ,sZ];congr 3<;>omega
theorem YG{r:Int}(h:dv r){L:ck}(a:L.length≤1000000)(b:Bool):∃x,pw K n r b L=some (x,(),L++ints (dV r)):=by
 unfold pw;rw[Y7 h a];cases b
 ·exact⟨_,rfl⟩
 ·exact⟨_,rfl⟩
end
theorem aaI{l:List UInt8}(h:l≠[]):pk (ints l)=true:=by
 unfold pk ints;rw[iN];refine⟨?_,by cases l;exact absurd rfl h;rfl⟩;rw[ne];intro n a;obtain⟨b,_,rfl⟩:=BY.1 a;have:=UInt8.toNat_lt b;simp;omega
theorem afI(l:List UInt8):bytesOf (ints l)=⟨l.toArray⟩:=by
 unfold bytesOf ints;rw[List.map_map];congr 2
 conv=>rhs;rw[←List.map_id l]
 refine ami fun b _=>?_;simp
noncomputable section
def j6(r:Int):Bool:=r == 9||(r == 10||(r == 13||r == 32))
def yW(r:Int):Int:=(l5 (KN 0) 0 r).getD 0
def aeH(s:Int):Int:=min (max s 0) 1048576
def G3(r s:Int):Int:=aa (Int.tdiv (aa ((aa (yW r*aeH s))+15)) 16)
def pJ(a b:Int):Bool:=bif j6 b||yW b == 0 then false else bif j6 a then true else bif a == 45&&b != 45 then true else decide (a≥11904)||decide (b≥11904)
def iZ(e:aJ):Bool:=e.Kind == 1&&(e.Box.Style.WhiteSpace != 1&&e.Box.Style.WhiteSpace != 2)
def iB(a b:aJ):Bool :=
 bif a.Kind == 3||b.Kind == 3 then (a.Kind == 3||iZ a)&&(b.Kind == 3||iZ b)
 else bif a.Kind != 1||(b.Kind != 1||(!iZ a||(a.Char != 32&&!iZ b))) then false else pJ a.Char b.Char
def sJ{α:Type}(x:Option α):Prop:=∃u,x=some u
theorem U7{α:Type}(u:α):sJ (some u):=⟨u,rfl⟩
theorem Q6{α:Type}{c:Prop}[Decidable c]{x y:Option α}(a:sJ x)(b:sJ y):sJ (if c then x else y):=by split;exact a;exact b
section
variable(K:Kn)(n:Nat)
theorem T1(r:Int):vd K n r=some (j6 r):=by
 unfold vd j6;cases a:(r == 9)<;>cases b:(r == 10)<;>cases c:(r == 13)<;>cases d:(r == 32)<;>simp[qP]
theorem aaH(r:Int):sJ (l5 K n r):=by
 unfold l5 lx;simp only[ia,gl,mB,yv]
 repeat first|exact U7 _|apply Q6
theorem Ov(r:Int):l5 K n r=some (yW r):=by
 obtain⟨u,a⟩:=aaH K n r;have e:l5 (KN 0) 0 r=l5 K n r:=rfl;unfold yW;rw[e,a];rfl
theorem L5(r s:Int):nX K n r s=some (G3 r s):=by
 unfold nX;rw[Ov];rfl
theorem agv(a b:Int):Bj K n a b=some (pJ a b):=by
 unfold Bj pJ;rw[T1,Ov];simp only[iF];have c:qg K n a b true=some false:=rfl;have d:qg K n a b false=some (bif j6 a then true else bif a == 45&&b != 45 then true else decide (a≥11904)||decide (b≥11904)):=by
  unfold qg;rw[kb (by simp),T1];simp only[iF];cases j6 a with
  | true=>simp
  | false =>
   simp only[iO,qv,akT];unfold zK zQ;cases e:(a == 45)<;>cases f:(b != 45)<;>cases g:decide (a≥11904)<;>simp
 cases j6 b with
 | true=>rw[lc rfl,c];rfl
 | false =>
  rw[kb (by simp)];cases (yW b == 0) with
  | true=>rw[c];rfl
  | false=>rw[d];rfl
theorem Lh(e:aJ):nF K n e=some (iZ e):=by
 unfold nF iZ uZ;cases a:(e.Kind == 1)<;>cases b:(e.Box.Style.WhiteSpace != 1)<;>simp
end
theorem Rh(a b:ByteArray):(a++b).data.toList=a.data.toList++b.data.toList:=by
 rw[ByteArray.data_append,Array.toList_append]
theorem adL(a b:Int):(runesBytes [a,b]).data.toList=dV a++dV b:=by
 unfold runesBytes;simp only[akA,List.foldl_nil];rw[Rh,Rh];rfl
theorem afY(K:Kn){n:Nat}(p:3≤n){a b:Int}(e:dv a)(f:dv b):∃l,xz K n (runesBytes [a,b])=some l∧decide ((l.length:Int)>0)=pJ a b:=by
 generalize k:runesBytes [a,b]=B;have g:B.data.toList=dV a++dV b:=by rw[←k];exact adL a b
 have r:=D8 e;have s:=D8 f;have q:B.size=(dV a).length+(dV b).length:=by rw[←xR,g,nw]
 have h:Utf8.decode B 0=(a.toNat,(dV a).length):=by
  rw[←alp,List.drop_zero,g,Gd e]
 have d:Utf8.decode B (dV a).length=(b.toNat,(dV b).length):=by
  rw[←alp,g,amd];have:=Gd f [];rwa[List.append_nil]at this
 have i:((a.toNat:Nat):Int)=a:=by unfold dv at e;omega
 have j:((b.toNat:Nat):Int)=b:=by unfold dv at f;omega
 obtain⟨m,rfl⟩:∃m,n=m+3:=⟨n-3,by omega⟩;unfold xz;show ∃l,lG K (m+3) B (n0 K (m+3) B (m+2)) 0 0 []=some l∧_;unfold lG;rw[lc (by simp;omega),kb (by simp)];unfold pF;rw[kb (by simp)];unfold qr;rw[h];simp only[Dy,i];show ∃l,lG K (m+3) B (n0 K (m+3) B (m+1)) a (dV a).length []=some l∧_;unfold lG;rw[lc (by simp;omega),lc (by simp;omega),d];simp only[j];rw[agv];simp only[iF];have c:∀(x:Int) (l:ck),n0 K (m+3) B (m+1) x ((dV a).length+(dV b).length) l=some l:=fun x l=>by
  show lG K (m+3) B (n0 K (m+3) B m) x _ l=some l;unfold lG;rw[kb (by simp;omega)]
 cases o:pJ a b with
 | true =>
  unfold pF;rw[lc rfl,db (by simp) (by omega),ba];unfold qr;rw[d];simp only[];rw[c];exact⟨_,rfl,by simp⟩
 | false =>
  unfold pF;rw[kb (by simp)];unfold qr;rw[d];simp only[];rw[c];exact⟨_,rfl,by simp⟩
theorem rQ(K:Kn){n:Nat}(o:3≤n){a b:aJ}(k:dv a.Char)(m:dv b.Char):li K n a b=some (iB a b):=by
 obtain⟨l,g,h⟩:=afY K o k m;have e:mc K n a b true=some false:=rfl;have p:mc K n a b false=some (pJ a.Char b.Char):=by
  unfold mc;rw[kb (by simp),g];simp only[iF];rw[h]
 unfold li iB;have f:ox K n a b true=some ((a.Kind == 3||iZ a)&&(b.Kind == 3||iZ b)):=by
  unfold ox nQ;simp only[Lh,iF];cases c:(a.Kind == 3)<;>cases d:(b.Kind == 3)<;>cases i:iZ a<;>cases j:iZ b<;>simp
 have q:ox K n a b false=some (bif a.Kind != 1||(b.Kind != 1||(!iZ a||(a.Char != 32&&!iZ b))) then false else pJ a.Char b.Char):=by
  unfold ox;simp only[Lh,iF,e];cases c:(a.Kind != 1)<;>cases d:(b.Kind != 1)<;>cases i:iZ a<;>cases j:(a.Char != 32)<;>cases r:iZ b<;>simp[e,p]
 cases c:(a.Kind == 3) with
 | true=>rw[lc rfl,f,c];rfl
 | false =>
  rw[kb (by simp)];cases d:(b.Kind == 3) with
  | true=>rw[f,c,d];rfl
  | false=>rw[q];rfl
def zW(s a:Int):ck→Int
 | []=>a
 | r::t=>zW s (aa (a+G3 r s)) t
theorem ahe(K:Kn)(n:Nat)(b:ByteArray)(s:Int):∀(m:Nat) (a:Int) (p:Nat),b.size-p<m→uJ K n b s m a p=some (zW s a (iu b p)):=by
 intro m
 induction m with
 | zero=>intro a p h;omega
 | succ m d =>
  intro a p h;show sH K n b s (uJ K n b s m) a p=_;unfold sH;by_cases c:p<b.size
  ·have:=Ua b p;rw[lc (by simpa using c),L5,M5 c];simp only[iF,zW];exact d _ _ (by omega)
  ·rw[kb (by simpa using c),Mn c];rfl
theorem Sw(K:Kn){n:Nat}(b:ByteArray)(s:Int)(a:b.size<n):qQ K n b s=some (zW s 0 (iu b 0)):=by
 unfold qQ;exact ahe K n b s n 0 0 (by omega)
def km(s:aI):Int×Int:=(ow (KN 0) 0 s).getD default
theorem Qh(K:Kn)(n:Nat)(s:aI):ow K n s=some (km s):=rfl
def cX(x:d6):ck:=x.map fun e=>e.Char
def CP(x:d6):Bool:=(x.getD (x.length-1) default).Soft
def EI(x:d6):ck:=bif CP x then (cX x).dropLast else cX x
def f8(rs:ck):ByteArray:=⟨(dx rs).toArray⟩
def z0(x:d6):aI:=(x.getD 0 default).Box.Style
def eF(x:d6):az :=
 { cR with Text:=f8 (cX x),Width:=zW (z0 x).FontSize 0 (EI x),Space:=bif CP x then G3 32 (z0 x).FontSize else 0,Above:=(km (z0 x)).1,Below:=(km (z0 x)).2 }
theorem BK{rs:ck}(h:∀r∈rs,dv r):rs.length≤(dx rs).length∧(dx rs).length≤4*rs.length:=by
 induction rs with
 | nil=>simp[dx]
 | cons r t b =>
  have:=D8 (h r (by simp));have:=b (fun x a=>h x (by simp[a]));rw[Qm,nw,lp];omega
theorem BP(rs:ck):(f8 rs).size=(dx rs).length:=by unfold f8;rfl
theorem Fp(rs:ck):(f8 rs).data.toList=dx rs:=by unfold f8;simp
theorem Lf{rs:ck}(h:∀r∈rs,dv r):iu (f8 rs) 0=rs:=by
 unfold iu;rw[List.drop_zero,Fp,ahC h]
theorem ajY{rs:ck}(a:rs≠[])(h:rs.getLast a=32):dx rs=dx rs.dropLast++[32]:=by
 conv=>lhs;rw[←alv a]
 rw[Qi,h];rfl
theorem ajv{rs:ck}(a:rs≠[])(h:rs.getLast a=32):(f8 rs).extract 0 ((f8 rs).size-1)=f8 rs.dropLast:=by
 have e:=ajY a h;have b:(f8 rs).size=(dx rs.dropLast).length+1:=by rw[BP,e];simp
 apply ByteArray.ext;apply Array.ext';rw[al1,amc,Fp,Fp,b,e];simp
structure j0(e:aJ):Prop where
 ch:dv e.Char
 soft:e.Soft=true→e.Char=32
theorem HH{x:d6}(h:∀e∈x,j0 e):∀r∈cX x,dv r:=by
 intro r b;obtain⟨e,a,rfl⟩:=BY.1 b;exact(h e a).ch
section
variable{K:Kn}{n:Nat}{x:d6}
theorem QX(z:x≠[])(I:x.length≤2000)(w:∀e∈x,j0 e)(J:8010≤n)(b:Bool):uT K n x (ints (dx (cX x))) b=some (eF x):=by
 have H:0<x.length:=List.length_pos_iff.2 z;have v:cX x≠[]:=by unfold cX;simp[z]
 have D:(cX x).length=x.length:=by unfold cX;simp
 have f:=HH w;have j:=BK f;have p:dx (cX x)≠[]:=by intro e;rw[e]at j;have:=j.1;simp only[th]at this;omega
 have A:aa ((x.length:Int)-1)=((x.length-1:Nat):Int):=by rw[bL (by omega) (by omega)];omega
 have o:bytesOf (ints (dx (cX x)))=f8 (cX x):=afI _;have F:(f8 (cX x)).size=(dx (cX x)).length:=BP _;have B:aa (((f8 (cX x)).size:Int)-1)=(((f8 (cX x)).size-1:Nat):Int):=by rw[bL (by omega) (by omega)];omega
 have key:∀(a:aI) (Y:ByteArray→Int→Option az),(∀k l,Y k l=(qQ K n k a.FontSize).bind fun t=>(ow K n a).bind fun m=>some ({ cR with Text:=bytesOf (ints (dx (cX x))),Width:=t,Space:=l,Above:=m.1,Below:=m.2 }:az))→a=z0 x →
   aE (pk (ints (dx (cX x)))) (aE (aP (aa ((x.length:Int)-1)) x.length) ((some ((List.getD x ((aa ((x.length:Int)-1))).toNat default).Soft)).bind fun s =>
    if s=true then aE (cQ (0:Int) (aa (((bytesOf (ints (dx (cX x)))).size:Int)-1)) (bytesOf (ints (dx (cX x)))).size) ((some (ByteArray.extract (bytesOf (ints (dx (cX x)))) (0:Int).toNat ((aa (((bytesOf (ints (dx (cX x)))).size:Int)-1))).toNat)).bind fun c=>(nX K n 32 a.FontSize).bind fun d=>Y c d)
    else Y (bytesOf (ints (dx (cX x)))) 0))=some (eF x):=by
  intro a Y u G;subst G;rw[aaI p,ba,A,di (by omega) (by omega),ba];simp only[iF,Int.toNat_natCast];have y:(List.getD x (x.length-1) default).Soft=CP x:=rfl;rw[y,o,B];cases h:CP x with
  | true =>
   have g:(cX x).getLast v=32:=by
    have E:x.getD (x.length-1) default∈x:=by rw[bR (by omega)];exact ob _
    have:=(w _ E).soft (by rw[y];exact h);rw[List.getLast_eq_getElem];unfold cX;rw[akE];rw[bR (by omega)]at this;simpa using this
   rw[lc rfl,show cQ (0:Int) (((f8 (cX x)).size-1:Nat):Int) (f8 (cX x)).size=true by simp only[cQ,iN,q7];omega,ba];simp only[Int.toNat_zero,Int.toNat_natCast];rw[ajv v g,L5];simp only[iF];rw[u,Sw K (f8 (cX x).dropLast) _ (by
    have C:=BK (rs:=(cX x).dropLast) (fun r q=>f r ((al9 _).subset q));rw[BP];simp at C;omega),Lf (fun r q=>f r ((al9 _).subset q)),Qh,o]
   simp only[iF];unfold eF EI;rw[h];rfl
  | false =>
   rw[kb (by simp),u,Sw K (f8 (cX x)) _ (by omega),Lf f,Qh,o];simp only[iF];unfold eF EI;rw[h];rfl
 unfold uT;rw[di (i:=(0:Int)) (by omega) (by omega)];simp only[ba,iF];cases b with
 | true=>rw[lc rfl];exact key _ (fun c d=>zT K n _ _ c d) (fun _ _=>rfl) rfl
 | false=>rw[kb (by simp)];exact key _ (fun c d=>ym K n _ _ c d) (fun _ _=>rfl) rfl
theorem ZY(l:x≠[])(j:x.length≤2000)(d:∀e∈x,j0 e)(k:8010≤n):∀(m i:Nat) (b:Bool),i≤x.length→x.length<m+i→qL K n x m (i:Int) b (ints (dx ((cX x).take i)))=some (eF x):=by
 intro m
 induction m with
 | zero=>intro i b o p;omega
 | succ m t =>
  intro i b o p;show rR K n x (qL K n x m) i b _=_;unfold rR;have g:(cX x).length=x.length:=by unfold cX;simp
  by_cases a:i<x.length
  ·have q:x.getD i default∈x:=by rw[bR a];exact ob _
   have c:=BK (rs:=(cX x).take i) (fun r f=>HH d r (wl f));have h:(cX x).take (i+1)=(cX x).take i++[(x.getD i default).Char]:=by
    rw[alT,jt (by rw[g];exact a),bR a];simp[cX]
   have f:∀b,(pw K n ((List.getD x ((i:Int)).toNat default).Char) b (ints (dx ((cX x).take i)))).bind (fun u=>qL K n x m (aa ((i:Int)+1)) true u.2.2)=some (eF x):=fun b=>by
    rw[Int.toNat_natCast];obtain⟨y,s⟩:=YG (K:=K) (n:=n) (d _ q).ch (L:=ints (dx ((cX x).take i))) (by rw[aiF];simp at c;omega) b;rw[s];simp only[iF];rw[bL (by omega) (by omega),show(i:Int)+1=((i+1:Nat):Int) by omega,← adX];have e:dx ((cX x).take i)++dV (x.getD i default).Char=dx ((cX x).take (i+1)):=by
     rw[h,Qi];simp[dx]
    rw[e];exact t (i+1) true (by omega) (by omega)
   cases b with
   | true=>rw[lc rfl,lc (by simpa using a),di (by omega) (by omega),ba];exact f true
   | false=>rw[kb (by simp),lc (by simpa using a),di (by omega) (by omega),ba];exact f false
  ·have h:(cX x).take i=cX x:=Dz (by omega);rw[h];cases b with
   | true=>rw[lc rfl,kb (by simpa using a)];exact QX l j d k true
   | false=>rw[kb (by simp),kb (by simpa using a)];exact QX l j d k false
theorem GR(d:x≠[])(a:x.length≤2000)(c:∀e∈x,j0 e)(b:8010≤n):qJ K n x=some (eF x):=by
 unfold qJ;exact ZY d a c b n 0 false (by omega) (by omega)
end
end
noncomputable section
def jF(e:aJ):Bool:=e.Box.Style.WhiteSpace == 2
def mA(a:d6):aJ:=a.getD (a.length-1) default
def vR(a:d6):Bool:=a.isEmpty||((mA a).Soft||(mA a).Kind == 2)
def oi(a:d6)(e:aJ):d6 :=
  bif j6 e.Char then
    (bif jF e then (bif e.Char == 10 then a++[{ e with Kind:=2,Char:=32 }] else bif e.Char == 13 then a else a++[{ e with Char:=32 }])
     else bif vR a then a else a++[{ e with Soft:=true,Char:=32 }])
  else a++[e]
theorem Us a e:(oi a e).length≤a.length+1:=by
 grind[oi]
section
variable(K:Kn)(n:Nat)
theorem J6{a}(b:a.length≤1000000) e:qO K n a e=some (a++[{ e with Char:=32 }]):=by
 grind[qO,db,ba]
theorem aa4{a:d6}(k:a.length≤1000000)(e:aJ):A5 K n e a=some (oi a e):=by
 have j:∀b,mS K n e a b=some (bif b then a else a++[{ e with Soft:=true,Char:=32 }]):=fun b=>by
  unfold mS;cases b with
  | true=>rfl
  | false=>rw[kb (by simp),J6 K n k];rfl
 have o:∀b,jF e=b→∀c,tZ K n e a c=some (bif c then a else bif b then a++[{ e with Char:=32 }] else bif vR a then a else a++[{ e with Soft:=true,Char:=32 }]):=fun b t c=>by
  unfold tZ;cases c with
  | true=>rfl
  | false =>
   have h:(e.Box.Style.WhiteSpace == 2)=b:=t;rw[kb (by simp),h];cases b with
   | true=>rw[show(!true)=false from rfl,kb (by simp),J6 K n k];rfl
   | false =>
    rw[show(!false)=true from rfl,lc rfl];by_cases f:a=[]
    ·subst f;rw[lc (by simp),j];rfl
    ·have p:0<a.length:=List.length_pos_iff.2 f;have s:aa ((a.length:Int)-1)=((a.length-1:Nat):Int):=by rw[bL (by omega) (by omega)];omega
     have g:a.isEmpty=false:=by cases a;exact absurd rfl f;rfl
     rw[kb (by simp;exact f),s,di (by omega) (by omega)];simp only[ba,Int.toNat_natCast]
     change (if (mA a).Soft=true then mS K n e a true else mS K n e a ((mA a).Kind == 2))=_
     cases q:(mA a).Soft with
     | true=>rw[lc rfl,j];unfold vR;rw[g,q];rfl
     | false=>rw[kb (by simp),j];unfold vR;rw[g,q];rfl
 have m:∀c,sY K n e a c=some (bif c then a++[{ e with Kind:=2,Char:=32 }] else bif jF e then (bif e.Char == 13 then a else a++[{ e with Char:=32 }]) else bif vR a then a else a++[{ e with Soft:=true,Char:=32 }]):=fun c=>by
  unfold sY;cases c with
  | true=>rw[lc rfl,J6 K n k];rfl
  | false =>
   have h:(e.Box.Style.WhiteSpace == 2)=jF e:=rfl;rw[kb (by simp),h];cases d:jF e with
   | true=>rw[lc rfl,o true d];rfl
   | false=>rw[kb (by simp),o false d];rfl
 have i:lZ K n e a true=some (bif jF e then (bif e.Char == 10 then a++[{ e with Kind:=2,Char:=32 }] else bif e.Char == 13 then a else a++[{ e with Char:=32 }]) else bif vR a then a else a++[{ e with Soft:=true,Char:=32 }]):=by
  unfold lZ;have h:(e.Box.Style.WhiteSpace == 2)=jF e:=rfl;rw[lc rfl,h];cases d:jF e with
  | true=>rw[lc rfl,m,d];rfl
  | false=>rw[kb (by simp),m,d];rfl
 have f:lZ K n e a false=some (a++[e]):=by
  unfold lZ;rw[kb (by simp),db (by simp;omega) (by omega),ba]
 unfold A5 oi j6;cases u:(e.Char == 9) with
 | true=>rw[lc rfl,i];rfl
 | false =>
  rw[kb (by simp)];cases l:(e.Char == 10) with
  | true=>rw[lc rfl,i,l];rfl
  | false =>
   rw[kb (by simp)];cases r:(e.Char == 13) with
   | true=>rw[lc rfl,i,l,r];rfl
   | false =>
    rw[kb (by simp)];cases v:(e.Char == 32) with
    | true=>rw[i,l,r];rfl
    | false=>rw[f];rfl
end
def mf(b:ab):Bool:=(j4 (KN 0) 0 b).getD false
def qq(b:ab)(a:Int)(c:d6)(rs:ck):d6:=rs.foldl (fun o r=>oi o ⟨1,a,r,false,b⟩) c
def vM:Nat→d4→Int×d6→Int×d6
  | 0,_,s=>s
  | d+1,L,s=>L.foldl (fun s b=>bif mf b then
      (bif b.Kind == 2 then vM d b.Kids (aa (s.1+1),s.2)
       else bif b.Kind == 4 then (aa (s.1+1),s.2++[⟨2,aa (s.1+1),0,false,b⟩])
       else bif b.Kind == 5 then (aa (s.1+1),s.2++[⟨3,aa (s.1+1),0,false,b⟩])
       else bif b.Kind == 3 then (aa (s.1+1),qq b (aa (s.1+1)) s.2 (iu b.Text 0))
       else (aa (s.1+1),s.2)) else s) s
def gJ (d : Nat) (s : Int × d6) (b : ab) : Int × d6 := bif mf b then
      (bif b.Kind == 2 then vM d b.Kids (aa (s.1+1),s.2)
       else bif b.Kind == 4 then (aa (s.1+1),s.2++[⟨2,aa (s.1+1),0,false,b⟩])
       else bif b.Kind == 5 then (aa (s.1+1),s.2++[⟨3,aa (s.1+1),0,false,b⟩])
       else bif b.Kind == 3 then (aa (s.1+1),qq b (aa (s.1+1)) s.2 (iu b.Text 0))
       else (aa (s.1+1),s.2)) else s
theorem k8 d L s:vM (d+1) L s=L.foldl (gJ d) s:=rfl
def eA:Nat→d4→Nat
 | 0,_=>0
 | d+1,L=>(L.map fun b=>1+b.Text.size+eA d b.Kids).sum
def Dp:Nat→d4→Prop
 | 0,_=>False
 | d+1,L=>L.length≤1000∧∀b∈L,b.Text.size≤1000∧(b.Kind=2→Dp d b.Kids)
theorem To b c:∀rs a,(qq b c a rs).length≤a.length+rs.length
 | [],a=>by simp[qq]
 | r::t,a=>by
  have:=To b c t (oi a ⟨1,c,r,false,b⟩);have:=Us a ⟨1,c,r,false,b⟩
  grind[qq]
theorem WC b p:(iu b p).length≤b.size:=by
 grind[iu,aj1,xR]
theorem T2 d(a:∀L s,(vM d L s).2.length≤s.2.length+eA d L) s b:(gJ d s b).2.length≤s.2.length+(1+b.Text.size+eA d b.Kids):=by
 unfold gJ;cases mf b with
 | false=>grind
 | true =>
  grind[aa,To,iu,WC]
theorem RY:∀(d:Nat) (L:d4) (s:Int×d6),(vM d L s).2.length≤s.2.length+eA d L:=by
 intro d
 induction d with
 | zero=>intro L s;simp[vM,eA]
 | succ d e =>
  intro L
  induction L with
  | nil=>intro s;simp[vM,eA]
  | cons b r a =>
   intro s;have f:=T2 d e s b;have c:=a (gJ d s b);rw[k8,akA];rw[k8]at c;simp only[eA,q6,List.sum_cons]at c⊢;omega
theorem abw K n b:j4 K n b=some (mf b):=by
 have e:j4 (KN 0) 0 b=j4 K n b:=rfl;have:sJ (j4 K n b):=by
  repeat first|exact U7 _|apply Q6
 obtain⟨u,a⟩:=this
 grind[mf]
theorem ace(K:Kn)(n:Nat)(L:d4)(i b:Int)(C:Int→Int→d6→Option (Int×d6))(j:i.toNat<L.length):∀(m p:Nat) (a:d6),(L.getD i.toNat default).Text.size-p<m→a.length+((L.getD i.toNat default).Text.size-p)≤900000 →
  vq K n L i b C m p a=C (aa (i+1)) (aa (b+1)) (qq (L.getD i.toNat default) (aa (b+1)) a (iu (L.getD i.toNat default).Text p)):=by
 intro m
 induction m with
 | zero=>intro p a h;omega
 | succ m e =>
  intro p a f g;show tU K n L i b C (vq K n L i b C m) p a=_;unfold tU;by_cases c:p<(L.getD i.toNat default).Text.size
  ·have k:=Ua (L.getD i.toNat default).Text p;rw[lc (by simpa using c)];simp only[iF];rw[aa4 K n (by omega)];simp only[iF];have d:=Us a ⟨1,aa (b+1),((Utf8.decode (L.getD i.toNat default).Text p).1:Int),false,L.getD i.toNat default⟩;rw[e _ _ (by omega) (by omega),M5 c];rfl
  ·rw[kb (by grind),Mn c];rfl
theorem ajd:∀(d N:Nat) (L:d4) (s:Int×d6),Dp d L→s.2.length+eA d L≤800000→d+1100≤N→mD (KN N) N L s.1 s.2=some (vM d L s):=by
 intro d
 induction d with
 | zero=>intro N L s h;exact h.elim
 | succ d z =>
  intro N L s n B A;obtain⟨N,rfl⟩:∃M,N=M+1:=⟨N-1,by omega⟩;unfold Dp at n;unfold mD;have k:∀(m i:Nat) (s:Int×d6),i≤L.length→L.length<m+i→s.2.length+eA (d+1) (L.drop i)≤800000→pj (KN (N+1)) (N+1) L m (i:Int) s.1 s.2=some (vM (d+1) (L.drop i) s):=by
   intro m
   induction m with
   | zero=>intro i s t u;omega
   | succ m p =>
    intro i s t u q;show sU (KN (N+1)) (N+1) L (pj (KN (N+1)) (N+1) L m) i s.1 s.2=_;unfold sU;by_cases j:i<L.length
    ·have r:L.getD i default∈L:=by rw[bR j];exact ob _
     have o:L.drop i=L.getD i default::L.drop (i+1):=by rw[ls j,bR j]
     have y:aa ((i:Int)+1)=((i+1:Nat):Int):=by rw[bL (by omega) (by omega)];omega
     rw[o]at q⊢;rw[k8,akA,← k8];have x:=T2 d (RY d) s (L.getD i default);have v:s.2.length+((1+(L.getD i default).Text.size+eA d (L.getD i default).Kids)+eA (d+1) (L.drop (i+1)))≤800000:=by
      simpa only[eA,q6,List.sum_cons]using q
     have l:=p (i+1) (gJ d s (L.getD i default)) (by omega) (by omega) (by omega);rw[lc (by simpa using j),di (by omega) (by omega),ba,abw];simp only[iF,Int.toNat_natCast];have step:∀s',gJ d s (L.getD i default)=s'→pj (KN (N+1)) (N+1) L m (aa ((i:Int)+1)) s'.1 s'.2=some (vM (d+1) (L.drop (i+1)) (gJ d s (L.getD i default))):=fun s' e=>by
      rw[←e,y];exact l
     cases g:mf (L.getD i default) with
     | false =>
      rw[show(!false)=true from rfl,lc rfl];unfold nl;exact step s (by unfold gJ;rw[g];rfl)
     | true =>
      rw[show(!true)=false from rfl,kb (by simp)];cases a:((L.getD i default).Kind == 2) with
      | true =>
       have w:(L.getD i default).Kind=2:=by simpa using a
       have:=z N (L.getD i default).Kids (aa (s.1+1),s.2) ((n.2 _ r).2 w) (by simp only[];omega) (by omega);rw[lc rfl];show((mD (KN N) N (L.getD i default).Kids (aa (s.1+1)) s.2).bind _)=_;rw[show mD (KN N) N (L.getD i default).Kids (aa (s.1+1)) s.2=_ from this];simp only[iF];unfold ky nl;exact step _ (by unfold gJ;rw[g,a];rfl)
      | false =>
       rw[kb (by simp)];cases b:((L.getD i default).Kind == 4) with
       | true =>
        rw[lc rfl,db (by simp;omega) (by omega),ba];unfold ky nl;exact step (_,_) (by unfold gJ;rw[g,a,b];rfl)
       | false =>
        rw[kb (by simp)];cases f:((L.getD i default).Kind == 5) with
        | true =>
         rw[lc rfl,db (by simp;omega) (by omega),ba];unfold ky nl;exact step (_,_) (by unfold gJ;rw[g,a,b,f];rfl)
        | false =>
         rw[kb (by simp)];cases c:((L.getD i default).Kind == 3) with
         | true =>
          have C:=(n.2 _ r).1;rw[lc rfl,ace (KN (N+1)) (N+1) L i s.1 _ (by simpa using j) (N+1) 0 s.2 (by rw[Int.toNat_natCast];omega) (by rw[Int.toNat_natCast];omega)];rw[Int.toNat_natCast];exact step (_,_) (by unfold gJ;rw[g,a,b,f,c];rfl)
         | false =>
          rw[kb (by simp)];unfold ky nl;exact step (_,_) (by unfold gJ;rw[g,a,b,f,c];rfl)
    ·rw[kb (by simpa using j),l3 (by omega)];rfl
  have:=k (N+1) 0 s (by omega) (by omega) (by grind)
  grind
def eU(d:Nat)(L:d4):d6:=(vM d L (0,[])).2
theorem IM{d N}{L}(a:Dp d L)(c:eA d L≤800000)(b:d+1100≤N):pS (KN N) N L=some (eU d L):=by
 unfold pS;rw[show mD (KN N) N L 0 []=_ from ajd d N L (0,[]) a (by grind) b];rfl
theorem Cs d L:(eU d L).length≤eA d L:=by
 grind[RY,eU]
theorem ads{P:aJ→Prop}{a}{e}(h:∀x∈a,P x)(b:j6 e.Char=false→P e)(c:jF e=true→P { e with Kind:=2,Char:=32 })(d:jF e=true→P { e with Char:=32 })(f:jF e=false→P { e with Soft:=true,Char:=32 }):∀x∈oi a e,P x:=by
 grind[oi]
theorem CD{P:aJ→Prop} b a(g:∀r,dv r→(j6 r=false→P ⟨1,a,r,false,b⟩))(d:P ⟨2,a,32,false,b⟩)(e:b.Style.WhiteSpace=2→P ⟨1,a,32,false,b⟩)(f:b.Style.WhiteSpace≠2→P ⟨1,a,32,true,b⟩):∀rs c,(∀r∈rs,dv r)→(∀x∈c,P x)→∀x∈qq b a c rs,P x
 | [],c,_,h=>h
 | r::t,c,j,h=>by
  refine CD b a g d e f t _ (fun x l=>j x (by grind)) (ads h (fun k=>g r (by grind) k) (fun _=>d) (fun i=>e (by grind[jF])) (fun i=>f (by grind[jF])))
theorem ad8{P:aJ→Prop}(i:∀(b:ab) (a r:Int),dv r→j6 r=false→P ⟨1,a,r,false,b⟩)(j:∀(b:ab) (a:Int),P ⟨2,a,32,false,b⟩)(k:∀(b:ab) (a:Int),b.Style.WhiteSpace=2→P ⟨1,a,32,false,b⟩)(l:∀(b:ab) (a:Int),b.Style.WhiteSpace≠2→P ⟨1,a,32,true,b⟩)
  (m:∀(b:ab) (a:Int),P ⟨2,a,0,false,b⟩) (n:∀(b:ab) (a:Int),P ⟨3,a,0,false,b⟩):∀(d:Nat) (L:d4) (s:Int×d6),(∀x∈s.2,P x)→∀x∈(vM d L s).2,P x:=by
 have g:∀{e:d6} (y:aJ),(∀x∈e,P x)→P y→∀x∈e++[y],P x:=fun y h q x c=>by
  rcases n5.1 c with c|c
  ·exact h x c
  ·rw[ags.1 c];exact q
 intro d
 induction d with
 | zero=>intro L s h;exact h
 | succ d t =>
  intro L
  induction L with
  | nil=>intro s h;exact h
  | cons b r f =>
   intro s h;rw[k8,akA,← k8];refine f _ ?_;unfold gJ;cases mf b with
   | false=>exact h
   | true =>
    simp only[alb];cases (b.Kind == 2) with
    | true=>exact t _ _ h
    | false =>
     simp only[akT];cases (b.Kind == 4) with
     | true=>exact g _ h (m _ _)
     | false =>
      simp only[akT];cases (b.Kind == 5) with
      | true=>exact g _ h (n _ _)
      | false =>
       simp only[akT];cases (b.Kind == 3) with
       | true=>exact CD b _ (fun r o p=>i b _ r o p) (j b _) (k b _) (l b _) _ _ Gv h
       | false=>exact h
theorem Kp:dv 32:=by grind[dv]
theorem Vj:dv 0:=by grind[dv]
theorem Ei d L:∀x∈eU d L,j0 x :=
 ad8 (fun b a r c _=>⟨c,fun h=>by grind⟩) (fun b a=>⟨Kp,fun _=>rfl⟩) (fun b a _=>⟨Kp,fun _=>rfl⟩) (fun b a _=>⟨Kp,fun _=>rfl⟩) (fun b a=>⟨Vj,fun h=>by grind⟩) (fun b a=>⟨Vj,fun h=>by grind⟩) d L (0,[]) (fun x e=>by grind)
end
structure R4 where
 w:Int
 s:Int
 g:Bool
 f:Bool
instance:Inhabited R4:=⟨⟨0,0,false,false⟩⟩
def vI(r:az):R4:=⟨r.Width,r.Space,r.Glued,r.Forced⟩
theorem Ac{L:d5}{k:Nat}(h:k<L.length):(L.map vI)[k]'(by simpa using h)=vI (L.getD k default):=by
 rw[bR h];simp
def gr(l:List R4)(i:Nat):Nat:=i+((l.drop i).takeWhile R4.g).length
theorem mQ(l:List R4)(i:Nat):i≤gr l i:=aln _ _
theorem Rg{α:Type}(p:α→Bool):∀l:List α,(l.takeWhile p).length≤l.length
 | []=>ll _
 | x::r=>by
  rw[akQ];split
  ·simp;exact Rg p r
  ·simp
theorem zi{l:List R4}{i:Nat}(h:i≤l.length):gr l i≤l.length:=by
 have:=Rg R4.g (l.drop i);simp at this;unfold gr;omega
theorem aa1{l:List R4}{i:Nat}(h:i<l.length)(a:l[i].g=true):gr l i=gr l (i+1):=by
 unfold gr;rw[ls h,akQ,lc a];simp;omega
theorem adE{l:List R4}{i:Nat}(h:i<l.length)(a:l[i].g=false):gr l i=i:=by
 unfold gr;rw[ls h,akQ,kb (by simp[a])];simp
theorem aes{l:List R4}{i:Nat}(h:l.length≤i):gr l i=i:=by
 unfold gr;rw[l3 h];simp
def wS(n a:Int):List R4→Int
 | []=>aa (n-a)
 | r::t=>wS (aa (n+aa (r.w+r.s))) (if r.f then a else r.s) t
def fE(l:List R4):Int:=wS 0 0 l
def tM(n:Int):List R4→Int
 | []=>n
 | r::t=>tM (aa (n+aa (r.w+r.s))) t
def gT(x:Int):List R4→Int
 | []=>x
 | r::t=>gT (if r.f then x else r.s) t
theorem Me:∀(l:List R4) (n a:Int),wS n a l=aa (tM n l-gT a l)
 | [],n,a=>rfl
 | r::t,n,a=>by unfold wS tM gT;exact Me t _ _
theorem Jv:∀(l m:List R4) (x:Int),gT x (l++m)=gT (gT x l) m
 | [],m,x=>rfl
 | r::t,m,x=>by simp only[ack,gT];exact Jv t m _
theorem Xu(n:Int):aa (aa n)=aa n:=by
 have : -9223372036854775808≤aa n∧aa n≤9223372036854775807:=by unfold aa;rw[akR];omega
 exact bL this.1 this.2
section
variable{K:Kn}{n:Nat}{L:d5}
theorem afA:∀(m:Nat) (i:Int),0≤i→i≤L.length→L.length<m+i.toNat→(L.length:Int)<9223372036854775807→vJ K n L m i=some ((gr (L.map vI) i.toNat:Nat):Int):=by
 intro m
 induction m with
 | zero=>intro i c f g;omega
 | succ m j =>
  intro i c f g h;show tC K n L (vJ K n L m) i=_;unfold tC;by_cases a:i<(L.length:Int)
  ·have b:i.toNat<L.length:=by omega
   rw[lc (by simpa using a),di c a,ba];unfold vc;have e:=Ac b;cases d:(L.getD i.toNat default).Glued with
   | true =>
    rw[lc rfl,bL (by omega) (by omega),j (i+1) (by omega) (by omega) (by omega) h];rw[aa1 (l:=L.map vI) (i:=i.toNat) (by simpa using b) (by rw[e];exact d),show(i+1).toNat=i.toNat+1 by omega]
   | false =>
    rw[kb (by simp)];rw[adE (l:=L.map vI) (i:=i.toNat) (by simpa using b) (by rw[e];exact d)];congr 1;omega
  ·rw[kb (by simpa using a)];unfold vc;rw[kb (by simp),aes (by simp;omega)];congr 1;omega
theorem FW{i:Int}(b:0≤i)(c:i<L.length)(d:L.length<n)(a:(L.length:Int)<9223372036854775807):pX K n L i=some ((gr (L.map vI) (i.toNat+1):Nat):Int):=by
 unfold pX;rw[bL (by omega) (by omega),afA n (i+1) (by omega) (by omega) (by omega) a,show(i+1).toNat=i.toNat+1 by omega]
theorem aiG:∀(m:Nat) (k:Nat),k≤L.length→k<m→(L.length:Int)<9223372036854775807 →
  ∃j:Int,nI K n L m ((k:Int)-1)=some j∧((j = -1∧∀x,gT x ((L.map vI).take k)=x)∨(0≤j∧j<k∧∀x,gT x ((L.map vI).take k)=(L.getD j.toNat default).Space)):=by
 intro m
 induction m with
 | zero=>intro k _ h;omega
 | succ m r =>
  intro k s t p;show ∃j,oN K n L (nI K n L m) ((k:Int)-1)=some j∧_;unfold oN;cases k with
  | zero=>rw[kb (by simp)];exact⟨-1,rfl,.inl ⟨rfl,fun x=>by simp[gT]⟩⟩
  | succ k =>
   have e:(((k+1:Nat):Int)-1)=(k:Int):=by omega
   rw[e,lc (by simp),di (by omega) (by omega),ba,Int.toNat_natCast];have d:k<L.length:=by omega
   have q:=Ac d;have g:(L.map vI).take (k+1)=(L.map vI).take k++[vI (L.getD k default)]:=by
    rw[alT,jt (by simpa using d),q];rfl
   cases f:(L.getD k default).Forced with
   | false =>
    rw[show(!false)=true from rfl,lc rfl];refine⟨(k:Int),rfl,.inr ⟨by omega,by omega,fun x=>?_⟩⟩;rw[g,Jv,Int.toNat_natCast];simp only[gT,vI,f,iO,qv]
   | true =>
    rw[show(!true)=false from rfl,kb (by simp),bL (by omega) (by omega)];obtain⟨j,l,o⟩:=r k (by omega) (by omega) p;refine⟨j,l,?_⟩;have i:∀x,gT x ((L.map vI).take (k+1))=gT x ((L.map vI).take k):=fun x=>by
     rw[g,Jv];simp only[gT,vI,f,zt]
    obtain⟨a,b⟩|⟨a,b,c⟩:=o
    ·exact .inl ⟨a,fun x=>(i x).trans (b x)⟩
    ·exact .inr ⟨a,by omega,fun x=>(i x).trans (c x)⟩
theorem abo(d:L.length<n)(c:(L.length:Int)<9223372036854775807):∃j:Int,oS K n L=some j∧((j = -1∧∀x,gT x (L.map vI)=x)∨(0≤j∧j<L.length∧∀x,gT x (L.map vI)=(L.getD j.toNat default).Space)):=by
 unfold oS;rw[bL (by omega) (by omega)];obtain⟨j,b,a⟩:=aiG (K:=K) (n:=n) (L:=L) n L.length (ll _) d c;refine⟨j,b,?_⟩;rw[Dz (by simp)]at a;exact a
theorem agO(q:L.length<n)(p:(L.length:Int)<9223372036854775807):∀(m:Nat) (x i:Int),0≤i→i≤L.length→L.length<m+i.toNat→aa x=x →
  tM 0 (L.map vI)=tM x ((L.map vI).drop i.toNat)→sQ K n L m x i=some (fE (L.map vI)):=by
 intro m
 induction m with
 | zero=>intro x i d f g;omega
 | succ m s =>
  intro x i d f g r b;show wz K n L (sQ K n L m) x i=_;unfold wz;by_cases c:i<(L.length:Int)
  ·have e:i.toNat<L.length:=by omega
   rw[lc (by simpa using c),di d c,ba,bL (n:=i+1) (by omega) (by omega)];refine s _ (i+1) (by omega) (by omega) (by omega) (Xu _) ?_;rw[b,ls (by simpa using e),Ac e,show(i+1).toNat=i.toNat+1 by omega];rfl
  ·rw[kb (by simpa using c)];rw[l3 (by simp;omega)]at b;simp only[tM]at b;obtain⟨j,h,k⟩:=abo (K:=K) (L:=L) q p;rw[h];simp only[iF,xu];unfold fE;rw[Me,b];obtain⟨rfl,a⟩|⟨a,l,o⟩:=k
   ·rw[kb (by simp),a];simp[r]
   ·rw[lc (by simpa using a),di a l,ba,o]
theorem D3(a:L.length<n)(b:(L.length:Int)<9223372036854775807):oq K n L=some (fE (L.map vI)):=by
 unfold oq;exact agO a b n 0 0 (by omega) (by omega) (by simpa using a) (by unfold aa;rw[akR];omega) rfl
end
def sl{α:Type}(l:List α)(a b:Nat):List α:=List.drop a (List.take b l)
theorem Kh{α β:Type}(f:α→β)(l:List α)(a b:Nat):(sl l a b).map f=sl (l.map f) a b:=by unfold sl;rw[amn,List.map_take]
theorem xw{α:Type}(l:List α)(a b:Nat):(sl l a b).length≤l.length:=by unfold sl;simp;omega
def lE(l:List R4)(w:Int)(a:Nat):Nat→Nat→Nat
 | 0,e=>e
 | m+1,e=>if e<l.length∧(l.getD (e-1) default).f=false∧¬ fE (sl l a (gr l (e+1)))>w then lE l w a m (gr l (e+1)) else e
def bM(l:List R4)(w:Int):Nat→Nat→eb
 | 0,_=>[]
 | m+1,a=>if a<l.length then a::bM l w m (lE l w a l.length (gr l (a+1))) else []
theorem Av(l:List R4)(w:Int)(a:Nat):∀m e,e≤lE l w a m e
 | 0,e=>ll _
 | m+1,e=>by
  unfold lE;split
  ·have:=Av l w a m (gr l (e+1));have:=mQ l (e+1);omega
  ·exact ll _
theorem EZ(l:List R4)(w:Int)(a:Nat):∀m e,e≤l.length→lE l w a m e≤l.length
 | 0,e,h=>h
 | m+1,e,h=>by
  unfold lE;split
  ·rename_i b;exact EZ l w a m _ (zi (by omega))
  ·exact h
theorem ahx(l:List R4)(w:Int)(a:Nat):∀(m b e:Nat),l.length≤m+e→l.length≤b+e→lE l w a m e=lE l w a b e:=by
 intro m
 induction m with
 | zero =>
  intro b e h c;cases b with
  | zero=>rfl
  | succ b=>unfold lE;rw[kb (by omega)]
 | succ m d =>
  intro b e h c;cases b with
  | zero=>unfold lE;rw[kb (by omega)]
  | succ b =>
   unfold lE;split
   ·have:=mQ l (e+1);exact d b _ (by omega) (by omega)
   ·rfl
theorem ahA(l:List R4)(w:Int):∀(m b a:Nat),l.length<m+a→l.length<b+a→bM l w m a=bM l w b a:=by
 intro m
 induction m with
 | zero =>
  intro b a h c;cases b with
  | zero=>rfl
  | succ b=>unfold bM;rw[kb (by omega)]
 | succ m d =>
  intro b a h c;cases b with
  | zero=>unfold bM;rw[kb (by omega)]
  | succ b =>
   unfold bM;split
   ·have:=Av l w a l.length (gr l (a+1));have:=mQ l (a+1);rw[d b _ (by omega) (by omega)]
   ·rfl
theorem JM(l:List R4)(w:Int):∀(m a:Nat),(bM l w m a).length≤l.length-a
 | 0,a=>by simp[bM]
 | m+1,a=>by
  unfold bM;split
  ·have:=JM l w m (lE l w a l.length (gr l (a+1)));have:=Av l w a l.length (gr l (a+1));have:=mQ l (a+1);simp;omega
  ·simp
section
variable{K:Kn}{n:Nat}{L:d5}{w:Int}
theorem agU(u:L.length<n)(r:(L.length:Int)<9223372036854775807)(a:Nat)(b:ck)(C:Int→ck→Option ck):∀(m e:Nat),1≤e→a≤e→e≤L.length→L.length<m+e →
  sI K n L w a b C m e=C ((lE (L.map vI) w a m e:Nat):Int) (b++[(a:Int)]):=by
 intro m
 induction m with
 | zero=>intro e j o p q;omega
 | succ m y =>
  intro e j o p q;show vZ K n L w a b C (sI K n L w a b C m) e=_;unfold vZ lE;by_cases d:e<L.length
  ·rw[lc (by simpa using d),bL (by omega) (by omega),di (by omega) (by omega),ba];unfold uv;have h:((e:Int)-1).toNat=e-1:=by omega
   have x:=Ac (L:=L) (k:=e-1) (by omega);have g:((L.map vI).getD (e-1) default).f=(L.getD ((e:Int)-1).toNat default).Forced:=by
    rw[bR (by simp;omega),x,h];rfl
   cases f:(L.getD ((e:Int)-1).toNat default).Forced with
   | true =>
    rw[show(!true)=false from rfl,kb (by simp),kb (by rw[g,f];simp)];rfl
   | false =>
    have s:=zi (l:=L.map vI) (i:=e+1) (by simp;omega);have t:=mQ (L.map vI) (e+1);simp only[nx]at s;rw[show(!false)=true from rfl,lc rfl,FW (by omega) (by omega) u r];simp only[iF,Int.toNat_natCast];rw[show cQ (a:Int) ((gr (L.map vI) (e+1):Nat):Int) L.length=true by simp only[cQ,iN,q7];omega,ba];have v:List.drop a (List.take (gr (L.map vI) (e+1)) L)=sl L a (gr (L.map vI) (e+1)):=rfl;rw[v,D3 (by have:=xw L a (gr (L.map vI) (e+1));omega) (by have:=xw L a (gr (L.map vI) (e+1));omega),Kh];simp only[iF];by_cases c:fE (sl (L.map vI) a (gr (L.map vI) (e+1)))>w
    ·rw[lc (by simpa using c),kb (by simp[c])];rfl
    ·rw[kb (by simpa using c),lc ⟨by simpa using d,by rw[g,f],c⟩];exact y _ (by omega) (by omega) (by omega) (by omega)
  ·rw[kb (by simpa using d),kb (by simp;omega)];unfold uv;rw[kb (by simp)];rfl
theorem aax(f:L.length<n)(r:(L.length:Int)≤1000000):∀(m a:Nat) (b:ck),a≤L.length→b.length≤a→L.length<m+a→rM K n L w m a b=some (b++(bM (L.map vI) w m a).map fun (k:Nat)=>(k:Int)):=by
 intro m
 induction m with
 | zero=>intro a b g h j;omega
 | succ m q =>
  intro a b g h j;show tL K n L w (rM K n L w m) a b=_;unfold tL bM;by_cases c:a<L.length
  ·rw[lc (by simpa using c),lc (by simpa using c),db (by simp;omega) (by omega),ba,FW (by omega) (by omega) f (by omega)];simp only[iF,Int.toNat_natCast];have d:=zi (l:=L.map vI) (i:=a+1) (by simp;omega);have p:=mQ (L.map vI) (a+1);simp only[nx]at d;rw[agU f (by omega) a b _ n _ (by omega) (by omega) d (by omega)];rw[ahx (L.map vI) w a n (L.map vI).length _ (by simp;omega) (by simp)];have e:=EZ (L.map vI) w a (L.map vI).length (gr (L.map vI) (a+1)) (by simpa using d);have o:=Av (L.map vI) w a (L.map vI).length (gr (L.map vI) (a+1));simp only[nx]at e o⊢;rw[q _ _ e (by simp;omega) (by omega)];simp[tl]
  ·rw[kb (by simpa using c),kb (by simpa using c)];simp
theorem agY(b:L.length<n)(a:(L.length:Int)≤1000000):z6 K n L w=some ((bM (L.map vI) w (L.length+1) 0).map fun (k:Nat)=>(k:Int)):=by
 unfold z6;rw[show(0:Int)=((0:Nat):Int) from rfl,aax b a n 0 [] (by omega) (by simp) (by omega),ahA (L.map vI) w n (L.length+1) 0 (by simp;omega) (by simp)];simp
end
noncomputable section
def jl(o:Int):aJ→d6→Nat
 | _,[]=>0
 | a,b::r=>bif b.Kind == 1&&(b.Of == o&&!iB a b) then jl o b r+1 else 0
theorem DQ(o:Int):∀(l:d6) (a:aJ),jl o a l≤l.length
 | [],_=>ll _
 | b::r,a=>by
  unfold jl;cases (b.Kind == 1&&(b.Of == o&&!iB a b)) with
  | true=>have:=DQ o r b;simp;omega
  | false=>simp
def su(p:Option aJ)(e:aJ):Bool:=match p with
 | none=>false
 | some q=>q.Kind != 2&&!iB q e
def runM(x:az)(e:aJ)(g:Bool):az:={ x with Node:=e.Box.Node,Style:=e.Box.Style,Glued:=g }
def cM(pl:ab→az):Nat→Option aJ→d6→d5
 | 0,_,_=>[]
 | _+1,_,[]=>[]
 | m+1,p,e::r =>
  bif e.Kind == 2 then runM { cR with Forced:=true } e (su p e)::cM pl m (some e) r
  else bif e.Kind == 3 then runM (pl e.Box) e (su p e)::cM pl m (some e) r
  else runM (eF (e::r.take (jl e.Of e r))) e (su p e)::cM pl m (some (mA (e::r.take (jl e.Of e r)))) (r.drop (jl e.Of e r))
def dH(L:d6)(i:Nat):Option aJ:=if i=0 then none else some (L.getD (i-1) default)
theorem Dt{α:Type}[Inhabited α]{L:List α}{i k:Nat}(h:i<L.length):sl L i (i+1+k)=L.getD i default::(L.drop (i+1)).take k:=by
 unfold sl;rw[List.drop_take,show i+1+k-i=k+1 by omega,ls h,List.take_succ_cons,bR h]
theorem Bw{α:Type}{L:List α}{a b:Nat}{x:α}(h:x∈sl L a b):x∈L:=by
 unfold sl at h;exact wl (IN h)
theorem Bn{α:Type}{L:List α}{a b:Nat}(h:b≤L.length):(sl L a b).length=b-a:=by unfold sl;simp;omega
theorem HW{L:d6}{i k:Nat}(h:i+k<L.length):mA (L.getD i default::(L.drop (i+1)).take k)=L.getD (i+k) default:=by
 rw[←Dt (by omega)];unfold mA;have c:=Bn (L:=L) (a:=i) (b:=i+1+k) (by omega);rw[c,bR (by rw[c];omega),bR h];unfold sl;rw[List.getElem_drop,List.getElem_take];congr 1;omega
section
variable{K:Kn}{n:Nat}{v2:Fv}{L:d6}{pl:ab→az}
theorem abz(q:∀e∈L,j0 e)(G:L.length≤2000)(z:8010≤n)(i:Nat)(c:d5)(g:Bool)(C:Int→d5→Option d5)(E:i<L.length):∀(m x:Nat),i<x→x≤L.length→L.length<m+x →
  pY K n v2 L (i:Int) c g C m (x:Int)=lv K n v2 L i c g C ((x+jl (L.getD i default).Of (L.getD (x-1) default) (L.drop x):Nat):Int) (eF (sl L i (x+jl (L.getD i default).Of (L.getD (x-1) default) (L.drop x)))):=by
 have h:∀y:Nat,i<y→y≤L.length→∀(D:Int→Option d5),lC K n v2 L (i:Int) c g (y:Int) C D false=lv K n v2 L i c g C (y:Int) (eF (sl L i y)):=fun y l j D=>by
  unfold lC;have r:List.drop i (List.take y L)=sl L i y:=rfl;have d:=Bn (L:=L) (a:=i) (b:=y) j;rw[kb (by simp),show cQ (i:Int) (y:Int) L.length=true by simp only[cQ,iN,q7];omega,ba];simp only[Int.toNat_natCast];rw[r,GR (by intro e;rw[e]at d;simp at d;omega) (by omega) (fun e w=>q e (Bw w)) z];rfl
 intro m
 induction m with
 | zero=>intro x l j t;omega
 | succ m B =>
  intro x l j t;show ss K n v2 L i c g C (pY K n v2 L i c g C m) x=_;unfold ss;by_cases k:x<L.length
  ·have p:L.drop x=L.getD x default::L.drop (x+1):=by rw[ls k,bR k]
   have o:L.getD x default∈L:=by rw[bR k];exact ob _
   have u:L.getD (x-1) default∈L:=by rw[bR (by omega)];exact ob _
   have s:aa ((x:Int)-1)=((x-1:Nat):Int):=by rw[bL (by omega) (by omega)];omega
   rw[lc (by simpa using k),di (by omega) (by omega)];simp only[ba,Int.toNat_natCast,s];rw[p];unfold jl;have f:∀{b:Bool},b=false→lC K n v2 L (i:Int) c g (x:Int) C (pY K n v2 L i c g C m) false=lv K n v2 L i c g C ((x+(bif b then jl (L.getD i default).Of (L.getD x default) (L.drop (x+1))+1 else 0):Nat):Int) (eF (sl L i (x+(bif b then jl (L.getD i default).Of (L.getD x default) (L.drop (x+1))+1 else 0)))):=fun {b} o=>by
    subst o;exact h x l j _
   cases F:((L.getD x default).Kind == 1) with
   | false=>rw[kb (by simp)];exact f rfl
   | true =>
    rw[lc rfl];cases A:((L.getD x default).Of == (L.getD i default).Of) with
    | false=>rw[kb (by simp)];exact f rfl
    | true =>
     rw[lc rfl,di (by omega) (by omega),ba,rQ K (by omega) (q _ u).ch (q _ o).ch];simp only[iF];cases v:iB (L.getD (x-1) default) (L.getD x default) with
     | true=>exact f rfl
     | false =>
      unfold lC;rw[show(!false)=true from rfl,lc rfl,bL (by omega) (by omega),show(x:Int)+1=((x+1:Nat):Int) by omega,B (x+1) (by omega) (by omega) (by omega)];simp only[aeD,alt,alb];rw[show x+1+jl (L.getD i default).Of (L.getD x default) (L.drop (x+1))=x+(jl (L.getD i default).Of (L.getD x default) (L.drop (x+1))+1) by omega]
  ·rw[kb (by simpa using k),l3 (by omega)];unfold jl;exact h x l j _
theorem ER(i:Nat)(a:d5)(g:Bool)(C:Int→d5→Option d5)(b:a.length≤1000000)(y:Int)(x:az):lv K n v2 L (i:Int) a g C y x=C y (a++[runM x (L.getD i default) g]):=by
 unfold lv;simp only[iF,Int.toNat_natCast];rw[db (by simp;omega) (by omega),ba];rfl
theorem agt(l:∀e∈L,j0 e)(z:L.length≤2000)(A:8010≤n)(o:∀e∈L,e.Kind=3→K.uD v2 e.Box=some (pl e.Box)):∀(m i:Nat) (a:d5),i≤L.length→L.length<m+i→a.length≤i →
  pW K n v2 L m (i:Int) a=some (a++cM pl m (dH L i) (L.drop i)):=by
 intro m
 induction m with
 | zero=>intro i a u v;omega
 | succ m q =>
  intro i a u v C;show vi K n v2 L (pW K n v2 L m) i a=_;unfold vi;by_cases c:i<L.length
  ·have h:L.drop i=L.getD i default::L.drop (i+1):=by rw[ls c,bR c]
   have s:L.getD i default∈L:=by rw[bR c];exact ob _
   rw[lc (by simpa using c),di (by omega) (by omega)];simp only[ba,Int.toNat_natCast];rw[h];have p:aa ((i:Int)+1)=((i+1:Nat):Int):=by rw[bL (by omega) (by omega)];omega
   have b:dH L (i+1)=some (L.getD i default):=by unfold dH;rw[kb (by omega),aeD]
   have key:∀g,g=su (dH L i) (L.getD i default)→pK K n v2 L (i:Int) a (pW K n v2 L m) g=some (a++cM pl (m+1) (dH L i) (L.getD i default::L.drop (i+1))):=by
    intro g x;unfold pK cM;simp only[iF,Int.toNat_natCast];rw[←x];cases D:((L.getD i default).Kind == 2) with
    | true =>
     rw[lc rfl,ER i a g _ (by omega),p,q (i+1) _ (by omega) (by omega) (by simp;omega),b];simp[tl]
    | false =>
     rw[kb (by simp)];cases B:((L.getD i default).Kind == 3) with
     | true =>
      rw[lc rfl,o _ s (by simpa using B)];simp only[iF];rw[ER i a g _ (by omega),p,q (i+1) _ (by omega) (by omega) (by simp;omega),b];simp[tl]
     | false =>
      rw[kb (by simp),p,abz l z A i a g _ c n (i+1) (by omega) (by omega) (by omega),aeD];simp only[akT];have y:=DQ (L.getD i default).Of (L.drop (i+1)) (L.getD i default);rw[aku]at y;generalize jl (L.getD i default).Of (L.getD i default) (L.drop (i+1))=k at *;rw[ER i a g _ (by omega),q (i+1+k) _ (by omega) (by omega) (by simp;omega),Dt c,HW (by omega),akJ];have f:dH L (i+1+k)=some (L.getD (i+k) default):=by unfold dH;rw[kb (by omega)];congr 2;omega
      rw[f];simp[tl]
   by_cases r:i=0
   ·rw[kb (by simp;omega)];exact key false (by unfold dH;rw[lc r];rfl)
   ·have w:L.getD (i-1) default∈L:=by rw[bR (by omega)];exact ob _
    have t:aa ((i:Int)-1)=((i-1:Nat):Int):=by rw[bL (by omega) (by omega)];omega
    have f:dH L i=some (L.getD (i-1) default):=by unfold dH;rw[kb r]
    rw[lc (by simp;omega),t,di (by omega) (by omega)];simp only[ba,Int.toNat_natCast];by_cases d:((L.getD (i-1) default).Kind != 2)=true
    ·rw[lc d,rQ K (by omega) (l _ w).ch (l _ s).ch];simp only[iF];exact key _ (by rw[f];show _=((L.getD (i-1) default).Kind != 2&&!iB (L.getD (i-1) default) (L.getD i default));rw[d];rfl)
    ·rw[kb d];have j:((L.getD (i-1) default).Kind != 2)=false:=by simpa using d
     exact key false (by rw[f];show _=((L.getD (i-1) default).Kind != 2&&!iB (L.getD (i-1) default) (L.getD i default));rw[j];rfl)
  ·rw[kb (by simpa using c),l3 (by omega)];simp[cM]
theorem Ra(pl:ab→az):∀(m a:Nat) (p:Option aJ) (l:d6),l.length<m→l.length<a→cM pl m p l=cM pl a p l:=by
 intro m
 induction m with
 | zero=>intro a p l h;omega
 | succ m b =>
  intro a p l h c;cases a with
  | zero=>omega
  | succ a =>
   cases l with
   | nil=>rfl
   | cons e r =>
    simp only[lp]at h c;unfold cM;rw[b a (some e) r (by omega) (by omega),b a _ (r.drop (jl e.Of e r)) (by simp;omega) (by simp;omega)]
theorem RW(pl:ab→az):∀(m:Nat) (p:Option aJ) (l:d6),(cM pl m p l).length≤l.length:=by
 intro m
 induction m with
 | zero=>intro p l;simp[cM]
 | succ m a =>
  intro p l;cases l with
  | nil=>simp[cM]
  | cons e r =>
   unfold cM;have c:=a (some e) r;have b:=a (some (mA (e::r.take (jl e.Of e r)))) (r.drop (jl e.Of e r));rw[aku]at b;cases (e.Kind == 2) with
   | true=>simp;omega
   | false =>
    cases (e.Kind == 3) with
    | true=>simp;omega
    | false=>simp;omega
def rx(pl:ab→az)(L:d6):d5:=cM pl (L.length+1) none L
end
theorem V0{N d:Nat}{B:d4}{v2:Fv}{pl:ab→az}(c:Dp d B)(g:eA d B≤2000)(f:d+9000≤N)(a:∀e∈eU d B,e.Kind=3→(KN N).uD v2 e.Box=some (pl e.Box)):
  td (KN N) N B v2=some (rx pl (eU d B)):=by
 have b:=Cs d B;unfold td;rw[IM c (by omega) (by omega)];simp only[iF];rw[show(0:Int)=((0:Nat):Int) from rfl,agt (pl:=pl) (Ei d B) (by omega) (by omega) a N 0 [] (by omega) (by omega) (by simp),List.drop_zero,Db];unfold rx;rw[Ra pl N ((eU d B).length+1) _ _ (by omega) (by omega)];rfl
end
noncomputable section
theorem BA(b:ByteArray):b.toList=b.data.toList:=ByteArray.toList_eq b
theorem aeG:(⟨#[]⟩:ByteArray).toList=[]:=by rw[BA]
def lu(b:ByteArray):Bool:=b.data.toList.getLast? == some 32
theorem XV(K:Kn)(n:Nat){b:ByteArray}(i:b.size≤1000000):Ae K n b ⟨#[32]⟩=some (lu b):=by
 have g:(⟨#[32]⟩:ByteArray).size=1:=rfl;unfold Ae BM yQ lu;rw[g];by_cases h:1≤b.size
 ·have d:aa ((b.size:Int)-((1:Nat):Int))=((b.size-1:Nat):Int):=by rw[bL (by omega) (by omega)];omega
  rw[lc (by simp;omega),d,show cQ ((b.size-1:Nat):Int) (b.size:Int) b.size=true by simp only[cQ,iN,q7];omega,ba];simp only[iF,Int.toNat_natCast];rw[BA,BA,al1,amc];have c:b.data.toList.length=b.size:=rfl;generalize b.data.toList=l at c;rw[←c]at h⊢;have a:l≠[]:=by intro e;rw[e]at h;simp at h
  have:(l.take l.length).drop (l.length-1)=[l.getLast a]:=by
   rw[aka]
   conv=>lhs;rw[←alv a]
   rw[nw,List.length_dropLast];simp
  rw[List.extract_eq_drop_take,List.getLast?_eq_some_getLast a];have f:List.take (l.length-(l.length-1)) (List.drop (l.length-1) l)=[l.getLast a]:=by
   rw[←this,aka,Dz (by simp)]
  rw[f];show some ([l.getLast a] == [32])=some (some (l.getLast a) == some 32);congr 1;cases j:(l.getLast a == 32)<;>simp_all
 simp_all
def Bz(b:ByteArray):ByteArray:=b.extract 0 (b.size-1)
def stripR(r:az):az:=bif lu r.Text&&r.Style.WhiteSpace != 2 then { r with Text:=Bz r.Text,Space:=0 } else r
def E8(a x:Int)(b:ae):ae:={ b with X:=aa (b.X+x),Y:=aa (b.Y+(aa ((aa (a-b.H))-aa (b.After.Pos+b.After.Neg)))) }
def H3(s:Int):Int:=min (max s 0) 1048576
def YT(s:Int):Int:=aa (H3 s+(aa (Int.tdiv (aa (H3 s+3)) 4)))
def C4(a x:Int)(r:az):dn:=bif r.Text.data.toList.isEmpty then [] else [⟨3,r.Node,x,aa (a-H3 r.Style.FontSize),aa (r.Width+r.Space),YT r.Style.FontSize,0,r.Text,r.Style,dA,dA,false,[]⟩]
def m5(a x:Int)(r:az):dn:=C4 a x r++r.Box.map (E8 a x)
def jr(a b:Int):Int→Int→d5→dn
 | _,_,[]=>[]
 | i,x,r::t =>
  let c:=bif i == b then stripR r else r
  m5 a x c++jr a b (i+1) (aa (x+aa (c.Width+c.Space))) t
section
variable{K:Kn}{n:Nat}{L:d5}{s:aI}{w a d e:Int}
theorem abv(r:az)(i:Int)(C:Int→Int→dn→Option ae)(x:Int)(o:r.Box.length≤1000):∀(m j:Nat) (b:dn),j≤r.Box.length→r.Box.length<m+j→b.length≤1000000+j →
  tq K n L s w a d e x i r C m (j:Int) b=C (aa (x+aa (r.Width+r.Space))) (aa (i+1)) (b++(r.Box.drop j).map (E8 a x)):=by
 intro m
 induction m with
 | zero=>intro j b f g;omega
 | succ m k =>
  intro j b f g l;show uI K n L s w a d e x i r C (tq K n L s w a d e x i r C m) j b=_;unfold uI;by_cases c:j<r.Box.length
  ·have h:r.Box.drop j=r.Box.getD j default::r.Box.drop (j+1):=by rw[ls c,bR c]
   rw[lc (by simpa using c),di (by omega) (by omega)];simp only[ba,iF,Int.toNat_natCast,gI];rw[db (by simp;omega) (by omega),ba,bL (n:=(j:Int)+1) (by omega) (by omega),show(j:Int)+1=((j+1:Nat):Int) by omega,k (j+1) _ (by omega) (by omega) (by simp;omega),h,q6];rw[tl];rfl
  ·rw[kb (by simpa using c),l3 (by omega)];simp
theorem acJ(r:az)(i:Int)(C:Int→Int→dn→Option ae)(x:Int)(j:r.Box.length≤1000)(m:1001≤n)(f:dn)(k:f.length≤900000):
  oc K n L s w a d e x i f C r=C (aa (x+aa (r.Width+r.Space))) (aa (i+1)) (f++m5 a x r):=by
 unfold oc;rw[BA,aeG];simp only[iF];have g:∀c:dn,c.length≤1000000→wD K n L s w a d e x i r C c=C (aa (x+aa (r.Width+r.Space))) (aa (i+1)) (c++r.Box.map (E8 a x)):=fun c h=>by
  unfold wD;rw[show(0:Int)=((0:Nat):Int) from rfl,abv r i C x j n 0 c (by omega) (by omega) (by omega),List.drop_zero]
 unfold m5 C4;cases l:r.Text.data.toList with
 | nil =>
  rw[kb (by simp),g f (by omega)];simp
 | cons b t =>
  rw[lc (by simp)];simp only[xE,z5,qh,iF];rw[db (by simp;omega) (by omega),ba,g _ (by simp;omega)];simp only[List.isEmpty_cons,akT,tl];rfl
theorem ajV(D:∀r∈L,r.Box.length≤1∧r.Text.size≤100000)(P:L.length≤2000)(Q:2002≤n):∀(m i:Nat) (x:Int) (b:dn),i≤L.length→L.length<m+i→b.length≤2*i →
  mr K n L s w a d e m x (i:Int) b=some { bT with Kind:=2,W:=w,H:=aa (a+d),aA:=a,Style:=s,Kids:=b++jr a e i x (L.drop i) }:=by
 intro m
 induction m with
 | zero=>intro i x b B C;omega
 | succ m J =>
  intro i x b B C O;show tN K n L s w a d e (mr K n L s w a d e m) x i b=_;unfold tN;by_cases l:i<L.length
  ·have E:L.drop i=L.getD i default::L.drop (i+1):=by rw[ls l,bR l]
   have F:L.getD i default∈L:=by rw[bR l];exact ob _
   obtain⟨u,N⟩:=D _ F;have v:aa ((i:Int)+1)=((i+1:Nat):Int):=by rw[bL (by omega) (by omega)];omega
   rw[lc (by simpa using l),di (by omega) (by omega),ba];simp only[Int.toNat_natCast];have M:∀(y:Int) (r:az),r.Box.length≤1→(m5 a y r).length≤2:=fun y r h=>by
    unfold m5 C4;cases r.Text.data.toList.isEmpty<;>simp<;>omega
   have step:∀g:az,g.Box=(L.getD i default).Box→oc K n L s w a d e x i b (mr K n L s w a d e m) g=some { bT with Kind:=2,W:=w,H:=aa (a+d),aA:=a,Style:=s,Kids:=b++(m5 a x g++jr a e ((i:Int)+1) (aa (x+aa (g.Width+g.Space))) (L.drop (i+1))) }:=fun g q=>by
    have G:=M x g (by rw[q];exact u);rw[acJ g i _ x (by rw[q];omega) (by omega) b (by omega),v,J (i+1) _ _ (by omega) (by omega) (by simp;omega)];rw[tl];rfl
   rw[E];unfold jr;by_cases f:(i:Int)=e
   ·rw[lc (by simpa using f),XV K n (by omega)];simp only[iF];rw[show((i:Int) == e)=true by simpa using f];simp only[alb];have t:∀c:Bool,oT K n L s w a d e x i b (mr K n L s w a d e m) (lu (L.getD i default).Text&&c)=oc K n L s w a d e x i b (mr K n L s w a d e m) (bif lu (L.getD i default).Text&&c then { L.getD i default with Text:=Bz (L.getD i default).Text,Space:=0 } else L.getD i default):=fun c=>by
     unfold oT;simp only[Int.toNat_natCast];cases j:lu (L.getD i default).Text with
     | false=>rw[kb (by simp)];rfl
     | true =>
      cases c with
      | false=>rw[kb (by simp)];rfl
      | true =>
       have I:1≤(L.getD i default).Text.size:=by
        unfold lu at j;rcases Nat.eq_zero_or_pos (L.getD i default).Text.size with o|o
        ·have:(L.getD i default).Text.data.toList=[]:=n3 (by rw[xR];exact o);rw[this]at j;simp at j
        ·exact o
       have z:aa (((L.getD i default).Text.size:Int)-1)=(((L.getD i default).Text.size-1:Nat):Int):=by rw[bL (by omega) (by omega)];omega
       rw[lc (show(true&&true)=true from rfl),z,show cQ (0:Int) (((L.getD i default).Text.size-1:Nat):Int) (L.getD i default).Text.size=true by simp only[cQ,iN,q7];omega,ba];simp only[Int.toNat_natCast,Int.toNat_zero];rfl
    have p:stripR (L.getD i default)=(bif lu (L.getD i default).Text&&(L.getD i default).Style.WhiteSpace != 2 then { L.getD i default with Text:=Bz (L.getD i default).Text,Space:=0 } else L.getD i default):=rfl;rw[p];have k:∀c:Bool,(bif c then { L.getD i default with Text:=Bz (L.getD i default).Text,Space:=0 } else L.getD i default:az).Box=(L.getD i default).Box:=fun c=>by cases c<;>rfl
    cases j:lu (L.getD i default).Text with
    | true =>
     rw[lc rfl];have:=t ((L.getD i default).Style.WhiteSpace != 2);rw[j,als]at this;rw[this,als];exact step _ (k _)
    | false =>
     rw[kb (by simp)];have:=t false;rw[j,Bool.false_and]at this;rw[this,Bool.false_and];exact step _ rfl
   ·rw[kb (by simpa using f)];have A:((i:Int) == e)=false:=by simpa using f
    rw[A];unfold oT;rw[kb (by simp)];simp only[Int.toNat_natCast,akT];exact step _ rfl
  grind[jr]
end
def jZ:Int×Int→d5→Int×Int
 | p,[]=>p
 | p,r::t=>jZ (bif r.Forced then p else (max p.1 r.Above,max p.2 r.Below)) t
theorem WZ p r t:jZ p (r::t)=jZ (bif r.Forced then p else (max p.1 r.Above,max p.2 r.Below)) t:=rfl
def qw(i a:Int):d5→Int
 | []=>a
 | r::t=>qw (i+1) (bif r.Forced then a else i) t
def Eg(L:d5):Int:=qw 0 (-1) L
def Ar(s:aI)(w u:Int):Int:=(rO (KN 0) 0 s w u).getD 0
def rB(s:aI)(w:Int)(L:d5):ae :=
 { bT with Kind:=2,W:=w,H:=aa ((jZ (km s) L).1+(jZ (km s) L).2),aA:=(jZ (km s) L).1,Style:=s,Kids:=[]++jr (jZ (km s) L).1 (Eg L) 0 (Ar s w (fE (L.map vI))) L }
theorem M4:∀a r i b,qw i b (a++[r])=bif r.Forced then qw i b a else i+a.length
 | [],r,i,b=>by simp[qw]
 | x::t,r,i,b=>by
  simp only[ack,qw];rw[M4 t r (i+1)]
  grind
theorem acM K n s w u:rO K n s w u=some (Ar s w u):=by
 grind[rO,Ar]
section
variable{K:Kn}{n:Nat}{L:d5}{s:aI}{w:Int}
theorem ahv:∀(m k:Nat),k≤L.length→k<m→(L.length:Int)<9223372036854775807→nI K n L m ((k:Int)-1)=some (qw 0 (-1) (L.take k)):=by
 intro m
 induction m with
 | zero=>intro k _ h;omega
 | succ m f =>
  intro k i j b;show oN K n L (nI K n L m) ((k:Int)-1)=_;unfold oN;cases k with
  | zero=>rw[kb (by simp)];rfl
  | succ k =>
   have e:(((k+1:Nat):Int)-1)=(k:Int):=by omega
   have a:k<L.length:=by omega
   have d:L.take (k+1)=L.take k++[L.getD k default]:=by
    rw[alT,jt a,bR a];rfl
   rw[e,lc (by simp),di (by omega) (by omega),ba,Int.toNat_natCast,d,M4];have c:(L.take k).length=k:=by simp;omega
   cases g:(L.getD k default).Forced with
   | false=>rw[show(!false)=true from rfl,lc rfl,c];simp
   | true=>rw[show(!true)=false from rfl,kb (by simp),bL (by omega) (by omega),f k (by omega) (by omega) b];rfl
theorem abO(b:L.length<n)(a:(L.length:Int)<9223372036854775807):oS K n L=some (Eg L):=by
 unfold oS;rw[bL (by omega) (by omega),ahv n L.length (by omega) b a,aka];rfl
theorem ah2(h:∀r∈L,r.Box.length≤1∧r.Text.size≤100000)(k:L.length≤2000)(l:2002≤n):∀(m i:Nat) (p:Int×Int),i≤L.length→L.length<m+i→jZ (km s) L=jZ p (L.drop i)→sc K n L s w m p.1 p.2 (i:Int)=some (rB s w L):=by
 intro m
 induction m with
 | zero=>intro i p f g;omega
 | succ m d =>
  intro i p f g a;show vh K n L s w (sc K n L s w m) p.1 p.2 i=_;unfold vh;by_cases b:i<L.length
  ·have j:L.drop i=L.getD i default::L.drop (i+1):=by rw[ls b,bR b]
   rw[j,WZ]at a;have e:aa ((i:Int)+1)=((i+1:Nat):Int):=by rw[bL (by omega) (by omega)];omega
   rw[lc (by simpa using b),di (by omega) (by omega),ba];simp only[Int.toNat_natCast];unfold AI;rw[e];cases c:(L.getD i default).Forced with
   | false =>
    rw[c]at a;rw[show(!false)=true from rfl,lc rfl];exact d (i+1) (_,_) (by omega) (by omega) a
   | true =>
    rw[c]at a;rw[show(!true)=false from rfl,kb (by simp)];exact d (i+1) p (by omega) (by omega) a
  ·rw[l3 (by omega)]at a;have a:jZ (km s) L=p:=a;rw[kb (by simpa using b),D3 (by omega) (by omega)];simp only[iF,acM];rw[abO (by omega) (by omega)];simp only[iF];rw[show(0:Int)=((0:Nat):Int) from rfl,ajV h k l n 0 _ [] (by omega) (by omega) (by simp),List.drop_zero];unfold rB;rw[a];rfl
theorem WJ(a:∀r∈L,r.Box.length≤1∧r.Text.size≤100000)(b:L.length≤2000)(c:2002≤n):Ca K n L s w=some (rB s w L):=by
 exact ah2 a b c n 0 (km s) (by omega) (by omega) rfl
end
def jm(s:aI)(w:Int)(X:d5):Int→eb→dn×Int
 | h,a::b::r =>
  let f:=rB s w (sl X a b)
  let q:=jm s w X (aa (h+f.H)) (b::r)
  ({ f with Y:=h }::q.1,q.2)
 | h,_=>([],h)
theorem Vt s w X:∀S h,(jm s w X h S).1.length≤S.length
 | [],h=>by simp[jm]
 | [a],h=>by simp[jm]
 | a::b::r,h=>by
  have:=Vt s w X (b::r) (aa (h+(rB s w (sl X a b)).H))
  grind[jm]
section
variable{K:Kn}{n:Nat}{X:d5}{s:aI}{w:Int}
def CC(N:Nat):eb→Prop
 | a::b::r=>a≤b∧b≤N∧CC N (b::r)
 | _=>True
theorem ND{N}:∀{S},CC N S→∀i,i+1<S.length→S.getD i 0≤S.getD (i+1) 0∧S.getD (i+1) 0≤N
 | [],_,i,h=>by grind
 | [a],_,i,h=>by grind
 | a::b::r,h,0,_=>⟨h.1,h.2.1⟩
 | a::b::r,h,i+1,c=>by
  have:=ND h.2.2 i (by grind)
  grind
theorem Wf(C:∀r∈X,r.Box.length≤1∧r.Text.size≤100000)(J:X.length≤2000)(L:2010≤n)(v:Int)(D:min (max v 0) 1048576=w)(c S:eb)(A:S=c++[X.length])(z:CC X.length S)(B:S.length≤2001):∀(m i:Nat) (h:Int) (a:dn),i<S.length→S.length<m+i→a.length≤i →
  rU K n s v X (c.map fun (k:Nat)=>(k:Int)) m h ((S.length-1:Nat):Int) (i:Int) a=some (a++(jm s w X h (S.drop i)).1,(jm s w X h (S.drop i)).2):=by
 have g:(c.map fun (k:Nat)=>(k:Int))++[(X.length:Int)]=S.map fun (k:Nat)=>(k:Int):=by rw[A];simp
 have b:∀j,j<S.length→(S.map fun (k:Nat)=>(k:Int)).getD j default=((S.getD j 0:Nat):Int):=fun j p=>by
  rw[bR (by simpa using p),akE];congr 1;simp[List.getD,p]
 intro m
 induction m with
 | zero=>intro i h a e y;omega
 | succ m E =>
  intro i h a e y H;show vE K n s v X (c.map fun (k:Nat)=>(k:Int)) (rU K n s v X (c.map fun (k:Nat)=>(k:Int)) m) h ((S.length-1:Nat):Int) i a=_;unfold vE;have t:aa ((i:Int)+1)=((i+1:Nat):Int):=by rw[bL (by omega) (by omega)];omega
  rw[g,t];have o:S.drop i=S.getD i 0::S.drop (i+1):=by rw[ls e];congr 1;simp[List.getD,e]
  by_cases f:i+1<S.length
  ·have u:=b i e;have x:=b (i+1) f;obtain⟨F,G⟩:=ND z i f;have d:S.drop (i+1)=S.getD (i+1) 0::S.drop (i+2):=by rw[ls f];congr 1;simp[List.getD,f]
   rw[lc (by simp;omega),di (by omega) (by simp;omega),ba,di (by omega) (by simp;omega),ba];simp only[Int.toNat_natCast,u,x];rw[show cQ ((S.getD i 0:Nat):Int) ((S.getD (i+1) 0:Nat):Int) X.length=true by simp only[cQ,iN,q7];omega,ba];have l:List.drop (S.getD i 0) (List.take (S.getD (i+1) 0) X)=sl X (S.getD i 0) (S.getD (i+1) 0):=rfl;have I:=xw X (S.getD i 0) (S.getD (i+1) 0);rw[l,D,WJ (fun r q=>C r (by unfold sl at q;exact wl (IN q))) (by omega) (by omega)];simp only[iF];rw[db (by simp;omega) (by omega),ba,E (i+1) _ _ (by omega) (by omega) (by simp;omega),o,d]
   conv=>rhs;unfold jm
   rw[←d];simp[tl]
  ·rw[kb (by simp;omega),o,l3 (by omega)];simp[jm]
end
end
noncomputable section
theorem ai8(l:List R4)(w:Int)(m a:Nat)(b:a≤l.length)(c:l.length<m+a):∃r,bM l w m a++[l.length]=a::r:=by
 cases m with
 | zero=>omega
 | succ m =>
  unfold bM;by_cases h:a<l.length
  ·rw[lc h];exact⟨_,rfl⟩
  ·rw[kb h];exact⟨[],by rw[Db,show a=l.length by omega]⟩
theorem acf(l:List R4)(w:Int):∀(m a:Nat),a≤l.length→l.length<m+a→CC l.length (bM l w m a++[l.length]):=by
 intro m
 induction m with
 | zero=>intro a d e;omega
 | succ m g =>
  intro a d e;unfold bM;by_cases h:a<l.length
  ·rw[lc h];have j:=zi (l:=l) (i:=a+1) (by omega);have k:=mQ l (a+1);have b:=EZ l w a l.length _ j;have n:=Av l w a l.length (gr l (a+1));have c:=g (lE l w a l.length (gr l (a+1))) b (by omega);obtain⟨r,f⟩:=ai8 l w m (lE l w a l.length (gr l (a+1))) b (by omega);rw[ack];rw[f]at c⊢;exact⟨by omega,b,c⟩
  ·rw[kb h];trivial
theorem Qw{P:az→Prop}{pl:ab→az}(q:∀e g,P (runM { cR with Forced:=true } e g)):∀(m:Nat) (p:Option aJ) (l:d6),(∀e∈l,e.Kind=3→∀g,P (runM (pl e.Box) e g))→(∀e g (x:d6),x≠[]→x.length≤l.length→(∀y∈x,y∈l)→P (runM (eF x) e g))→∀r∈cM pl m p l,P r:=by
 intro m
 induction m with
 | zero=>intro p l _ _ r a;cases a
 | succ m j =>
  intro p l h i r a;cases l with
  | nil=>cases a
  | cons e t =>
   unfold cM at a;cases k:(e.Kind == 2) with
   | true =>
    rw[k]at a;rcases oR.1 a with rfl|a
    ·exact q _ _
    ·exact j (some e) t (fun e c=>h e (by simp[c])) (fun e g x d o f=>i e g x d (by simp;omega) (fun y b=>by simp[f y b])) r a
   | false =>
    cases n:(e.Kind == 3) with
    | true =>
     rw[k,n]at a;rcases oR.1 a with rfl|a
     ·exact h e (by simp) (by simpa using n) _
     ·exact j (some e) t (fun e c=>h e (by simp[c])) (fun e g x d o f=>i e g x d (by simp;omega) (fun y b=>by simp[f y b])) r a
    | false =>
     rw[k,n]at a;rcases oR.1 a with rfl|a
     ·refine i _ _ _ (by simp) (by simp;omega) (fun y b=>?_);rcases oR.1 b with rfl|b
      ·simp
      ·exact ol _ (wl b)
     ·refine j _ _ (fun e c=>h e (ol _ (IN c))) (fun e g x d o f=>i e g x d (by simp at o⊢;omega) (fun y b=>ol _ (IN (f y b)))) r a
theorem WH{x:d6}(h:∀e∈x,j0 e):(eF x).Text.size≤4*x.length:=by
 have:=BK (HH h);unfold eF;simp only[];rw[BP];have:(cX x).length=x.length:=by unfold cX;simp
 omega
def ge(v:Int):Int:=min (max v 0) 1048576
def jX(X:d5)(w:Int):eb:=bM (X.map vI) w (X.length+1) 0++[X.length]
def fT(L:d4):Prop:=∀b∈L,b.Kind=3
theorem ahL:∀(L:d4) (s:Int×d6),fT L→(∀x∈s.2,x.Kind≠3)→∀x∈(vM 1 L s).2,x.Kind≠3:=by
 intro L
 induction L with
 | nil=>intro s _ a;exact a
 | cons b r d =>
  intro s e a;rw[k8,akA,← k8];have f:=e b ti;refine d _ (fun c g=>e c (ol _ g)) ?_;unfold gJ;rw[f];cases mf b with
  | false=>exact a
  | true=>exact CD (P:=fun x=>x.Kind≠3) b _ (fun _ _ _=>(by show(1:Int)≠3;decide)) (by show(2:Int)≠3;decide) (fun _=>(by show(1:Int)≠3;decide)) (fun _=>(by show(1:Int)≠3;decide)) _ _ Gv a
def G5(b:ab):az:=cR
def jq(a:d4):d5:=rx G5 (eU 1 a)
theorem Tv(a:d4):(jq a).length≤eA 1 a:=by
 unfold jq rx;have b:=RW G5 ((eU 1 a).length+1) none (eU 1 a);have c:=Cs 1 a;omega
theorem CO{a:d4}(h:fT a):∀e∈eU 1 a,e.Kind≠3:=ahL a (0,[]) h (fun x b=>by cases b)
theorem acr{a:d4}(h:fT a)(j:eA 1 a≤2000):∀r∈jq a,r.Box.length≤1∧r.Text.size≤100000:=by
 have b:=Cs 1 a;unfold jq rx;refine Qw (P:=fun r=>r.Box.length≤1∧r.Text.size≤100000) (fun e g=>⟨by simp[runM,cR],by show(⟨#[]⟩:ByteArray).size≤100000;decide⟩) _ _ _ (fun e d c g=>absurd c (CO h e d)) (fun e g x k l i=>⟨by simp[runM,eF,cR],?_⟩);have:=WH (x:=x) (fun y f=>Ei 1 a y (i y f));show(eF x).Text.size≤100000;omega
theorem Tc{a:d4}(h:fT a)(d:a.length≤1000)(f:∀b∈a,b.Text.size≤1000):Dp 1 a:=by
 unfold Dp;exact⟨d,fun b c=>⟨f b c,fun e=>by rw[h b c]at e;cases e⟩⟩
theorem Wt{a:d4}(h:fT a)(g:a.length≤1000)(i:∀b∈a,b.Text.size≤1000)(d:eA 1 a≤2000){N:Nat}(j:9001≤N)(w:Int)(env:bu):zL (KN N) N a w env=some (jq a):=by
 unfold zL;rw[show td (KN N) N a _=_ from V0 (pl:=G5) (Tc h g i) d (by omega) (fun e f c=>absurd c (CO h e f))];rfl
def m7(a:d4)(s:aI)(v:Int):dn×Int:=jm s (ge v) (jq a) 0 (jX (jq a) (ge v))
theorem agE{a:d4}(h:fT a)(o:a.length≤1000)(q:∀b∈a,b.Text.size≤1000)(j:eA 1 a≤2000){N:Nat}(l:9001≤N)(s:aI)(v:Int)(env:bu):yr (KN N) N a s v env=some (m7 a s v):=by
 have p:=Wt h o q j l (ge v) env;have m:=Tv a;have e:=acr h j;unfold m7;generalize jq a=X at *;unfold yr;rw[show min (max v 0) 1048576=ge v from rfl,p];simp only[iF];rw[agY (by omega) (by omega)];simp only[iF];have f:=JM (X.map vI) (ge v) (X.length+1) 0;simp only[nx]at f;rw[db (by simp;omega) (by omega),ba];have i:=acf (X.map vI) (ge v) (X.length+1) 0 (by omega) (by simp);rw[nx]at i;have c:(jX X (ge v)).length≤2001:=by unfold jX;simp only[nw,lp,th];omega
 have d:0<(jX X (ge v)).length:=by unfold jX;simp
 have g:(((bM (X.map vI) (ge v) (X.length+1) 0).map fun (k:Nat)=>(k:Int))++[(X.length:Int)]).length=(jX X (ge v)).length:=by unfold jX;simp
 rw[g,show aa (((jX X (ge v)).length:Int)-1)=(((jX X (ge v)).length-1:Nat):Int) by rw[bL (by omega) (by omega)];omega];have:=Wf (K:=KN N) (n:=N) (X:=X) (s:=s) (w:=ge v) e (by omega) (by omega) v rfl (bM (X.map vI) (ge v) (X.length+1) 0) (jX X (ge v)) rfl i c N 0 0 [] d (by omega) (by simp);rw[List.drop_zero,Db]at this;exact this
end
abbrev ci:=dO
def n7(b:Bool)(z:bD)(a:Int)(f:ae):ae :=
 if b=true then ui { f with X:=aa (f.X+aa (z.Border.a3+z.Padding.a3)),Y:=aa (f.Y+aa (aa (z.Border.a0+z.Padding.a0)+a)) } z.Content
 else { f with X:=aa (f.X+aa (z.Border.a3+z.Padding.a3)),Y:=aa (f.Y+aa (aa (z.Border.a0+z.Padding.a0)+a)) }
theorem afk b z a f:(n7 b z a f).Kids=f.Kids:=by
 grind[n7,RP]
def mV(b:ab)(z:bD)(e:Bool)(L:dn)(d:Int)(c a:bc)(f:Bool)(h:Int):ae :=
 ⟨1,b.Node,z.Margin.a3,0,aa (z.Content+aa (aa (aa (z.Border.a3+z.Padding.a3)+z.Border.a1)+z.Padding.a1)),aa (aa (aa (aa (h+z.Border.a0)+z.Padding.a0)+z.Border.a2)+z.Padding.a2),0,⟨#[]⟩,b.Style,c,a,f,L.map (n7 e z d)⟩
theorem HL{α:Type}(A R:List α) x y:(A++x::R).set A.length y=A++y::R:=by
 grind
theorem EJ{α:Type}(A R:List α) x d:(A++x::R).getD A.length d=x:=by grind
theorem YQ(K:Kn)(n:Nat)(b:ab)(z:bD)(v6:d4×Bool)(L:dn)(l q:Int)(S:ci)(d:Int)(i h:bc)(j:Bool)(f H:Int)(w:L.length≤100000)(t:v6.2=true→v6.1.length=L.length∧∀k∈v6.1,eM k=true):
  ∀(m:Nat) (A R:dn),A.length+R.length=L.length→R.length<m→sq K n b z v6 L l q S d i h j f H m (A.length:Int) (A++R) =
   some (⟨1,b.Node,z.Margin.a3,0,aa (z.Content+f),H,0,⟨#[]⟩,b.Style,i,h,j,A++R.map (n7 v6.2 z d)⟩,l,q,S):=by
 intro m
 induction m with
 | zero=>intro A R _ p;omega
 | succ m u =>
  intro A R o p;simp only[sq,zz];cases R with
  | nil =>
   have e:A.length=L.length:=by simpa using o
   simp only[BQ (show L.length≤A.length by omega),iO,qv,yk]
  | cons x R =>
   simp only[lp]at o p;have s:A.length<L.length:=by omega
   have a:=u (A++[n7 v6.2 z d x]) R (by simp;omega) (by omega);simp only[tl,aiO,nw,lp,th,Dy]at a;simp only[z4 s,zt,Int.toNat_natCast,HL,EJ,rD (show A.length<(A++x::R).length by simp),nw,lp,rD (show A.length<A.length+(R.length+1) by omega),ba,LZ,iF,y9,xd,Ry,xC (show A.length<1000000 by omega),q6];cases g:v6.2 with
   | false =>
    rw[g]at a;simp only[iO,qv];simp only[n7,iO,qv]at a⊢;exact a
   | true =>
    rw[g]at a;obtain⟨v,r⟩:=t g;have c:A.length<v6.1.length:=by omega
    simp only[zt,rD c,ba,r _ (ga c)];simp only[n7,zt]at a⊢;exact a
def qx(s:aI)(h:Int):Int:=if s.Height.Kind=1 then max (min (max s.Height.Value (-1048576)) 1048576) 0 else max h 0
def dL(a b:bc):bc:=⟨max a.Pos b.Pos,min a.Neg b.Neg⟩
def ir(x:Int):bc:=⟨max x 0,min x 0⟩
def pR(b:ab)(z:bD)(t i f:Bool)(h:Int)(k:Bool)(g j:bc)(L:dn):ae :=
 let a:=ir z.Margin.a0
 let c:=ir z.Margin.a2
 let e:=if t=true then 0 else if (!k)=true then aa (g.Pos+g.Neg) else if (!i)=true then aa (g.Pos+g.Neg) else 0
 let d:=if t=true then dL a g else a
 if (k&&(t&&i))=true then mV b z f L e (dL d c) (dL d c) true (qx b.Style 0)
 else if k=true then (if i=true then mV b z f L e d (dL c g) false (qx b.Style e) else mV b z f L e d c false (qx b.Style e))
 else if i=true then mV b z f L e d (dL c j) false (qx b.Style (aa (h+e))) else mV b z f L e d c false (qx b.Style (aa (h+aa (e+aa (j.Pos+j.Neg)))))
section
variable(K:Kn)(n:Nat)(b:ab)(z:bD)(L:dn)(e:L.length≤100000)(g:L.length<n)(a c:Int)(S:ci)(v6:d4×Bool)(f:v6.2=true→v6.1.length=L.length∧∀k∈v6.1,eM k=true)
include g e f
theorem sj8 d i g j h:ub K n b z v6 L a c S d i g j h=some (mV b z v6.2 L d i g j h,a,c,S):=by
 unfold ub;simp only[D4];exact YQ K n b z v6 L a c S d i g j _ _ e f n [] L (by simp) (by omega)
theorem VX d h j i k:nC K n b z v6 L a c S d h j i k=some (mV b z v6.2 L d j i k (qx b.Style h),a,c,S):=by
 unfold nC;simp only[gi,wP,sj8 K n b z L e g a c S v6 f]
 grind[qx,cz]
theorem TL(t d:Bool)(h:Int)(i:Bool)(k j:bc):pI K n b z t d v6 h i k j L a c S=some (pR b z t d v6.2 h i k j L,a,c,S):=by
 have l:∀x y,kv K n x y=some (dL x y):=fun x y=>rfl;have o:∀x,gI K n x=some (aa (x.Pos+x.Neg)):=fun x=>rfl;have m:∀x,mK K n x=some (ir x):=fun x=>rfl;unfold pI;simp only[m,iF,wK,se,uV,l,o,VX K n b z L e g a c S v6 f];unfold pR;cases t<;>cases d<;>cases i<;>simp
end
def qD(f:ab→Int→Int→ci→Option (ae×Int×Int×ci)):d4→Int→Int→ci→Option (dn×Int×Int×ci)
 | [],a,b,S=>some ([],a,b,S)
 | k::r,a,b,S=>(f k a b S).bind fun x=>(qD f r x.2.1 x.2.2.1 x.2.2.2).bind fun y=>some (x.1::y.1,y.2)
theorem aiv(K:Kn)(n:Nat)(b:ab)(z:bD)(g v4:Bool)(env:bu)(v6:d4×Bool)(q:v6.1.length≤1000):
  ∀(m i:Nat) (a:dn) (d e:Int) (S:ci),i≤v6.1.length→v6.1.length<m+i→a.length≤i→qz K n b z g v4 env v6 m i a d e S =
   (qD (fun k=>K.de env.Layout k z.Content) (v6.1.drop i) d e S).bind fun r=>(lN K n (a++r.1)).bind fun c=>pI K n b z g v4 v6 c.2.1 c.2.2.2.2 c.2.2.1 c.2.2.2.1 c.1 r.2.1 r.2.2.1 r.2.2.2:=by
 intro m
 induction m with
 | zero=>intro i a d e S _ h;omega
 | succ m j =>
  intro i a d e S l h o;simp only[qz,xN];by_cases f:i<v6.1.length
  ·rw[drop_at' f];simp only[z4 f,zt,rD f,ba,Int.toNat_natCast,lp,th,xC (show i<1000000 by omega),qD];cases p:K.de env.Layout (v6.1.getD i default) z.Content d e S with
   | none=>rfl
   | some x =>
    simp only[iF];rw[db (by omega) (by omega),ba,j (i+1) _ _ _ _ (by omega) (by omega) (by simp;omega)];cases qD (fun k=>K.de env.Layout k z.Content) (v6.1.drop (i+1)) x.2.1 x.2.2.1 x.2.2.2 with
    | none=>rfl
    | some y=>simp only[iF,tl,aiO]
  grind[qD]
theorem KI K n l(a:l.length≤100000):qb K n l=some l:=by
 unfold qb om
 grind[fits,ae,db,ba]
def DF:Nat→ae→Prop
 | 0,_=>False
 | d+1,f=>f.Kids.length≤3000∧∀k∈f.Kids,DF d k
theorem wx:∀{d} {f g},f.Kids=g.Kids→DF d g→DF d f
 | 0,_,_,_,h=>h
 | d+1,f,g,e,h=>by grind[DF]
theorem Gz:∀{d e} {f},DF d f→d≤e→DF e f
 | 0,_,_,h,_=>h.elim
 | d+1,0,_,_,h=>by omega
 | d+1,e+1,f,h,b=>⟨h.1,fun k a=>Gz (h.2 k a) (by omega)⟩
theorem XQ{d}{b}{z}{e}{L}{g}{c a}{i}{h}(k:L.length≤3000)(j:∀f∈L,DF d f):DF (d+1) (mV b z e L g c a i h):=by
 unfold DF
 grind[mV,n7,wx,afk]
theorem Si{d}{b}{z}{t e o}{h}{g}{c a}{L}(j:L.length≤3000)(i:∀f∈L,DF d f):DF (d+1) (pR b z t e o h g c a L):=by
 grind[pR,XQ]
theorem Dq N:∀x,(KN (N+1)).k9 (Fv.fn 145) x=some (eM x):=fun x=>LZ (KN N) N x
theorem ajg{a}(h:fT a):∀r∈jq a,r.Box=[]:=by
 exact Qw (P:=fun r=>r.Box=[]) (fun e g=>rfl) _ _ _ (fun e c b g=>absurd b (CO h e c)) (fun e g x d f i=>rfl)
theorem aj5{f}(h:f.Kids=[]):DF 1 f:=by grind[DF]
theorem U5(a b:Int):∀(X:d5) (i x:Int),(∀r∈X,r.Box=[])→(jr a b i x X).length≤X.length∧∀f∈jr a b i x X,DF 1 f
 | [],i,x,_=>⟨by simp[jr],fun f c=>by simp[jr]at c⟩
 | r::t,i,x,h=>by
  have g:=h r ti;have l:(bif i == b then stripR r else r).Box=[]:=by
   cases (i == b)
   ·exact g
   ·show(stripR r).Box=[];unfold stripR;cases (lu r.Text&&r.Style.WhiteSpace != 2)<;>exact g
  simp only[jr];generalize (bif i == b then stripR r else r)=e at *;obtain⟨m,j⟩:=U5 a b t (i+1) (aa (x+aa (e.Width+e.Space))) (fun q k=>h q (ol _ k));have d:(m5 a x e).length≤1∧∀f∈m5 a x e,DF 1 f:=by
   unfold m5 C4;rw[l];cases e.Text.data.toList.isEmpty with
   | true=>exact⟨by simp,fun f c=>by simp at c⟩
   | false=>exact⟨by simp,fun f c=>by simp at c;subst c;exact aj5 rfl⟩
  refine⟨by rw[nw,lp];omega,fun f c=>?_⟩;rcases n5.1 c with c|c
  ·exact d.2 f c
  ·exact j f c
theorem aeQ{s}{w}{X}(h:∀r∈X,r.Box=[])(e:X.length≤3000):DF 2 (rB s w X):=by
 obtain⟨d,a⟩:=U5 (jZ (km s) X).1 (Eg X) X 0 (Ar s w (fE (X.map vI))) h;exact⟨by show([]++jr _ _ _ _ X).length≤3000;grind,fun k b=>a k (by have c:k∈[]++jr (jZ (km s) X).1 (Eg X) 0 (Ar s w (fE (X.map vI))) X:=b;grind)⟩
theorem NA{s}{w}{X}(h:∀r∈X,r.Box=[])(d:X.length≤3000):∀S y,∀f∈(jm s w X y S).1,DF 2 f
 | [],y=>fun f c=>by grind[jm]
 | [a],y=>fun f c=>by grind[jm]
 | a::b::r,y=>fun f c=>by
  simp only[jm,oR]at c;rcases c with rfl|c
  ·have g:∀q∈sl X a b,q.Box=[]:=fun q e=>h q (Bw e)
   grind[sl,wx,rB,aeQ]
  ·exact NA h d (b::r) _ f c
theorem ajL{a}(h:fT a)(e:eA 1 a≤2000) s v:(m7 a s v).1.length≤2001∧∀f∈(m7 a s v).1,DF 2 f:=by
 have b:=Tv a;unfold m7;have d:=Vt s (ge v) (jq a) (jX (jq a) (ge v)) 0;have c:=JM ((jq a).map vI) (ge v) ((jq a).length+1) 0
 grind[NA,ajg,jX]
theorem agl{x y:cw}:fH x y=true↔x=y:=by
 cases x;cases y;simp[fH]
theorem R3{α:Type}[Inhabited α]{L:List α}{i:Nat}(h:i<L.length):L.set i (L.getD i default)=L:=by
 rw[bR h];exact List.set_getElem_self h
theorem adQ(K:Kn)(n:Nat)(f:ae)(L:dn)(g:L.length≤100000)(d:∀k∈L,K.w4 k=some k):∀(m i:Nat),i≤L.length→L.length<m+i →
  wv K n f L m i L=some { f with Kids:=L }:=by
 intro m
 induction m with
 | zero=>intro i b c;omega
 | succ m e =>
  intro i b c;simp only[wv,z9];by_cases a:i<L.length
  ·simp only[fj a,zt,dP a,ba,Int.toNat_natCast,d _ (ga a),iF,R3 a];rw[fe (by omega)];exact e (i+1) (by omega) (by omega)
  ·simp only[fB (show L.length≤i by omega),iO,qv]
theorem C2:∀(d N:Nat) (f:ae),DF d f→d+3010≤N→n9 (KN N) N f=some f
 | 0,_,_,h,_=>h.elim
 | d+1,0,_,_,h=>by omega
 | d+1,N+1,f,h,b=>by
  unfold DF at h;unfold n9;rw[KI _ _ _ (by omega),iF];have e:=adQ (KN (N+1)) (N+1) f f.Kids (by omega) (fun k a=>C2 d N k (h.2 k a) (by omega)) (N+1) 0 (u6 _) (by omega);rw[show((0:Nat):Int)=0 from rfl]at e;rw[e];cases f;rfl
theorem Xo(K:Kn)(n:Nat)(f:ae)(L:dn)(g:L.length≤100000)(d:∀k∈L,K.xr k=some k):∀(m i:Nat),i≤L.length→L.length<m+i →
  t7 K n f L m i L=some { f with Kids:=L }:=by
 intro m
 induction m with
 | zero=>intro i b c;omega
 | succ m e =>
  intro i b c;simp only[t7,xt];by_cases a:i<L.length
  ·simp only[fj a,zt,dP a,ba,Int.toNat_natCast,d _ (ga a),iF,R3 a];rw[fe (by omega)];exact e (i+1) (by omega) (by omega)
  ·simp only[fB (show L.length≤i by omega),iO,qv]
theorem NR:∀(d N:Nat) (f:ae),DF d f→d+3010≤N→sO (KN N) N f=some f
 | 0,_,_,h,_=>h.elim
 | d+1,0,_,_,h=>by omega
 | d+1,N+1,f,h,b=>by
  unfold DF at h;unfold sO;rw[KI _ _ _ (by omega),iF];have e:=Xo (KN (N+1)) (N+1) f f.Kids (by omega) (fun k a=>NR d N k (h.2 k a) (by omega)) (N+1) 0 (u6 _) (by omega);rw[show((0:Nat):Int)=0 from rfl]at e;rw[e];cases f;rfl
def Wa(w:Int)(m:ay):Prop:=m.Width=w∧bU m.Box≤100∧DF (bU m.Box+2) m.Fragment
def dD(b:ab)(w:Int)(m:ay):Bool:=m.Width == w&&fZ m.Box b
def oQ(b:ab)(w a c:Int)(S R:ci):ae×Bool×Int×Int×ci :=
 match R.find? (dD b w) with
 | some m=>(m.Fragment,true,a,c,S)
 | none=>(bT,false,a,c,S)
theorem abn(N:Nat)(b:ab)(w:Int)(f:ae)(a e:Int)(S:ci)(i:S.length≤3000)(h:3200≤N)(d:Nat)(g:DF d f)(c:d≤150)(j:0≤a∧a<100000):yR (KN N) N b w f a e S=some (a+1,e,S++[⟨b,w,f⟩]):=by
 unfold yR;rw[C2 d N f g (by omega),iF];simp only[List.length_singleton];rw[db (by omega) (by omega),ba,bL (by omega) (by omega)]
namespace Wd
theorem jd x:0≤dI x∧dI x≤1048576:=by grind[dI]
theorem s8 l w:(cz l w).2=(l.Kind == 1||l.Kind == 2):=by
 grind[cz]
end Wd
theorem uj l b: -1048576≤(cz l b).1∧(cz l b).1≤1048576:=by
 grind[cz]
def bj(l:cw):cw:=if l.Kind=2 then cj else l
def gj(s:aI):aI:={ s with Width:=bj s.Width,MinWidth:=bj s.MinWidth,MaxWidth:=bj s.MaxWidth,Margin:=⟨bj s.Margin.a0,bj s.Margin.a1,bj s.Margin.a2,bj s.Margin.a3⟩,Padding:=⟨bj s.Padding.a0,bj s.Padding.a1,bj s.Padding.a2,bj s.Padding.a3⟩ }
theorem fb{α:Type} l(f:cw→α) y(a:y=f l):(if (l.Kind == 2)=true then f cj else y)=f (bj l):=by
 grind[bj]
section
variable(K:Kn)(n:Nat)
theorem rZ(s:aI):uB K n s=some (gj s):=by
 unfold uB;refine (fb s.Width (fun l=>sW K n { s with Width:=l }) _ rfl).trans ?_;unfold sW;refine (fb s.MinWidth (fun l=>s9 K n { s with Width:=bj s.Width,MinWidth:=l }) _ rfl).trans ?_;unfold s9;refine (fb s.MaxWidth (fun l=>vp K n { s with Width:=bj s.Width,MinWidth:=bj s.MinWidth,MaxWidth:=l }) _ rfl).trans ?_;unfold vp;refine (fb s.Margin.a0 (fun l=>vP K n { s with Width:=bj s.Width,MinWidth:=bj s.MinWidth,MaxWidth:=bj s.MaxWidth,Margin:=⟨l,s.Margin.a1,s.Margin.a2,s.Margin.a3⟩ }) _ rfl).trans ?_;unfold vP;refine (fb s.Padding.a0 (fun l=>tT K n { s with Width:=bj s.Width,MinWidth:=bj s.MinWidth,MaxWidth:=bj s.MaxWidth,Margin:=⟨bj s.Margin.a0,s.Margin.a1,s.Margin.a2,s.Margin.a3⟩,Padding:=⟨l,s.Padding.a1,s.Padding.a2,s.Padding.a3⟩ }) _ rfl).trans ?_;unfold tT;refine (fb s.Margin.a1 (fun l=>ua K n { s with Width:=bj s.Width,MinWidth:=bj s.MinWidth,MaxWidth:=bj s.MaxWidth,Margin:=⟨bj s.Margin.a0,l,s.Margin.a2,s.Margin.a3⟩,Padding:=⟨bj s.Padding.a0,s.Padding.a1,s.Padding.a2,s.Padding.a3⟩ }) _ rfl).trans ?_
 unfold ua;refine (fb s.Padding.a1 (fun l=>si K n { s with Width:=bj s.Width,MinWidth:=bj s.MinWidth,MaxWidth:=bj s.MaxWidth,Margin:=⟨bj s.Margin.a0,bj s.Margin.a1,s.Margin.a2,s.Margin.a3⟩,Padding:=⟨bj s.Padding.a0,l,s.Padding.a2,s.Padding.a3⟩ }) _ rfl).trans ?_;unfold si;refine (fb s.Margin.a2 (fun l=>wB K n { s with Width:=bj s.Width,MinWidth:=bj s.MinWidth,MaxWidth:=bj s.MaxWidth,Margin:=⟨bj s.Margin.a0,bj s.Margin.a1,l,s.Margin.a3⟩,Padding:=⟨bj s.Padding.a0,bj s.Padding.a1,s.Padding.a2,s.Padding.a3⟩ }) _ rfl).trans ?_;unfold wB;refine (fb s.Padding.a2 (fun l=>wm K n { s with Width:=bj s.Width,MinWidth:=bj s.MinWidth,MaxWidth:=bj s.MaxWidth,Margin:=⟨bj s.Margin.a0,bj s.Margin.a1,bj s.Margin.a2,s.Margin.a3⟩,Padding:=⟨bj s.Padding.a0,bj s.Padding.a1,l,s.Padding.a3⟩ }) _ rfl).trans ?_;unfold wm;refine (fb s.Margin.a3 (fun l=>tw K n { s with Width:=bj s.Width,MinWidth:=bj s.MinWidth,MaxWidth:=bj s.MaxWidth,Margin:=⟨bj s.Margin.a0,bj s.Margin.a1,bj s.Margin.a2,l⟩,Padding:=⟨bj s.Padding.a0,bj s.Padding.a1,bj s.Padding.a2,s.Padding.a3⟩ }) _ rfl).trans ?_
 unfold tw;refine (fb s.Padding.a3 (fun l=>AU K n { s with Width:=bj s.Width,MinWidth:=bj s.MinWidth,MaxWidth:=bj s.MaxWidth,Margin:=⟨bj s.Margin.a0,bj s.Margin.a1,bj s.Margin.a2,bj s.Margin.a3⟩,Padding:=⟨bj s.Padding.a0,bj s.Padding.a1,bj s.Padding.a2,l⟩ }) _ rfl).trans ?_;rfl
end
namespace Fw
open QSort (wn cD dh dd rk rf sb)
section
variable(K:Kn)(n:Nat)
theorem T9(s:aI):A1 K n s=some (gj s):=by
 unfold A1;refine (fb s.Width (fun l=>uh K n { s with Width:=l }) _ rfl).trans ?_;unfold uh;refine (fb s.MinWidth (fun l=>vT K n { s with Width:=bj s.Width,MinWidth:=l }) _ rfl).trans ?_;unfold vT;refine (fb s.MaxWidth (fun l=>vy K n { s with Width:=bj s.Width,MinWidth:=bj s.MinWidth,MaxWidth:=l }) _ rfl).trans ?_;unfold vy;refine (fb s.Margin.a0 (fun l=>vB K n { s with Width:=bj s.Width,MinWidth:=bj s.MinWidth,MaxWidth:=bj s.MaxWidth,Margin:=⟨l,s.Margin.a1,s.Margin.a2,s.Margin.a3⟩ }) _ rfl).trans ?_;unfold vB;refine (fb s.Padding.a0 (fun l=>wF K n { s with Width:=bj s.Width,MinWidth:=bj s.MinWidth,MaxWidth:=bj s.MaxWidth,Margin:=⟨bj s.Margin.a0,s.Margin.a1,s.Margin.a2,s.Margin.a3⟩,Padding:=⟨l,s.Padding.a1,s.Padding.a2,s.Padding.a3⟩ }) _ rfl).trans ?_;unfold wF;refine (fb s.Margin.a1 (fun l=>vQ K n { s with Width:=bj s.Width,MinWidth:=bj s.MinWidth,MaxWidth:=bj s.MaxWidth,Margin:=⟨bj s.Margin.a0,l,s.Margin.a2,s.Margin.a3⟩,Padding:=⟨bj s.Padding.a0,s.Padding.a1,s.Padding.a2,s.Padding.a3⟩ }) _ rfl).trans ?_
 unfold vQ;refine (fb s.Padding.a1 (fun l=>vK K n { s with Width:=bj s.Width,MinWidth:=bj s.MinWidth,MaxWidth:=bj s.MaxWidth,Margin:=⟨bj s.Margin.a0,bj s.Margin.a1,s.Margin.a2,s.Margin.a3⟩,Padding:=⟨bj s.Padding.a0,l,s.Padding.a2,s.Padding.a3⟩ }) _ rfl).trans ?_;unfold vK;refine (fb s.Margin.a2 (fun l=>tI K n { s with Width:=bj s.Width,MinWidth:=bj s.MinWidth,MaxWidth:=bj s.MaxWidth,Margin:=⟨bj s.Margin.a0,bj s.Margin.a1,l,s.Margin.a3⟩,Padding:=⟨bj s.Padding.a0,bj s.Padding.a1,s.Padding.a2,s.Padding.a3⟩ }) _ rfl).trans ?_;unfold tI;refine (fb s.Padding.a2 (fun l=>tW K n { s with Width:=bj s.Width,MinWidth:=bj s.MinWidth,MaxWidth:=bj s.MaxWidth,Margin:=⟨bj s.Margin.a0,bj s.Margin.a1,bj s.Margin.a2,s.Margin.a3⟩,Padding:=⟨bj s.Padding.a0,bj s.Padding.a1,l,s.Padding.a3⟩ }) _ rfl).trans ?_;unfold tW;refine (fb s.Margin.a3 (fun l=>va K n { s with Width:=bj s.Width,MinWidth:=bj s.MinWidth,MaxWidth:=bj s.MaxWidth,Margin:=⟨bj s.Margin.a0,bj s.Margin.a1,bj s.Margin.a2,l⟩,Padding:=⟨bj s.Padding.a0,bj s.Padding.a1,bj s.Padding.a2,s.Padding.a3⟩ }) _ rfl).trans ?_
 unfold va;refine (fb s.Padding.a3 (fun l=>AJ K n { s with Width:=bj s.Width,MinWidth:=bj s.MinWidth,MaxWidth:=bj s.MaxWidth,Margin:=⟨bj s.Margin.a0,bj s.Margin.a1,bj s.Margin.a2,bj s.Margin.a3⟩,Padding:=⟨bj s.Padding.a0,bj s.Padding.a1,bj s.Padding.a2,l⟩ }) _ rfl).trans ?_;rfl
end
def cA(b:ab)(d:ck):d4:=d.map fun j=>b.Kids.getD j.toNat default
theorem wy b d:(cA b d).length=d.length:=by simp[cA]
theorem W1 b d{k}(a:k<d.length):(cA b d).getD k default=b.Kids.getD (d.getD k default).toNat default:=by
 grind[cA]
theorem BJ{b}{d}(h:Od.Is b.Kids d){k}(c:k∈cA b d):k∈b.Kids:=by
 obtain⟨j,a,rfl⟩:=BY.1 c;obtain⟨i,e,rfl,_⟩:=h.mem a
 grind
theorem aaJ{b:ab}{d:ck}(h:Od.Is b.Kids d):(cA b d).Perm (eB b):=by
 have e:∀n,n≤b.Kids.length→(Od.ix (Od.fl b.Kids) n).map (fun j=>b.Kids.getD j.toNat default)=(b.Kids.take n).filter gR:=by
  intro n
  induction n with
  | zero=>intro _;rfl
  | succ n f =>
   intro g;rw[Od.Sx,IF,f (by omega),MO (by omega),alI];congr 1;rw[←bR (show n<b.Kids.length by omega)];unfold Od.fl;cases c:gR (b.Kids.getD n default)<;>simp only[alm,al6,c,zt,iO,qv,q6,yk,Int.toNat_natCast]
 have a:=e b.Kids.length (by omega);rw[aka]at a;have:=h.p.map (fun j=>b.Kids.getD j.toNat default);rw[a]at this;exact this
theorem ZT(K:Kn)(n:Nat){b:ab}(o:b.Kids.length≤19){d:ck}(h:Od.Is b.Kids d):∀(m i:Nat),i≤d.length→d.length<m+i →
  uW K n b d m (i:Int) ((cA b d).take i)=some (cA b d):=by
 have l:=h.len;intro m
 induction m with
 | zero=>intro i f g;omega
 | succ m a =>
  intro i f g;simp only[uW,zZ];by_cases c:i<d.length
  ·obtain⟨j,p,e,_⟩:=h.mem (QSort.OK (A:=d) c);unfold QSort.at_ at e;have a:=a (i+1) (by omega) (by omega);rw[MO (by rw[wy];exact c),← bR (by rw[wy];exact c),W1 b d c]at a;rw[dh (by omega),cD (by omega),eN,e,cD (by omega),eN,db (by simp only[lp,th,ajN];omega) (by omega),ba,wn (n:=(i:Int)+1) (k:=i+1) (by omega) (by omega)];rw[e,eN]at a;exact a
  ·rw[dd (by omega),Dz (by rw[wy];omega)]
theorem Qu{b}(a:b.Kids.length≤19){d}(h:Od.Is b.Kids d){K}{n}(c:sy K n b.Kids=some d)(f:100<n):kE K n b=some (cA b d):=by
 have e:=h.len;unfold kE;rw[c,sb];exact ZT K n a h n 0 (by omega) (by omega)
end Fw
namespace Fl
open QSort (wn cD dh dd rk rf sb)
open Fw
def j7(l:cw):cw:=if l.Kind=1∨l.Kind=2 then l else { cj with Kind:=1 }
def oY(b:ab)(n:Int):ab:={ b with Style:={ b.Style with Width:=⟨1,n⟩,MinWidth:=cj,MaxWidth:=cj,Margin:=⟨j7 b.Style.Margin.a0,j7 b.Style.Margin.a1,j7 b.Style.Margin.a2,j7 b.Style.Margin.a3⟩ } }
theorem CU{α:Type} l(f:cw→α):(if (!(l.Kind == 1||l.Kind == 2))=true then f { cj with Kind:=1 } else f l)=f (j7 l):=by
 grind[j7]
theorem ab1(K:Kn)(n:Nat)(b:ab)(x:Int):xL K n b x=some (oY b x):=by
 unfold xL;simp only[gi,iF,Wd.s8];rw[CU b.Style.Margin.a0 (fun l=>t9 K n b x ⟨l,b.Style.Margin.a1,b.Style.Margin.a2,b.Style.Margin.a3⟩)];unfold t9;simp only[gi,iF,Wd.s8];rw[CU b.Style.Margin.a1 (fun l=>uo K n b x ⟨j7 b.Style.Margin.a0,l,b.Style.Margin.a2,b.Style.Margin.a3⟩)];unfold uo;simp only[gi,iF,Wd.s8];rw[CU b.Style.Margin.a2 (fun l=>uN K n b x ⟨j7 b.Style.Margin.a0,j7 b.Style.Margin.a1,l,b.Style.Margin.a3⟩)];unfold uN;simp only[gi,iF,Wd.s8];rw[CU b.Style.Margin.a3 (fun l=>yu K n b x ⟨j7 b.Style.Margin.a0,j7 b.Style.Margin.a1,j7 b.Style.Margin.a2,l⟩)];rfl
def eD(l:cw)(c o:Int):Int:=if (cz l c).2=true then (cz l c).1 else o
theorem Cm K n l c o:mR K n l c o=some (eD l c o):=by
 grind[mR,eD,gi,sb]
theorem I3(s:aI)(w:Int): -6291456≤gB (eW s w 0)∧gB (eW s w 0)≤6291456:=by
 have a:=uj s.Margin.a1 w;have b:=uj s.Margin.a3 w;have c:=uj s.Padding.a1 w;have d:=uj s.Padding.a3 w;have e:=Wd.jd s.Border.a1;have f:=Wd.jd s.Border.a3;unfold gB eW;simp only[];rw[bL (n:=0+(cz s.Margin.a1 w).1) (by omega) (by omega),bL (n:=0+(cz s.Margin.a1 w).1+(cz s.Margin.a3 w).1) (by omega) (by omega),bL (n:=0+(cz s.Margin.a1 w).1+(cz s.Margin.a3 w).1+dI s.Border.a1) (by omega) (by omega),bL (n:=0+(cz s.Margin.a1 w).1+(cz s.Margin.a3 w).1+dI s.Border.a1+dI s.Border.a3) (by omega) (by omega),bL (n:=0+(cz s.Margin.a1 w).1+(cz s.Margin.a3 w).1+dI s.Border.a1+dI s.Border.a3+max (cz s.Padding.a1 w).1 0) (by omega) (by omega),bL (by omega) (by omega)];omega
theorem agH s w c:0≤gp s w c∧gp s w c≤max c 1048576:=by
 have:=uj s.MinWidth w
 grind[gp]
theorem Ch s w:0≤(cm s w).Content∧(cm s w).Content≤8388608:=by
 have e:∃x,(cm s w).Content=gp s (dI w) x∧x≤8388608:=by
  have a:(if (cz s.Width (dI w)).2=true then (cz s.Width (dI w)).1 else aa (dI w-gB (eW s (dI w) 0)))≤8388608:=by
   have b:=uj s.Width (dI w);have c:=I3 s (dI w);have d:=Wd.jd w
   grind[bL]
  refine⟨_,?_,a⟩
  grind[cm,tA]
 obtain⟨x,a,f⟩:=e;have:=agH s (dI w) x;omega
def Small(B:Int)(l:ck):Prop:=∀x∈l,-B≤x∧x≤B
def wr(sp:Int):Int→Nat→ck→ck
 | _,_,[]=>[]
 | s,i,x::r=>if s+x>sp then i::wr sp x (i+1) r else wr sp (s+x) (i+1) r
def mP(sp:Int):ck→ck
 | []=>[]
 | x::r=>0::wr sp x 1 r
variable{B:Int}{L:ck}
theorem ahg(K:Kn)(n:Nat)(sp:Int)(a:0≤B∧B≤1073741824)(h:Small B L)(r:L.length≤100):∀(m i:Nat) (s:Int) (o:ck),1≤i→i≤L.length→L.length<m+i→o.length≤i → -(i*B)≤s→s≤i*B →
  ru K n L sp m s i o=some (o++wr sp s i (L.drop i)):=by
 intro m
 induction m with
 | zero=>intro i s o e f g;omega
 | succ m d =>
  intro i s o e f g t u l;simp only[ru,tf];by_cases c:i<L.length
  ·have v:=h (L.getD i default) (ga c);have j:(i:Int)*B≤100*1073741824:=akZ (by omega) a.2 a.1 (by omega);have q:((i+1:Nat):Int)*B=i*B+B:=by simp[amf]
   have p:¬ ((i:Int) == 0)=true:=by rw[agA];omega
   rw[dh (by omega),cD (by omega),eN,bL (by omega) (by omega),sb,kb p];simp only[wG,uP,eN];rw[drop_at' c];simp only[wr];rw[wn (n:=(i:Int)+1) (k:=i+1) (by omega) (by omega),db (by simp only[lp,th];omega) (by omega),ba];by_cases b:s+L.getD i default>sp
   ·rw[dh b,lc b,d (i+1) (L.getD i default) (o++[(i:Int)]) (by omega) (by omega) (by omega) (by simp;omega) (by have:=akx (show(0:Int)≤i by omega) a.1;omega) (by have:=akx (show(0:Int)≤i by omega) a.1;omega)];simp
   ·rw[dd b,kb b,d (i+1) (s+L.getD i default) o (by omega) (by omega) (by omega) (by omega) (by omega) (by omega)]
  grind[wr]
theorem adx(K:Kn){n:Nat}(sp:Int)(d:0≤B∧B≤1073741824)(c:Small B L)(f:L.length≤100)(h:101<n):pQ K n L sp=some (mP sp L):=by
 unfold pQ;obtain⟨m,rfl⟩:∃m,n=m+1:=⟨n-1,by omega⟩;cases L with
 | nil=>rfl
 | cons x r =>
  have i:=c x (by simp);simp only[lp]at f;simp only[ru,tf];have a:(0:Int)<(((x::r).length:Nat):Int):=by simp only[lp];omega
  have g:aa (0+List.getD (x::r) (Int.toNat 0) default)=x:=by
   show aa (0+x)=x;rw[Int.zero_add];exact bL (by omega) (by omega)
  have b:aa ((0:Int)+1)=((1:Nat):Int):=wn (by omega) (by omega);have e:List.getD (x::r) (Int.toNat 0) default=x:=rfl;rw[dh a,cD ⟨amk 0,a⟩,g,sb,lc (by rfl)];simp only[wG,uP,e,b];rw[db (by simp) (by omega),ba,ahg K (m+1) sp d c (by simp only[lp];omega) m 1 x ([]++[0]) (by omega) (by simp) (by simp only[lp];omega) (by simp) (by omega) (by omega)];simp[mP]
inductive pc n:Nat→ck→Prop
 | nil a (h:a≤n):pc n a []
 | cons a b t (h:a≤b) (h2:pc n b t):pc n a (b::t)
theorem Ga sp n:∀r a i s,a≤i→i+r.length≤n→pc n a (wr sp s i r)
 | [],a,i,s,b,c=>.nil _ (by omega)
 | x::r,a,i,s,b,c=>by
  simp only[lp]at c;unfold wr;split
  ·exact .cons _ _ _ b (Ga sp n r i (i+1) x (by omega) (by omega))
  ·exact Ga sp n r a (i+1) (s+x) (by omega) (by omega)
theorem pc.le{n a}{t}(h:pc n a t):a≤n:=by
 induction h with
 | nil a h=>grind
 | cons a b t h c d=>omega
theorem Rk{n a:Nat}{t:ck}(h:pc n a t):∀k,k<t.length+1→∃x y:Nat,((a:Int)::(t++[(n:Int)])).getD k default=(x:Int)∧((a:Int)::(t++[(n:Int)])).getD (k+1) default=(y:Int)∧x≤y∧y≤n:=by
 induction h with
 | nil a h =>
  intro k c;simp only[th]at c;obtain rfl:k=0:=by omega
  exact⟨a,n,rfl,rfl,h,ll _⟩
 | cons a b t h f i =>
  intro k c;cases k with
  | zero=>exact⟨a,b,rfl,rfl,h,f.le⟩
  | succ k =>
   obtain⟨x,y,d,e,g⟩:=i k (by simpa using c);exact⟨x,y,by simpa using d,by simpa using e,g⟩
theorem J0 sp:∀r s i,(wr sp s i r).length≤r.length
 | [],s,i=>by simp[wr]
 | x::r,s,i=>by
  unfold wr;have a:=J0 sp r x (i+1);have b:=J0 sp r (s+x) (i+1)
  grind
structure St n(S:ck):Prop where
 len:S.length≤n+1
 get:∀k,k<S.length→∃x y:Nat,(S++[(n:Int)]).getD k default=x∧(S++[(n:Int)]).getD (k+1) default=y∧x≤y∧y≤n
theorem abb(n:Nat):St n [0]:=⟨by simp,fun k b=>by
 have:=Rk (n:=n) (a:=0) (t:=[]) (.nil _ (u6 _)) k (by simpa using b);simpa using this⟩
theorem adh(sp:Int)(L:ck):St L.length (mP sp L):=by
 cases L with
 | nil=>exact⟨by simp[mP],fun k b=>by simp[mP]at b⟩
 | cons x r =>
  have c:=J0 sp r x 1;refine⟨by simp only[mP,lp];omega,fun k b=>?_⟩;simp only[mP,lp]at b;have:=Rk (n:=(x::r).length) (a:=0) (Ga sp (x::r).length r 0 1 x (by omega) (by simp;omega)) k (by omega);simpa[mP]using this
end Fl
abbrev Eb:=ab→Int→Int→Int→ci→Option (ae×Int×Int×ci)
def dc(f:Eb):il→Int→Int→ci→Option (dn×Int×Int×ci)
 | [],a,b,S=>some ([],a,b,S)
 | p::r,a,b,S=>(f p.1 p.2 a b S).bind fun x=>(dc f r x.2.1 x.2.2.1 x.2.2.2).bind fun y=>some (x.1::y.1,y.2)
theorem uK{f:Eb}:∀{l:il} {a b:Int} {S:ci} {r:dn×Int×Int×ci},dc f l a b S=some r→r.1.length=l.length
 | [],a,b,S,r,h=>by injection h with h;subst h;rfl
 | k::l,a,b,S,r,h=>by
  obtain⟨x,d,h⟩:=bind_some h;obtain⟨y,c,h⟩:=bind_some h;injection h with h;subst h
  simp[uK c]
theorem RD(f:Eb):∀(l m:il) (a b:Int) (S:ci),dc f (l++m) a b S=(dc f l a b S).bind fun x=>(dc f m x.2.1 x.2.2.1 x.2.2.2).bind fun y=>some (x.1++y.1,y.2)
 | [],m,a,b,S=>by
  simp only[Db,dc,iF];cases dc f m a b S<;>rfl
 | k::l,m,a,b,S=>by
  simp only[ack,dc];cases f k.1 k.2 a b S with
  | none=>rfl
  | some x =>
   simp only[iF];rw[RD f l m];cases dc f l x.2.1 x.2.2.1 x.2.2.2 with
   | none=>rfl
   | some y =>
    simp only[iF];cases dc f m y.2.1 y.2.2.1 y.2.2.2<;>rfl
theorem O5(f:Eb)(w:Int):∀(l:d4) (a b:Int) (S:ci),qD (fun k=>f k w) l a b S=dc f (l.map fun k=>(k,w)) a b S
 | [],a,b,S=>rfl
 | k::r,a,b,S=>by
  simp only[qD,q6,dc];cases f k w a b S with
  | none=>rfl
  | some x=>simp only[iF,O5 f w r]
def qX(f:ae):Int:=if f.Empty=true then 0 else aa (f.After.Pos+f.After.Neg)
def nn(m:bc):Int:=aa (m.Pos+m.Neg)
theorem UI(K:Kn)(n:Nat)(f:ae):vm K n f=some (qX f):=by
 unfold vm qX;cases f.Empty<;>rfl
theorem F7(K:Kn)(n:Nat)(m:bc):gI K n m=some (nn m):=rfl
def CX(y:Int)(p:Int×Int)(a:Int×Int×dn)(f:ae):Int×Int×dn :=
 (aa (a.1+aa (p.1+p.2)),max a.2.1 (aa (aa (nn f.Before+f.H)+qX f)),a.2.2++[{ f with X:=aa (f.X+a.1),Y:=aa (y+nn f.Before) }])
def jy(y:Int):List em→dn→Int×Int×dn→Int×Int×dn
 | p::ps,f::b,a=>jy y ps b (CX y p a f)
 | _,_,a=>a
theorem HF(y:Int):∀(ps:List em) (c:dn) (a:Int×Int×dn),ps.length=c.length→(jy y ps c a).2.2.length=a.2.2.length+c.length∧∀f∈(jy y ps c a).2.2,f∈a.2.2∨∃g∈c,f.Kids=g.Kids
 | [],[],a,_=>⟨by simp[jy],fun f k=>.inl k⟩
 | p::ps,f::c,a,h=>by
  simp only[lp]at h;obtain⟨i,j⟩:=HF y ps c (CX y p a f) (by omega);simp only[jy];refine⟨by rw[i];simp only[CX,nw,lp,th];omega,fun q b=>?_⟩;rcases j q b with b|⟨g,d,e⟩
  ·simp only[CX]at b;rcases n5.1 b with b|b
   ·exact .inl b
   ·simp only[oR,akp,alJ]at b;subst b;exact .inr ⟨f,ti,rfl⟩
  ·exact .inr ⟨g,ol _ d,e⟩
 | [],_::_,_,h=>by simp at h
 | _::_,[],_,h=>by simp at h
end Go.Proofs.YtocgkfoifehcbaaGreat
