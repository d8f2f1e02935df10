/- Plain laws about the plain functions: words for all of them. No program in sight. -/
import Derived.Test.YtocgkfoifehcbaaGreatRdGf
import Derived.Lib.TrimUEq
import Derived.Laws.BitsLemmas
namespace Go.Proofs.YtocgkfoifehcbaaGreat
set_option linter.all false
open Go.RowKit
abbrev io:=List g6
def u3:=@List.append_assoc
def ahj:=@List.cons_append
def akL:=@List.countP_append
def akM:=@List.filter_append
def akP:=@List.not_mem_nil
def akS:=@List.singleton_append
def ak0:=@List.take_append_drop
def ak7:=@Int.mul_nonneg
def alc:=@Int.tdiv_eq_ediv_of_nonneg
def ald:=@List.getElem_map
def alg:=@List.pairwise_cons
def alh:=@decide_false
def aln:=@List.takeWhile_cons
def alq:=@List.countP_cons
def alr:=@cond_false
def alv:=@List.length_filter_le
def aly:=@Int.mul_le_mul
def alz:=@List.ext_getElem
def alB:=@List.getD_cons_succ
def alC:=@List.getD_cons_zero
def alH:=@cond_true
def alI:=@List.pairwise_lt_range
def alL:=@List.Pairwise.imp
def alP:=@Int.mul_le_mul_of_nonneg_right
def alS:=@Int.mul_le_mul_of_nonneg_left
def alT:=@Lib.decodeL_drop
def alV:=@List.pairwise_append
def alW:=@List.getElem_zipWith
def alX:=@or_false
def alY:=@Lib.decodeL_N
def alZ:=@List.dropLast_concat_getLast
def al2:=@List.getElem_of_mem
def al3:=@List.range_succ
def al4:=@List.replicate_succ
def al5:=@List.length_zipWith
def al6:=@List.filter_nil
def al8:=@Int.tmod_eq_emod_of_nonneg
def amk:=@List.pairwise_map
def aml:=@bne_self_eq_false
def amm:=@Lib.decodeL_width
def amn:=@List.take_add_one
def amr:=@Bool.and_self
def amx:=@ByteArray.data_extract
def amE:=@Nat.sub_self
def amF:=@IntKind.wrap_u8
def amG:=@List.dropLast_sublist
def amJ:=@List.Pairwise.filter
def amK:=@Array.toList_extract
def amM:=@List.drop_left
def amN:=@Bool.false_and
def amP:=@Int.add_mul
def amQ:=@List.countP_eq_zero
def amR:=@List.drop_succ_cons
def amS:=@List.map_congr_left
def amT:=@decide_true
def am1:=@Nat.min_self
theorem bK{n:Int}(a : -9223372036854775808≤n)(b:n≤9223372036854775807):aa n=n:=by
 unfold aa;rw[alp];omega
theorem ba{α:Type}(x:Option α):aE true x=x:=rfl
theorem dh{i:Int}{n:Nat}(a:0≤i)(b:i<n):aO i n=true:=by simp[aO,a,b]
theorem bN{α:Type}[Inhabited α]{L:List α}{k:Nat}(h:k<L.length):L.getD k default=L[k]:=by simp[List.getD_eq_getElem?_getD,j3 h]
theorem dc{n b:Nat}(h:n*b≤140737488355328)(c:0<b):fits n b=true:=by
 have d:n≤n*b:=Nat.le_mul_of_pos_right n c;have a:n≤9223372036854775807:=by omega
 simp only[fits,iO,q6];exact⟨a,h⟩
set_option maxRecDepth 20000
theorem eO(i:Nat):((i:Int)).toNat=i:=by omega
def sm:ck→Int
 | []=>0
 | x::r=>x+sm r
theorem lW:∀(a b:ck),sm (a++b)=sm a+sm b
 | [],b=>by simp[sm]
 | x::r,b=>by simp only[ahj,sm,lW r b];omega
theorem Pv{B:Int}(b:0≤B):∀(a:ck),(∀x∈a,-B≤x∧x≤B) → -(a.length*B)≤sm a∧sm a≤a.length*B
 | [],_=>by simp[sm]
 | x::r,h=>by
  have d:=h x (by simp);have f:=Pv b r (fun y c=>h y (by simp[c]));have e:((x::r).length:Int)*B=r.length*B+B:=by simp[amP]
  simp only[sm];rw[e];omega
end Go.Proofs.YtocgkfoifehcbaaGreat
namespace Go.Proofs.YtocgkfoifehcbaaGreat.QSort
set_option linter.all false
open Go.RowKit
theorem cD{α:Type}{i:Int}{m:Nat}{x:Option α}(h:0≤i∧i<m):aE (aO i m) x=x:=by rw[dh h.1 h.2];rfl
theorem gd{A B:ck}{x:Int}{i:Nat}(h:i=A.length):(A++x::B).getD i default=x:=by subst h;simp[List.getD_eq_getElem?_getD]
theorem UA{A B:ck}{x y:Int}{i:Nat}(h:i=A.length+1):(A++x::y::B).getD i default=y:=by subst h;simp[List.getD_eq_getElem?_getD]
theorem sw{A B:ck}{x y:Int}{i j:Nat}(h:i=A.length)(a:j=A.length+1):List.set (List.set (A++x::y::B) j x) i y=A++y::x::B:=by subst h;subst a;simp[List.set_append]
theorem wn{n:Int}{k:Nat}(h:n=k)(a:k≤4000000000):aa n=(k:Int):=by subst h;exact bK (by omega) (by omega)
theorem di{α:Type}{p:Prop}[Decidable p]{x y:α}(h:p):(if decide p=true then x else y)=x:=by simp[h]
theorem dd{α:Type}{p:Prop}[Decidable p]{x y:α}(h:¬ p):(if decide p=true then x else y)=y:=by simp[h]
theorem qW{α:Type}{p:Prop}[Decidable p]{x y:α}(h:¬ p):(if (!decide p)=true then x else y)=x:=by simp[h]
theorem pT{α:Type}{p:Prop}[Decidable p]{x y:α}(h:p):(if (!decide p)=true then x else y)=y:=by simp[h]
theorem sb{α β:Type}(x:α)(k:α→Option β):(some x).bind k=k x:=rfl
structure s5(K:Kn)(f:Fv)(D:Int→Prop)(key:Int→Int):Prop where
 ok:∀a b,D a→D b→∃c,K.rX f a b=some c∧(c<0↔key a<key b)
def R(key:Int→Int)(a b:Int):Prop:=key a<key b∨key a=key b∧a<b
theorem R.trans{key:Int→Int}{a b c:Int}(h:R key a b)(d:R key b c):R key a c:=by unfold R at *;omega
theorem R.y3{key:Int→Int}{a:Int}(h:R key a a):False:=by unfold R at *;omega
theorem R.asymm{key:Int→Int}{a b:Int}(h:R key a b)(c:R key b a):False:=by unfold R at *;omega
theorem R.MP{key:Int→Int}{a b:Int}(h:b<a):key a<key b↔R key a b:=by unfold R;omega
theorem R.not{key:Int→Int}{a b:Int}(h:a≠b)(c:¬ R key a b):R key b a:=by unfold R at *;omega
variable{K:Kn}{n:Nat}{f:Fv}{D:Int→Prop}{key:Int→Int}
theorem ahP(I:s5 K f D key)(P T:ck)(b i:Int)(B:Int→ck→Option ck):∀(m:Nat) (g e:ck) (x:Int),g.length<m→(∀y∈g,y<x∧D y)→D x→(g++e).Pairwise (R key)→(∀y∈e,R key x y)→P.length+g.length≤10000 →
  ∃l,l.Perm (x::(g++e))∧l.Pairwise (R key)∧uJ K n ((P.length:Nat):Int) b f i B m ((P.length+g.length:Nat):Int) (P++g++x::e++T)=B (aa (i+1)) (P++l++T):=by
 intro m
 induction m with
 | zero=>intro g e x h;omega
 | succ m N =>
  intro g e x M C F q s L;simp only[uJ,yt];rcases List.eq_nil_or_concat g with rfl|⟨d,y,rfl⟩
  ·refine⟨x::e,by simp,?_,?_⟩
   ·rw[alg];exact⟨s,by simpa using q⟩
   ·rw[dd (by simp)];simp[uB]
  ·simp only[List.concat_eq_append]at *;have w:=C y (by simp);simp only[ne,ls,ti]at M L;have G:P++(d++[y])++x::e++T=(P++d)++y::x::(e++T):=by simp
   have O:((P.length+(d++[y]).length:Nat):Int)=((P.length+d.length+1:Nat):Int):=by simp;omega
   have E:((P++d)++y::x::(e++T)).length≥P.length+d.length+2:=by simp;omega
   rw[G,O,di (by omega)];rw[wn (n:=((P.length+d.length+1:Nat):Int)-1) (k:=P.length+d.length) (by omega) (by omega)];rw[cD (by omega),cD (by omega)];simp only[Int.toNat_natCast];rw[UA (i:=P.length+d.length+1) (by simp),gd (i:=P.length+d.length) (by simp)];obtain⟨c,J,o⟩:=I.ok x y F w.2;rw[J,sb];simp only[uB];by_cases r:c<0
   ·rw[di r];rw[wn (n:=((P.length+d.length+1:Nat):Int)-1) (k:=P.length+d.length) (by omega) (by omega)];simp only[akT];rw[cD (by omega),cD (by omega),cD (by omega),cD (by omega)];simp only[Int.toNat_natCast];rw[UA (i:=P.length+d.length+1) (by simp),gd (i:=P.length+d.length) (by simp),sw (by simp) (by simp)];have v:R key x y:=(R.MP w.1).1 (o.1 r);obtain⟨l,p1,Q,S⟩:=N d (y::e) x (by omega) (fun z j=>C z (by simp[j])) F (by simpa using q)
     (fun z j=>by
      rcases ol.1 j with rfl|j
      ·exact v
      ·exact s z j) (by omega)
    refine⟨l,by simpa using p1,Q,?_⟩;have H:P++d++x::y::(e++T)=P++d++x::(y::e)++T:=by simp
    rw[H,S]
   ·rw[dd r];have p:R key y x:=R.not (by omega) (fun h=>r (o.2 ((R.MP w.1).2 h)));refine⟨d++y::x::e,?_,?_,by simp⟩
    ·exact(List.Perm.of_eq (by simp)).trans (List.perm_middle (l₁:=d++[y]) (a:=x) (l₂:=e))
    ·simp only[u3,ahj,IT,alV,alg,ol]at q⊢;obtain⟨U,⟨V,W⟩,A⟩:=q;refine⟨U,⟨?_,s,W⟩,?_⟩
     ·rintro z (rfl|j)
      ·exact p
      ·exact V z j
     ·rintro u t z (rfl|rfl|j)
      ·exact A u t z (.inl rfl)
      ·exact(A u t y (.inl rfl)).trans p
      ·exact A u t z (.inr j)
theorem adS(t:s5 K f D key)(P Q:ck)(F:10001<n):∀(m:Nat) (S T:ck),T.length<m→S≠[]→(∀y∈S,∀z∈T,y<z)→T.Pairwise (· < ·)→(∀y∈S++T,D y)→S.Pairwise (R key)→P.length+S.length+T.length≤10000 →
  ∃c,c.Perm (S++T)∧c.Pairwise (R key)∧ou K n ((P.length:Nat):Int) ((P.length+S.length+T.length:Nat):Int) f m ((P.length+S.length:Nat):Int) (P++S++T++Q)=some (P++c++Q):=by
 intro m
 induction m with
 | zero=>intro S T h;omega
 | succ m A =>
  intro S T v w j o i p u;simp only[ou,t6];cases T with
  | nil=>exact⟨S,by simp,p,by rw[dd (by simp)];simp⟩
  | cons x T =>
   simp only[ls]at v u⊢;rw[di (by omega)];rw[alg]at o;obtain⟨c,p1,B,r⟩:=ahP (n:=n) t P (T++Q) ((P.length+S.length+(T.length+1):Nat):Int) ((P.length+S.length:Nat):Int)
    (ou K n ((P.length:Nat):Int) ((P.length+S.length+(T.length+1):Nat):Int) f m) n S [] x (by omega) (fun y b=>⟨j y b x (by simp),i y (by simp[b])⟩) (i x (by simp)) (by simpa using p) (by simp) (by omega)
   have e:P++S++[x]++(T++Q)=P++S++x::T++Q:=by simp
   rw[e]at r;rw[r,wn (k:=P.length+(S.length+1)) (by omega) (by omega)];simp only[List.append_nil]at p1;have d:c.length=S.length+1:=by rw[p1.length_eq];simp
   have g:∀y,y∈c↔y=x∨y∈S:=fun y=>by rw[p1.mem_iff];simp
   obtain⟨l,C,E,s⟩:=A c T (by omega) (by intro h;subst h;simp at d) (fun y b z q=>by
     rcases (g y).1 b with rfl|b
     ·exact o.1 z q
     ·exact j y b z (by simp[q])) o.2 (fun y b=>by
     rcases n5.1 b with b|b
     ·rcases (g y).1 b with rfl|b
      ·exact i y (by simp)
      ·exact i y (by simp[b])
     ·exact i y (by simp[b])) B (by omega)
   refine⟨l,?_,E,?_⟩
   ·refine C.trans ((p1.append_right T).trans ?_);exact(List.perm_middle (l₁:=S) (a:=x) (l₂:=T)).symm
   ·rw[d,show P.length+(S.length+1)+T.length=P.length+S.length+(T.length+1) by omega,show P++c++T++Q=P++c++(T++Q) by simp]at s;exact s
theorem Wa(d:s5 K f D key)(P S Q:ck)(h:10001<n)(b:S.Pairwise (· < ·))(e:∀y∈S,D y)(g:P.length+S.length≤10000):
  ∃a,a.Perm S∧a.Pairwise (R key)∧sZ K n (P++S++Q) ((P.length:Nat):Int) ((P.length+S.length:Nat):Int) f=some (P++a++Q):=by
 unfold sZ;rw[wn (k:=P.length+1) (by omega) (by omega)];cases S with
 | nil =>
  obtain⟨m,rfl⟩:∃m,n=m+1:=⟨n-1,by omega⟩;refine⟨[],by simp,by simp,?_⟩;simp only[ou,t6];rw[dd (by simp;omega)]
 | cons x T =>
  rw[alg]at b;simp only[ls]at g⊢;obtain⟨a,p1,i,c⟩:=adS (n:=n) d P Q h n [x] T (by omega) (by simp) (by simpa using b.1) b.2 (by simpa using e) (by simp) (by simp;omega);refine⟨a,by simpa using p1,i,?_⟩;simp only[ls,ti,IF]at c;rw[show P.length+(T.length+1)=P.length+1+T.length by omega,show P++x::T++Q=P++[x]++T++Q by simp];exact c
end Go.Proofs.YtocgkfoifehcbaaGreat.QSort
namespace Go.Proofs.YtocgkfoifehcbaaGreat.QSort
set_option linter.all false
open Go.RowKit
variable{K:Kn}{n:Nat}{f:Fv}{D:Int→Prop}{key:Int→Int}
def at_(L:ck)(k:Nat):Int:=L.getD k default
theorem Ml{A:ck}{k:Nat}(h:k<A.length):at_ A k∈A:=by unfold at_;rw[bN h];exact qv _
theorem GG{A:ck}{x:Int}(h:x∈A):∃k,k<A.length∧at_ A k=x:=by
 obtain⟨k,a,e⟩:=al2 h;exact⟨k,a,by unfold at_;rw[bN a,e]⟩
theorem B0{r:Int→Int→Prop}{A:ck}(h:A.Pairwise r){i j:Nat}(a:i<j)(b:j<A.length):r (at_ A i) (at_ A j):=by
 unfold at_;rw[bN (by omega:i<A.length),bN b];exact List.pairwise_iff_getElem.1 h i j (by omega) b a
theorem Tq{A:ck}{t k:Nat}(h:k<t):at_ (A.take t) k=at_ A k:=by simp[at_,List.getD_eq_getElem?_getD,By,h]
theorem aaQ{A:ck}{t k:Nat}:at_ (A.drop t) k=at_ A (t+k):=by simp[at_,List.getD_eq_getElem?_getD]
theorem OO{A:ck}{t:Nat}{x:Int}(h:x∈A.take t):∃k,k<t∧k<A.length∧at_ A k=x:=by
 obtain⟨k,a,e⟩:=GG h;simp at a;exact⟨k,by omega,by omega,by rw[←e,Tq (by omega)]⟩
theorem ait{A:ck}{t:Nat}{x:Int}(h:x∈A.drop t):∃k,t≤k∧k<A.length∧at_ A k=x:=by
 obtain⟨k,a,e⟩:=GG h;simp at a;exact⟨t+k,by omega,by omega,by rw[←e,aaQ]⟩
end Go.Proofs.YtocgkfoifehcbaaGreat.QSort
namespace Go.Proofs.YtocgkfoifehcbaaGreat.QSort
set_option linter.all false
open Go.RowKit
variable{f:Fv}{D:Int→Prop}{key:Int→Int}
theorem O5{c0:Nat}(c:∀m,c0≤m→s5 (KN m) f D key){lvl n:Nat}(S:ck)(i:10001<n)(h:c0+(S.length+1)+10002≤lvl)(g:S.Pairwise (· < ·))(e:∀x∈S,D x)(k:S.length≤19):
  ∃d,d.Perm S∧d.Pairwise (R key)∧lT (KN lvl) n S f=some d:=by
 unfold lT DD;obtain⟨m,rfl⟩:∃m,n=m+1:=⟨n-1,by omega⟩;obtain⟨b,p1,j,a⟩:=Wa (n:=m+1) (c lvl (by omega)) [] S [] i g e (by simp;omega);simp only[ti,IT,List.append_nil,IF]at a;simp only[yd,Bf];rw[dd (by omega)];rw[show((0:Nat):Int)=0 from rfl]at a;rw[a,sb];simp only[xL,yA];rw[dd (by omega)];exact⟨b,p1,j,rfl⟩
end Go.Proofs.YtocgkfoifehcbaaGreat.QSort
namespace Go.Proofs.YtocgkfoifehcbaaGreat
set_option linter.all false
open Go.RowKit
namespace Sh
def idx(n:Nat):ck:=(List.range n).map fun (k:Nat)=>(k:Int)
instance(key:Int→Int)(a b:Int):Decidable (QSort.R key a b):=by unfold QSort.R;infer_instance
theorem uh(n:Nat):(idx n).length=n:=by simp[idx]
theorem JB{n:Nat}{x:Int}:x∈idx n↔∃k:Nat,k<n∧x=k:=by
 simp only[idx,Dy,ag5];exact⟨fun⟨k,h,e⟩=>⟨k,h,e.symm⟩,fun⟨k,h,e⟩=>⟨k,h,e.symm⟩⟩
theorem VL(n:Nat):(idx n).Pairwise (· < ·):=by
 unfold idx;rw[amk];refine alL (fun h=>?_) alI;omega
theorem Fz(n:Nat):idx (n+1)=idx n++[(n:Int)]:=by simp[idx,al3]
def dz(n a:Int):Int:=min (max n 0) a
def mx:Int:=2147483647
theorem jb{n m:Int}(h:0≤m):0≤dz n m∧dz n m≤m:=by unfold dz;omega
def q(T S w:Int):Int:=T*w / S
def r(T S w:Int):Int:=T*w % S
def left(T:Int)(W:ck):Int:=T-sm (W.map (q T (sm W)))
def oX(T:Int)(W:ck)(k:Nat):Prop :=
 0<r T (sm W) (W.getD k default)∧(((W.take k).countP (fun w=>decide (r T (sm W) (W.getD k default)≤r T (sm W) w))+(W.drop (k+1)).countP (fun w=>decide (r T (sm W) (W.getD k default)<r T (sm W) w)):Nat):Int)<left T W
instance(T:Int)(W:ck)(k:Nat):Decidable (oX T W k):=by unfold oX;infer_instance
def part(T:Int)(W:ck)(k:Nat):Int:=q T (sm W) (W.getD k default)+if oX T W k then 1 else 0
def share(T:Int)(W:ck):ck:=if sm W=0 then List.replicate W.length 0 else (List.range W.length).map (part T W)
theorem vH(T:Int)(W:ck):(share T W).length=W.length:=by unfold share;split<;>simp
def inc:ck→ck→ck
 | p,[]=>p
 | p,i::l=>inc (p.set i.toNat (p.getD i.toNat default+1)) l
theorem OC:∀(l p:ck),(inc p l).length=p.length
 | [],p=>rfl
 | i::l,p=>by simp[inc,OC l]
theorem afK{p:ck}{i j:Nat}{x:Int}(h:i≠j):(p.set i x).getD j default=p.getD j default:=by simp[List.getD_eq_getElem?_getD,ak8,h]
theorem age{p:ck}{i:Nat}{x:Int}(h:i<p.length):(p.set i x).getD i default=x:=by simp[List.getD_eq_getElem?_getD,ak8,h]
theorem SK:∀(l p:ck) (k:Nat),l.Nodup→(∀i∈l,0≤i)→k<p.length→(inc p l).getD k default=p.getD k default+if (k:Int)∈l then 1 else 0
 | [],p,k,_,_,_=>by simp[inc]
 | i::l,p,k,a,b,c=>by
  simp only[inc];rw[List.nodup_cons]at a;rw[SK l _ k a.2 (fun j f=>b j (by simp[f])) (by simpa using c)];have hi:=b i (by simp);by_cases e:i.toNat=k
  ·have d:i=(k:Int):=by omega
   subst d;rw[Int.toNat_natCast,age c,kc a.1,lp (by simp)];omega
  ·rw[afK e];have:((k:Int)∈i::l)↔(k:Int)∈l:=by
    rw[ol];constructor
    ·rintro (h|h)
     ·omega
     ·exact h
    ·exact .inr
   simp only[this]
theorem ahS{a b:ck}(h:a.Perm b):sm a=sm b:=by
 induction h with
 | nil=>rfl
 | cons x _ e=>simp[sm,e]
 | swap x y l=>simp only[sm];omega
 | trans _ _ c d=>rw[c,d]
theorem Mw(T S:Int)(a:0<S):∀W:ck,S*sm (W.map (q T S))+sm (W.map (r T S))=T*sm W
 | []=>by simp[sm]
 | w::W=>by
  have:=Mw T S a W;have h:=Int.mul_ediv_add_emod (T*w) S;simp only[rl,sm,Int.mul_add];unfold q r at *;omega
theorem mP{c:Int}:∀L:ck,(∀x∈L,x≤c)→sm L≤L.length*c
 | [],_=>by simp[sm]
 | x::L,h=>by
  have:=mP L (fun y a=>h y (by simp[a]));have:=h x (by simp);simp only[sm,ls];rw[show((L.length+1:Nat):Int)*c=L.length*c+c by simp[amP]];omega
theorem j9:∀L:ck,(∀x∈L,0≤x)→0≤sm L
 | [],_=>by simp[sm]
 | x::L,h=>by
  have:=j9 L (fun y a=>h y (by simp[a]));have:=h x (by simp);simp only[sm];omega
theorem Bd:∀(L:ck),(∀x∈L,0≤x)→∀x∈L,x≤sm L
 | [],_,_,a=>by simp at a
 | y::L,h,x,a=>by
  have c:=j9 L (fun y b=>h y (by simp[b]));have d:=h y (by simp);simp only[sm];rcases ol.1 a with rfl|a
  ·omega
  ·have:=Bd L (fun y b=>h y (by simp[b])) x a;omega
theorem E5{T S w:Int}(a:0<S):0≤r T S w∧r T S w<S:=⟨Int.emod_nonneg _ (by omega),Int.emod_lt_of_pos _ a⟩
theorem CR{T S w:Int}(c:0<S)(b:0≤T)(d:0≤w)(a:w≤S):0≤q T S w∧q T S w≤T:=by
 refine⟨Int.ediv_nonneg (ak7 b d) (by omega),?_⟩;unfold q;have h:T*w≤T*S:=alS a b
 calc T*w / S≤T*S / S:=Int.ediv_le_ediv c h
  _=T:=Int.mul_ediv_cancel _ (by omega)
theorem PF(T:Int)(W:ck)(a:0<sm W):sm W*left T W=sm (W.map (r T (sm W))):=by
 have:=Mw T (sm W) a W;unfold left;rw[Int.mul_sub,amy (sm W) T];omega
theorem G4(T:Int)(W:ck)(a:0<sm W):0≤left T W∧left T W≤W.length:=by
 have h:=PF T W a;have d:0≤sm (W.map (r T (sm W))):=j9 _ (fun x b=>by
  obtain⟨w,_,rfl⟩:=Dy.1 b;exact(E5 a).1)
 have c:sm (W.map (r T (sm W)))≤(W.map (r T (sm W))).length*sm W:=mP _ (fun x b=>by
  obtain⟨w,_,rfl⟩:=Dy.1 b;have:=(E5 (T:=T) (w:=w) a).2;omega)
 rw[nw,← h,amy]at c;refine⟨?_,Int.le_of_mul_le_mul_right c a⟩;rw[←h]at d;rcases Int.lt_or_le (left T W) 0 with h|h
 ·have:=Int.mul_neg_of_pos_of_neg a h;omega
 ·exact h
def key(rs:ck)(a:Int):Int := - rs.getD a.toNat default
structure Ord(rs d:ck):Prop where
 p:d.Perm (idx rs.length)
 s:d.Pairwise (QSort.R (key rs))
theorem Ord.nodup{rs d:ck}(h:Ord rs d):d.Nodup:=by
 refine alL (fun a e=>?_) h.s;subst e;exact a.y3
theorem Ord.mem{rs d:ck}(h:Ord rs d){x:Int}:x∈d↔∃k:Nat,k<rs.length∧x=k:=by rw[h.p.mem_iff,JB]
theorem Ord.len{rs d:ck}(h:Ord rs d):d.length=rs.length:=by rw[h.p.length_eq,uh]
theorem B1(rs:ck)(p:Int→Bool):∀n,n≤rs.length→(idx n).countP (fun a=>p (rs.getD a.toNat default))=(rs.take n).countP p
 | 0,_=>by simp[idx]
 | n+1,h=>by
  rw[Fz,akL,B1 rs p n (by omega),yk (by omega),akL];simp[List.getD_eq_getElem?_getD,j3 (show n<rs.length by omega)]
theorem ajc{rs d:ck}(h:Ord rs d){t k:Nat}(i:t<d.length)(p:d.getD t default=(k:Int)):(rs.take k).countP (fun w=>decide (rs.getD k default≤w))+(rs.drop (k+1)).countP (fun w=>decide (rs.getD k default<w))=t:=by
 have m:k<rs.length:=by
  have:d.getD t default∈d:=by rw[bN i];exact qv _
  rw[p]at this;obtain⟨j,n,o⟩:=h.mem.1 this;omega
 -- in the sorted order there are t ahead of k
 have c1:d.countP (fun a=>decide (QSort.R (key rs) a k))=t:=by
  have e:d=d.take t++d.drop t:=(ak0 t d).symm;have z:d.drop t=(k:Int)::d.drop (t+1):=by rw[l3 i,← bN i,p]
  rw[z]at e;have g:=h.s;rw[e,alV,alg]at g;rw[e,akL,alq];have A:(d.take t).countP (fun a=>decide (QSort.R (key rs) a k))=t:=by
   rw[List.countP_eq_length.2 (fun a b=>by simpa using g.2.2 a b k (by simp))];simp;omega
  have B:(d.drop (t+1)).countP (fun a=>decide (QSort.R (key rs) a k))=0:=by
   rw[amQ];intro a b c;exact(g.2.1.1 a b).asymm (by simpa using c)
  have C:(if decide (QSort.R (key rs) (k:Int) k)=true then 1 else 0)=0:=by
   rw[kc];intro c;exact(by simpa using c:QSort.R (key rs) (k:Int) k).y3
  rw[A,B,C];omega
 rw[h.p.countP_eq]at c1
 -- the indices below k,k,those above
 have e:idx rs.length=idx k++(k:Int)::(idx rs.length).drop (k+1):=by
  have n:(idx rs.length).take k=idx k:=by unfold idx;rw[←List.map_take,List.take_range,Nat.min_eq_left (Nat.le_of_lt m)]
  have o:k<(idx rs.length).length:=by rw[uh];exact m
  conv=>lhs;rw[←ak0 k (idx rs.length),n,l3 o]
  congr 2;simp[idx]
 have r:(idx k).countP (fun a=>decide (QSort.R (key rs) a k))=(rs.take k).countP (fun w=>decide (rs.getD k default≤w)):=by
  rw[←B1 rs (fun w=>decide (rs.getD k default≤w)) k (by omega)];refine List.countP_congr (fun a b=>?_);obtain⟨j,E,rfl⟩:=JB.1 b;simp only[q6];simp only[QSort.R,key,Int.toNat_natCast];omega
 have s:((idx rs.length).drop (k+1)).countP (fun a=>decide (QSort.R (key rs) a k))=(rs.drop (k+1)).countP (fun w=>decide (rs.getD k default<w)):=by
  have f:=B1 rs (fun w=>decide (rs.getD k default<w)) rs.length (la _);have l:=B1 rs (fun w=>decide (rs.getD k default<w)) (k+1) (by omega);rw[akO]at f;have v:rs.countP (fun w=>decide (rs.getD k default<w))=(rs.take (k+1)).countP (fun w=>decide (rs.getD k default<w))+(rs.drop (k+1)).countP (fun w=>decide (rs.getD k default<w)):=by
   rw[←akL,ak0]
  have x:idx rs.length=idx (k+1)++(idx rs.length).drop (k+1):=by
   rw[Fz];conv=>lhs;rw[e]
   simp
  rw[x,akL,l]at f;have y:((idx rs.length).drop (k+1)).countP (fun a=>decide (QSort.R (key rs) a k))=((idx rs.length).drop (k+1)).countP (fun a=>(fun w=>decide (rs.getD k default<w)) (rs.getD a.toNat default)):=by
   refine List.countP_congr (fun a b=>?_);have:(k:Int)<a:=by
    have q:=VL rs.length;rw[e,alV,alg]at q;exact q.2.1.1 a b
   have D:0≤a:=by omega
   obtain⟨j,rfl⟩:∃j:Nat,a=j:=⟨a.toNat,by omega⟩;simp only[q6];simp only[QSort.R,key,Int.toNat_natCast];omega
  rw[y];dsimp only at f l v⊢;omega
 have u:(if decide (QSort.R (key rs) (k:Int) k)=true then 1 else 0)=0:=by
  rw[kc];intro c;exact(by simpa using c:QSort.R (key rs) (k:Int) k).y3
 rw[e,akL,alq,r,s,u]at c1;omega
theorem Ef(T S:Int)(W:ck){k:Nat}(h:k<W.length):(W.map (r T S)).getD k default=r T S (W.getD k default):=by simp[List.getD_eq_getElem?_getD,h]
theorem acp(T:Int)(W d:ck)(P:∀w∈W,0≤w)(O:sm W≠0)(h:Ord (W.map (r T (sm W))) d):share T W=inc (W.map (q T (sm W))) (d.take (left T W).toNat):=by
 have l:0<sm W:=by have:=j9 W P;omega
 have R:=G4 T W l;have v:=PF T W l;have Q:d.length=W.length:=by rw[h.len,nw]
 unfold share;rw[kc O];refine alz (by rw[OC];simp) (fun k K L=>?_);have n:k<W.length:=by simpa using K
 rw[←bN L,SK _ _ _ (h.nodup.sublist (List.take_sublist _ _)) (fun i hi=>by
  obtain⟨j,_,rfl⟩:=h.mem.1 (u6 hi);omega) (by simpa using n)]
 simp only[ald,List.getElem_range,part];have I:(W.map (q T (sm W))).getD k default=q T (sm W) (W.getD k default):=by simp[List.getD_eq_getElem?_getD,n]
 rw[I];congr 1
 -- where is k in the order?
 obtain⟨t,F,et⟩:=QSort.GG (A:=d) (x:=(k:Int)) (h.mem.2 ⟨k,by simpa using n,rfl⟩);have B:=ajc h F et;rw[Ef _ _ _ n,← List.map_take,← amW,List.countP_map,List.countP_map]at B;have e:((k:Int)∈d.take (left T W).toNat)↔t<(left T W).toNat:=by
  constructor
  ·intro y;obtain⟨H,X,U,G⟩:=QSort.OO y;have:H=t:=by
    rcases Nat.lt_trichotomy t H with b|b|b
    ·have:=QSort.B0 h.s b U;rw[et,G]at this;exact absurd this (fun x=>x.y3)
    ·exact b.symm
    ·have:=QSort.B0 h.s b F;rw[et,G]at this;exact absurd this (fun x=>x.y3)
   omega
  ·intro y;have:d.take (left T W).toNat=d.take (left T W).toNat:=rfl;have M:t<(d.take (left T W).toNat).length:=by simp;omega
   have:=QSort.Ml M;rwa[QSort.Tq y,et]at this
 have f:oX T W k↔t<(left T W).toNat:=by
  unfold oX;simp only[Function.comp_def]at B;rw[B];constructor
  ·intro b;omega
  ·intro b;refine⟨?_,by omega⟩
   -- a rest of 0 does not oX: all behind it are 0,too
   rcases Int.lt_or_le 0 (r T (sm W) (W.getD k default))with z|z
   ·exact z
   ·exfalso;have g:sm (d.map fun a=>(W.map (r T (sm W))).getD a.toNat default)=sm (W.map (r T (sm W))):=by
     rw[ahS (h.p.map _)];congr 1;refine alz (by simp[idx]) (fun i S s=>?_);simp only[ald,idx,List.getElem_range,Int.toNat_natCast,Ef T (sm W) W (show i<W.length by simpa using s)];rw[bN (show i<W.length by simpa using s)]
    have u:d=d.take t++d.drop t:=(ak0 t d).symm;have o:sm (d.map fun a=>(W.map (r T (sm W))).getD a.toNat default)=sm ((d.take t).map fun a=>(W.map (r T (sm W))).getD a.toNat default)+sm ((d.drop t).map fun a=>(W.map (r T (sm W))).getD a.toNat default):=by
     conv=>lhs;rw[u]
     rw[MO,lW]
    have D:∀a∈d,0≤(W.map (r T (sm W))).getD a.toNat default∧(W.map (r T (sm W))).getD a.toNat default≤sm W-1:=by
     intro a m;obtain⟨j,E,rfl⟩:=h.mem.1 m;rw[nw]at E;rw[Int.toNat_natCast,Ef T (sm W) W E];have:=E5 (T:=T) (w:=W.getD j default) l;omega
    have Y:sm ((d.take t).map fun a=>(W.map (r T (sm W))).getD a.toNat default)≤t*(sm W-1):=by
     have:=mP (c:=sm W-1) ((d.take t).map fun a=>(W.map (r T (sm W))).getD a.toNat default) (fun x C=>by
      obtain⟨a,m,rfl⟩:=Dy.1 C;exact(D a (u6 m)).2)
     rw[nw,afN,Nat.min_eq_left (by omega)]at this;exact this
    have V:sm ((d.drop t).map fun a=>(W.map (r T (sm W))).getD a.toNat default)≤(((d.drop t).map fun a=>(W.map (r T (sm W))).getD a.toNat default).length:Int)*0:=by
     refine mP _ (fun x C=>?_);obtain⟨a,m,rfl⟩:=Dy.1 C;obtain⟨i,S,s,rfl⟩:=QSort.ait m;have J:(W.map (r T (sm W))).getD k default≤0:=by rw[Ef T (sm W) W n];exact z
     rcases Nat.lt_or_ge t i with q|q
     ·have:=QSort.B0 h.s q s;rw[et]at this;unfold QSort.R key at this;rw[Int.toNat_natCast]at this;omega
     ·obtain rfl:i=t:=by omega
      rw[et,Int.toNat_natCast];exact J
    rw[Int.mul_zero]at V;have:sm W*left T W≤t*(sm W-1):=by rw[v,← g,o];omega
    have N:sm W*((t:Int)+1)≤sm W*left T W:=alS (by omega) (by omega);rw[Int.mul_add,Int.mul_one,amy (sm W) t]at N;rw[Int.mul_sub,Int.mul_one]at this;omega
 by_cases p:oX T W k
 ·rw[lp p,lp (e.2 (f.1 p))]
 ·rw[kc p,kc (fun b=>p (f.2 (e.1 b)))]
end Sh
end Go.Proofs.YtocgkfoifehcbaaGreat
namespace Go.Proofs.YtocgkfoifehcbaaGreat
set_option linter.all false
open Go.RowKit
namespace Sh
open QSort (wn cD di dd sb)
variable{K:Kn}{n:Nat}
def bV(L:ck):ck:=L.map fun w=>dz w mx
theorem fL L:(bV L).length=L.length:=by simp[bV]
theorem nk L:∀w∈bV L,0≤w∧w≤2147483647:=by
 intro w a;obtain⟨x,_,rfl⟩:=Dy.1 a;exact jb (m:=mx) (by decide)
theorem Si{L}{k}(h:k<L.length):(bV L).getD k default=dz (L.getD k default) mx:=by grind[bV]
theorem MD{L}(h:L.length≤19):0≤sm (bV L)∧sm (bV L)≤21474836470000:=by
 refine⟨j9 _ (fun w a=>(nk L w a).1),?_⟩;have:=mP (c:=2147483647) (bV L) (fun w a=>(nk L w a).2)
 grind[fL]
theorem Ru{W:ck}(h:∀w∈W,0≤w)(i:Nat):0≤sm (W.take i)∧sm (W.take i)≤sm W:=by
 have b:=j9 (W.take i) (fun w a=>h w (u6 a));have c:=j9 (W.drop i) (fun w a=>h w (OR a));have:sm W=sm (W.take i)+sm (W.drop i):=by rw[←lW,ak0]
 omega
theorem afx{W:ck}{i:Nat}(h:i<W.length):sm (W.take (i+1))=sm (W.take i)+W.getD i default:=by
 rw[yk h,lW,bN h];simp[sm]
theorem Co{A:ck}{k i}{y z}(h:i=A.length):List.set (A++List.replicate (k+1) z) i y=(A++[y])++List.replicate k z:=by
 subst h;grind
theorem XD{A:ck}{k i}{y z}(h:i=A.length):List.getD ((A++[y])++List.replicate k z) i default=y:=by
 grind
theorem acU{a b:Int}(d:0≤a)(e:a≤2147483647)(c:0≤b)(f:b≤2147483647):0≤a*b∧a*b≤4611686014132420609:=by
 refine⟨ak7 d c,?_⟩;have:=aly e f c (by omega);omega
theorem IA(g:Int→Int){W:ck}{i:Nat}(h:i<W.length):(W.take (i+1)).map g=(W.take i).map g++[g (W.getD i default)]:=by
 rw[yk h,MO,bN h];rfl
theorem ago{T}{W}(d:0≤T)(b:∀w∈W,0≤w)(a:0<sm W) i:0≤sm ((W.take i).map (q T (sm W)))∧sm ((W.take i).map (q T (sm W)))≤T:=by
 have e:∀x∈W.map (q T (sm W)),0≤x:=fun x f=>by
  obtain⟨w,c,rfl⟩:=Dy.1 f;exact(CR a d (b w c) (Bd W b w c)).1
 have:=Ru e i;rw[←List.map_take]at this;have g:=(G4 T W a).1
 grind[left]
theorem aez(L:ck)(T:Int)(c d f:ck)(j:L.length≤19):∀(m i:Nat),i≤L.length→L.length<m+i →
  s6 K n L T c d f m (sm ((bV L).take i)) (i:Int)=if (sm (bV L) == 0)=true then some c else qE K n L T (sm (bV L)) n T 0 c d f:=by
 intro m
 induction m with
 | zero=>intro i g h;omega
 | succ m o =>
  intro i g h;simp only[s6,A1];by_cases hi:i<L.length
  ·have p:=MD j;have a:=Ru (W:=bV L) (fun w l=>(nk L w l).1) (i+1);have e:=afx (W:=bV L) (i:=i) (by rw[fL];exact hi);have b:=Si hi;rw[di (by omega),cD (by omega),eO];simp only[iu,sb];rw[wn (n:=(i:Int)+1) (k:=i+1) (by omega) (by omega)];rw[show aa (sm ((bV L).take i)+min (max (L.getD i default) 0) 2147483647)=sm ((bV L).take (i+1)) by
    rw[e,b];exact bK (by rw[e,b]at a;unfold dz mx at a;omega) (by rw[e,b]at a;unfold dz mx at a;omega)]
   exact o (i+1) (by omega) (by omega)
  ·rw[dd (by omega),Dj (by rw[fL];omega)]
theorem afl(L:ck)(T:Int)(c:0≤T∧T≤2147483647)(E:L.length≤19)(f:0<sm (bV L)):∀(m i:Nat),i≤L.length→L.length<m+i →
  qE K n L T (sm (bV L)) m (T-sm (((bV L).take i).map (q T (sm (bV L))))) (i:Int) (((bV L).take i).map (q T (sm (bV L)))++List.replicate (L.length-i) 0) (((bV L).take i).map (r T (sm (bV L)))++List.replicate (L.length-i) 0) (idx i++List.replicate (L.length-i) 0) =
  (lT K n (idx L.length) (Fv.c165 ((bV L).map (r T (sm (bV L)))))).bind fun a =>
  aE (cF (0:Int) (left T (bV L)) a.length) (
  ql K n n (List.drop ((0:Int)).toNat (List.take (left T (bV L)).toNat a)) ((List.drop ((0:Int)).toNat (List.take (left T (bV L)).toNat a)).length:Int) 0 ((bV L).map (q T (sm (bV L))))):=by
 intro m
 induction m with
 | zero=>intro i v x;omega
 | succ m z =>
  intro i v x;simp only[qE,xp];by_cases hi:i<L.length
  ·have g:=fun w b=>(nk L w b).1;have e:=ago c.1 g f;have t:=Si hi;obtain⟨k,s⟩:∃k,L.length-i=k+1:=⟨L.length-i-1,by omega⟩;have b:=nk L ((bV L).getD i default) (by rw[bN (by rw[fL];exact hi)];exact qv _);have h:=acU c.1 c.2 b.1 b.2;rw[di (by omega),cD (by omega),eO];simp only[iu,sb];have d:min (max (L.getD i default) 0) 2147483647=(bV L).getD i default:=by rw[t];rfl
   rw[d,bK (n:=T*(bV L).getD i default) (by omega) (by omega)];have y:(sm (bV L) != 0)=true:=by simp;omega
   rw[y,ba,ba];have l:(((bV L).take i).map (q T (sm (bV L)))++List.replicate (L.length-i) 0).length=L.length:=by simp[fL];omega
   have B:(((bV L).take i).map (r T (sm (bV L)))++List.replicate (L.length-i) 0).length=L.length:=by simp[fL];omega
   have C:(idx i++List.replicate (L.length-i) 0).length=L.length:=by simp[uh];omega
   rw[l,B,C,cD (by omega),cD (by omega),cD (by omega)];simp only[akT];rw[l,cD (by omega),s];have j:i=(((bV L).take i).map (q T (sm (bV L)))).length:=by simp[fL];omega
   have A:i=(((bV L).take i).map (r T (sm (bV L)))).length:=by simp[fL];omega
   rw[Co j,Co A,Co (uh i).symm,XD j];have F:=CR f c.1 b.1 (Bd _ g _ (by rw[bN (by rw[fL];exact hi)];exact qv _));have p:aa (Int.tdiv (T*(bV L).getD i default) (sm (bV L)))=q T (sm (bV L)) ((bV L).getD i default):=by
    rw[alc h.1];exact bK (by show _≤q _ _ _;omega) (by show q _ _ _≤_;omega)
   have u:Int.tmod (T*(bV L).getD i default) (sm (bV L))=r T (sm (bV L)) ((bV L).getD i default):=by
    rw[al8 h.1];rfl
   rw[p,u,← IA _ (by rw[fL];exact hi),← IA _ (by rw[fL];exact hi),← Fz];have o:aa (T-sm (((bV L).take i).map (q T (sm (bV L))))-q T (sm (bV L)) ((bV L).getD i default))=T-sm (((bV L).take (i+1)).map (q T (sm (bV L)))):=by
    rw[IA _ (by rw[fL];exact hi),lW];simp only[sm];have D:=e i;rw[bK (by omega) (by omega)];omega
   rw[o,wn (n:=(i:Int)+1) (k:=i+1) (by omega) (by omega)];have:=z (i+1) (by omega) (by omega);rw[show L.length-(i+1)=k by omega]at this;exact this
  ·have:i=L.length:=by omega
   subst this;rw[dd (by omega)];have d:(bV L).take L.length=bV L:=Dj (by rw[fL];omega);rw[d];simp only[amE,alA,List.append_nil];rfl
theorem abu(l:ck)(o:l.length≤19):∀(m i:Nat) (p:ck),i≤l.length→l.length<m+i→(∀x∈l,0≤x∧x.toNat<p.length)→(∀x∈p,0≤x∧x+l.length≤4611686018427387904+i) →
  ql K n m l (l.length:Int) (i:Int) p=some (inc p (l.drop i)):=by
 intro m
 induction m with
 | zero=>intro i p d e;omega
 | succ m j =>
  intro i p d e c b;simp only[ql,Bg];by_cases hi:i<l.length
  ·have f:=c (l.getD i default) (by rw[bN hi];exact qv _);have g:=b (p.getD (l.getD i default).toNat default) (by rw[bN f.2];exact qv _);rw[di (by omega),cD (by omega),eO,cD (by omega),cD (by omega),wn (n:=(i:Int)+1) (k:=i+1) (by omega) (by omega),bK (by omega) (by omega)];rw[j (i+1) _ (by omega) (by omega) (by simpa using c) (fun x a=>by
    rcases amf a with h|h
    ·have:=b x h;omega
    ·subst h;omega)]
   rw[l3 hi,← bN hi];rfl
  ·rw[dd (by omega),mo (by omega)];rfl
theorem I9 rs m:QSort.s5 (KN (m+1)) (Fv.c165 rs) (fun a=>0≤a∧a<rs.length) (key rs):=by
 refine⟨fun a b d e=>?_⟩;show ∃c,ye (KN m) m a b rs=some c∧_;unfold ye;rw[cD e,cD d]
 grind[tE,wA,sb,key]
theorem sorted rs{lvl n}(h:10001<n)(i:rs.length≤19)(g:20010≤lvl):∃d,Ord rs d∧lT (KN lvl) n (idx rs.length) (Fv.c165 rs)=some d:=by
 obtain⟨d,b,c,e⟩:=QSort.O5 (c0:=1) (f:=Fv.c165 rs) (D:=fun a=>0≤a∧a<rs.length) (key:=key rs) (fun m j=>by
  obtain⟨k,rfl⟩:∃k,m=k+1:=⟨m-1,by omega⟩
  grind[I9]) (lvl:=lvl) (n:=n) (idx rs.length) h (by grind[uh]) (VL _) (fun x l=>by
   grind[JB]) (by grind[uh])
 exact⟨d,⟨b,c⟩,e⟩
theorem Kq{a b:Int}{n:Nat}(c:0≤a)(d:a≤b)(e:b≤n):cF a b n=true:=by grind[cF]
theorem Ir{n b:Nat}(h:n*b≤140737488355328)(a:n≤4611686018427387904):fw n b=true:=by
 grind[fw]
theorem nt{lvl n:Nat}(T:Int)(L:ck)(c:L.length≤19)(u:10001<n)(g:20010≤lvl):yi (KN lvl) n T L=some (share (dz T mx) (bV L)):=by
 unfold yi;have o:0≤dz T mx∧dz T mx≤2147483647:=jb (m:=mx) (by decide);simp only[iu,sb,Ir (show L.length*8≤140737488355328 by omega) (by omega),ba,eO];have l:=aez (K:=KN lvl) (n:=n) L (dz T mx) (List.replicate L.length 0) (List.replicate L.length 0) (List.replicate L.length 0) c n 0 (by omega) (by omega);rw[show sm ((bV L).take 0)=0 from rfl,show((0:Nat):Int)=0 from rfl]at l;rw[show min (max T 0) 2147483647=dz T mx from rfl,l];have v:=MD c;by_cases i:sm (bV L)=0
 ·rw[lp (by simp[i])];unfold share;rw[lp i,fL]
 ·rw[kc (by simp[i])];have f:0<sm (bV L):=by omega
  have e:=afl (K:=KN lvl) (n:=n) L (dz T mx) o c f n 0 (by omega) (by omega);simp only[ak6,Db,IT,ale,sm,Int.sub_zero,show idx 0=[] from rfl]at e;rw[show((0:Nat):Int)=0 from rfl]at e;rw[e];obtain⟨d,j,p⟩:=sorted ((bV L).map (r (dz T mx) (sm (bV L)))) (lvl:=lvl) (n:=n) u (by simp[fL,c]) g;rw[nw,fL]at p;rw[p,sb];have s:d.length=L.length:=by rw[j.len,nw,fL]
  have a:=G4 (dz T mx) (bV L) f;rw[fL]at a;rw[Kq (by omega) a.1 (by rw[s];exact a.2),ba];rw[show(0:Int).toNat=0 from rfl,List.drop_zero];rw[acp (dz T mx) (bV L) d (fun w b=>(nk L w b).1) (by omega) j];have:=abu (K:=KN lvl) (n:=n) (d.take (left (dz T mx) (bV L)).toNat) (by simp;omega) n 0 ((bV L).map (q (dz T mx) (sm (bV L)))) (by omega) (by simp;omega) (fun x h=>by
   obtain⟨k,t,rfl⟩:=j.mem.1 (u6 h);simp at t;simp;omega) (fun x h=>by
   obtain⟨w,b,rfl⟩:=Dy.1 h;have:=CR f o.1 (nk L w b).1 (Bd _ (fun w b=>(nk L w b).1) w b);have y:(d.take (left (dz T mx) (bV L)).toNat).length≤10000:=by simp;omega
   omega)
  rw[show((0:Nat):Int)=0 from rfl,List.drop_zero]at this;exact this
end Sh
namespace Sh
theorem RY{T:Int}{W:ck}(a:sm W≠0){k:Nat}(b:k<W.length):(share T W).getD k default=part T W k:=by
 rw[bN (by rw[vH];exact b)];unfold share;simp[a]
theorem Kj{T:Int}{W:ck}(a:sm W=0):share T W=List.replicate W.length 0:=by unfold share;rw[lp a]
theorem ajP{T:Int}{W:ck}(a:∀w∈W,0≤w)(d:0≤T)(c:0<sm W){k:Nat}(e:k<W.length):0≤part T W k∧part T W k≤T+1:=by
 have b:W.getD k default∈W:=by rw[bN e];exact qv _
 have:=CR c d (a _ b) (Bd W a _ b);unfold part;split<;>omega
end Sh
namespace Rs
open Sh (share bV dz mx q r left oX part)
def aux(T S l:Int):ck→ck→ck
 | _,[]=>[]
 | A,w::B=>(q T S w+if 0<r T S w∧((A.countP (fun x=>decide (r T S w≤r T S x))+B.countP (fun x=>decide (r T S w<r T S x)):Nat):Int)<l then 1 else 0)::aux T S l (A++[w]) B
theorem Qv(T S l:Int):∀(B A:ck),(aux T S l A B).length=B.length
 | [],A=>rfl
 | w::B,A=>by simp[aux,Qv T S l B]
theorem OB(T S l:Int):∀(B A:ck) (k:Nat),k<B.length→(aux T S l A B).getD k default=q T S (B.getD k default)+if 0<r T S (B.getD k default)∧(((A++B.take k).countP (fun x=>decide (r T S (B.getD k default)≤r T S x))+(B.drop (k+1)).countP (fun x=>decide (r T S (B.getD k default)<r T S x)):Nat):Int)<l then 1 else 0
 | [],A,k,h=>by simp at h
 | w::B,A,0,h=>by simp[aux]
 | w::B,A,k+1,h=>by
  have:=OB T S l B (A++[w]) k (by simpa using h);simp only[aux,alB,this,List.take_succ_cons,amR,u3,akS]
theorem N5(T:Int)(W:ck)(d:sm W≠0):share T W=aux T (sm W) (left T W) [] W:=by
 refine alz (by rw[Sh.vH,Qv]) (fun k a c=>?_);have b:k<W.length:=by rw[Sh.vH]at a;exact a
 rw[←bN a,← bN c,Sh.RY d b,OB _ _ _ _ _ _ b];rfl
def zo(a:List (Option Int)):ck:=a.map fun o=>o.getD 0
def op(a:List (Option Int)):ck:=a.filterMap id
def pick:List (Option Int)→ck→ck
 | some _::a,p::P=>p::pick a P
 | none::a,_::P=>pick a P
 | _,_=>[]
theorem wo:∀a:List (Option Int),sm (zo a)=sm (op a)
 | []=>rfl
 | some w::a=>by have:=wo a;simp only[zo,op]at *;simp[sm,this]
 | none::a=>by have:=wo a;simp only[zo,op]at *;simp[sm,this]
theorem ahr(T S:Int):q T S 0=0:=by simp[q]
theorem Vc(T S:Int):r T S 0=0:=by simp[r]
theorem FP(T S:Int):∀a:List (Option Int),sm ((zo a).map (q T S))=sm ((op a).map (q T S))
 | []=>rfl
 | some w::a=>by
  have:=FP T S a;have b:zo (some w::a)=w::zo a:=rfl;have c:op (some w::a)=w::op a:=rfl;rw[b,c,rl,rl,sm,sm,this]
 | none::a=>by
  have:=FP T S a;have b:zo (none::a)=0::zo a:=rfl;have c:op (none::a)=op a:=rfl;rw[b,c,rl,sm,this,ahr];omega
theorem KO(p:Int→Bool)(b:p 0=false):∀a:List (Option Int),(zo a).countP p=(op a).countP p
 | []=>rfl
 | some w::a=>by have:=KO p b a;simp only[zo,op]at *;simp[alq,this]
 | none::a=>by have:=KO p b a;simp only[zo,op]at *;simp[alq,this,b]
theorem KP(T S l:Int):∀(a:List (Option Int)) (A b:ck),(∀x,0<x→A.countP (fun y=>decide (x≤r T S y))=b.countP (fun y=>decide (x≤r T S y))) →
  pick a (aux T S l A (zo a))=aux T S l b (op a)
 | [],A,b,h=>rfl
 | some w::a,A,b,h=>by
  have i:=KP T S l a (A++[w]) (b++[w]) (fun x g=>by rw[akL,akL,h x g]);have c:zo (some w::a)=w::zo a:=rfl;have d:op (some w::a)=w::op a:=rfl;rw[c,d];simp only[aux,pick,i];congr 2;by_cases f:0<r T S w
  ·rw[h _ f,KO _ (by simp[Vc];omega)]
  ·rw[kc (fun e=>f e.1),kc (fun e=>f e.1)]
 | none::a,A,b,h=>by
  have i:=KP T S l a (A++[0]) b (fun x g=>by
   rw[akL,h x g];simp[Vc];omega)
  have c:zo (none::a)=0::zo a:=rfl;have d:op (none::a)=op a:=rfl;rw[c,d];simp only[aux,pick,i]
theorem JG:∀a:List (Option Int),pick a (List.replicate a.length 0)=List.replicate (op a).length 0
 | []=>rfl
 | some w::a=>by simp[pick,op,al4];exact JG a
 | none::a=>by simp[pick,op,al4];exact JG a
theorem ahI(T:Int)(a:List (Option Int)):pick a (share T (zo a))=share T (op a):=by
 by_cases b:sm (zo a)=0
 ·rw[Sh.Kj b,Sh.Kj (by rw[←wo];exact b)];have:(zo a).length=a.length:=by simp[zo]
  rw[this];exact JG a
 ·rw[N5 T _ b,N5 T _ (by rw[←wo];exact b)];have e:left T (zo a)=left T (op a):=by unfold left;rw[FP,wo]
  rw[e,wo];exact KP T _ _ a [] [] (fun _ _=>rfl)
def mS(g:Bool)(a:bC):Int:=if g=true then a.Grow else a.Shrink
def n9(g:Bool)(a:bC):Int:=if g=true then a.Grow else a.aB*a.Shrink / 1000
abbrev It:=bC×Option Int
def fD(p:It):Int:=p.2.getD p.1.aB
def ge(g:Bool)(p:It):Option Int:=if p.2.isSome=true then none else some (n9 g p.1)
def fe(g:Bool)(M:List It):Int:=sm (M.map fun p=>if p.2.isSome=true then 0 else mS g p.1)
def room(g:Bool)(sp:Int)(M:List It):Int:=max (if g=true then sp-sm (M.map fD) else-(sp-sm (M.map fD))) 0
def oK(g:Bool)(sp:Int)(M:List It):Int:=if fe g M<1000 then room g sp M*fe g M / 1000 else room g sp M
def parts(g:Bool)(sp:Int)(M:List It):ck:=share (dz (oK g sp M) mx) (bV (zo (M.map (ge g))))
def ns(g:Bool)(a:bC)(p:Int):Int:=if g=true then a.aB+p else a.aB-p
def cl(a:bC)(n:Int):Int:=min (max n a.Min) a.Max
def nH(g:Bool)(p:It)(x:Int):Int:=if p.2.isSome=true then 0 else cl p.1 (ns g p.1 x)-ns g p.1 x
def change(g:Bool)(sp:Int)(M:List It):Int:=sm (List.zipWith (nH g) M (parts g sp M))
def lH(c n l:Int):Bool:=decide (c=0∨(0<c∧n<l)∨(c<0∧l<n))
def gi(g:Bool)(c:Int)(p:It)(x:Int):It:=if p.2.isSome=true then p else if lH c (ns g p.1 x) (cl p.1 (ns g p.1 x))=true then (p.1,some (cl p.1 (ns g p.1 x))) else p
def round(g:Bool)(sp:Int)(M:List It):List It:=List.zipWith (gi g (change g sp M)) M (parts g sp M)
def opens(M:List It):Nat:=M.countP fun p=>!p.2.isSome
def run(g:Bool)(sp:Int):Nat→List It→List It
 | 0,M=>M
 | k+1,M=>if opens M=0 then M else run g sp k (round g sp M)
def dk(x:bC):bC:=⟨dz x.aB 1048576,dz x.Grow 1048576,dz x.Shrink 1048576,dz x.Min 1048576,max (dz x.Max 1048576) (dz x.Min 1048576)⟩
def hyp(x:bC):Int:=cl (dk x) (dk x).aB
def k9(l:em)(sp:Int):Bool:=decide (sm (l.map hyp)<sp)
def jh(g:Bool)(a:bC)(s:Int):Bool:=if g=true then decide (a.Grow=0∨a.aB>s) else decide (a.Shrink=0∨a.aB<s)
def start(g:Bool)(l:em):List It:=l.map fun x=>(dk x,if jh g (dk x) (hyp x)=true then some (hyp x) else none)
def fY(M:List It):ck:=M.map fun p=>p.2.getD 0
def resolve(l:em)(sp:Int):ck:=fY (run (k9 l sp) sp l.length (start (k9 l sp) l))
structure mj(p:It):Prop where
 b:0≤p.1.aB∧p.1.aB≤1048576
 g:0≤p.1.Grow∧p.1.Grow≤1048576
 s:0≤p.1.Shrink∧p.1.Shrink≤1048576
 l:0≤p.1.Min∧p.1.Min≤p.1.Max∧p.1.Max≤1048576
 z:∀n,p.2=some n→p.1.Min≤n∧n≤p.1.Max
def Ok(M:List It):Prop:=∀p∈M,mj p
theorem jb(n:Int):0≤dz n 1048576∧dz n 1048576≤1048576:=Sh.jb (by omega)
theorem J1(x:bC)(o:Option Int)(h:o=none∨o=some (hyp x)):mj (dk x,o):=by
 have b:=jb x.aB;have c:=jb x.Grow;have d:=jb x.Shrink;have e:=jb x.Min;have f:=jb x.Max;refine⟨b,c,d,by simp only[dk];omega,fun n a=>?_⟩;rcases h with rfl|rfl
 ·cases a
 ·injection a with a;subst a
  simp only[hyp,cl,dk];omega
theorem akb(g:Bool)(l:em):Ok (start g l):=by
 intro p a;obtain⟨x,_,rfl⟩:=Dy.1 a;refine J1 x _ ?_;split<;>simp
theorem CW{p:It}(h:mj p)(n:Int):p.1.Min≤cl p.1 n∧cl p.1 n≤p.1.Max:=by have:=h.l;unfold cl;omega
theorem afE{g:Bool}{c:Int}{p:It}(h:mj p)(x:Int):mj (gi g c p x):=by
 unfold gi;split
 ·exact h
 ·split
  ·refine⟨h.b,h.g,h.s,h.l,fun n a=>?_⟩;injection a with a;subst a;exact CW h _
  ·exact h
theorem DR(g:Bool)(sp:Int)(M:List It):(parts g sp M).length=M.length:=by unfold parts;rw[Sh.vH,Sh.fL];simp[zo]
theorem mG(g:Bool)(sp:Int)(M:List It):(round g sp M).length=M.length:=by unfold round;rw[al5,DR];omega
theorem FC(g:Bool)(sp:Int)(M:List It){k:Nat}(a:k<M.length):(round g sp M)[k]'(by rw[mG];exact a)=gi g (change g sp M) M[k] ((parts g sp M).getD k default):=by
 unfold round;rw[alW,bN (by rw[DR];exact a)]
theorem ah9{g:Bool}{sp:Int}{M:List It}(h:Ok M):Ok (round g sp M):=by
 intro p c;obtain⟨k,b,e⟩:=al2 c;have a:k<M.length:=by rw[mG]at b;exact b
 rw[FC g sp M a]at e;subst e;exact afE (h _ (qv _)) _
theorem Ug{g:Bool}{sp:Int}:∀(k:Nat) (M:List It),(run g sp k M).length=M.length
 | 0,M=>rfl
 | k+1,M=>by
  unfold run;split
  ·rfl
  ·rw[Ug k,mG]
theorem Ib(l:em)(sp:Int):(resolve l sp).length=l.length:=by simp[resolve,fY,Ug,start]
theorem MQ(g:Bool)(c:Int):∀(M:List It) (P:ck),M.length=P.length→opens (List.zipWith (gi g c) M P)≤opens M ∧
  ((∃k,∃h:k<M.length,∃f:k<P.length,M[k].2.isSome=false∧lH c (ns g M[k].1 P[k]) (cl M[k].1 (ns g M[k].1 P[k]))=true)→opens (List.zipWith (gi g c) M P)<opens M)
 | [],P,_=>⟨by simp[opens],fun⟨k,h,_⟩=>by simp at h⟩
 | p::M,[],h=>by simp at h
 | p::M,x::P,h=>by
  have m:=MQ g c M P (by simpa using h);have d:opens (p::M)=opens M+(if (!p.2.isSome)=true then 1 else 0):=by simp[opens,alq]
  have e:opens (List.zipWith (gi g c) (p::M) (x::P))=opens (List.zipWith (gi g c) M P)+(if (!(gi g c p x).2.isSome)=true then 1 else 0):=by simp[opens,alq]
  have n:(if (!(gi g c p x).2.isSome)=true then 1 else 0)≤(if (!p.2.isSome)=true then 1 else 0):=by
   unfold gi;by_cases j:p.2.isSome=true
   ·rw[lp j];exact la _
   ·rw[kc j];by_cases i:lH c (ns g p.1 x) (cl p.1 (ns g p.1 x))=true
    ·rw[lp i];simp
    ·rw[kc i];exact la _
  refine⟨by rw[d,e];omega,fun⟨k,l,f,a,b⟩=>?_⟩;cases k with
  | zero =>
   simp only[List.getElem_cons_zero]at a b;have:(if (!(gi g c p x).2.isSome)=true then 1 else 0)=0:=by
    have:gi g c p x=(p.1,some (cl p.1 (ns g p.1 x))):=by unfold gi;rw[kc (by rw[a];simp),lp b]
    rw[this];rfl
   rw[d,e,this,a];simp;omega
  | succ k =>
   simp only[List.getElem_cons_succ]at a b;have:=m.2 ⟨k,by simpa using l,by simpa using f,a,b⟩;rw[d,e];omega
theorem Tr:∀L:ck,0<sm L→∃k,∃h:k<L.length,0<L[k]
 | [],h=>by simp[sm]at h
 | x::L,h=>by
  simp only[sm]at h;by_cases c:0<x
  ·exact⟨0,by simp,c⟩
  ·obtain⟨k,b,a⟩:=Tr L (by omega);exact⟨k+1,by simpa using b,by simpa using a⟩
theorem ML:∀L:ck,sm L<0→∃k,∃h:k<L.length,L[k]<0
 | [],h=>by simp[sm]at h
 | x::L,h=>by
  simp only[sm]at h;by_cases c:x<0
  ·exact⟨0,by simp,c⟩
  ·obtain⟨k,b,a⟩:=ML L (by omega);exact⟨k+1,by simpa using b,by simpa using a⟩
theorem Rw{g:Bool}{sp:Int}{M:List It}(h:opens M≠0):opens (round g sp M)<opens M:=by
 have e:=DR g sp M;refine (MQ g (change g sp M) M (parts g sp M) e.symm).2 ?_;rcases Int.lt_trichotomy (change g sp M) 0 with d|d|d
 ·obtain⟨k,b,a⟩:=ML _ d;simp only[al5,e,am1]at b;rw[alW]at a;unfold nH at a;by_cases c:M[k].2.isSome=true
  ·rw[lp c]at a;omega
  ·rw[kc c]at a;refine⟨k,b,by omega,by simpa using c,?_⟩;unfold lH;rw[q6];omega
 ·have:0<opens M:=by omega
  obtain⟨p,f,a⟩:=List.countP_pos_iff.1 this;obtain⟨k,b,rfl⟩:=al2 f;refine⟨k,b,by omega,by simpa using a,?_⟩;unfold lH;rw[q6];omega
 ·obtain⟨k,b,a⟩:=Tr _ d;simp only[al5,e,am1]at b;rw[alW]at a;unfold nH at a;by_cases c:M[k].2.isSome=true
  ·rw[lp c]at a;omega
  ·rw[kc c]at a;refine⟨k,b,by omega,by simpa using c,?_⟩;unfold lH;rw[q6];omega
theorem N4(M:List It):opens M≤M.length:=List.countP_le_length
theorem Aw{g:Bool}{sp:Int}{M:List It}(h:opens M=0):∀k,run g sp k M=M
 | 0=>rfl
 | k+1=>by unfold run;rw[lp h]
theorem VQ{g:Bool}{sp:Int}:∀(k j:Nat) (M:List It),opens M≤k→opens M≤j→run g sp k M=run g sp j M
 | 0,j,M,h,_=>by rw[Aw (by omega),Aw (by omega)]
 | k+1,0,M,_,h=>by rw[Aw (by omega),Aw (by omega)]
 | k+1,j+1,M,h,b=>by
  unfold run;split
  ·rfl
  ·rename_i a;have:=Rw (g:=g) (sp:=sp) a;exact VQ k j _ (by omega) (by omega)
end Rs
namespace Rs
open Sh (share bV dz mx j9 mP)
open QSort (wn cD di dd sb)
instance:Inhabited It:=⟨(default,none)⟩
def O(M:List It)(n:Nat):ck:=((List.range n).filter fun k=>!(M.getD k default).2.isSome).map fun (k:Nat)=>k
theorem Gu M:O M 0=[]:=rfl
theorem AA M n:O M (n+1)=O M n++if (M.getD n default).2.isSome=true then [] else [(n:Int)]:=by
 unfold O;rw[al3,akM,MO]
 grind
theorem Lb{M}{n}{x}:x∈O M n↔∃k:Nat,k<n∧x=k∧(M.getD k default).2.isSome=false:=by
 grind[O]
theorem CQ M n:(O M n).length≤n:=by
 grind[O]
theorem abC M n:(O M n).Pairwise (· < ·):=by
 unfold O;rw[amk];refine alL (fun h=>?_) (amJ _ alI);omega
theorem Pr{M}{k}(a:k<(O M M.length).length):∃j:Nat,(O M M.length).getD k default=j∧j<M.length∧(M.getD j default).2.isSome=false:=by
 have b:(O M M.length).getD k default∈O M M.length:=by grind
 grind[Lb]
theorem IX:∀(a:List (Option Int)) (P:ck) (o:Option Int) (p:Int),a.length=P.length→pick (a++[o]) (P++[p])=pick a P++if o.isSome=true then [p] else []
 | [],[],o,p,_=>by cases o<;>simp[pick]
 | [],_::_,o,p,h=>by grind
 | _::_,[],o,p,h=>by grind
 | none::a,x::P,o,p,h=>by
  have:=IX a P o p (by grind)
  grind[pick]
 | some w::a,x::P,o,p,h=>by
  have:=IX a P o p (by grind)
  grind[pick]
theorem ag8 g p:(ge g p).isSome=!p.2.isSome:=by grind[ge]
theorem iU{α:Type}[Inhabited α]{L:List α}{n}(h:n<L.length):L.take (n+1)=L.take n++[L.getD n default]:=by
 simp_all
theorem M7(g:Bool)(M:List It)(P:ck)(a:P.length=M.length):∀n,n≤M.length→pick ((M.take n).map (ge g)) (P.take n)=(O M n).map fun j=>P.getD j.toNat default
 | 0,_=>by simp[pick,Gu]
 | n+1,h=>by
  rw[iU (show n<M.length by omega),iU (show n<P.length by omega),MO,rl,Db,IX _ _ _ _ (by simp;omega),M7 g M P a n (by omega),AA,MO,ag8];congr 1;cases (M.getD n default).2.isSome<;>simp
theorem UG(g:Bool)(M:List It){n}(h:n<M.length):op ((M.take (n+1)).map (ge g))=op ((M.take n).map (ge g))++if (M.getD n default).2.isSome=true then [] else [n9 g (M.getD n default).1]:=by
 grind[iU,op,ge]
theorem Gw g M:∀n,n≤M.length→(op ((M.take n).map (ge g))).length=(O M n).length
 | 0,_=>by rfl
 | n+1,h=>by
  rw[UG g M (by omega),AA,ne,ne,Gw g M n (by omega)]
  grind
theorem Ud(f:It→Int)(M:List It){n:Nat}(h:n<M.length):sm ((M.take (n+1)).map f)=sm ((M.take n).map f)+f (M.getD n default):=by
 rw[iU h,MO,lW];simp[sm]
theorem VO(F:Nat→Int)(M:List It)(h:∀k,(M.getD k default).2.isSome=true→F k=0):∀n,sm ((List.range n).map F)=sm ((O M n).map fun j=>F j.toNat)
 | 0=>by simp[Gu]
 | n+1=>by
  rw[al3,MO,lW,VO F M h n,AA,MO,lW];congr 1;cases a:(M.getD n default).2.isSome
  ·simp[sm]
  ·simp[sm,h n a]
theorem Z9 g sp M:change g sp M=sm ((O M M.length).map fun j=>nH g (M.getD j.toNat default) ((parts g sp M).getD j.toNat default)):=by
 rw[←VO (fun k=>nH g (M.getD k default) ((parts g sp M).getD k default)) M (fun k c=>by grind[nH]) M.length];unfold change;congr 1;refine alz (by simp[DR]) (fun k a b=>?_)
 grind
theorem ac8 g(M:List It){n}(h:n<M.length):fe g (M.take (n+1))=fe g (M.take n)+if (M.getD n default).2.isSome=true then 0 else mS g (M.getD n default).1:=Ud _ M h
variable{g:Bool}{M:List It}
theorem Ok.at(h:Ok M){k}(a:k<M.length):mj (M.getD k default):=by rw[bN a];exact h _ (qv _)
theorem WW{p}(h:mj p):0≤fD p∧fD p≤1048576:=by
 unfold fD;have:=h.b;have:=h.l;cases a:p.2 with
 | none=>grind
 | some n=>have:=h.z n a;grind
theorem acZ{p}(h:mj p):0≤mS g p.1∧mS g p.1≤1048576:=by unfold mS;have:=h.g;have:=h.s;omega
theorem JL{p}(h:mj p):0≤n9 g p.1∧n9 g p.1≤1099511628:=by
 unfold n9;have b:=h.b;have c:=h.g;have a:=h.s;have:0≤p.1.aB*p.1.Shrink∧p.1.aB*p.1.Shrink≤1048576*1048576:=⟨ak7 b.1 a.1,aly b.2 a.2 a.1 (by omega)⟩;omega
theorem S9{c}(a:0≤c) f(d:∀p∈M,0≤f p∧f p≤c) n(e:M.length≤19):0≤sm ((M.take n).map f)∧sm ((M.take n).map f)≤1000*c:=by
 refine⟨j9 _ (fun x b=>?_),?_⟩
 ·grind
 ·have:=mP (c:=c) ((M.take n).map f) (fun x b=>by grind);refine Int.le_trans this (alP ?_ a)
  grind
theorem Bt(h:Ok M)(a:M.length≤19) n:0≤sm ((M.take n).map fD)∧sm ((M.take n).map fD)≤1048576000:=by
 have:=S9 (M:=M) (c:=1048576) (by omega) fD (fun p b=>WW (h p b)) n a;omega
theorem IP(h:Ok M)(a:M.length≤19) n:0≤fe g (M.take n)∧fe g (M.take n)≤1048576000:=by
 have:=S9 (M:=M) (c:=1048576) (by omega) (fun p=>if p.2.isSome=true then 0 else mS g p.1) (fun p b=>by
  have:=acZ (g:=g) (h p b);omega) n a
 grind[fe]
theorem mD{α:Type}(L:List α):L.take L.length=L :=by grind
theorem af3(h:Ok M)(a:M.length≤19){sp}(b : -1125899906842624≤sp∧sp≤1125899906842624):0≤room g sp M∧room g sp M≤1125900955418624:=by
 have:=Bt h a M.length
 grind[mD,room]
theorem aci(a f:Int):a / 1000*f+a % 1000*f / 1000=a*f / 1000:=by
 have h:a*f=1000*(a / 1000*f)+a % 1000*f:=by
  grind
 omega
theorem ahA{w}(h:Ok M)(c:w∈zo (M.map (ge g))):0≤w∧w≤1099511628:=by
 obtain⟨o,a,rfl⟩:=Dy.1 c;obtain⟨p,b,rfl⟩:=Dy.1 a;unfold ge;have:=JL (g:=g) (h p b)
 grind
theorem OY{L}(h:∀w∈L,0≤w∧w≤2147483647):bV L=L:=by
 conv=>rhs;rw[←List.map_id L]
 refine amS (fun w a=>?_);unfold Sh.dz Sh.mx;grind
theorem aik{w}(h:Ok M)(c:w∈op (M.map (ge g))):0≤w∧w≤1099511628:=by
 obtain⟨o,a,e⟩:=amb.1 c;obtain⟨p,b,rfl⟩:=Dy.1 a;unfold ge at e;have:=JL (g:=g) (h p b)
 grind
theorem aeD(h:Ok M) sp:share (dz (oK g sp M) mx) (bV (op (M.map (ge g))))=(O M M.length).map fun j=>(parts g sp M).getD j.toNat default:=by
 rw[OY (fun w a=>by have:=aik h a;omega),← ahI];unfold parts;rw[OY (fun w a=>by have:=ahA h a;omega)];have:=M7 g M (share (dz (oK g sp M) mx) (zo (M.map (ge g)))) (by rw[Sh.vH];simp[zo]) M.length (by omega);rw[mD,Dj (by rw[Sh.vH];simp[zo])]at this
 grind
theorem afA{T}{W}(b:∀w∈W,0≤w)(d:0≤T){k}(c:k<W.length):0≤(share T W).getD k default∧(share T W).getD k default≤T+1:=by
 by_cases a:sm W=0
 ·rw[Sh.Kj a,bN (by grind)]
  grind
 ·rw[Sh.RY a c];exact Sh.ajP b d (by have:=j9 W b;omega) c
theorem Ov(h:Ok M) sp{k}(c:k<M.length):0≤(parts g sp M).getD k default∧(parts g sp M).getD k default≤2147483648:=by
 have a:=Sh.jb (n:=oK g sp M) (m:=mx) (by decide);have:=afA (T:=dz (oK g sp M) mx) (W:=bV (zo (M.map (ge g)))) (fun w b=>(Sh.nk _ w b).1) a.1 (k:=k) (by rw[Sh.fL];grind[zo]);unfold parts;unfold Sh.mx at *;omega
theorem Sp{p}(h:mj p){x}(a:0≤x∧x≤2147483648): -2147483648≤ns g p.1 x∧ns g p.1 x≤2148532224:=by
 have:=h.b
 grind[ns]
structure Rl g(p:It)(x:aZ):Prop where
 it:x.Item=p.1
 f:x.factor=mS g p.1
 w:x.weight=n9 g p.1
 fx:x.fixed=p.2.isSome
 s:∀n,p.2=some n→x.size=n
structure aV g(M:List It)(L:ee):Prop where
 len:L.length=M.length
 at_:∀k,k<M.length→Rl g (M.getD k default) (L.getD k default)
def gC(g:Bool):Int:=if g=true then 1 else -1
variable{K:Kn}{n:Nat}{L:ee}
theorem SH{a b}(h:a≤1001)(d:b≤1000)(c:0<b):fits a b=true:=dc (RX (Nat.mul_le_mul h d) (by grind)) c
theorem afP(b:Ok M)(s:aV g M L)(c:M.length≤19){sp:Int}(A : -1125899906842624≤sp∧sp≤1125899906842624):∀(m i:Nat),i≤M.length→M.length<m+i →
  sI K n L (gC g) m (sp-sm ((M.take i).map fD)) (fe g (M.take i)) (i:Int) (O M i) (op ((M.take i).map (ge g)))=if (O M M.length).length=0 then some (false,L) else uu K n L (gC g) (O M M.length) (op (M.map (ge g))) (oK g sp M):=by
 intro m
 induction m with
 | zero=>intro i x y;omega
 | succ m t =>
  intro i x y;simp only[sI,zk,s.len];by_cases hi:i<M.length
  ·have f:=s.at_ i hi;have E:=b.at hi;have u:=Bt b c i;have F:=Bt b c (i+1);have e:=IP (g:=g) b c i;have D:=IP (g:=g) b c (i+1);have q:=Ud fD M hi;have r:=ac8 g M hi;have j:=UG g M hi;have k:=AA M i;have G:=CQ M i;have pl:=Gw g M i (by omega);rw[di (by omega),cD (by omega),eO,f.fx];simp only[xQ];have B:aa ((i:Int)+1)=((i+1:Nat):Int):=wn (by omega) (by omega);rw[B,f.it,f.f,f.w];cases h:(M.getD i default).2 with
   | some z =>
    simp only[h,Option.isSome_some,AT,List.append_nil]at r j k⊢;rw[f.s z h];have o:fD (M.getD i default)=z:=by unfold fD;rw[h];rfl
    rw[o]at q;rw[bK (by omega) (by omega),show sp-sm ((M.take i).map fD)-z=sp-sm ((M.take (i+1)).map fD) by omega,show fe g (M.take i)=fe g (M.take (i+1)) by omega,← j,← k];exact t (i+1) (by omega) (by omega)
   | none =>
    simp only[h,Option.isSome_none,jf,pt]at r j k⊢;have o:fD (M.getD i default)=(M.getD i default).1.aB:=by unfold fD;rw[h];rfl
    rw[o]at q;simp only[sb];rw[SH (by simp only[ls,ti];omega) (by omega) (by omega),SH (by simp only[ls,ti];omega) (by omega) (by omega),ba,ba,bK (by omega) (by omega),bK (by omega) (by omega),
     show sp-sm ((M.take i).map fD)-(M.getD i default).1.aB=sp-sm ((M.take (i+1)).map fD) by omega,show fe g (M.take i)+mS g (M.getD i default).1=fe g (M.take (i+1)) by omega,← j,← k]
    exact t (i+1) (by omega) (by omega)
  ·obtain rfl:i=M.length:=by omega
   rw[dd (by omega),mD];have u:=Bt b c M.length;have e:=IP (g:=g) b c M.length;rw[mD]at u e;have a:=af3 (g:=g) b c A;have w:max (aa ((sp-sm (M.map fD))*gC g)) 0=room g sp M:=by
    unfold room gC;cases g
    ·simp only[jf,pt];rw[bK (by omega) (by omega)];omega
    ·simp only[AT];rw[bK (by omega) (by omega)];omega
   rw[w];by_cases p:(O M M.length).length=0
   ·rw[lp p,lp (by simp[p])]
   ·rw[kc p,kc (by rw[ajC];omega)];unfold oK;by_cases l:fe g M<1000
    ·rw[di l,lp l];have d:=aci (room g sp M) (fe g M);have C:0≤room g sp M / 1000*fe g M∧room g sp M / 1000*fe g M≤1125900955419*1000:=⟨ak7 (by omega) e.1,aly (by omega) (by omega) e.1 (by omega)⟩;have v:0≤room g sp M % 1000*fe g M∧room g sp M % 1000*fe g M≤1000*1000:=⟨ak7 (by omega) e.1,aly (by omega) (by omega) e.1 (by omega)⟩;rw[alc a.1,al8 a.1];rw[bK (n:=room g sp M / 1000) (by omega) (by omega),bK (n:=room g sp M / 1000*fe g M) (by omega) (by omega),bK (n:=room g sp M % 1000*fe g M) (by omega) (by omega),alc v.1,
      bK (n:=room g sp M % 1000*fe g M / 1000) (by omega) (by omega),bK (by omega) (by omega),d]
    ·rw[dd l,kc l]
def c8(g:Bool)(sp:Int)(M:List It):ck:=(O M M.length).map fun j=>ns g (M.getD j.toNat default).1 ((parts g sp M).getD j.toNat default)
def jg(g:Bool)(sp:Int)(M:List It):ck:=(O M M.length).map fun j=>(parts g sp M).getD j.toNat default
def ir(g:Bool)(sp:Int)(M:List It):ck:=(O M M.length).map fun j=>nH g (M.getD j.toNat default) ((parts g sp M).getD j.toNat default)
theorem BK{α:Type}[Inhabited α](f:Int→α)(l:ck){k}(a:k<l.length):(l.map f).getD k default=f (l.getD k default):=by
 grind
theorem abH(b:Ok M)(r:aV g M L)(U:M.length≤19){sp:Int}:∀(m i:Nat),i≤(O M M.length).length→(O M M.length).length<m+i →
  tZ K n L (gC g) (O M M.length) m (sm ((ir g sp M).take i)) (i:Int) ((c8 g sp M).take i++(jg g sp M).drop i)=rd K n (O M M.length) (change g sp M) (c8 g sp M) n 0 L:=by
 have W:=CQ M M.length;intro m
 induction m with
 | zero=>intro i E F;omega
 | succ m Q =>
  intro i E F;simp only[tZ,wY,r.len];have t:(c8 g sp M).length=(O M M.length).length:=by simp[c8]
  have u:(jg g sp M).length=(O M M.length).length:=by simp[jg]
  have V:(ir g sp M).length=(O M M.length).length:=by simp[ir]
  by_cases hi:i<(O M M.length).length
  ·obtain⟨j,e,f,J⟩:=Pr hi;have N:=r.at_ j f;have a:=b.at f;have h:=Ov (g:=g) b sp f;have c:=Sp (g:=g) a h;have G:=CW a (ns g (M.getD j default).1 ((parts g sp M).getD j default));have H:=a.l;have o:((c8 g sp M).take i++(jg g sp M).drop i).length=(O M M.length).length:=by simp[t,u];omega
   have S:(jg g sp M).getD i default=(parts g sp M).getD j default:=by unfold jg;rw[BK _ _ hi,e,Int.toNat_natCast]
   have v2:(c8 g sp M).getD i default=ns g (M.getD j default).1 ((parts g sp M).getD j default):=by unfold c8;rw[BK _ _ hi,e,Int.toNat_natCast]
   have T:(ir g sp M).getD i default=cl (M.getD j default).1 ((c8 g sp M).getD i default)-(c8 g sp M).getD i default:=by
    rw[v2];unfold ir;rw[BK _ _ hi,e,Int.toNat_natCast];unfold nH;rw[J];simp
   have q:(jg g sp M).drop i=(parts g sp M).getD j default::(jg g sp M).drop (i+1):=by rw[l3 (by omega),← bN (by omega),S]
   have C:((c8 g sp M).take i++(jg g sp M).drop i).getD i default=(parts g sp M).getD j default:=by
    rw[q];exact QSort.gd (by simp;omega)
   rw[di (by omega),cD (by omega),eO,e,o,cD (by omega),cD (by omega),eO,C,N.it];simp only[sb];have d:aa ((M.getD j default).1.aB+aa (gC g*(parts g sp M).getD j default))=(c8 g sp M).getD i default:=by
    rw[v2];have:=a.b;unfold ns at c⊢;unfold gC;cases g
    ·simp only[jf,pt]at c⊢;rw[bK (n := -1*(parts false sp M).getD j default) (by omega) (by omega),bK (by omega) (by omega)];omega
    ·simp only[AT]at c⊢;rw[bK (n:=1*(parts true sp M).getD j default) (by omega) (by omega),bK (by omega) (by omega)];omega
   rw[d];have z:List.set ((c8 g sp M).take i++(jg g sp M).drop i) i ((c8 g sp M).getD i default)=(c8 g sp M).take (i+1)++(jg g sp M).drop (i+1):=by
    rw[q,iU (by omega)];have:i=((c8 g sp M).take i).length:=by simp;omega
    conv=>lhs;arg 2;rw[this]
    simp
   rw[z];have s9:((c8 g sp M).take (i+1)++(jg g sp M).drop (i+1)).length=(O M M.length).length:=by simp[t,u];omega
   have D:((c8 g sp M).take (i+1)++(jg g sp M).drop (i+1)).getD i default=(c8 g sp M).getD i default:=by
    rw[iU (by omega),u3];exact QSort.gd (by simp;omega)
   rw[cD (by omega),s9,cD (by omega),D];simp only[pN,sb];have v:min (max ((c8 g sp M).getD i default) (M.getD j default).1.Min) (M.getD j default).1.Max=cl (M.getD j default).1 ((c8 g sp M).getD i default):=rfl;rw[v];have A:aa (cl (M.getD j default).1 ((c8 g sp M).getD i default)-(c8 g sp M).getD i default)=(ir g sp M).getD i default:=by rw[T];rw[v2];exact bK (by omega) (by omega)
   have p:∀i:Nat,-(1000*4294967296)≤sm ((ir g sp M).take i)∧sm ((ir g sp M).take i)≤1000*4294967296:=by
    intro i;have:=Pv (B:=4294967296) (by omega) ((ir g sp M).take i) (fun x l=>by
     have l:=u6 l;obtain⟨y,P,rfl⟩:=Dy.1 l;obtain⟨k,s,rfl,R⟩:=Lb.1 P;rw[Int.toNat_natCast];have a:=b.at s;have h:=Ov (g:=g) b sp s;have c:=Sp (g:=g) a h;have G:=CW a (ns g (M.getD k default).1 ((parts g sp M).getD k default));have:=a.l;unfold nH;rw[R];simp only[jf,pt];omega)
    have I:((ir g sp M).take i).length≤1000:=by simp;omega
    omega
   have X:=p (i+1);have w:sm ((ir g sp M).take (i+1))=sm ((ir g sp M).take i)+(ir g sp M).getD i default:=by rw[iU (by omega),lW];simp[sm]
   rw[A,bK (n:=sm ((ir g sp M).take i)+(ir g sp M).getD i default) (by omega) (by omega),← w,wn (n:=(i:Int)+1) (k:=i+1) (by omega) (by omega),cD (by omega),cD (by omega)];exact Q (i+1) (by omega) (by omega)
  ·rw[dd (by omega)];rw[Dj (by omega),Dj (by omega),mo (by omega),List.append_nil];rw[Z9];rfl
theorem aj8(R:Ok M)(W:M.length≤19){sp:Int}:∀(m i:Nat) (L:ee),i≤(O M M.length).length→(O M M.length).length<m+i→L.length=M.length →
  (∀k,k<M.length→Rl g (if (k:Int)∈(O M M.length).take i then (round g sp M).getD k default else M.getD k default) (L.getD k default)) →
  ∃F,aV g (round g sp M) F∧rd K n (O M M.length) (change g sp M) (c8 g sp M) m (i:Int) L=some (true,F):=by
 have Y:=CQ M M.length;have V:(c8 g sp M).length=(O M M.length).length:=by simp[c8]
 intro m
 induction m with
 | zero=>intro i L P Q;omega
 | succ m H =>
  intro i L P Q u D;simp only[rd,AK];by_cases hi:i<(O M M.length).length
  ·obtain⟨j,e,t,G⟩:=Pr hi;have f:=R.at t;have v2:(c8 g sp M).getD i default=ns g (M.getD j default).1 ((parts g sp M).getD j default):=by unfold c8;rw[BK _ _ hi,e,Int.toNat_natCast]
   have A:(j:Int) ∉ (O M M.length).take i:=by
    intro p;obtain⟨k,U,X,I⟩:=QSort.OO p;have:=QSort.B0 (abC M M.length) U hi;unfold QSort.at_ at this I;rw[I,e]at this;omega
   have s:=D j t;rw[kc A]at s;have E:aa ((i:Int)+1)=((i+1:Nat):Int):=wn (by omega) (by omega);rw[di (by omega),cD (by omega),eO,e,u,cD (by omega),eO,V];simp only[cD (show(0:Int)≤(i:Int)∧(i:Int)<((O M M.length).length:Nat) by omega),pN,sb,s.it,nE,xz,u,E,Int.toNat_natCast,e];have N:min (max ((c8 g sp M).getD i default) (M.getD j default).1.Min) (M.getD j default).1.Max=cl (M.getD j default).1 ((c8 g sp M).getD i default):=rfl;rw[N];have B:(round g sp M).getD j default=gi g (change g sp M) (M.getD j default) ((parts g sp M).getD j default):=by
    rw[bN (by rw[mG];exact t),FC g sp M t,bN t]
   have l:∀k,k<M.length→k≠j→((k:Int)∈(O M M.length).take (i+1)↔(k:Int)∈(O M M.length).take i):=by
    intro k f d;rw[iU hi,e,n5,ajv];constructor
    ·rintro (h|h)
     ·exact h
     ·omega
    ·exact .inl
   have C:(j:Int)∈(O M M.length).take (i+1):=by rw[iU hi,e];simp
   have J:decide (j<M.length)=true:=by simpa using t
   by_cases x:lH (change g sp M) (ns g (M.getD j default).1 ((parts g sp M).getD j default)) (cl (M.getD j default).1 (ns g (M.getD j default).1 ((parts g sp M).getD j default)))=true
   ·-- it gets its size
    have r:(round g sp M).getD j default=((M.getD j default).1,some (cl (M.getD j default).1 ((c8 g sp M).getD i default))):=by rw[B,v2];unfold gi;rw[G,kc (by simp),lp x]
    have c:=H (i+1) (List.set (List.set L j ({ (List.getD L j default)with size:=cl (M.getD j default).1 ((c8 g sp M).getD i default) }:aZ)) j ({ (List.getD (List.set L j ({ (List.getD L j default)with size:=cl (M.getD j default).1 ((c8 g sp M).getD i default) }:aZ)) j default)with fixed:=true }:aZ)) (by omega) (by omega) (by simpa using u) (fun k f=>by
     by_cases d:k=j
     ·subst d;rw[lp C,r];have:List.getD (List.set L k ({ (List.getD L k default)with size:=cl (M.getD k default).1 ((c8 g sp M).getD i default) }:aZ)) k default=({ (List.getD L k default)with size:=cl (M.getD k default).1 ((c8 g sp M).getD i default) }:aZ):=by
       rw[bN (by simp;omega)];simp
      rw[this];have:∀z:aZ,List.getD (List.set (List.set L k ({ (List.getD L k default)with size:=cl (M.getD k default).1 ((c8 g sp M).getD i default) }:aZ)) k z) k default=z:=by
       intro z;rw[bN (by simp;omega)];simp
      rw[this];exact⟨s.it,s.f,s.w,rfl,fun n S=>Option.some.inj S⟩
     ·have p:=D k f;have:∀a b:aZ,List.getD (List.set (List.set L j a) j b) k default=L.getD k default:=by
       intro a b;rw[bN (by simp;omega),bN (by omega)];simp[List.getElem_set,show ¬ j=k by omega]
      rw[this];by_cases o:(k:Int)∈(O M M.length).take i
      ·rw[lp ((l k f d).2 o)];rwa[lp o]at p
      ·rw[kc (fun h=>o ((l k f d).1 h))];rwa[kc o]at p)
    simp only[s.it]at c;unfold lH at x;rw[q6,← v2]at x;simp only[AT,J,ba];by_cases v:change g sp M=0
    ·rw[lp (by simp[v])];exact c
    ·rw[kc (by simp[v])];by_cases q:change g sp M>0
     ·rw[di q,di (show cl (M.getD j default).1 ((c8 g sp M).getD i default)>(c8 g sp M).getD i default by omega)];exact c
     ·rw[dd q,di (show change g sp M<0 by omega),di (show cl (M.getD j default).1 ((c8 g sp M).getD i default)<(c8 g sp M).getD i default by omega)];exact c
   ·have r:(round g sp M).getD j default=M.getD j default:=by rw[B];unfold gi;rw[G,kc (by simp),kc x]
    have c:=H (i+1) L (by omega) (by omega) u (fun k f=>by
     by_cases d:k=j
     ·subst d;rw[lp C,r];exact s
     ·have p:=D k f;by_cases o:(k:Int)∈(O M M.length).take i
      ·rw[lp ((l k f d).2 o)];rwa[lp o]at p
      ·rw[kc (fun h=>o ((l k f d).1 h))];rwa[kc o]at p)
    have y:lH (change g sp M) (ns g (M.getD j default).1 ((parts g sp M).getD j default)) (cl (M.getD j default).1 (ns g (M.getD j default).1 ((parts g sp M).getD j default)))=false:=by simpa using x
    unfold lH at y;rw[decide_eq_false_iff_not,← v2]at y;simp only[AT,jf,pt];rw[kc (by simp;omega)];by_cases q:change g sp M>0
    ·rw[di q,dd (show ¬ cl (M.getD j default).1 ((c8 g sp M).getD i default)>(c8 g sp M).getD i default by omega),dd (show ¬ change g sp M<0 by omega)];exact c
    ·rw[dd q];by_cases w:change g sp M<0
     ·rw[di w,dd (show ¬ cl (M.getD j default).1 ((c8 g sp M).getD i default)<(c8 g sp M).getD i default by omega)];exact c
     ·rw[dd w];exact c
  ·rw[dd (by omega)];refine⟨L,⟨by rw[u,mG],fun k f=>?_⟩,rfl⟩;rw[mG]at f;have p:=D k f;rw[Dj (by omega)]at p;by_cases o:(k:Int)∈O M M.length
   ·rwa[lp o]at p
   ·rw[kc o]at p;have T:(M.getD k default).2.isSome=true:=by
     rcases Bool.eq_false_or_eq_true (M.getD k default).2.isSome with h|h
     ·exact h
     ·exact absurd (Lb.2 ⟨k,f,rfl,h⟩) o
    have:(round g sp M).getD k default=M.getD k default:=by
     rw[bN (by rw[mG];exact f),FC g sp M f,← bN f];unfold gi;rw[lp T]
    rw[this];exact p
theorem ab9 M:opens M=(O M M.length).length:=by
 have:∀n,n≤M.length→(M.take n).countP (fun p=>!p.2.isSome)=(O M n).length:=by
  intro n
  induction n with
  | zero=>intro _;rfl
  | succ n a =>
   grind[iU,AA]
 have h:=this M.length (by omega);rw[mD]at h;exact h
theorem afd{lvl:Nat}(c:Ok M)(b:aV g M L)(f:M.length≤19){sp:Int}(o : -1125899906842624≤sp∧sp≤1125899906842624)(m:10001<n)(i:20010≤lvl):
  if opens M=0 then tQ (KN lvl) n L sp (gC g)=some (false,L) else ∃a,aV g (round g sp M) a∧tQ (KN lvl) n L sp (gC g)=some (true,a):=by
 have h:=afP (K:=KN lvl) (n:=n) c b f o n 0 (by omega) (by omega);have j:sp-sm ((M.take 0).map fD)=sp:=by simp[sm]
 have r:=CQ M M.length;unfold tQ;rw[j,show fe g (M.take 0)=0 from rfl,show((0:Nat):Int)=0 from rfl,Gu,show op ((M.take 0).map (ge g))=[] from rfl]at h;rw[h,← ab9];by_cases d:opens M=0
 ·rw[lp d,lp d]
 ·rw[kc d,kc d];unfold uu;have pl:=Gw g M M.length (la _);rw[mD]at pl;rw[Sh.nt _ _ (by omega) m i,aeD c,sb];have e:=abH (K:=KN lvl) (n:=n) c b f (sp:=sp) n 0 (by omega) (by omega);rw[ak6,ak6,List.drop_zero,IT,show sm []=0 from rfl,show((0:Nat):Int)=0 from rfl]at e;unfold jg at e;rw[e];obtain⟨a,p,q⟩:=aj8 (K:=KN lvl) (n:=n) (g:=g) c f (sp:=sp) n 0 L (by omega) (by omega) b.len (fun k l=>by rw[kc (by simp)];exact b.at_ k l);exact⟨a,p,q⟩
end Rs
namespace Rs
open Sh (share bV dz mx j9 mP)
open QSort (wn cD di dd sb)
variable{K:Kn}{n:Nat}
theorem ac4(x:bC):AC K n x=some (dk x):=rfl
theorem GP(x:bC):wj K n x=some (hyp x):=rfl
theorem Gi(x:bC):0≤hyp x∧hyp x≤1048576:=by
 have h:=J1 x none (.inl rfl);have a:=CW h (dk x).aB;have b:=h.l
 dsimp only at a b
 unfold hyp;omega
def dC(x:bC):aZ:=⟨dk x,0,0,hyp x,false⟩
theorem OZ(l:em)(d:l.length≤19)(n:Nat):0≤sm ((l.take n).map hyp)∧sm ((l.take n).map hyp)≤1048576000:=by
 refine⟨j9 _ (fun x a=>?_),?_⟩
 ·obtain⟨y,_,rfl⟩:=Dy.1 a;exact(Gi y).1
 ·have:=mP (c:=1048576) ((l.take n).map hyp) (fun x a=>by obtain⟨y,_,rfl⟩:=Dy.1 a;exact(Gi y).2);have b:(((l.take n).map hyp).length:Int)≤1000:=by simp;omega
  have:=alP b (show(0:Int)≤1048576 by omega);omega
theorem ado(l:em)(sp:Int)(a:l.length≤19):∀(m i:Nat),i≤l.length→l.length<m+i →
  sg K n l sp m (sm ((l.take i).map hyp)) (i:Int) ((l.take i).map dC++List.replicate (l.length-i) iL)=uq K n sp (l.map dC) (gC (k9 l sp)):=by
 intro m
 induction m with
 | zero=>intro i f g;omega
 | succ m j =>
  intro i f g;simp only[sg,yf];by_cases hi:i<l.length
  ·obtain⟨k,d⟩:∃k,l.length-i=k+1:=⟨l.length-i-1,by omega⟩;have o:((l.take i).map dC++List.replicate (l.length-i) iL).length=l.length:=by simp;omega
   have e:List.set ((l.take i).map dC++List.replicate (l.length-i) iL) i (dC (l.getD i default))=(l.take (i+1)).map dC++List.replicate (l.length-(i+1)) iL:=by
    rw[d,al4,show l.length-(i+1)=k by omega,iU hi,MO];have:i=((l.take i).map dC).length:=by simp;omega
    conv=>lhs;arg 2;rw[this]
    simp
   have p:((l.take (i+1)).map dC++List.replicate (l.length-(i+1)) iL).length=l.length:=by simp;omega
   have c:((l.take (i+1)).map dC++List.replicate (l.length-(i+1)) iL).getD i default=dC (l.getD i default):=by
    rw[iU hi,MO,u3,List.getD_eq_getElem?_getD,z3 (by simp;omega)];have:i-((l.take i).map dC).length=0:=by simp;omega
    rw[this];rfl
   have q:=OZ l a i;have r:=OZ l a (i+1);have b:sm ((l.take (i+1)).map hyp)=sm ((l.take i).map hyp)+hyp (l.getD i default):=by rw[iU hi,MO,lW];simp[sm]
   rw[di (by omega),cD (by omega),eO,ac4,GP];simp only[sb];rw[o,cD (by omega)];rw[show({ (iL:aZ)with Item:=dk (l.getD i default),size:=hyp (l.getD i default) }:aZ)=dC (l.getD i default) from rfl,e,p,cD (by omega),c];rw[show(dC (l.getD i default)).size=hyp (l.getD i default) from rfl,bK (by omega) (by omega),← b,wn (n:=(i:Int)+1) (k:=i+1) (by omega) (by omega)];exact j (i+1) (by omega) (by omega)
  ·obtain rfl:i=l.length:=by omega
   rw[dd (by omega),mD,amE,alA,List.append_nil];by_cases h:sm (l.map hyp)<sp
   ·rw[di h];unfold k9 gC;rw[lp (by simpa using h)]
   ·rw[dd h];unfold k9 gC;rw[kc (by simpa using h)]
def g8(g:Bool)(x:bC):aZ:=⟨dk x,mS g (dk x),n9 g (dk x),hyp x,jh g (dk x) (hyp x)⟩
theorem ZO{α:Type}(L:List α)(i:Nat)(a b:α):List.set (List.set L i a) i b=List.set L i b:=by simp
theorem aiR{L:ee}{i:Nat}{a:aZ}(h:i<L.length):(List.set L i a).getD i default=a:=by rw[bN (by simpa using h)];simp
theorem adL(g:Bool)(l:em)(sp:Int)(w:l.length≤19):∀(m i:Nat),i≤l.length→l.length<m+i →
  vP K n sp (l.map dC) (gC g) m (i:Int) ((l.take i).map (g8 g)++(l.drop i).map dC)=rf K n sp (gC g) n (l.map (g8 g)):=by
 intro m
 induction m with
 | zero=>intro i r s;omega
 | succ m u =>
  intro i r s;simp only[vP,xc,nw];by_cases hi:i<l.length
  ·have f:(l.drop i).map dC=dC (l.getD i default)::(l.drop (i+1)).map dC:=by rw[l3 hi,bN hi];rfl
   have v:((l.take i).map (g8 g)++(l.drop i).map dC).length=l.length:=by simp;omega
   have o:((l.take i).map (g8 g)++(l.drop i).map dC).getD i default=dC (l.getD i default):=by
    rw[f,List.getD_eq_getElem?_getD,z3 (by simp;omega)];have:i-((l.take i).map (g8 g)).length=0:=by simp;omega
    rw[this];rfl
   have p:List.set ((l.take i).map (g8 g)++(l.drop i).map dC) i (g8 g (l.getD i default))=(l.take (i+1)).map (g8 g)++(l.drop (i+1)).map dC:=by
    rw[f,iU hi,MO];have:i=((l.take i).map (g8 g)).length:=by simp;omega
    conv=>lhs;arg 2;rw[this]
    simp
   have d:=J1 (l.getD i default) none (.inl rfl);have x:=JL (g:=false) d;have j:=d.b;have e:=d.s;have t:0≤(dk (l.getD i default)).aB*(dk (l.getD i default)).Shrink∧(dk (l.getD i default)).aB*(dk (l.getD i default)).Shrink≤1048576*1048576:=⟨ak7 j.1 e.1,aly j.2 e.2 e.1 (by omega)⟩;rw[di (by omega),cD (by omega)];simp only[eO,sb,Bj,xX,ZO,akT,v,aiR (show i<((l.take i).map (g8 g)++(l.drop i).map dC).length by omega),o];have c:aa ((i:Int)+1)=((i+1:Nat):Int):=wn (by omega) (by omega);have q:aa (Int.tdiv (aa ((dC (l.getD i default)).Item.aB*(dC (l.getD i default)).Item.Shrink)) 1000)=n9 false (dk (l.getD i default)):=by
    show aa (Int.tdiv (aa ((dk (l.getD i default)).aB*(dk (l.getD i default)).Shrink)) 1000)=_;rw[bK (n:=(dk (l.getD i default)).aB*(dk (l.getD i default)).Shrink) (by omega) (by omega),alc t.1,bK (by omega) (by omega)];rfl
   have k:decide (i<l.length)=true:=by simpa using hi
   simp only[c,q,k,ba];have:=u (i+1) (by omega) (by omega);rw[←p]at this;rw[←this];cases g
   ·rw[dd (show ¬ gC false>0 by decide)];by_cases a:(dk (l.getD i default)).aB<hyp (l.getD i default)
    ·have:(decide ((dC (l.getD i default)).Item.aB<(dC (l.getD i default)).size))=true:=decide_eq_true a;have b:jh false (dk (l.getD i default)) (hyp (l.getD i default))=true:=by unfold jh;rw[kc (by simp),q6];exact .inr a
     simp only[this,AT];unfold g8;rw[b];rfl
    ·have:(decide ((dC (l.getD i default)).Item.aB<(dC (l.getD i default)).size))=false:=decide_eq_false a;have b:jh false (dk (l.getD i default)) (hyp (l.getD i default))=((dk (l.getD i default)).Shrink == 0):=by unfold jh;rw[kc (by simp),Bool.eq_iff_iff,q6,ajC];exact⟨fun h=>h.resolve_right a,.inl⟩
     simp only[this,jf,pt];unfold g8;rw[b];rfl
   ·rw[di (show gC true>0 by decide)];by_cases a:(dk (l.getD i default)).aB>hyp (l.getD i default)
    ·have:(decide ((dC (l.getD i default)).Item.aB>(dC (l.getD i default)).size))=true:=decide_eq_true a;have b:jh true (dk (l.getD i default)) (hyp (l.getD i default))=true:=by unfold jh;rw[lp rfl,q6];exact .inr a
     simp only[this,AT];unfold g8;rw[b];rfl
    ·have:(decide ((dC (l.getD i default)).Item.aB>(dC (l.getD i default)).size))=false:=decide_eq_false a;have b:jh true (dk (l.getD i default)) (hyp (l.getD i default))=((dk (l.getD i default)).Grow == 0):=by unfold jh;rw[lp rfl,Bool.eq_iff_iff,q6,ajC];exact⟨fun h=>h.resolve_right a,.inl⟩
     simp only[this,jf,pt];unfold g8;rw[b];rfl
  ·obtain rfl:i=l.length:=by omega
   rw[dd (by omega),mD,mo (la _),Db,List.append_nil]
theorem ab3(g:Bool)(l:em):aV g (start g l) (l.map (g8 g)):=by
 refine⟨by simp[start],fun k c=>?_⟩;have b:k<l.length:=by simpa[start]using c
 rw[bN c,bN (by simpa using b)];have e:(start g l)[k]=(dk l[k],if jh g (dk l[k]) (hyp l[k])=true then some (hyp l[k]) else none):=by simp[start]
 rw[e,ald];refine⟨rfl,rfl,rfl,?_,fun n a=>?_⟩
 ·show jh g (dk l[k]) (hyp l[k])=_;cases h:jh g (dk l[k]) (hyp l[k])<;>simp
 ·cases h:jh g (dk l[k]) (hyp l[k])
  ·rw[h]at a;simp at a
  ·rw[h]at a;simpa[g8]using a
theorem WR(L:ee)(f:L.length≤19):∀(m i:Nat),i≤L.length→L.length<m+i →
  ul K n (false,L) m (i:Int) ((L.take i).map (fun (x:aZ)=>x.size)++List.replicate (L.length-i) 0)=some (L.map fun (x:aZ)=>x.size):=by
 intro m
 induction m with
 | zero=>intro i b c;omega
 | succ m d =>
  intro i b c;simp only[ul,yl];by_cases hi:i<L.length
  ·obtain⟨k,a⟩:∃k,L.length-i=k+1:=⟨L.length-i-1,by omega⟩;have e:((L.take i).map (fun (x:aZ)=>x.size)++List.replicate (L.length-i) 0).length=L.length:=by simp;omega
   rw[di (by omega),cD (by omega),eO,e,cD (by omega),a,Sh.Co (by simp;omega)];have:(L.take i).map (fun (x:aZ)=>x.size)++[(L.getD i default).size]=(L.take (i+1)).map (fun (x:aZ)=>x.size):=by rw[iU hi,MO];rfl
   rw[this,wn (n:=(i:Int)+1) (k:=i+1) (by omega) (by omega),show k=L.length-(i+1) by omega];exact d (i+1) (by omega) (by omega)
  ·obtain rfl:i=L.length:=by omega
   rw[dd (by omega),mD,amE,alA,List.append_nil]
theorem abK{lvl:Nat}(g:Bool){sp:Int}(v : -1125899906842624≤sp∧sp≤1125899906842624)(s:10001<n)(f:20010≤lvl):∀(m:Nat) (M:List It) (L:ee),opens M<m→Ok M→aV g M L→M.length≤19 →
  rf (KN lvl) n sp (gC g) m L=some (fY (run g sp M.length M)):=by
 intro m
 induction m with
 | zero=>intro M L h;omega
 | succ m w =>
  intro M L h j a p;simp only[rf,zg];have c:=afd (lvl:=lvl) (n:=n) j a p v s f;by_cases b:opens M=0
  ·rw[lp b]at c;rw[c];simp only[sb,jf,pt];rw[Sh.Ir (by rw[a.len];omega) (by rw[a.len];omega),ba,eO];have:=WR (K:=KN lvl) (n:=n) L (by rw[a.len];omega) n 0 (by omega) (by rw[a.len];omega);rw[ak6,Db,IT,ale,show((0:Nat):Int)=0 from rfl]at this;rw[this,Aw b];congr 1;refine alz (by simp[fY,a.len]) (fun k d e=>?_);have o:k<M.length:=by simpa[fY]using e
   simp only[fY,ald];have l:=a.at_ k o;rw[bN o,bN (by simpa using d)]at l;have t:M[k].2.isSome=true:=by
    have:=amQ.1 b M[k] (qv _);cases h:M[k].2 with
    | none=>rw[h]at this;simp at this
    | some z=>rfl
   obtain⟨z,i⟩:=w3.1 t;rw[l.s z i,i];rfl
  ·rw[kc b]at c;obtain⟨q,d,e⟩:=c;rw[e];simp only[sb,AT];have u:=Rw (g:=g) (sp:=sp) b;rw[w (round g sp M) q (by omega) (ah9 j) d (by rw[mG];exact p)];congr 2;have r:run g sp (M.length+1) M=run g sp M.length (round g sp M):=by rw[run,kc b]
   rw[mG,← r];have:=N4 M;exact VQ _ _ _ (by omega) (by omega)
theorem nt{lvl:Nat}(l:em){sp:Int}(b:l.length≤19)(d : -1125899906842624≤sp∧sp≤1125899906842624)(c:10001<n)(a:20010≤lvl):jy (KN lvl) n l sp=some (resolve l sp):=by
 unfold jy;rw[show min (max sp (-1125899906842624)) 1125899906842624=sp by omega];simp only[sb];rw[Sh.Ir (by omega) (by omega),ba,eO];have:=ado (K:=KN lvl) (n:=n) l sp b n 0 (by omega) (by omega);rw[ak6,Db,Db,IT,ale,show((0:Nat):Int)=0 from rfl,show sm []=0 from rfl]at this;rw[this];unfold uq;have:=adL (K:=KN lvl) (n:=n) (k9 l sp) l sp b n 0 (by omega) (by omega);rw[ak6,Db,IT,List.drop_zero,show((0:Nat):Int)=0 from rfl]at this;rw[this];have e:(start (k9 l sp) l).length=l.length:=by simp[start]
 have:=N4 (start (k9 l sp) l);rw[abK (k9 l sp) d c a n (start (k9 l sp) l) _ (by omega) (akb _ _) (ab3 _ _) (by omega),e];rfl
end Rs
def mix{α:Type}(i:Nat)(N O:List α):List α:=N.take i++O.drop i
variable{α:Type}[Inhabited α]{i:Nat}{N O:List α}
theorem EA(h:N.length=O.length):(mix i N O).length=O.length:=by unfold mix;simp;omega
theorem Jg(h:N.length=O.length):mix O.length N O=N:=by unfold mix;rw[Dj (by omega),mo (la _),List.append_nil]
theorem abP(h:N.length=O.length){k:Nat}(a:k<i)(hi:i≤O.length):(mix i N O).getD k default=N.getD k default:=by
 unfold mix;rw[List.getD_eq_getElem?_getD,zt (by simp;omega),List.getElem?_take_of_lt a,List.getD_eq_getElem?_getD]
theorem aei(h:N.length=O.length)(hi:i<O.length):mix (i+1) N O=N.take i++N.getD i default::O.drop (i+1):=by
 unfold mix;rw[yk (by omega:i<N.length),bN (by omega:i<N.length),u3];rfl
theorem Kl(h:N.length=O.length)(hi:i<O.length):List.set (mix i N O) i (N.getD i default)=mix (i+1) N O:=by
 rw[aei h hi];unfold mix;rw[l3 hi];have:i=(N.take i).length+0:=by simp;omega
 conv=>lhs;arg 2;rw[this]
 rw[List.set_append_right _ _ (by omega),amp,List.set_cons_zero]
theorem adm(h:N.length=O.length)(hi:i<O.length):(mix (i+1) N O).getD i default=N.getD i default:=abP h (by omega) (by omega)
end Go.Proofs.YtocgkfoifehcbaaGreat
namespace Go.Proofs.YtocgkfoifehcbaaGreat
set_option linter.all false
open Go.RowKit
theorem ai6(K:Kn)(n:Nat)(L:dn)(C:(L.length:Int)≤9223372036854775807):∀(m:Nat) (i h:Int) (b:bc) (t:Bool) (s:bc) (l:dn),0≤i→i≤L.length→(L.length:Int)<m+i→((l.length:Int)+L.length)*584≤140737488355328+i*584 →
  ∃r,jM K n L m h t i b s l=some r∧(r.1.length:Int)=l.length+L.length-i∧(∀f∈r.1,f∈l∨∃g∈L,f.Kids=g.Kids):=by
 intro m
 induction m with
 | zero=>intro i _ _ _ _ _ q u v _;omega
 | succ m A =>
  intro i h b t s l q u v B;simp only[jM,ru];by_cases hi:i<(L.length:Int)
  ·have k:=dh q hi;have z:aa (i+1)=i+1:=bK (by omega) (by omega);have c:fits (l.length+1) 584=true:=dc (by omega) (by omega);have key:∀(j:Int) (p:Bool) (e a:bc) (y:Int),∃r,jM K n L m j p (i+1) e a (l++[{ L.getD i.toNat default with Y:=y }])=some r∧(r.1.length:Int)=l.length+L.length-i∧(∀f∈r.1,f∈l∨∃g∈L,f.Kids=g.Kids):=by
    intro j p e a y;obtain⟨r,x,d,w⟩:=A (i+1) j e p a (l++[{ L.getD i.toNat default with Y:=y }]) (by omega) (by omega) (by omega) (by simp only[ne,ls,ti];omega);refine⟨r,x,by rw[d];simp only[ne,ls,ti];omega,fun f c=>?_⟩;rcases w f c with hm|hm
    ·rcases n5.1 hm with hm|hm
     ·exact .inl hm
     ·right;have o:i.toNat<L.length:=by omega
      refine⟨L[i.toNat],qv _,?_⟩;simp only[ol,akP,alX]at hm;rw[hm,bN o]
    ·exact .inr hm
   simp only[hi,amT,AT,k,ba,kD,gz,iN,ur,vT,uD,ls,ti,IF,c,z]
   repeat (first|exact key _ _ _ _ _|split)
  ·have:decide (i<(L.length:Int))=false:=by simpa using hi
   simp only[this,jf,pt,rq];split<;>exact⟨_,rfl,by show(l.length:Int)=_;omega,fun f c=>.inl c⟩
theorem ON(K:Kn)(n:Nat)(L:dn)(i:L.length<n)(e:L.length*584≤140737488355328):∃r,mi K n L=some r∧r.1.length=L.length∧∀f∈r.1,∃g∈L,f.Kids=g.Kids:=by
 obtain⟨r,b,a,c⟩:=ai6 K n L (by omega) n 0 0 dB true dB [] (by omega) (by omega) (by omega) (by simp;omega);exact⟨r,b,by simp only[ti]at a;omega,fun f d=>(c f d).elim (fun h=>by cases h) (fun h=>h)⟩
theorem agI(s:aN):lO s s=true:=by simp[lO,fF]
theorem afT(s:bc):Eg s s=true:=by simp[Eg]
def cH(l:cB)(b:Int):Int×Bool :=
 if l.Kind=1 then (min (max l.Value (-1048576)) 1048576,true)
 else if l.Kind=2 then (min (max (aa (Int.tdiv (aa ((min (max b 0) 1048576)*(min (max l.Value (-1000000)) 1000000))) 10000)) (-1048576)) 1048576,true)
 else (0,false)
def dP(x:Int):Int:=min (max x 0) 1048576
section
variable(K:Kn)(n:Nat)
theorem tF(x:Int):gO K n x=some (dP x):=rfl
theorem gq(l:cB)(b:Int):dN K n l b=some (cH l b):=by
 unfold dN cH;by_cases a:l.Kind=1
 ·simp[a,su]
 ·by_cases c:l.Kind=2
  ·simp[c,su,gO]
  ·simp[a,c]
def i7(s:aN)(w c:Int):Int :=
 let m:=if (cH s.MaxWidth w).2=true then min (max c 0) (max (cH s.MaxWidth w).1 0) else max c 0
 if (cH s.MinWidth w).2=true then max m (cH s.MinWidth w).1 else m
theorem Ep(s:aN)(w c:Int):mT K n s w c=some (i7 s w c):=by
 unfold mT i7;simp only[gq,iN,Ao,xV]
 repeat (first|rfl|split)
def fO(s:aN)(w c:Int):bW :=
 ⟨⟨(cH s.Margin.a0 w).1,(cH s.Margin.a1 w).1,(cH s.Margin.a2 w).1,(cH s.Margin.a3 w).1⟩,⟨dP s.Border.a0,dP s.Border.a1,dP s.Border.a2,dP s.Border.a3⟩,
  ⟨max (cH s.Padding.a0 w).1 0,max (cH s.Padding.a1 w).1 0,max (cH s.Padding.a2 w).1 0,max (cH s.Padding.a3 w).1 0⟩,c⟩
theorem sO(s:aN)(w c:Int):jA K n s w c=some (fO s w c):=by
 simp only[jA,gq,tF,iN,fO]
def gV(z:bW):Int:=aa ((aa ((aa ((aa ((aa ((aa (z.Content+z.Margin.a1))+z.Margin.a3))+z.Border.a1))+z.Border.a3))+z.Padding.a1))+z.Padding.a3)
theorem t7(z:bW):kH K n z=some (gV z):=rfl
def Df(s:aN)(a:Int)(e:bW)(c:Int):bW :=
 let r:=aa (a-gV { e with Content:=c })
 if r≤0 then { e with Content:=c }
 else if (cH s.Margin.a3 a).2=false∧(cH s.Margin.a1 a).2=false then { e with Content:=c,Margin:=⟨e.Margin.a0,aa (r-aa (Int.tdiv r 2)),e.Margin.a2,aa (Int.tdiv r 2)⟩ }
 else if (cH s.Margin.a3 a).2=false then { e with Content:=c,Margin:=⟨e.Margin.a0,e.Margin.a1,e.Margin.a2,r⟩ }
 else if (cH s.Margin.a1 a).2=false then { e with Content:=c,Margin:=⟨e.Margin.a0,r,e.Margin.a2,e.Margin.a3⟩ }
 else { e with Content:=c }
def cu(s:aN)(w:Int):bW :=
 let a:=dP w
 let e:=fO s a 0
 let x:=if (cH s.Width a).2=true then (cH s.Width a).1 else aa (a-gV e)
 Df s a e (i7 s a x)
theorem abF(s:aN)(a:Int)(e:bW)(x:Int):tv K n s a e x=some (Df s a e (i7 s a x)):=by
 simp only[tv,Ep,t7,iN,gq,Df];cases c:(cH s.Margin.a3 a).2<;>cases b:(cH s.Margin.a1 a).2<;>simp[xE,px,c,b]<;>split<;>rfl
theorem DE(s:aN)(w:Int):qe K n s w=some (cu s w):=by
 simp only[qe,tF,sO,gq,t7,iN,abF,cu];cases h:(cH s.Width (dP w)).2<;>simp[h]
def gX(l:cB):Prop := -16777216≤l.Value∧l.Value≤16777216
theorem iK(l:cB):∃b,fU K n l=some b∧(b=true→gX l):=by
 unfold fU zf;by_cases h:l.Value ≥ -16777216
 ·simp only[h,amT,AT];exact⟨_,rfl,fun e=>⟨h,lc e⟩⟩
 ·simp only[h,alh,jf,pt];exact⟨_,rfl,fun e=>by cases e⟩
structure pK(x:ce):Prop where
 text:(x.Text.size:Int)≤60
 left:gX x.Style.Left
 top:gX x.Style.Top
 width:gX x.Style.Width
 height:gX x.Style.Height
 minw:gX x.Style.MinWidth
 maxw:gX x.Style.MaxWidth
 basis:gX x.Style.Basis
 lh:0≤x.Style.LineHeight∧x.Style.LineHeight≤65536
 fs:0≤x.Style.FontSize∧x.Style.FontSize≤65536
 grow:0≤x.Style.Grow∧x.Style.Grow≤1048576
 shrink:0≤x.Style.Shrink∧x.Style.Shrink≤1048576
 m0:gX x.Style.Margin.a0
 m1:gX x.Style.Margin.a1
 m2:gX x.Style.Margin.a2
 m3:gX x.Style.Margin.a3
 p0:gX x.Style.Padding.a0
 p1:gX x.Style.Padding.a1
 p2:gX x.Style.Padding.a2
 p3:gX x.Style.Padding.a3
theorem aky(L:h8)(m:Int)(a:Int→Option Bool)(i:Int)(h0:0≤i)(hi:i<L.length):nC K n L m a i=some false∨(pK (L.getD i.toNat default)∧nC K n L m a i=a (aa (i+1))):=by
 unfold nC;simp only[hi,amT,AT,dh h0 hi,ba];generalize hx:L.getD i.toNat default=x;have j5:∀b,vE K n L m i a b=if b=true then some false else a (aa (i+1)):=fun b=>rfl;obtain⟨B,I,R⟩:=iK K n x.Style.Left;obtain⟨C,J,S⟩:=iK K n x.Style.Top;obtain⟨D,M,T⟩:=iK K n x.Style.Width;obtain⟨E,N,U⟩:=iK K n x.Style.Height;obtain⟨F,O,V⟩:=iK K n x.Style.MinWidth;obtain⟨G,P,W⟩:=iK K n x.Style.MaxWidth;obtain⟨H,Q,X⟩:=iK K n x.Style.Basis;obtain⟨c0,Y,k0⟩:=iK K n x.Style.Margin.a0;obtain⟨c1,Z,k1⟩:=iK K n x.Style.Margin.a1;obtain⟨c,g2,k2⟩:=iK K n x.Style.Margin.a2;obtain⟨d,g3,k3⟩:=iK K n x.Style.Margin.a3;obtain⟨e,q0,r0⟩:=iK K n x.Style.Padding.a0;obtain⟨f,q1,r1⟩:=iK K n x.Style.Padding.a1;obtain⟨g,q2,r2⟩:=iK K n x.Style.Padding.a2;obtain⟨j,q3,r3⟩:=iK K n x.Style.Padding.a3;have k:fc K n L m i a true=some false:=rfl;have j1:fc K n L m i a false=some false∨((c0=true∧c1=true∧c=true∧d=true∧e=true∧f=true∧g=true∧j=true)∧fc K n L m i a false=a (aa (i+1))):=by
  simp only[fc,AX,zr,Bi,vE,hx,Y,Z,g2,g3,q0,q1,q2,q3,iN];cases c0<;>cases e<;>cases c1<;>cases f<;>cases c<;>cases g<;>cases d<;>cases j<;>simp
 simp only[I,J,M,N,O,P,Q,iN,k];by_cases l:(x.Text.size:Int)>60
 ·left;simp[l]
 simp only[l,alh,jf,pt];cases B
 ·left;simp
 simp only[abM,jf,pt];cases C
 ·left;simp
 simp only[abM,jf,pt];cases D
 ·left;simp
 simp only[abM,jf,pt];cases E
 ·left;simp
 simp only[abM,jf,pt];cases F
 ·left;simp
 simp only[abM,jf,pt];cases G
 ·left;simp
 simp only[abM,jf,pt];cases H
 ·left;simp
 simp only[abM,jf,pt];by_cases o:x.Style.LineHeight<0
 ·left;simp[o]
 simp only[o,alh,jf,pt];by_cases p:x.Style.LineHeight>65536
 ·left;simp[p]
 simp only[p,alh,jf,pt];by_cases q:x.Style.FontSize<0
 ·left;simp[q]
 simp only[q,alh,jf,pt];by_cases r:x.Style.FontSize>65536
 ·left;simp[r]
 simp only[r,alh,jf,pt];by_cases s:x.Style.Grow<0
 ·left;simp[s]
 simp only[s,alh,jf,pt];by_cases t:x.Style.Grow>1048576
 ·left;simp[t]
 simp only[t,alh,jf,pt];by_cases u:x.Style.Shrink<0
 ·left;simp[u]
 simp only[u,alh,jf,pt];by_cases v:x.Style.Shrink>1048576
 ·left;simp only[v,amT];exact k
 simp only[v,alh];rcases j1 with h|⟨⟨w,y,z,A,p0,p1,p2,p3⟩,h⟩
 ·exact .inl h
 ·refine .inr ⟨⟨by omega,R rfl,S rfl,T rfl,U rfl,V rfl,W rfl,X rfl,⟨by omega,by omega⟩,⟨by omega,by omega⟩,⟨by omega,by omega⟩,⟨by omega,by omega⟩,k0 w,k1 y,k2 z,k3 A,r0 p0,r1 p1,r2 p2,r3 p3⟩,h⟩
theorem V3(L:h8)(mx:Int)(s:(L.length:Int)≤9223372036854775807):∀(m:Nat) (i:Int),0≤i→i≤L.length→(L.length:Int)<m+i →
  ∃b,qC K n L mx m i=some b∧(b=true→(L.length:Int)≤mx∧∀k,i.toNat≤k→k<L.length→pK (L.getD k default)):=by
 intro m
 induction m with
 | zero=>intro i a j l;omega
 | succ m r =>
  intro i a j l;show ∃b,nC K n L mx (qC K n L mx m) i=some b∧_;by_cases hi:i<(L.length:Int)
  ·rcases aky K n L mx (qC K n L mx m) i a hi with h|⟨h,g⟩
   ·exact⟨false,h,fun e=>by cases e⟩
   ·obtain⟨b,p,d⟩:=r (i+1) (by omega) (by omega) (by omega);rw[g,bK (by omega) (by omega)];refine⟨b,p,fun e=>⟨(d e).1,fun k o c=>?_⟩⟩;by_cases f:k=i.toNat
    ·subst f;exact h
    ·exact(d e).2 k (by omega) c
  ·have q:decide (i<(L.length:Int))=false:=by simpa using hi
   unfold nC;simp only[q,jf,pt];exact⟨_,rfl,fun e=>⟨lc e,fun k o c=>by omega⟩⟩
theorem SN(L:h8)(mx:Int)(f:(L.length:Int)≤9223372036854775807)(h:L.length<n):∃b,xr K n L mx=some b∧(b=true→(L.length:Int)≤mx∧∀x∈L,pK x):=by
 obtain⟨b,d,a⟩:=V3 K n L mx f n 0 (by omega) (by omega) (by omega);refine⟨b,d,fun e=>⟨(a e).1,fun x g=>?_⟩⟩;obtain⟨k,c,rfl⟩:=akV.1 g;have:=(a e).2 k (by simp) c;rwa[bN c]at this
end
theorem xJ{i:Nat}(h:i<1000000):aa ((i:Int)+1)=((i+1:Nat):Int):=by rw[bK (by omega) (by omega)];omega
theorem xI{i n:Nat}(h:i<n):decide ((i:Int)<(n:Int))=true:=by simpa using h
theorem C5{i n:Nat}(h:n≤i):decide ((i:Int)<(n:Int))=false:=by simpa using h
theorem qI{i n:Nat}(h:i<n):aO (i:Int) n=true:=dh (by omega) (by omega)
theorem drop_at'{α:Type}[Inhabited α]{L:List α}{i:Nat}(h:i<L.length):L.drop i=L.getD i default::L.drop (i+1):=by
 rw[bN h];exact l3 h
theorem fp{α:Type}[Inhabited α]{L:List α}{i:Nat}(h:i<L.length):L.getD i default∈L:=by
 rw[bN h];exact qv h
def hJ(k:ab):Bool:=k.Kind == 3||k.Style.Position != 2
def eP(k:ab):Bool:=k.Kind == 1||(k.Kind == 6||k.Kind == 7)
theorem QS(K:Kn)(n:Nat)(k:ab):jU K n k=some (hJ k):=by
 unfold jU hJ zl;cases h:k.Kind == 3<;>simp
theorem Tn(K:Kn)(n:Nat)(k:ab):wy K n k=some (eP k):=by
 unfold wy eP tS;cases h:k.Kind == 1<;>cases a:k.Kind == 6<;>simp
theorem acT(K:Kn)(n:Nat)(c:∀x,K.kR (Fv.fn 145) x=some (eP x))(L:d6)(f:L.length≤20):∀(m i:Nat),i≤L.length→L.length<m+i →
  ∃r,jY K n L (Fv.fn 145) m i=some r∧decide (r≥0)=(L.drop i).any eP:=by
 intro m
 induction m with
 | zero=>intro i a b;omega
 | succ m d =>
  intro i a b;simp only[jY,qh];by_cases hi:i<L.length
  ·rw[drop_at' hi];simp only[xI hi,AT,qI hi,ba,c,iN,Int.toNat_natCast,List.any_cons,xJ (show i<1000000 by omega)];cases g:eP (L.getD i default)
   ·simp only[jf,pt,alf];exact d (i+1) (by omega) (by omega)
   ·exact⟨_,rfl,by simp⟩
  ·have e:i=L.length:=by omega
   subst e;simp only[C5 (la _),jf,pt,List.drop_length];exact⟨_,rfl,by simp⟩
theorem WX(K:Kn)(n:Nat)(d:∀x,K.kR (Fv.fn 145) x=some (eP x))(L:d6)(c:L.length≤20)(e:20<n):lu K n L (Fv.fn 145)=some (L.any eP):=by
 obtain⟨r,a,b⟩:=acT K n d L c n 0 (by omega) (by omega);unfold lu wL;rw[show jY K n L (Fv.fn 145) n 0=some r from a];simp only[iN,b,List.drop_zero]
theorem ac9(K:Kn)(n:Nat)(b:ab)(h:b.Kids.length≤20):∀(m i:Nat) (a:d6),i≤b.Kids.length→b.Kids.length<m+i→a.length≤i →
  uy K n b m i a=(lu K n (a++(b.Kids.drop i).filter hJ) (Fv.fn 145)).bind fun v=>some (a++(b.Kids.drop i).filter hJ,v):=by
 intro m
 induction m with
 | zero=>intro i a d f;omega
 | succ m c =>
  intro i a d f g;simp only[uy,zI];by_cases hi:i<b.Kids.length
  ·rw[drop_at' hi];simp only[xI hi,AT,qI hi,ba,QS,iN,yS,Int.toNat_natCast,ls,ti,xJ (show i<1000000 by omega),akl];cases j:hJ (b.Kids.getD i default)
   ·simp only[jf,pt];exact c (i+1) a (by omega) (by omega) (by omega)
   ·simp only[AT];rw[dc (by omega) (by omega),ba,c (i+1) _ (by omega) (by omega) (by simp;omega)];simp only[u3,akS]
  ·have e:i=b.Kids.length:=by omega
   subst e;simp only[C5 (la _),jf,pt,List.drop_length,al6,List.append_nil]
def eD(b:ab):d6:=b.Kids.filter hJ
theorem Oq{b:ab}:(eD b).length≤b.Kids.length:=alv _ _
theorem Cu(K:Kn)(n:Nat)(c:∀x,K.kR (Fv.fn 145) x=some (eP x))(b:ab)(a:b.Kids.length≤20)(d:20<n):si K n b=some (eD b,(eD b).any eP):=by
 have h:=ac9 K n b a n 0 [] (by omega) (by omega) (by simp);unfold si;refine (show _=_ from h).trans ?_;simp only[IT,List.drop_zero];rw[show b.Kids.filter hJ=eD b from rfl,WX K n c _ (RX Oq a) d];rfl
def sE(f:ae)(w:Int):ae :=
 if f.Style.Position=1 then { f with X:=aa (f.X+(cH f.Style.Left w).1),Y:=if f.Style.Top.Kind=1 then aa (f.Y+(cH f.Style.Top 0).1) else f.Y } else f
theorem N1(K:Kn)(n:Nat)(f:ae)(w:Int):uK K n f w=some (sE f w):=by
 unfold uK sE;simp only[gq,iN,zw];by_cases h:f.Style.Position=1
 ·by_cases a:f.Style.Top.Kind=1<;>simp[h,a]
 ·simp[h]
theorem Sa(f:ae)(w:Int):(sE f w).Kids=f.Kids:=by unfold sE;split<;>rfl
namespace Od
open QSort (wn cD di dd qW pT sb)
def ix(p:Nat→Bool)(n:Nat):ck:=((List.range n).filter p).map fun (k:Nat)=>(k:Int)
theorem MS(p:Nat→Bool)(n:Nat):ix p (n+1)=ix p n++if p n=true then [(n:Int)] else []:=by
 unfold ix;rw[al3,akM,MO];congr 1;cases h:p n<;>simp only[akl,al6,h,AT,jf,pt,rl,Db]
theorem Ta{p:Nat→Bool}{n:Nat}{x:Int}:x∈ix p n↔∃k:Nat,k<n∧x=k∧p k=true:=by
 simp only[ix,Dy,akN,ag5];constructor
 ·rintro ⟨k,⟨a,b⟩,rfl⟩;exact⟨k,a,rfl,b⟩
 ·rintro ⟨k,a,rfl,b⟩;exact⟨k,⟨a,b⟩,rfl⟩
theorem Iv(p:Nat→Bool)(n:Nat):(ix p n).length≤n:=by
 unfold ix;rw[nw];have:=alv p (List.range n);rw[List.length_range]at this;exact this
theorem Yq(p:Nat→Bool)(n:Nat):(ix p n).Pairwise (· < ·):=by
 unfold ix;rw[amk];refine alL (fun h=>?_) (amJ _ alI);omega
variable(B:d6)
def fl(k:Nat):Bool:=hJ (B.getD k default)
def key(a:Int):Int:=(B.getD a.toNat default).Style.Order
structure Is(d:ck):Prop where
 p:d.Perm (ix (fl B) B.length)
 s:d.Pairwise (QSort.R (key B))
variable{B}
theorem Is.uniq{d e:ck}(h:Is B d)(c:Is B e):d=e:=by
 refine List.Perm.eq_of_pairwise (fun a b _ _ f c=>(f.asymm c).elim) h.s c.s (h.p.trans c.p.symm)
theorem Is.mem{d:ck}(h:Is B d){x:Int}(a:x∈d):∃k:Nat,k<B.length∧x=k∧hJ (B.getD k default)=true:=Ta.1 (h.p.mem_iff.1 a)
theorem Is.len{d:ck}(h:Is B d):d.length≤B.length:=by rw[h.p.length_eq];exact Iv _ _
variable(B)
theorem I9(m:Nat):QSort.s5 (KN (m+1)) (Fv.c172 B) (fun a=>0≤a∧a<B.length) (key B):=by
 refine⟨fun a b f g=>?_⟩;show ∃c,zA (KN m) m a b B=some c∧_;unfold zA;rw[cD f,cD g];simp only[tE,wA,sb,aml,jf,pt,key];by_cases d:(B.getD a.toNat default).Style.Order<(B.getD b.toNat default).Style.Order
 ·rw[di d];exact⟨-1,rfl,by omega⟩
 ·rw[dd d];by_cases e:(B.getD a.toNat default).Style.Order>(B.getD b.toNat default).Style.Order
  ·rw[di e];exact⟨1,rfl,by omega⟩
  ·rw[dd e];exact⟨0,rfl,by omega⟩
theorem agT(K:Kn)(n:Nat)(f:B.length≤19):∀(m i:Nat),i≤B.length→B.length<m+i →
  tY K n B m (i:Int) (ix (fl B) i)=lT K n (ix (fl B) B.length) (Fv.c172 B):=by
 intro m
 induction m with
 | zero=>intro i d e;omega
 | succ m a =>
  intro i d e;simp only[tY,zT];by_cases hi:i<B.length
  ·have g:=Iv (fl B) i;have b:=MS (fl B) i;have a:=a (i+1) (by omega) (by omega);rw[di (by omega),cD (by omega),eO,QS,sb];simp only[zH,wn (n:=(i:Int)+1) (k:=i+1) (by omega) (by omega)];cases c:hJ (B.getD i default)
   ·rw[kc (by simp)];rw[b,kc (by unfold fl;rw[c];simp),List.append_nil]at a;exact a
   ·rw[lp rfl,dc (by simp only[ls,ti];omega) (by omega),ba];rw[b,lp (by unfold fl;rw[c])]at a;exact a
  ·obtain rfl:i=B.length:=by omega
   rw[dd (by omega)];cases lT K n (ix (fl B) B.length) (Fv.c172 B)<;>rfl
theorem nt(g:B.length≤19){lvl n:Nat}(i:10001<n)(h:20010≤lvl):∃d,Is B d∧rV (KN lvl) n B=some d:=by
 have p:=Iv (fl B) B.length;obtain⟨d,b,c,e⟩:=QSort.O5 (c0:=1) (f:=Fv.c172 B) (D:=fun a=>0≤a∧a<B.length) (key:=key B) (fun m o=>by
  obtain⟨k,rfl⟩:∃k,m=k+1:=⟨m-1,by omega⟩;exact I9 B k) (lvl:=lvl) (n:=n) (ix (fl B) B.length) i (by omega) (Yq _ _) (fun x j=>by
   obtain⟨k,l,rfl,_⟩:=Ta.1 j;omega) (by omega)
 refine⟨d,⟨b,c⟩,?_⟩;have:=agT B (KN lvl) n g n 0 (by omega) (by omega);unfold rV;rw[show ix (fl B) 0=[] from rfl,show((0:Nat):Int)=0 from rfl]at this;rw[this];exact e
end Od
mutual
/-- How many boxes. -/
def bE:ab→Nat
 | ⟨_,_,_,_,_,_,a⟩=>cV a+1
def cV:d6→Nat
 | []=>0
 | b::r=>bE b+cV r
end
theorem gw(b:ab):bE b=cV b.Kids+1:=by cases b;simp only[bE]
theorem gn(b:ab):1≤bE b:=by rw[gw];omega
theorem MY:∀{l:d6} {b:ab},b∈l→bE b≤cV l
 | [],b,h=>by cases h
 | c::r,b,h=>by
  simp only[cV];rcases ol.1 h with rfl|h
  ·omega
  ·have:=MY h;omega
theorem sB:∀(l:d6),l.length≤cV l
 | []=>la _
 | c::r=>by simp only[cV,ls];have:=sB r;have:=gn c;omega
theorem Dn:∀(l m:d6),cV (l++m)=cV l+cV m
 | [],m=>by simp[cV]
 | c::r,m=>by simp only[ahj,cV,Dn r m];omega
theorem lw{b k:ab}(h:k∈b.Kids):bE k<bE b:=by rw[gw b];have:=MY h;omega
theorem TM(b:ab):b.Kids.length<bE b:=by rw[gw];have:=sB b.Kids;omega
def pD(a b:ab):Bool:=(a.Kind == b.Kind)&&((a.Node == b.Node)&&((lO a.Style b.Style)&&((a.Text.toList == b.Text.toList)&&((a.Rows == b.Rows)&&(a.Cols == b.Cols)))))
mutual
def ga:ab→ab→Bool
 | ⟨k,n,s,t,r,c,d⟩,b=>pD ⟨k,n,s,t,r,c,[]⟩ b&&iE d b.Kids
def iE:d6→d6→Bool
 | [],[]=>true
 | a::r,b::q=>ga a b&&iE r q
 | _,_=>false
end
theorem Ke(a b:ab):ga a b=(pD a b&&iE a.Kids b.Kids):=by cases a;simp only[ga];rfl
theorem Uz:∀{l m:d6},iE l m=true→l.length=m.length
 | [],[],_=>rfl
 | a::r,b::q,h=>by simp only[iE,iO]at h;simp[Uz h.2]
 | [],_::_,h=>by cases h
 | _::_,[],h=>by cases h
theorem Y0(x:cB):fF x x=true:=by simp[fF]
theorem abA(x:aN):lO x x=true:=by simp[lO,Y0]
theorem aj1(a:ab):pD a a=true:=by simp[pD,abA]
mutual
theorem Dm:∀a:ab,ga a a=true
 | ⟨k,n,s,t,r,c,b⟩=>by
  rw[Ke,aj1,alw];exact Qe b
theorem Qe:∀l:d6,iE l l=true
 | []=>rfl
 | a::r=>by simp only[iE,Dm a,Qe r,amr]
end
theorem dL{i:Nat}(h:i<1000000000):aa ((i:Int)+1)=((i+1:Nat):Int):=by rw[bK (by omega) (by omega)];omega
theorem dv{i n:Nat}(h:i<n):aO ((i:Nat):Int) n=true:=dh (by omega) (by omega)
theorem eC{i n:Nat}(h:i<n):decide (((i:Nat):Int)<((n:Nat):Int))=true:=decide_eq_true (by omega)
theorem eh{i n:Nat}(h:n≤i):decide (((i:Nat):Int)<((n:Nat):Int))=false:=decide_eq_false (by omega)
theorem gN{α:Type}[Inhabited α]{L:List α}{k:Nat}(h:k<L.length):L.getD ((k:Nat):Int).toNat default=L[k]:=by rw[Int.toNat_natCast];exact bN h
theorem ajx{l m:d6}{i:Nat}(a:i<l.length)(b:i<m.length):iE (l.drop i) (m.drop i)=(ga l[i] m[i]&&iE (l.drop (i+1)) (m.drop (i+1))):=by
 rw[l3 a,l3 b];simp only[iE]
theorem adF(K:Kn)(n:Nat)(l q:d6)(e:l.length=q.length)(f:l.length<1000000)(c:∀k∈l,∀p,K.pP (Fv.fn 27) k p=some (ga k p)):∀(m i:Nat),i≤l.length→l.length<m+i →
  sr K n l q (Fv.fn 27) m i=some (iE (l.drop i) (q.drop i)):=by
 intro m
 induction m with
 | zero=>intro i a b;omega
 | succ m d =>
  intro i a b;simp only[sr,Ba];by_cases hi:i<l.length
  ·simp only[eC hi,AT,dv hi,dv (show i<q.length by omega),ba,gN hi,gN (show i<q.length by omega),c _ (qv hi),iN];rw[ajx hi (by omega)];cases h:ga l[i] q[i] with
   | false=>simp
   | true =>
    simp only[abM,jf,pt,alw];rw[dL (by omega)];exact d (i+1) (by omega) (by omega)
  ·simp only[eh (show l.length≤i by omega),jf,pt];rw[mo (by omega),mo (by omega)];rfl
theorem ah1(K:Kn)(n:Nat)(l q:d6)(d:l.length<1000000)(e:l.length<n)(c:∀k∈l,∀p,K.pP (Fv.fn 27) k p=some (ga k p)):zP K n l q (Fv.fn 27)=some (iE l q):=by
 unfold zP;by_cases a:l.length=q.length
 ·have:(((l.length:Nat):Int) != ((q.length:Nat):Int))=false:=by rw[a];simp
  rw[this];simpa using adF K n l q a d c n 0 (u4 _) (by omega)
 ·have:(((l.length:Nat):Int) != ((q.length:Nat):Int))=true:=by simp[bne];omega
  rw[this,lp rfl];cases b:iE l q with
  | false=>rfl
  | true=>exact absurd (Uz b) a
theorem DU:∀(s N:Nat) (a b:ab),bE a≤s→s<1000000→s+2≤N→pi (KN N) N a b=some (ga a b)
 | 0,_,a,_,h,_,_=>by have:=gn a;omega
 | s+1,0,_,_,_,_,h=>by omega
 | s+1,N+1,a,b,n,o,p=>by
  have c:∀k∈a.Kids,∀q,(KN (N+1)).pP (Fv.fn 27) k q=some (ga k q):=fun k f q=>DU s N k q (by have:=lw f;omega) (by omega) (by omega);have d:=TM a;have e:=ah1 (KN (N+1)) (N+1) a.Kids b.Kids (by omega) (by omega) c;unfold pi;rw[Ke,e];unfold pD;simp only[lz,iN];cases c1:(a.Kind == b.Kind) with
  | false=>simp
  | true =>
  cases g:(a.Node == b.Node) with
  | false=>simp
  | true =>
  cases i:(lO a.Style b.Style) with
  | false=>simp
  | true =>
  cases j:(a.Text.toList == b.Text.toList) with
  | false=>simp
  | true =>
  cases l:(a.Rows == b.Rows) with
  | false=>simp
  | true =>
  cases m:(a.Cols == b.Cols) with
  | false=>simp
  | true=>simp
mutual
/-- b is within a box. -/
def gF(b:ab):ab→Bool
 | ⟨k,n,s,t,r,c,a⟩=>ga ⟨k,n,s,t,r,c,a⟩ b||jp b a
def jp(b:ab):d6→Bool
 | []=>false
 | k::r=>gF b k||jp b r
end
theorem vh(b a:ab):gF b a=(ga a b||jp b a.Kids):=by cases a;simp only[gF]
theorem aeG{b:ab}{l:d6}{i:Nat}(h:i<l.length):jp b (l.drop i)=(gF b l[i]||jp b (l.drop (i+1))):=by
 rw[l3 h];simp only[jp]
theorem aa5(K:Kn)(n:Nat)(l:d6)(b:ab)(f:l.length<1000000)(d:∀k∈l,K.kR (Fv.c65 b) k=some (gF b k)):∀(m i:Nat),i≤l.length→l.length<m+i →
  ∃r,jY K n l (Fv.c65 b) m i=some r∧decide (r≥0)=jp b (l.drop i):=by
 intro m
 induction m with
 | zero=>intro i a c;omega
 | succ m e =>
  intro i a c;simp only[jY,qh];by_cases hi:i<l.length
  ·simp only[eC hi,AT,dv hi,ba,gN hi,d _ (qv hi),iN];rw[aeG hi];cases h:gF b l[i] with
   | true=>exact⟨_,rfl,by simp⟩
   | false =>
    simp only[jf,pt,alf];rw[dL (by omega)];exact e (i+1) (by omega) (by omega)
  ·simp only[eh (show l.length≤i by omega),jf,pt];rw[mo (by omega)];exact⟨_,rfl,rfl⟩
theorem Ma:∀(s N:Nat) (a b:ab),bE a≤s→s<100000→2*s+4≤N→pA (KN N) N a b=some (gF b a)
 | 0,_,a,_,h,_,_=>by have:=gn a;omega
 | s+1,0,_,_,_,_,h=>by omega
 | s+1,1,_,_,_,_,h=>by omega
 | s+1,N+2,a,b,i,l,m=>by
  have c:∀k∈a.Kids,(KN (N+2)).kR (Fv.c65 b) k=some (gF b k):=fun k j=>by
   show ze (KN (N+1)) (N+1) k b=_;unfold ze;show(pA (KN N) N k b).bind _=_;rw[Ma s N k b (by have:=lw j;omega) (by omega) (by omega)];rfl
  have e:=TM a;unfold pA;rw[DU (s+1) (N+2) a b i (by omega) (by omega),iN,vh];simp only[yw];cases h:ga a b with
  | true=>simp
  | false =>
   simp only[jf,pt,alf];unfold lu wL;obtain⟨r,f,g⟩:=aa5 (KN (N+2)) (N+2) a.Kids b (by omega) c (N+2) 0 (u4 _) (by omega);have d:jY (KN (N+2)) (N+2) a.Kids (Fv.c65 b) (N+2) 0=some r:=f;rw[d];simp only[iN,g,List.drop_zero]
def dZ(r:Int):List UInt8:=(Utf8.encode r).data.toList
def du(r:Int):Prop:=(0≤r∧r<55296)∨(57344≤r∧r≤1114111)
theorem Zn{r:Int}(h:du r):Utf8.valid r=true:=by
 unfold du at h;unfold Utf8.valid;simp only[Dk,iO,q6];omega
theorem fI{n:Nat}(h:n<256):(UInt8.ofNat n).toNat=n:=by rw[UInt8.toNat_ofNat',alo h]
theorem Jv {r:Int} (h:du r):∃ c:Nat,r=(c:Int) ∧
    ((c<128∧dZ r=[UInt8.ofNat c])∨(128≤c∧c<2048∧dZ r=[UInt8.ofNat (192+c / 64),UInt8.ofNat (128+c % 64)]) ∨
     (2048≤c∧c<65536∧(c<55296∨57344≤c)∧dZ r=[UInt8.ofNat (224+c / 4096),UInt8.ofNat (128+c / 64 % 64),UInt8.ofNat (128+c % 64)]) ∨
     (65536≤c∧c≤1114111∧dZ r=[UInt8.ofNat (240+c / 262144),UInt8.ofNat (128+c / 4096 % 64),UInt8.ofNat (128+c / 64 % 64),UInt8.ofNat (128+c % 64)])):=by
  refine⟨r.toNat,by unfold du at h;omega,?_⟩;unfold dZ Utf8.encode;simp only[Zn h,AT];unfold du at h;generalize e:r.toNat=c at *;by_cases a:c<128
  · left;simp[a]
  · by_cases b:c<2048
    · right;left;simp[a,b];omega
    · by_cases d:c<65536
      · right;right;left;simp[a,b,d];omega
      · right;right;right;simp[a,b,d];omega
theorem FV{r:Int}(h:du r)(t:List UInt8):Lib.decodeL (dZ r++t)=(r.toNat,(dZ r).length):=by
 obtain⟨c,rfl,h|h|h|h⟩:=Jv h
 ·rw[h.2,alY];simp only[ahj,IT,alC,fI (show c<256 by omega),Int.toNat_natCast,ls,ti];unfold Lib.decodeN;rw[lp h.1]
 ·rw[h.2.2,alY];simp only[ahj,IT,alC,alB,fI (show 192+c / 64<256 by omega),fI (show 128+c % 64<256 by omega),Int.toNat_natCast,ls,ti];unfold Lib.decodeN;rw[kc (by omega),lp (by omega),lp (by omega)];congr 1;omega
 ·rw[h.2.2.2,alY];simp only[ahj,IT,alC,alB,fI (show 224+c / 4096<256 by omega),fI (show 128+c / 64 % 64<256 by omega),fI (show 128+c % 64<256 by omega),Int.toNat_natCast,ls,ti];unfold Lib.decodeN;rw[kc (by omega),kc (by omega),lp (by omega),lp (by omega)];congr 1;omega
 ·rw[h.2.2,alY];simp only[ahj,IT,alC,alB,fI (show 240+c / 262144<256 by omega),fI (show 128+c / 4096 % 64<256 by omega),fI (show 128+c / 64 % 64<256 by omega),fI (show 128+c % 64<256 by omega),Int.toNat_natCast,ls,ti];unfold Lib.decodeN;rw[kc (by omega),kc (by omega),kc (by omega),lp (by omega),lp (by omega)];congr 1;omega
theorem DT{r:Int}(h:du r):1≤(dZ r).length∧(dZ r).length≤4:=by
 obtain⟨c,_,h|h|h|h⟩:=Jv h
 ·rw[h.2];simp
 ·rw[h.2.2];simp
 ·rw[h.2.2.2];simp
 ·rw[h.2.2];simp
theorem ajp(n a b c d:Nat):du ((Lib.decodeN n a b c d).1:Int):=by
 unfold Lib.decodeN du
 repeat' split
 all_goals simp only[]
 all_goals omega
theorem aev(l:List UInt8):du ((Lib.decodeL l).1:Int):=by rw[alY];exact ajp _ _ _ _ _
def ji:Nat→List UInt8→ck
 | 0,_=>[]
 | n+1,l=>if l.isEmpty=true then [] else ((Lib.decodeL l).1:Int)::ji n (l.drop (Lib.decodeL l).2)
theorem adv:∀(n m:Nat) (l:List UInt8),l.length≤n→l.length≤m→ji n l=ji m l:=by
 intro n
 induction n with
 | zero =>
  intro m l a b;have:l=[]:=qk (by omega);subst this;cases m<;>simp[ji]
 | succ n c =>
  intro m l a b;cases m with
  | zero =>
   have:l=[]:=qk (by omega);subst this;simp[ji]
  | succ m =>
   unfold ji;split
   ·rfl
   ·have:=amm l;rw[c m _ (by simp;omega) (by simp;omega)]
def jF(l:List UInt8):ck:=ji l.length l
theorem ajR:jF []=[]:=rfl
theorem L9{l:List UInt8}(h:l≠[]):jF l=((Lib.decodeL l).1:Int)::jF (l.drop (Lib.decodeL l).2):=by
 unfold jF;cases l with
 | nil=>exact absurd rfl h
 | cons x r =>
  have:=amm (x::r);rw[show ji (x::r).length (x::r)=((Lib.decodeL (x::r)).1:Int)::ji r.length ((x::r).drop (Lib.decodeL (x::r)).2) from rfl];rw[adv r.length _ _ (by simp;omega) (la _)]
theorem akF{r:Int}(h:du r)(t:List UInt8):jF (dZ r++t)=r::jF t:=by
 have a:=DT h;rw[L9 (by intro e;rw[List.append_eq_nil_iff]at e;rw[e.1]at a;simp at a),FV h t];simp only[amM];congr 1;unfold du at h;omega
def dx(rs:ck):List UInt8:=rs.flatMap dZ
theorem Ol(r:Int)(rs:ck):dx (r::rs)=dZ r++dx rs:=by simp[dx]
theorem LI(a b:ck):dx (a++b)=dx a++dx b:=by simp[dx]
theorem Vm:∀{rs:ck} (t:List UInt8),(∀r∈rs,du r)→jF (dx rs++t)=rs++jF t
 | [],t,_=>rfl
 | r::rs,t,h=>by
  rw[Ol,u3,akF (h r (by simp)),Vm t (fun x a=>h x (by simp[a]))];rfl
theorem afy{rs:ck}(h:∀r∈rs,du r):jF (dx rs)=rs:=by
 have:=Vm [] h;simpa[ajR]using this
theorem SM:∀(n:Nat) (l:List UInt8),∀r∈ji n l,du r
 | 0,_,r,h=>by cases h
 | n+1,l,r,h=>by
  unfold ji at h;split at h
  ·cases h
  ·rcases ol.1 h with rfl|h
   ·exact aev l
   ·exact SM n _ r h
theorem Jf{l:List UInt8}:∀r∈jF l,du r:=SM _ _
theorem Ra:∀(n:Nat) (l:List UInt8),(ji n l).length≤n
 | 0,_=>by simp[ji]
 | n+1,l=>by
  unfold ji;split
  ·simp
  ·have:=Ra n (l.drop (Lib.decodeL l).2);simp;omega
theorem agB(l:List UInt8):(jF l).length≤l.length:=Ra _ _
def iD(b:ByteArray)(p:Nat):ck:=jF (b.data.toList.drop p)
theorem Az(b:ByteArray):b.data.toList.length=b.size:=rfl
theorem Pa{b:ByteArray}{p:Nat}(h:¬ p<b.size):iD b p=[]:=by
 unfold iD;rw[mo (by rw[Az];omega)];rfl
theorem Pf{b:ByteArray}{p:Nat}(h:p<b.size):iD b p=((Utf8.decode b p).1:Int)::iD b (p+(Utf8.decode b p).2):=by
 unfold iD;rw[L9 (by intro e;have:=amI List.length e;simp at this;have a:=Az b;simp at a;omega),alT,akY]
theorem R1(b:ByteArray)(p:Nat):1≤(Utf8.decode b p).2:=by rw[←alT];exact amm _
def ints(l:List UInt8):ck:=l.map fun b=>(b.toNat:Int)
theorem adc(a b:List UInt8):ints (a++b)=ints a++ints b:=by simp[ints]
theorem aiX(a:List UInt8):(ints a).length=a.length:=by simp[ints]
theorem afZ(x y:Int):ij .u8 x y=bits .and .u8 x y:=rfl
theorem DY(x y:Int):fj .u8 x y=bits .or .u8 x y:=rfl
theorem w8{n:Int}(h:0≤n∧n<256):IntKind.wrap .u8 n=n:=by rw[amF];omega
theorem se(y:Int):fj .u8 128 (ij .u8 (IntKind.wrap .u8 y) 63)=128+y % 64:=by
 have h:0≤IntKind.wrap .u8 y∧IntKind.wrap .u8 y<256:=by rw[amF];omega
 rw[afZ,u8_and63 _ h.1 h.2,DY,u8_or128 _ (by omega) (by omega),amF];omega
section
variable{K:Kn}{n:Nat}
theorem Wz{r:Int}(h:du r){L:ck}(f:L.length≤1000000):uZ K n r L=some (L++ints (dZ r)):=by
 have a:IntKind.wrap .u32 r=r:=by rw[IntKind.wrap_u32];unfold du at h;omega
 unfold uZ;rw[a];obtain⟨c,rfl,b|b|b|b⟩:=Jv h
 ·rw[lp (by simp;omega),dc (by simp;omega) (by omega),ba,b.2,w8 (by omega)];simp only[ints,rl,Db,fI (show c<256 by omega)]
 ·rw[kc (by simp;omega)];unfold uw;rw[a,lp (by simp;omega),dc (by simp;omega) (by omega),ba,b.2.2];simp only[iN,ints,rl,Db,fI (show 192+c / 64<256 by omega),fI (show 128+c % 64<256 by omega)];rw[w8 (n:=(c:Int) / 64) (by omega),DY 192,u8_or192 _ (by omega) (by omega),se];congr 3<;>omega
 ·rw[kc (by simp;omega)];unfold uw;rw[a,kc (by simp;omega)];have e:o7 K n (c:Int) L true=some (L++ints (dZ (c:Int))):=by
   unfold o7;rw[lp rfl,dc (by simp;omega) (by omega),ba,b.2.2.2];simp only[ints,rl,Db,fI (show 224+c / 4096<256 by omega),fI (show 128+c / 64 % 64<256 by omega),fI (show 128+c % 64<256 by omega)];rw[w8 (n:=(c:Int) / 4096) (by omega),DY 224,u8_or224 _ (by omega) (by omega),se,se];congr 3<;>omega
  by_cases d:(c:Int)<55296
  ·rw[lp (by simpa using d),e];rfl
  ·rw[kc (by simpa using d),lp (by simp;omega),show decide ((c:Int)≤65535)=true by simp;omega,e];rfl
 ·rw[kc (by simp;omega)];unfold uw;rw[a,kc (by simp;omega),kc (by simp;omega),lp (by simp;omega),show decide ((c:Int)≤65535)=false by simp;omega];unfold o7;rw[a,kc (by simp),lp (by simp;omega),show decide ((c:Int)≤1114111)=true by simp;omega];unfold Al;rw[lp rfl,dc (by simp;omega) (by omega),ba,b.2.2];simp only[iN,ints,rl,Db,fI (show 240+c / 262144<256 by omega),fI (show 128+c / 4096 % 64<256 by omega),fI (show 128+c / 64 % 64<256 by omega),fI (show 128+c % 64<256 by omega)];rw[w8 (n:=(c:Int) / 262144) (by omega),DY 240,u8_or240 _ (by omega) (by omega),se,se,se];congr 3<;>omega
theorem aek{r:Int}(h:du r){L:ck}(a:L.length≤1000000)(b:Bool):∃x,py K n r b L=some (x,(),L++ints (dZ r)):=by
 unfold py;rw[Wz h a];cases b
 ·exact⟨_,rfl⟩
 ·exact⟨_,rfl⟩
end
theorem afj{l:List UInt8}(h:l≠[]):rz (ints l)=true:=by
 unfold rz ints;rw[iO];refine⟨?_,by cases l;exact absurd rfl h;rfl⟩;rw[n3];intro n a;obtain⟨b,_,rfl⟩:=Dy.1 a;have:=UInt8.toNat_lt b;simp;omega
theorem ady(l:List UInt8):bytesOf (ints l)=⟨l.toArray⟩:=by
 unfold bytesOf ints;rw[List.map_map];congr 2
 conv=>rhs;rw[←List.map_id l]
 refine amS fun b _=>?_;simp
noncomputable section
def kv(r:Int):Bool:=r == 9||(r == 10||(r == 13||r == 32))
def AL(r:Int):Int:=(lX (KN 0) 0 r).getD 0
def ajk(s:Int):Int:=min (max s 0) 1048576
def Fy(r s:Int):Int:=aa (Int.tdiv (aa ((aa (AL r*ajk s))+15)) 16)
def pk(a b:Int):Bool:=bif kv b||AL b == 0 then false else bif kv a then true else bif a == 45&&b != 45 then true else decide (a≥11904)||decide (b≥11904)
def jc(e:aI):Bool:=e.Kind == 1&&(e.Box.Style.WhiteSpace != 1&&e.Box.Style.WhiteSpace != 2)
def iH(a b:aI):Bool :=
 bif a.Kind == 3||b.Kind == 3 then (a.Kind == 3||jc a)&&(b.Kind == 3||jc b)
 else bif a.Kind != 1||(b.Kind != 1||(!jc a||(a.Char != 32&&!jc b))) then false else pk a.Char b.Char
def sU{α:Type}(x:Option α):Prop:=∃u,x=some u
theorem QK{α:Type}(u:α):sU (some u):=⟨u,rfl⟩
theorem R6{α:Type}{c:Prop}[Decidable c]{x y:Option α}(a:sU x)(b:sU y):sU (if c then x else y):=by split;exact a;exact b
section
variable(K:Kn)(n:Nat)
theorem N2(r:Int):tu K n r=some (kv r):=by
 unfold tu kv;cases a:(r == 9)<;>cases b:(r == 10)<;>cases c:(r == 13)<;>cases d:(r == 32)<;>simp[qy]
theorem aa6(r:Int):sU (lX K n r):=by
 unfold lX mq;simp only[im,gc,my,AH]
 repeat first|exact QK _|apply R6
theorem Qr(r:Int):lX K n r=some (AL r):=by
 obtain⟨u,a⟩:=aa6 K n r;have e:lX (KN 0) 0 r=lX K n r:=rfl;unfold AL;rw[e,a];rfl
theorem QV(r s:Int):oM K n r s=some (Fy r s):=by
 unfold oM;rw[Qr];rfl
theorem aic(a b:Int):ym K n a b=some (pk a b):=by
 unfold ym pk;rw[N2,Qr];simp only[iN];have c:qu K n a b true=some false:=rfl;have d:qu K n a b false=some (bif kv a then true else bif a == 45&&b != 45 then true else decide (a≥11904)||decide (b≥11904)):=by
  unfold qu;rw[kc (by simp),N2];simp only[iN];cases kv a with
  | true=>simp
  | false =>
   simp only[jf,pt,alr];unfold wO zz;cases e:(a == 45)<;>cases f:(b != 45)<;>cases g:decide (a≥11904)<;>simp
 cases kv b with
 | true=>rw[lp rfl,c];rfl
 | false =>
  rw[kc (by simp)];cases (AL b == 0) with
  | true=>rw[c];rfl
  | false=>rw[d];rfl
theorem Ot(e:aI):mR K n e=some (jc e):=by
 unfold mR jc vN;cases a:(e.Kind == 1)<;>cases b:(e.Box.Style.WhiteSpace != 1)<;>simp
end
theorem Ur(a b:ByteArray):(a++b).data.toList=a.data.toList++b.data.toList:=by
 rw[ByteArray.data_append,Array.toList_append]
theorem Zx(a b:Int):(runesBytes [a,b]).data.toList=dZ a++dZ b:=by
 unfold runesBytes;simp only[ala,List.foldl_nil];rw[Ur,Ur];rfl
theorem ZI(K:Kn){n:Nat}(p:3≤n){a b:Int}(e:du a)(f:du b):∃l,Aj K n (runesBytes [a,b])=some l∧decide ((l.length:Int)>0)=pk a b:=by
 generalize k:runesBytes [a,b]=B;have g:B.data.toList=dZ a++dZ b:=by rw[←k];exact Zx a b
 have r:=DT e;have s:=DT f;have q:B.size=(dZ a).length+(dZ b).length:=by rw[←Az,g,ne]
 have h:Utf8.decode B 0=(a.toNat,(dZ a).length):=by
  rw[←alT,List.drop_zero,g,FV e]
 have d:Utf8.decode B (dZ a).length=(b.toNat,(dZ b).length):=by
  rw[←alT,g,amM];have:=FV f [];rwa[List.append_nil]at this
 have i:((a.toNat:Nat):Int)=a:=by unfold du at e;omega
 have j:((b.toNat:Nat):Int)=b:=by unfold du at f;omega
 obtain⟨m,rfl⟩:∃m,n=m+3:=⟨n-3,by omega⟩;unfold Aj;show ∃l,lC K (m+3) B (pj K (m+3) B (m+2)) 0 0 []=some l∧_;unfold lC;rw[lp (by simp;omega),kc (by simp)];unfold ro;rw[kc (by simp)];unfold pZ;rw[h];simp only[IF,i];show ∃l,lC K (m+3) B (pj K (m+3) B (m+1)) a (dZ a).length []=some l∧_;unfold lC;rw[lp (by simp;omega),lp (by simp;omega),d];simp only[j];rw[aic];simp only[iN];have c:∀(x:Int) (l:ck),pj K (m+3) B (m+1) x ((dZ a).length+(dZ b).length) l=some l:=fun x l=>by
  show lC K (m+3) B (pj K (m+3) B m) x _ l=some l;unfold lC;rw[kc (by simp;omega)]
 cases o:pk a b with
 | true =>
  unfold ro;rw[lp rfl,dc (by simp) (by omega),ba];unfold pZ;rw[d];simp only[];rw[c];exact⟨_,rfl,by simp⟩
 | false =>
  unfold ro;rw[kc (by simp)];unfold pZ;rw[d];simp only[];rw[c];exact⟨_,rfl,by simp⟩
theorem vr(K:Kn){n:Nat}(o:3≤n){a b:aI}(k:du a.Char)(m:du b.Char):lL K n a b=some (iH a b):=by
 obtain⟨l,g,h⟩:=ZI K o k m;have e:l9 K n a b true=some false:=rfl;have p:l9 K n a b false=some (pk a.Char b.Char):=by
  unfold l9;rw[kc (by simp),g];simp only[iN];rw[h]
 unfold lL iH;have f:oe K n a b true=some ((a.Kind == 3||jc a)&&(b.Kind == 3||jc b)):=by
  unfold oe pd;simp only[Ot,iN];cases c:(a.Kind == 3)<;>cases d:(b.Kind == 3)<;>cases i:jc a<;>cases j:jc b<;>simp
 have q:oe K n a b false=some (bif a.Kind != 1||(b.Kind != 1||(!jc a||(a.Char != 32&&!jc b))) then false else pk a.Char b.Char):=by
  unfold oe;simp only[Ot,iN,e];cases c:(a.Kind != 1)<;>cases d:(b.Kind != 1)<;>cases i:jc a<;>cases j:(a.Char != 32)<;>cases r:jc b<;>simp[e,p]
 cases c:(a.Kind == 3) with
 | true=>rw[lp rfl,f,c];rfl
 | false =>
  rw[kc (by simp)];cases d:(b.Kind == 3) with
  | true=>rw[f,c,d];rfl
  | false=>rw[q];rfl
def zJ(s a:Int):ck→Int
 | []=>a
 | r::t=>zJ s (aa (a+Fy r s)) t
theorem acX(K:Kn)(n:Nat)(b:ByteArray)(s:Int):∀(m:Nat) (a:Int) (p:Nat),b.size-p<m→vS K n b s m a p=some (zJ s a (iD b p)):=by
 intro m
 induction m with
 | zero=>intro a p h;omega
 | succ m d =>
  intro a p h;show wu K n b s (vS K n b s m) a p=_;unfold wu;by_cases c:p<b.size
  ·have:=R1 b p;rw[lp (by simpa using c),QV,Pf c];simp only[iN,zJ];exact d _ _ (by omega)
  ·rw[kc (by simpa using c),Pa c];rfl
theorem RZ(K:Kn){n:Nat}(b:ByteArray)(s:Int)(a:b.size<n):pO K n b s=some (zJ s 0 (iD b 0)):=by
 unfold pO;exact acX K n b s n 0 0 (by omega)
def kn(s:aN):Int×Int:=(oT (KN 0) 0 s).getD default
theorem Ll(K:Kn)(n:Nat)(s:aN):oT K n s=some (kn s):=rfl
def cW(x:eb):ck:=x.map fun e=>e.Char
def Ev(x:eb):Bool:=(x.getD (x.length-1) default).Soft
def GY(x:eb):ck:=bif Ev x then (cW x).dropLast else cW x
def gh(rs:ck):ByteArray:=⟨(dx rs).toArray⟩
def yp(x:eb):aN:=(x.getD 0 default).Box.Style
def eL(x:eb):az :=
 { cR with Text:=gh (cW x),Width:=zJ (yp x).FontSize 0 (GY x),Space:=bif Ev x then Fy 32 (yp x).FontSize else 0,Above:=(kn (yp x)).1,Below:=(kn (yp x)).2 }
theorem BP{rs:ck}(h:∀r∈rs,du r):rs.length≤(dx rs).length∧(dx rs).length≤4*rs.length:=by
 induction rs with
 | nil=>simp[dx]
 | cons r t b =>
  have:=DT (h r (by simp));have:=b (fun x a=>h x (by simp[a]));rw[Ol,ne,ls];omega
theorem Dv(rs:ck):(gh rs).size=(dx rs).length:=by unfold gh;rfl
theorem Fm(rs:ck):(gh rs).data.toList=dx rs:=by unfold gh;simp
theorem Oe{rs:ck}(h:∀r∈rs,du r):iD (gh rs) 0=rs:=by
 unfold iD;rw[List.drop_zero,Fm,afy h]
theorem agF{rs:ck}(a:rs≠[])(h:rs.getLast a=32):dx rs=dx rs.dropLast++[32]:=by
 conv=>lhs;rw[←alZ a]
 rw[LI,h];rfl
theorem agd{rs:ck}(a:rs≠[])(h:rs.getLast a=32):(gh rs).extract 0 ((gh rs).size-1)=gh rs.dropLast:=by
 have e:=agF a h;have b:(gh rs).size=(dx rs.dropLast).length+1:=by rw[Dv,e];simp
 apply ByteArray.ext;apply Array.ext';rw[amx,amK,Fm,Fm,b,e];simp
structure kp(e:aI):Prop where
 ch:du e.Char
 soft:e.Soft=true→e.Char=32
theorem Ff{x:eb}(h:∀e∈x,kp e):∀r∈cW x,du r:=by
 intro r b;obtain⟨e,a,rfl⟩:=Dy.1 b;exact(h e a).ch
section
variable{K:Kn}{n:Nat}{x:eb}
theorem Ql(z:x≠[])(I:x.length≤2000)(w:∀e∈x,kp e)(J:8010≤n)(b:Bool):sJ K n x (ints (dx (cW x))) b=some (eL x):=by
 have H:0<x.length:=List.length_pos_iff.2 z;have v:cW x≠[]:=by unfold cW;simp[z]
 have D:(cW x).length=x.length:=by unfold cW;simp
 have f:=Ff w;have j:=BP f;have p:dx (cW x)≠[]:=by intro e;rw[e]at j;have:=j.1;simp only[ti]at this;omega
 have A:aa ((x.length:Int)-1)=((x.length-1:Nat):Int):=by rw[bK (by omega) (by omega)];omega
 have o:bytesOf (ints (dx (cW x)))=gh (cW x):=ady _;have F:(gh (cW x)).size=(dx (cW x)).length:=Dv _;have B:aa (((gh (cW x)).size:Int)-1)=(((gh (cW x)).size-1:Nat):Int):=by rw[bK (by omega) (by omega)];omega
 have key:∀(a:aN) (Y:ByteArray→Int→Option az),(∀k l,Y k l=(pO K n k a.FontSize).bind fun t=>(oT K n a).bind fun m=>some ({ cR with Text:=bytesOf (ints (dx (cW x))),Width:=t,Space:=l,Above:=m.1,Below:=m.2 }:az))→a=yp x →
   aE (rz (ints (dx (cW x)))) (aE (aO (aa ((x.length:Int)-1)) x.length) ((some ((List.getD x ((aa ((x.length:Int)-1))).toNat default).Soft)).bind fun s =>
    if s=true then aE (cF (0:Int) (aa (((bytesOf (ints (dx (cW x)))).size:Int)-1)) (bytesOf (ints (dx (cW x)))).size) ((some (ByteArray.extract (bytesOf (ints (dx (cW x)))) (0:Int).toNat ((aa (((bytesOf (ints (dx (cW x)))).size:Int)-1))).toNat)).bind fun c=>(oM K n 32 a.FontSize).bind fun d=>Y c d)
    else Y (bytesOf (ints (dx (cW x)))) 0))=some (eL x):=by
  intro a Y u G;subst G;rw[afj p,ba,A,dh (by omega) (by omega),ba];simp only[iN,Int.toNat_natCast];have y:(List.getD x (x.length-1) default).Soft=Ev x:=rfl;rw[y,o,B];cases h:Ev x with
  | true =>
   have g:(cW x).getLast v=32:=by
    have E:x.getD (x.length-1) default∈x:=by rw[bN (by omega)];exact qv _
    have:=(w _ E).soft (by rw[y];exact h);rw[List.getLast_eq_getElem];unfold cW;rw[ald];rw[bN (by omega)]at this;simpa using this
   rw[lp rfl,show cF (0:Int) (((gh (cW x)).size-1:Nat):Int) (gh (cW x)).size=true by simp only[cF,iO,q6];omega,ba];simp only[Int.toNat_zero,Int.toNat_natCast];rw[agd v g,QV];simp only[iN];rw[u,RZ K (gh (cW x).dropLast) _ (by
    have C:=BP (rs:=(cW x).dropLast) (fun r q=>f r ((amG _).subset q));rw[Dv];simp at C;omega),Oe (fun r q=>f r ((amG _).subset q)),Ll,o]
   simp only[iN];unfold eL GY;rw[h];rfl
  | false =>
   rw[kc (by simp),u,RZ K (gh (cW x)) _ (by omega),Oe f,Ll,o];simp only[iN];unfold eL GY;rw[h];rfl
 unfold sJ;rw[dh (i:=(0:Int)) (by omega) (by omega)];simp only[ba,iN];cases b with
 | true=>rw[lp rfl];exact key _ (fun c d=>AI K n _ _ c d) (fun _ _=>rfl) rfl
 | false=>rw[kc (by simp)];exact key _ (fun c d=>AR K n _ _ c d) (fun _ _=>rfl) rfl
theorem adU(k:x≠[])(h:x.length≤2000)(c:∀e∈x,kp e)(j:8010≤n):∀(m i:Nat) (b:Bool),i≤x.length→x.length<m+i→rx K n x m (i:Int) b (ints (dx ((cW x).take i)))=some (eL x):=by
 intro m
 induction m with
 | zero=>intro i b l o;omega
 | succ m s =>
  intro i b l o;show tM K n x (rx K n x m) i b _=_;unfold tM;have f:(cW x).length=x.length:=by unfold cW;simp
  by_cases hi:i<x.length
  ·have p:x.getD i default∈x:=by rw[bN hi];exact qv _
   have a:=BP (rs:=(cW x).take i) (fun r d=>Ff c r (u6 d));have g:(cW x).take (i+1)=(cW x).take i++[(x.getD i default).Char]:=by
    rw[amn,j3 (by rw[f];exact hi),bN hi];simp[cW]
   have d:∀b,(py K n ((List.getD x ((i:Int)).toNat default).Char) b (ints (dx ((cW x).take i)))).bind (fun t=>rx K n x m (aa ((i:Int)+1)) true t.2.2)=some (eL x):=fun b=>by
    rw[Int.toNat_natCast];obtain⟨y,q⟩:=aek (K:=K) (n:=n) (c _ p).ch (L:=ints (dx ((cW x).take i))) (by rw[aiX];simp at a;omega) b;rw[q];simp only[iN];rw[bK (by omega) (by omega),show(i:Int)+1=((i+1:Nat):Int) by omega,← adc];have e:dx ((cW x).take i)++dZ (x.getD i default).Char=dx ((cW x).take (i+1)):=by
     rw[g,LI];simp[dx]
    rw[e];exact s (i+1) true (by omega) (by omega)
   cases b with
   | true=>rw[lp rfl,lp (by simpa using hi),dh (by omega) (by omega),ba];exact d true
   | false=>rw[kc (by simp),lp (by simpa using hi),dh (by omega) (by omega),ba];exact d false
  ·have g:(cW x).take i=cW x:=Dj (by omega);rw[g];cases b with
   | true=>rw[lp rfl,kc (by simpa using hi)];exact Ql k h c j true
   | false=>rw[kc (by simp),kc (by simpa using hi)];exact Ql k h c j false
theorem KW(d:x≠[])(a:x.length≤2000)(c:∀e∈x,kp e)(b:8010≤n):qa K n x=some (eL x):=by
 unfold qa;exact adU d a c b n 0 false (by omega) (by omega)
end
end
noncomputable section
def jL(e:aI):Bool:=e.Box.Style.WhiteSpace == 2
def nh(a:eb):aI:=a.getD (a.length-1) default
def wG(a:eb):Bool:=a.isEmpty||((nh a).Soft||(nh a).Kind == 2)
def n4(a:eb)(e:aI):eb :=
  bif kv e.Char then
    (bif jL e then (bif e.Char == 10 then a++[{ e with Kind:=2,Char:=32 }] else bif e.Char == 13 then a else a++[{ e with Char:=32 }])
     else bif wG a then a else a++[{ e with Soft:=true,Char:=32 }])
  else a++[e]
theorem RD a e:(n4 a e).length≤a.length+1:=by
 grind[n4]
section
variable(K:Kn)(n:Nat)
theorem HA{a}(b:a.length≤1000000) e:pS K n a e=some (a++[{ e with Char:=32 }]):=by
 grind[pS,dc,ba]
theorem af1{a:eb}(k:a.length≤1000000)(e:aI):yC K n e a=some (n4 a e):=by
 have j:∀b,mE K n e a b=some (bif b then a else a++[{ e with Soft:=true,Char:=32 }]):=fun b=>by
  unfold mE;cases b with
  | true=>rfl
  | false=>rw[kc (by simp),HA K n k];rfl
 have o:∀b,jL e=b→∀c,sM K n e a c=some (bif c then a else bif b then a++[{ e with Char:=32 }] else bif wG a then a else a++[{ e with Soft:=true,Char:=32 }]):=fun b t c=>by
  unfold sM;cases c with
  | true=>rfl
  | false =>
   have h:(e.Box.Style.WhiteSpace == 2)=b:=t;rw[kc (by simp),h];cases b with
   | true=>rw[show(!true)=false from rfl,kc (by simp),HA K n k];rfl
   | false =>
    rw[show(!false)=true from rfl,lp rfl];by_cases f:a=[]
    ·subst f;rw[lp (by simp),j];rfl
    ·have p:0<a.length:=List.length_pos_iff.2 f;have s:aa ((a.length:Int)-1)=((a.length-1:Nat):Int):=by rw[bK (by omega) (by omega)];omega
     have g:a.isEmpty=false:=by cases a;exact absurd rfl f;rfl
     rw[kc (by simp;exact f),s,dh (by omega) (by omega)];simp only[ba,Int.toNat_natCast]
     change (if (nh a).Soft=true then mE K n e a true else mE K n e a ((nh a).Kind == 2))=_
     cases q:(nh a).Soft with
     | true=>rw[lp rfl,j];unfold wG;rw[g,q];rfl
     | false=>rw[kc (by simp),j];unfold wG;rw[g,q];rfl
 have m:∀c,s4 K n e a c=some (bif c then a++[{ e with Kind:=2,Char:=32 }] else bif jL e then (bif e.Char == 13 then a else a++[{ e with Char:=32 }]) else bif wG a then a else a++[{ e with Soft:=true,Char:=32 }]):=fun c=>by
  unfold s4;cases c with
  | true=>rw[lp rfl,HA K n k];rfl
  | false =>
   have h:(e.Box.Style.WhiteSpace == 2)=jL e:=rfl;rw[kc (by simp),h];cases d:jL e with
   | true=>rw[lp rfl,o true d];rfl
   | false=>rw[kc (by simp),o false d];rfl
 have i:lM K n e a true=some (bif jL e then (bif e.Char == 10 then a++[{ e with Kind:=2,Char:=32 }] else bif e.Char == 13 then a else a++[{ e with Char:=32 }]) else bif wG a then a else a++[{ e with Soft:=true,Char:=32 }]):=by
  unfold lM;have h:(e.Box.Style.WhiteSpace == 2)=jL e:=rfl;rw[lp rfl,h];cases d:jL e with
  | true=>rw[lp rfl,m,d];rfl
  | false=>rw[kc (by simp),m,d];rfl
 have f:lM K n e a false=some (a++[e]):=by
  unfold lM;rw[kc (by simp),dc (by simp;omega) (by omega),ba]
 unfold yC n4 kv;cases u:(e.Char == 9) with
 | true=>rw[lp rfl,i];rfl
 | false =>
  rw[kc (by simp)];cases l:(e.Char == 10) with
  | true=>rw[lp rfl,i,l];rfl
  | false =>
   rw[kc (by simp)];cases r:(e.Char == 13) with
   | true=>rw[lp rfl,i,l,r];rfl
   | false =>
    rw[kc (by simp)];cases v:(e.Char == 32) with
    | true=>rw[i,l,r];rfl
    | false=>rw[f];rfl
end
def mC(b:ab):Bool:=(jU (KN 0) 0 b).getD false
def rc(b:ab)(a:Int)(c:eb)(rs:ck):eb:=rs.foldl (fun o r=>n4 o ⟨1,a,r,false,b⟩) c
def vM:Nat→d6→Int×eb→Int×eb
  | 0,_,s=>s
  | d+1,L,s=>L.foldl (fun s b=>bif mC b then
      (bif b.Kind == 2 then vM d b.Kids (aa (s.1+1),s.2)
       else bif b.Kind == 4 then (aa (s.1+1),s.2++[⟨2,aa (s.1+1),0,false,b⟩])
       else bif b.Kind == 5 then (aa (s.1+1),s.2++[⟨3,aa (s.1+1),0,false,b⟩])
       else bif b.Kind == 3 then (aa (s.1+1),rc b (aa (s.1+1)) s.2 (iD b.Text 0))
       else (aa (s.1+1),s.2)) else s) s
def ia (d : Nat) (s : Int × eb) (b : ab) : Int × eb := bif mC b then
      (bif b.Kind == 2 then vM d b.Kids (aa (s.1+1),s.2)
       else bif b.Kind == 4 then (aa (s.1+1),s.2++[⟨2,aa (s.1+1),0,false,b⟩])
       else bif b.Kind == 5 then (aa (s.1+1),s.2++[⟨3,aa (s.1+1),0,false,b⟩])
       else bif b.Kind == 3 then (aa (s.1+1),rc b (aa (s.1+1)) s.2 (iD b.Text 0))
       else (aa (s.1+1),s.2)) else s
theorem lv d L s:vM (d+1) L s=L.foldl (ia d) s:=rfl
def eF:Nat→d6→Nat
 | 0,_=>0
 | d+1,L=>(L.map fun b=>1+b.Text.size+eF d b.Kids).sum
def Dp:Nat→d6→Prop
 | 0,_=>False
 | d+1,L=>L.length≤1000∧∀b∈L,b.Text.size≤1000∧(b.Kind=2→Dp d b.Kids)
theorem Te b c:∀rs a,(rc b c a rs).length≤a.length+rs.length
 | [],a=>by simp[rc]
 | r::t,a=>by
  have:=Te b c t (n4 a ⟨1,c,r,false,b⟩);have:=RD a ⟨1,c,r,false,b⟩
  grind[rc]
theorem aaw b p:(iD b p).length≤b.size:=by
 grind[iD,agB,Az]
theorem Mi d(a:∀L s,(vM d L s).2.length≤s.2.length+eF d L) s b:(ia d s b).2.length≤s.2.length+(1+b.Text.size+eF d b.Kids):=by
 unfold ia;cases mC b with
 | false=>grind
 | true =>
  grind[aa,Te,iD,aaw]
theorem Nu:∀(d:Nat) (L:d6) (s:Int×eb),(vM d L s).2.length≤s.2.length+eF d L:=by
 intro d
 induction d with
 | zero=>intro L s;simp[vM,eF]
 | succ d e =>
  intro L
  induction L with
  | nil=>intro s;simp[vM,eF]
  | cons b r a =>
   intro s;have f:=Mi d e s b;have c:=a (ia d s b);rw[lv,ala];rw[lv]at c;simp only[eF,rl,List.sum_cons]at c⊢;omega
theorem adG K n b:jU K n b=some (mC b):=by
 have e:jU (KN 0) 0 b=jU K n b:=rfl;have:sU (jU K n b):=by
  repeat first|exact QK _|apply R6
 obtain⟨u,a⟩:=this
 grind[mC]
theorem aif(K:Kn)(n:Nat)(L:d6)(i b:Int)(C:Int→Int→eb→Option (Int×eb))(hi:i.toNat<L.length):∀(m p:Nat) (a:eb),(L.getD i.toNat default).Text.size-p<m→a.length+((L.getD i.toNat default).Text.size-p)≤900000 →
  vy K n L i b C m p a=C (aa (i+1)) (aa (b+1)) (rc (L.getD i.toNat default) (aa (b+1)) a (iD (L.getD i.toNat default).Text p)):=by
 intro m
 induction m with
 | zero=>intro p a h;omega
 | succ m e =>
  intro p a f g;show sY K n L i b C (vy K n L i b C m) p a=_;unfold sY;by_cases c:p<(L.getD i.toNat default).Text.size
  ·have j:=R1 (L.getD i.toNat default).Text p;rw[lp (by simpa using c)];simp only[iN];rw[af1 K n (by omega)];simp only[iN];have d:=RD a ⟨1,aa (b+1),((Utf8.decode (L.getD i.toNat default).Text p).1:Int),false,L.getD i.toNat default⟩;rw[e _ _ (by omega) (by omega),Pf c];rfl
  ·rw[kc (by grind),Pa c];rfl
theorem afi:∀(d N:Nat) (L:d6) (s:Int×eb),Dp d L→s.2.length+eF d L≤800000→d+1100≤N→m6 (KN N) N L s.1 s.2=some (vM d L s):=by
 intro d
 induction d with
 | zero=>intro N L s h;exact h.elim
 | succ d y =>
  intro N L s l A z;obtain⟨N,rfl⟩:∃M,N=M+1:=⟨N-1,by omega⟩;unfold Dp at l;unfold m6;have j:∀(m i:Nat) (s:Int×eb),i≤L.length→L.length<m+i→s.2.length+eF (d+1) (L.drop i)≤800000→po (KN (N+1)) (N+1) L m (i:Int) s.1 s.2=some (vM (d+1) (L.drop i) s):=by
   intro m
   induction m with
   | zero=>intro i s r t;omega
   | succ m o =>
    intro i s r t p;show td (KN (N+1)) (N+1) L (po (KN (N+1)) (N+1) L m) i s.1 s.2=_;unfold td;by_cases hi:i<L.length
    ·have q:L.getD i default∈L:=by rw[bN hi];exact qv _
     have n:L.drop i=L.getD i default::L.drop (i+1):=by rw[l3 hi,bN hi]
     have x:aa ((i:Int)+1)=((i+1:Nat):Int):=by rw[bK (by omega) (by omega)];omega
     rw[n]at p⊢;rw[lv,ala,← lv];have w:=Mi d (Nu d) s (L.getD i default);have u:s.2.length+((1+(L.getD i default).Text.size+eF d (L.getD i default).Kids)+eF (d+1) (L.drop (i+1)))≤800000:=by
      simpa only[eF,rl,List.sum_cons]using p
     have k:=o (i+1) (ia d s (L.getD i default)) (by omega) (by omega) (by omega);rw[lp (by simpa using hi),dh (by omega) (by omega),ba,adG];simp only[iN,Int.toNat_natCast];have step:∀s',ia d s (L.getD i default)=s'→po (KN (N+1)) (N+1) L m (aa ((i:Int)+1)) s'.1 s'.2=some (vM (d+1) (L.drop (i+1)) (ia d s (L.getD i default))):=fun s' e=>by
      rw[←e,x];exact k
     cases g:mC (L.getD i default) with
     | false =>
      rw[show(!false)=true from rfl,lp rfl];unfold nr;exact step s (by unfold ia;rw[g];rfl)
     | true =>
      rw[show(!true)=false from rfl,kc (by simp)];cases a:((L.getD i default).Kind == 2) with
      | true =>
       have v:(L.getD i default).Kind=2:=by simpa using a
       have:=y N (L.getD i default).Kids (aa (s.1+1),s.2) ((l.2 _ q).2 v) (by simp only[];omega) (by omega);rw[lp rfl];show((m6 (KN N) N (L.getD i default).Kids (aa (s.1+1)) s.2).bind _)=_;rw[show m6 (KN N) N (L.getD i default).Kids (aa (s.1+1)) s.2=_ from this];simp only[iN];unfold kN nr;exact step _ (by unfold ia;rw[g,a];rfl)
      | false =>
       rw[kc (by simp)];cases b:((L.getD i default).Kind == 4) with
       | true =>
        rw[lp rfl,dc (by simp;omega) (by omega),ba];unfold kN nr;exact step (_,_) (by unfold ia;rw[g,a,b];rfl)
       | false =>
        rw[kc (by simp)];cases f:((L.getD i default).Kind == 5) with
        | true =>
         rw[lp rfl,dc (by simp;omega) (by omega),ba];unfold kN nr;exact step (_,_) (by unfold ia;rw[g,a,b,f];rfl)
        | false =>
         rw[kc (by simp)];cases c:((L.getD i default).Kind == 3) with
         | true =>
          have B:=(l.2 _ q).1;rw[lp rfl,aif (KN (N+1)) (N+1) L i s.1 _ (by simpa using hi) (N+1) 0 s.2 (by rw[Int.toNat_natCast];omega) (by rw[Int.toNat_natCast];omega)];rw[Int.toNat_natCast];exact step (_,_) (by unfold ia;rw[g,a,b,f,c];rfl)
         | false =>
          rw[kc (by simp)];unfold kN nr;exact step (_,_) (by unfold ia;rw[g,a,b,f,c];rfl)
    ·rw[kc (by simpa using hi),mo (by omega)];rfl
  have:=j (N+1) 0 s (by omega) (by omega) (by grind)
  grind
def fm(d:Nat)(L:d6):eb:=(vM d L (0,[])).2
theorem HY{d N}{L}(a:Dp d L)(c:eF d L≤800000)(b:d+1100≤N):rI (KN N) N L=some (fm d L):=by
 unfold rI;rw[show m6 (KN N) N L 0 []=_ from afi d N L (0,[]) a (by grind) b];rfl
theorem Ej d L:(fm d L).length≤eF d L:=by
 grind[Nu,fm]
theorem af2{P:aI→Prop}{a}{e}(h:∀x∈a,P x)(b:kv e.Char=false→P e)(c:jL e=true→P { e with Kind:=2,Char:=32 })(d:jL e=true→P { e with Char:=32 })(f:jL e=false→P { e with Soft:=true,Char:=32 }):∀x∈n4 a e,P x:=by
 grind[n4]
theorem C0{P:aI→Prop} b a(g:∀r,du r→(kv r=false→P ⟨1,a,r,false,b⟩))(d:P ⟨2,a,32,false,b⟩)(e:b.Style.WhiteSpace=2→P ⟨1,a,32,false,b⟩)(f:b.Style.WhiteSpace≠2→P ⟨1,a,32,true,b⟩):∀rs c,(∀r∈rs,du r)→(∀x∈c,P x)→∀x∈rc b a c rs,P x
 | [],c,_,h=>h
 | r::t,c,j,h=>by
  refine C0 b a g d e f t _ (fun x l=>j x (by grind)) (af2 h (fun k=>g r (by grind) k) (fun _=>d) (fun i=>e (by grind[jL])) (fun i=>f (by grind[jL])))
theorem Xj{P:aI→Prop}(i:∀(b:ab) (a r:Int),du r→kv r=false→P ⟨1,a,r,false,b⟩)(j:∀(b:ab) (a:Int),P ⟨2,a,32,false,b⟩)(k:∀(b:ab) (a:Int),b.Style.WhiteSpace=2→P ⟨1,a,32,false,b⟩)(l:∀(b:ab) (a:Int),b.Style.WhiteSpace≠2→P ⟨1,a,32,true,b⟩)
  (m:∀(b:ab) (a:Int),P ⟨2,a,0,false,b⟩) (n:∀(b:ab) (a:Int),P ⟨3,a,0,false,b⟩):∀(d:Nat) (L:d6) (s:Int×eb),(∀x∈s.2,P x)→∀x∈(vM d L s).2,P x:=by
 have g:∀{e:eb} (y:aI),(∀x∈e,P x)→P y→∀x∈e++[y],P x:=fun y h q x c=>by
  rcases n5.1 c with c|c
  ·exact h x c
  ·rw[ajv.1 c];exact q
 intro d
 induction d with
 | zero=>intro L s h;exact h
 | succ d t =>
  intro L
  induction L with
  | nil=>intro s h;exact h
  | cons b r f =>
   intro s h;rw[lv,ala,← lv];refine f _ ?_;unfold ia;cases mC b with
   | false=>exact h
   | true =>
    simp only[alH];cases (b.Kind == 2) with
    | true=>exact t _ _ h
    | false =>
     simp only[alr];cases (b.Kind == 4) with
     | true=>exact g _ h (m _ _)
     | false =>
      simp only[alr];cases (b.Kind == 5) with
      | true=>exact g _ h (n _ _)
      | false =>
       simp only[alr];cases (b.Kind == 3) with
       | true=>exact C0 b _ (fun r o p=>i b _ r o p) (j b _) (k b _) (l b _) _ _ Jf h
       | false=>exact h
theorem G3:du 32:=by grind[du]
theorem Qq:du 0:=by grind[du]
theorem DQ d L:∀x∈fm d L,kp x :=
 Xj (fun b a r c _=>⟨c,fun h=>by grind⟩) (fun b a=>⟨G3,fun _=>rfl⟩) (fun b a _=>⟨G3,fun _=>rfl⟩) (fun b a _=>⟨G3,fun _=>rfl⟩) (fun b a=>⟨Qq,fun h=>by grind⟩) (fun b a=>⟨Qq,fun h=>by grind⟩) d L (0,[]) (fun x e=>by grind)
end
structure R4 where
 w:Int
 s:Int
 g:Bool
 f:Bool
instance:Inhabited R4:=⟨⟨0,0,false,false⟩⟩
def vI(r:az):R4:=⟨r.Width,r.Space,r.Glued,r.Forced⟩
theorem yN{L:d7}{k:Nat}(h:k<L.length):(L.map vI)[k]'(by simpa using h)=vI (L.getD k default):=by
 rw[bN h];simp
def gr(l:List R4)(i:Nat):Nat:=i+((l.drop i).takeWhile R4.g).length
theorem mu(l:List R4)(i:Nat):i≤gr l i:=alR _ _
theorem P5{α:Type}(p:α→Bool):∀l:List α,(l.takeWhile p).length≤l.length
 | []=>la _
 | x::r=>by
  rw[aln];split
  ·simp;exact P5 p r
  ·simp
theorem Ay{l:List R4}{i:Nat}(h:i≤l.length):gr l i≤l.length:=by
 have:=P5 R4.g (l.drop i);simp at this;unfold gr;omega
theorem ahO{l:List R4}{i:Nat}(h:i<l.length)(a:l[i].g=true):gr l i=gr l (i+1):=by
 unfold gr;rw[l3 h,aln,lp a];simp;omega
theorem ahG{l:List R4}{i:Nat}(h:i<l.length)(a:l[i].g=false):gr l i=i:=by
 unfold gr;rw[l3 h,aln,kc (by simp[a])];simp
theorem ac3{l:List R4}{i:Nat}(h:l.length≤i):gr l i=i:=by
 unfold gr;rw[mo h];simp
def wS(n a:Int):List R4→Int
 | []=>aa (n-a)
 | r::t=>wS (aa (n+aa (r.w+r.s))) (if r.f then a else r.s) t
def fQ(l:List R4):Int:=wS 0 0 l
def un(n:Int):List R4→Int
 | []=>n
 | r::t=>un (aa (n+aa (r.w+r.s))) t
def gI(x:Int):List R4→Int
 | []=>x
 | r::t=>gI (if r.f then x else r.s) t
theorem Vr:∀(l:List R4) (n a:Int),wS n a l=aa (un n l-gI a l)
 | [],n,a=>rfl
 | r::t,n,a=>by unfold wS un gI;exact Vr t _ _
theorem KI:∀(l m:List R4) (x:Int),gI x (l++m)=gI (gI x l) m
 | [],m,x=>rfl
 | r::t,m,x=>by simp only[ahj,gI];exact KI t m _
theorem XU(n:Int):aa (aa n)=aa n:=by
 have : -9223372036854775808≤aa n∧aa n≤9223372036854775807:=by unfold aa;rw[alp];omega
 exact bK this.1 this.2
section
variable{K:Kn}{n:Nat}{L:d7}
theorem ZC:∀(m:Nat) (i:Int),0≤i→i≤L.length→L.length<m+i.toNat→(L.length:Int)<9223372036854775807→wz K n L m i=some ((gr (L.map vI) i.toNat:Nat):Int):=by
 intro m
 induction m with
 | zero=>intro i b e f;omega
 | succ m h =>
  intro i b e f g;show vd K n L (wz K n L m) i=_;unfold vd;by_cases hi:i<(L.length:Int)
  ·have a:i.toNat<L.length:=by omega
   rw[lp (by simpa using hi),dh b hi,ba];unfold vX;have d:=yN a;cases c:(L.getD i.toNat default).Glued with
   | true =>
    rw[lp rfl,bK (by omega) (by omega),h (i+1) (by omega) (by omega) (by omega) g];rw[ahO (l:=L.map vI) (i:=i.toNat) (by simpa using a) (by rw[d];exact c),show(i+1).toNat=i.toNat+1 by omega]
   | false =>
    rw[kc (by simp)];rw[ahG (l:=L.map vI) (i:=i.toNat) (by simpa using a) (by rw[d];exact c)];congr 1;omega
  ·rw[kc (by simpa using hi)];unfold vX;rw[kc (by simp),ac3 (by simp;omega)];congr 1;omega
theorem KL{i:Int}(b:0≤i)(c:i<L.length)(d:L.length<n)(a:(L.length:Int)<9223372036854775807):rP K n L i=some ((gr (L.map vI) (i.toNat+1):Nat):Int):=by
 unfold rP;rw[bK (by omega) (by omega),ZC n (i+1) (by omega) (by omega) (by omega) a,show(i+1).toNat=i.toNat+1 by omega]
theorem Wh:∀(m:Nat) (k:Nat),k≤L.length→k<m→(L.length:Int)<9223372036854775807 →
  ∃j:Int,oD K n L m ((k:Int)-1)=some j∧((j = -1∧∀x,gI x ((L.map vI).take k)=x)∨(0≤j∧j<k∧∀x,gI x ((L.map vI).take k)=(L.getD j.toNat default).Space)):=by
 intro m
 induction m with
 | zero=>intro k _ h;omega
 | succ m r =>
  intro k s t p;show ∃j,oP K n L (oD K n L m) ((k:Int)-1)=some j∧_;unfold oP;cases k with
  | zero=>rw[kc (by simp)];exact⟨-1,rfl,.inl ⟨rfl,fun x=>by simp[gI]⟩⟩
  | succ k =>
   have e:(((k+1:Nat):Int)-1)=(k:Int):=by omega
   rw[e,lp (by simp),dh (by omega) (by omega),ba,Int.toNat_natCast];have d:k<L.length:=by omega
   have q:=yN d;have g:(L.map vI).take (k+1)=(L.map vI).take k++[vI (L.getD k default)]:=by
    rw[amn,j3 (by simpa using d),q];rfl
   cases f:(L.getD k default).Forced with
   | false =>
    rw[show(!false)=true from rfl,lp rfl];refine⟨(k:Int),rfl,.inr ⟨by omega,by omega,fun x=>?_⟩⟩;rw[g,KI,Int.toNat_natCast];simp only[gI,vI,f,jf,pt]
   | true =>
    rw[show(!true)=false from rfl,kc (by simp),bK (by omega) (by omega)];obtain⟨j,l,o⟩:=r k (by omega) (by omega) p;refine⟨j,l,?_⟩;have i:∀x,gI x ((L.map vI).take (k+1))=gI x ((L.map vI).take k):=fun x=>by
     rw[g,KI];simp only[gI,vI,f,AT]
    obtain⟨a,b⟩|⟨a,b,c⟩:=o
    ·exact .inl ⟨a,fun x=>(i x).trans (b x)⟩
    ·exact .inr ⟨a,by omega,fun x=>(i x).trans (c x)⟩
theorem YJ(d:L.length<n)(c:(L.length:Int)<9223372036854775807):∃j:Int,oQ K n L=some j∧((j = -1∧∀x,gI x (L.map vI)=x)∨(0≤j∧j<L.length∧∀x,gI x (L.map vI)=(L.getD j.toNat default).Space)):=by
 unfold oQ;rw[bK (by omega) (by omega)];obtain⟨j,b,a⟩:=Wh (K:=K) (n:=n) (L:=L) n L.length (la _) d c;refine⟨j,b,?_⟩;rw[Dj (by simp)]at a;exact a
theorem ajS(p:L.length<n)(o:(L.length:Int)<9223372036854775807):∀(m:Nat) (x i:Int),0≤i→i≤L.length→L.length<m+i.toNat→aa x=x →
  un 0 (L.map vI)=un x ((L.map vI).drop i.toNat)→tU K n L m x i=some (fQ (L.map vI)):=by
 intro m
 induction m with
 | zero=>intro x i c e f;omega
 | succ m r =>
  intro x i c e f q b;show ww K n L (tU K n L m) x i=_;unfold ww;by_cases hi:i<(L.length:Int)
  ·have d:i.toNat<L.length:=by omega
   rw[lp (by simpa using hi),dh c hi,ba,bK (n:=i+1) (by omega) (by omega)];refine r _ (i+1) (by omega) (by omega) (by omega) (XU _) ?_;rw[b,l3 (by simpa using d),yN d,show(i+1).toNat=i.toNat+1 by omega];rfl
  ·rw[kc (by simpa using hi)];rw[mo (by simp;omega)]at b;simp only[un]at b;obtain⟨j,g,h⟩:=YJ (K:=K) (L:=L) p o;rw[g];simp only[iN,xu];unfold fQ;rw[Vr,b];obtain⟨rfl,a⟩|⟨a,k,l⟩:=h
   ·rw[kc (by simp),a];simp[q]
   ·rw[lp (by simpa using a),dh a k,ba,l]
theorem Bp(a:L.length<n)(b:(L.length:Int)<9223372036854775807):nY K n L=some (fQ (L.map vI)):=by
 unfold nY;exact ajS a b n 0 0 (by omega) (by omega) (by simpa using a) (by unfold aa;rw[alp];omega) rfl
end
def sl{α:Type}(l:List α)(a b:Nat):List α:=List.drop a (List.take b l)
theorem Iq{α β:Type}(f:α→β)(l:List α)(a b:Nat):(sl l a b).map f=sl (l.map f) a b:=by unfold sl;rw[amW,List.map_take]
theorem xO{α:Type}(l:List α)(a b:Nat):(sl l a b).length≤l.length:=by unfold sl;simp;omega
def lE(l:List R4)(w:Int)(a:Nat):Nat→Nat→Nat
 | 0,e=>e
 | m+1,e=>if e<l.length∧(l.getD (e-1) default).f=false∧¬ fQ (sl l a (gr l (e+1)))>w then lE l w a m (gr l (e+1)) else e
def bM(l:List R4)(w:Int):Nat→Nat→ed
 | 0,_=>[]
 | m+1,a=>if a<l.length then a::bM l w m (lE l w a l.length (gr l (a+1))) else []
theorem xb(l:List R4)(w:Int)(a:Nat):∀m e,e≤lE l w a m e
 | 0,e=>la _
 | m+1,e=>by
  unfold lE;split
  ·have:=xb l w a m (gr l (e+1));have:=mu l (e+1);omega
  ·exact la _
theorem Gg(l:List R4)(w:Int)(a:Nat):∀m e,e≤l.length→lE l w a m e≤l.length
 | 0,e,h=>h
 | m+1,e,h=>by
  unfold lE;split
  ·rename_i b;exact Gg l w a m _ (Ay (by omega))
  ·exact h
theorem agE(l:List R4)(w:Int)(a:Nat):∀(m b e:Nat),l.length≤m+e→l.length≤b+e→lE l w a m e=lE l w a b e:=by
 intro m
 induction m with
 | zero =>
  intro b e h c;cases b with
  | zero=>rfl
  | succ b=>unfold lE;rw[kc (by omega)]
 | succ m d =>
  intro b e h c;cases b with
  | zero=>unfold lE;rw[kc (by omega)]
  | succ b =>
   unfold lE;split
   ·have:=mu l (e+1);exact d b _ (by omega) (by omega)
   ·rfl
theorem YB(l:List R4)(w:Int):∀(m b a:Nat),l.length<m+a→l.length<b+a→bM l w m a=bM l w b a:=by
 intro m
 induction m with
 | zero =>
  intro b a h c;cases b with
  | zero=>rfl
  | succ b=>unfold bM;rw[kc (by omega)]
 | succ m d =>
  intro b a h c;cases b with
  | zero=>unfold bM;rw[kc (by omega)]
  | succ b =>
   unfold bM;split
   ·have:=xb l w a l.length (gr l (a+1));have:=mu l (a+1);rw[d b _ (by omega) (by omega)]
   ·rfl
theorem E8(l:List R4)(w:Int):∀(m a:Nat),(bM l w m a).length≤l.length-a
 | 0,a=>by simp[bM]
 | m+1,a=>by
  unfold bM;split
  ·have:=E8 l w m (lE l w a l.length (gr l (a+1)));have:=xb l w a l.length (gr l (a+1));have:=mu l (a+1);simp;omega
  ·simp
section
variable{K:Kn}{n:Nat}{L:d7}{w:Int}
theorem Zc(u:L.length<n)(r:(L.length:Int)<9223372036854775807)(a:Nat)(b:ck)(C:Int→ck→Option ck):∀(m e:Nat),1≤e→a≤e→e≤L.length→L.length<m+e →
  ua K n L w a b C m e=C ((lE (L.map vI) w a m e:Nat):Int) (b++[(a:Int)]):=by
 intro m
 induction m with
 | zero=>intro e j o p q;omega
 | succ m y =>
  intro e j o p q;show tk K n L w a b C (ua K n L w a b C m) e=_;unfold tk lE;by_cases d:e<L.length
  ·rw[lp (by simpa using d),bK (by omega) (by omega),dh (by omega) (by omega),ba];unfold uf;have h:((e:Int)-1).toNat=e-1:=by omega
   have x:=yN (L:=L) (k:=e-1) (by omega);have g:((L.map vI).getD (e-1) default).f=(L.getD ((e:Int)-1).toNat default).Forced:=by
    rw[bN (by simp;omega),x,h];rfl
   cases f:(L.getD ((e:Int)-1).toNat default).Forced with
   | true =>
    rw[show(!true)=false from rfl,kc (by simp),kc (by rw[g,f];simp)];rfl
   | false =>
    have s:=Ay (l:=L.map vI) (i:=e+1) (by simp;omega);have t:=mu (L.map vI) (e+1);simp only[nw]at s;rw[show(!false)=true from rfl,lp rfl,KL (by omega) (by omega) u r];simp only[iN,Int.toNat_natCast];rw[show cF (a:Int) ((gr (L.map vI) (e+1):Nat):Int) L.length=true by simp only[cF,iO,q6];omega,ba];have v:List.drop a (List.take (gr (L.map vI) (e+1)) L)=sl L a (gr (L.map vI) (e+1)):=rfl;rw[v,Bp (by have:=xO L a (gr (L.map vI) (e+1));omega) (by have:=xO L a (gr (L.map vI) (e+1));omega),Iq];simp only[iN];by_cases c:fQ (sl (L.map vI) a (gr (L.map vI) (e+1)))>w
    ·rw[lp (by simpa using c),kc (by simp[c])];rfl
    ·rw[kc (by simpa using c),lp ⟨by simpa using d,by rw[g,f],c⟩];exact y _ (by omega) (by omega) (by omega) (by omega)
  ·rw[kc (by simpa using d),kc (by simp;omega)];unfold uf;rw[kc (by simp)];rfl
theorem agp(f:L.length<n)(r:(L.length:Int)≤1000000):∀(m a:Nat) (b:ck),a≤L.length→b.length≤a→L.length<m+a→u9 K n L w m a b=some (b++(bM (L.map vI) w m a).map fun (k:Nat)=>(k:Int)):=by
 intro m
 induction m with
 | zero=>intro a b g h j;omega
 | succ m q =>
  intro a b g h j;show tO K n L w (u9 K n L w m) a b=_;unfold tO bM;by_cases c:a<L.length
  ·rw[lp (by simpa using c),lp (by simpa using c),dc (by simp;omega) (by omega),ba,KL (by omega) (by omega) f (by omega)];simp only[iN,Int.toNat_natCast];have d:=Ay (l:=L.map vI) (i:=a+1) (by simp;omega);have p:=mu (L.map vI) (a+1);simp only[nw]at d;rw[Zc f (by omega) a b _ n _ (by omega) (by omega) d (by omega)];rw[agE (L.map vI) w a n (L.map vI).length _ (by simp;omega) (by simp)];have e:=Gg (L.map vI) w a (L.map vI).length (gr (L.map vI) (a+1)) (by simpa using d);have o:=xb (L.map vI) w a (L.map vI).length (gr (L.map vI) (a+1));simp only[nw]at e o⊢;rw[q _ _ e (by simp;omega) (by omega)];simp[u3]
  ·rw[kc (by simpa using c),kc (by simpa using c)];simp
theorem Wp(b:L.length<n)(a:(L.length:Int)≤1000000):yT K n L w=some ((bM (L.map vI) w (L.length+1) 0).map fun (k:Nat)=>(k:Int)):=by
 unfold yT;rw[show(0:Int)=((0:Nat):Int) from rfl,agp b a n 0 [] (by omega) (by simp) (by omega),YB (L.map vI) w n (L.length+1) 0 (by simp;omega) (by simp)];simp
end
noncomputable section
def jl(o:Int):aI→eb→Nat
 | _,[]=>0
 | a,b::r=>bif b.Kind == 1&&(b.Of == o&&!iH a b) then jl o b r+1 else 0
theorem B4(o:Int):∀(l:eb) (a:aI),jl o a l≤l.length
 | [],_=>la _
 | b::r,a=>by
  unfold jl;cases (b.Kind == 1&&(b.Of == o&&!iH a b)) with
  | true=>have:=B4 o r b;simp;omega
  | false=>simp
def we(p:Option aI)(e:aI):Bool:=match p with
 | none=>false
 | some q=>q.Kind != 2&&!iH q e
def runM(x:az)(e:aI)(g:Bool):az:={ x with Node:=e.Box.Node,Style:=e.Box.Style,Glued:=g }
def cM(pl:ab→az):Nat→Option aI→eb→d7
 | 0,_,_=>[]
 | _+1,_,[]=>[]
 | m+1,p,e::r =>
  bif e.Kind == 2 then runM { cR with Forced:=true } e (we p e)::cM pl m (some e) r
  else bif e.Kind == 3 then runM (pl e.Box) e (we p e)::cM pl m (some e) r
  else runM (eL (e::r.take (jl e.Of e r))) e (we p e)::cM pl m (some (nh (e::r.take (jl e.Of e r)))) (r.drop (jl e.Of e r))
def dG(L:eb)(i:Nat):Option aI:=if i=0 then none else some (L.getD (i-1) default)
theorem Eo{α:Type}[Inhabited α]{L:List α}{i k:Nat}(h:i<L.length):sl L i (i+1+k)=L.getD i default::(L.drop (i+1)).take k:=by
 unfold sl;rw[List.drop_take,show i+1+k-i=k+1 by omega,l3 h,List.take_succ_cons,bN h]
theorem BR{α:Type}{L:List α}{a b:Nat}{x:α}(h:x∈sl L a b):x∈L:=by
 unfold sl at h;exact u6 (OR h)
theorem Dr{α:Type}{L:List α}{a b:Nat}(h:b≤L.length):(sl L a b).length=b-a:=by unfold sl;simp;omega
theorem JV{L:eb}{i k:Nat}(h:i+k<L.length):nh (L.getD i default::(L.drop (i+1)).take k)=L.getD (i+k) default:=by
 rw[←Eo (by omega)];unfold nh;have c:=Dr (L:=L) (a:=i) (b:=i+1+k) (by omega);rw[c,bN (by rw[c];omega),bN h];unfold sl;rw[List.getElem_drop,List.getElem_take];congr 1;omega
section
variable{K:Kn}{n:Nat}{v2:Fv}{L:eb}{pl:ab→az}
theorem akn(q:∀e∈L,kp e)(F:L.length≤2000)(z:8010≤n)(i:Nat)(c:d7)(g:Bool)(C:Int→d7→Option d7)(hi:i<L.length):∀(m x:Nat),i<x→x≤L.length→L.length<m+x →
  rA K n v2 L (i:Int) c g C m (x:Int)=l8 K n v2 L i c g C ((x+jl (L.getD i default).Of (L.getD (x-1) default) (L.drop x):Nat):Int) (eL (sl L i (x+jl (L.getD i default).Of (L.getD (x-1) default) (L.drop x)))):=by
 have h:∀y:Nat,i<y→y≤L.length→∀(D:Int→Option d7),l4 K n v2 L (i:Int) c g (y:Int) C D false=l8 K n v2 L i c g C (y:Int) (eL (sl L i y)):=fun y l j D=>by
  unfold l4;have r:List.drop i (List.take y L)=sl L i y:=rfl;have d:=Dr (L:=L) (a:=i) (b:=y) j;rw[kc (by simp),show cF (i:Int) (y:Int) L.length=true by simp only[cF,iO,q6];omega,ba];simp only[Int.toNat_natCast];rw[r,KW (by intro e;rw[e]at d;simp at d;omega) (by omega) (fun e w=>q e (BR w)) z];rfl
 intro m
 induction m with
 | zero=>intro x l j t;omega
 | succ m B =>
  intro x l j t;show sP K n v2 L i c g C (rA K n v2 L i c g C m) x=_;unfold sP;by_cases k:x<L.length
  ·have p:L.drop x=L.getD x default::L.drop (x+1):=by rw[l3 k,bN k]
   have o:L.getD x default∈L:=by rw[bN k];exact qv _
   have u:L.getD (x-1) default∈L:=by rw[bN (by omega)];exact qv _
   have s:aa ((x:Int)-1)=((x-1:Nat):Int):=by rw[bK (by omega) (by omega)];omega
   rw[lp (by simpa using k),dh (by omega) (by omega)];simp only[ba,Int.toNat_natCast,s];rw[p];unfold jl;have f:∀{b:Bool},b=false→l4 K n v2 L (i:Int) c g (x:Int) C (rA K n v2 L i c g C m) false=l8 K n v2 L i c g C ((x+(bif b then jl (L.getD i default).Of (L.getD x default) (L.drop (x+1))+1 else 0):Nat):Int) (eL (sl L i (x+(bif b then jl (L.getD i default).Of (L.getD x default) (L.drop (x+1))+1 else 0)))):=fun {b} o=>by
    subst o;exact h x l j _
   cases E:((L.getD x default).Kind == 1) with
   | false=>rw[kc (by simp)];exact f rfl
   | true =>
    rw[lp rfl];cases A:((L.getD x default).Of == (L.getD i default).Of) with
    | false=>rw[kc (by simp)];exact f rfl
    | true =>
     rw[lp rfl,dh (by omega) (by omega),ba,vr K (by omega) (q _ u).ch (q _ o).ch];simp only[iN];cases v:iH (L.getD (x-1) default) (L.getD x default) with
     | true=>exact f rfl
     | false =>
      unfold l4;rw[show(!false)=true from rfl,lp rfl,bK (by omega) (by omega),show(x:Int)+1=((x+1:Nat):Int) by omega,B (x+1) (by omega) (by omega) (by omega)];simp only[aiw,amr,alH];rw[show x+1+jl (L.getD i default).Of (L.getD x default) (L.drop (x+1))=x+(jl (L.getD i default).Of (L.getD x default) (L.drop (x+1))+1) by omega]
  ·rw[kc (by simpa using k),mo (by omega)];unfold jl;exact h x l j _
theorem E9(i:Nat)(a:d7)(g:Bool)(C:Int→d7→Option d7)(b:a.length≤1000000)(y:Int)(x:az):l8 K n v2 L (i:Int) a g C y x=C y (a++[runM x (L.getD i default) g]):=by
 unfold l8;simp only[iN,Int.toNat_natCast];rw[dc (by simp;omega) (by omega),ba];rfl
theorem abo(j:∀e∈L,kp e)(y:L.length≤2000)(z:8010≤n)(l:∀e∈L,e.Kind=3→K.uE v2 e.Box=some (pl e.Box)):∀(m i:Nat) (a:d7),i≤L.length→L.length<m+i→a.length≤i →
  rL K n v2 L m (i:Int) a=some (a++cM pl m (dG L i) (L.drop i)):=by
 intro m
 induction m with
 | zero=>intro i a t u;omega
 | succ m p =>
  intro i a t u B;show tI K n v2 L (rL K n v2 L m) i a=_;unfold tI;by_cases hi:i<L.length
  ·have f:L.drop i=L.getD i default::L.drop (i+1):=by rw[l3 hi,bN hi]
   have r:L.getD i default∈L:=by rw[bN hi];exact qv _
   rw[lp (by simpa using hi),dh (by omega) (by omega)];simp only[ba,Int.toNat_natCast];rw[f];have o:aa ((i:Int)+1)=((i+1:Nat):Int):=by rw[bK (by omega) (by omega)];omega
   have b:dG L (i+1)=some (L.getD i default):=by unfold dG;rw[kc (by omega),aiw]
   have key:∀g,g=we (dG L i) (L.getD i default)→qH K n v2 L (i:Int) a (rL K n v2 L m) g=some (a++cM pl (m+1) (dG L i) (L.getD i default::L.drop (i+1))):=by
    intro g w;unfold qH cM;simp only[iN,Int.toNat_natCast];rw[←w];cases C:((L.getD i default).Kind == 2) with
    | true =>
     rw[lp rfl,E9 i a g _ (by omega),o,p (i+1) _ (by omega) (by omega) (by simp;omega),b];simp[u3]
    | false =>
     rw[kc (by simp)];cases A:((L.getD i default).Kind == 3) with
     | true =>
      rw[lp rfl,l _ r (by simpa using A)];simp only[iN];rw[E9 i a g _ (by omega),o,p (i+1) _ (by omega) (by omega) (by simp;omega),b];simp[u3]
     | false =>
      rw[kc (by simp),o,akn j y z i a g _ hi n (i+1) (by omega) (by omega) (by omega),aiw];simp only[alr];have x:=B4 (L.getD i default).Of (L.drop (i+1)) (L.getD i default);rw[ak2]at x;generalize jl (L.getD i default).Of (L.getD i default) (L.drop (i+1))=k at *;rw[E9 i a g _ (by omega),p (i+1+k) _ (by omega) (by omega) (by simp;omega),Eo hi,JV (by omega),akY];have d:dG L (i+1+k)=some (L.getD (i+k) default):=by unfold dG;rw[kc (by omega)];congr 2;omega
      rw[d];simp[u3]
   by_cases q:i=0
   ·rw[kc (by simp;omega)];exact key false (by unfold dG;rw[lp q];rfl)
   ·have v:L.getD (i-1) default∈L:=by rw[bN (by omega)];exact qv _
    have s:aa ((i:Int)-1)=((i-1:Nat):Int):=by rw[bK (by omega) (by omega)];omega
    have d:dG L i=some (L.getD (i-1) default):=by unfold dG;rw[kc q]
    rw[lp (by simp;omega),s,dh (by omega) (by omega)];simp only[ba,Int.toNat_natCast];by_cases c:((L.getD (i-1) default).Kind != 2)=true
    ·rw[lp c,vr K (by omega) (j _ v).ch (j _ r).ch];simp only[iN];exact key _ (by rw[d];show _=((L.getD (i-1) default).Kind != 2&&!iH (L.getD (i-1) default) (L.getD i default));rw[c];rfl)
    ·rw[kc c];have h:((L.getD (i-1) default).Kind != 2)=false:=by simpa using c
     exact key false (by rw[d];show _=((L.getD (i-1) default).Kind != 2&&!iH (L.getD (i-1) default) (L.getD i default));rw[h];rfl)
  ·rw[kc (by simpa using hi),mo (by omega)];simp[cM]
theorem Om(pl:ab→az):∀(m a:Nat) (p:Option aI) (l:eb),l.length<m→l.length<a→cM pl m p l=cM pl a p l:=by
 intro m
 induction m with
 | zero=>intro a p l h;omega
 | succ m b =>
  intro a p l h c;cases a with
  | zero=>omega
  | succ a =>
   cases l with
   | nil=>rfl
   | cons e r =>
    simp only[ls]at h c;unfold cM;rw[b a (some e) r (by omega) (by omega),b a _ (r.drop (jl e.Of e r)) (by simp;omega) (by simp;omega)]
theorem OM(pl:ab→az):∀(m:Nat) (p:Option aI) (l:eb),(cM pl m p l).length≤l.length:=by
 intro m
 induction m with
 | zero=>intro p l;simp[cM]
 | succ m a =>
  intro p l;cases l with
  | nil=>simp[cM]
  | cons e r =>
   unfold cM;have c:=a (some e) r;have b:=a (some (nh (e::r.take (jl e.Of e r)))) (r.drop (jl e.Of e r));rw[ak2]at b;cases (e.Kind == 2) with
   | true=>simp;omega
   | false =>
    cases (e.Kind == 3) with
    | true=>simp;omega
    | false=>simp;omega
def qL(pl:ab→az)(L:eb):d7:=cM pl (L.length+1) none L
end
theorem aaj{N d:Nat}{B:d6}{v2:Fv}{pl:ab→az}(c:Dp d B)(g:eF d B≤2000)(f:d+9000≤N)(a:∀e∈fm d B,e.Kind=3→(KN N).uE v2 e.Box=some (pl e.Box)):
  wM (KN N) N B v2=some (qL pl (fm d B)):=by
 have b:=Ej d B;unfold wM;rw[HY c (by omega) (by omega)];simp only[iN];rw[show(0:Int)=((0:Nat):Int) from rfl,abo (pl:=pl) (DQ d B) (by omega) (by omega) a N 0 [] (by omega) (by omega) (by simp),List.drop_zero,IT];unfold qL;rw[Om pl N ((fm d B).length+1) _ _ (by omega) (by omega)];rfl
end
noncomputable section
theorem En(b:ByteArray):b.toList=b.data.toList:=ByteArray.toList_eq b
theorem ahs:(⟨#[]⟩:ByteArray).toList=[]:=by rw[En]
def mf(b:ByteArray):Bool:=b.data.toList.getLast? == some 32
theorem abY(K:Kn)(n:Nat){b:ByteArray}(i:b.size≤1000000):yH K n b ⟨#[32]⟩=some (mf b):=by
 have g:(⟨#[32]⟩:ByteArray).size=1:=rfl;unfold yH Cp A8 mf;rw[g];by_cases h:1≤b.size
 ·have d:aa ((b.size:Int)-((1:Nat):Int))=((b.size-1:Nat):Int):=by rw[bK (by omega) (by omega)];omega
  rw[lp (by simp;omega),d,show cF ((b.size-1:Nat):Int) (b.size:Int) b.size=true by simp only[cF,iO,q6];omega,ba];simp only[iN,Int.toNat_natCast];rw[En,En,amx,amK];have c:b.data.toList.length=b.size:=rfl;generalize b.data.toList=l at c;rw[←c]at h⊢;have a:l≠[]:=by intro e;rw[e]at h;simp at h
  have:(l.take l.length).drop (l.length-1)=[l.getLast a]:=by
   rw[akO]
   conv=>lhs;rw[←alZ a]
   rw[ne,List.length_dropLast];simp
  rw[List.extract_eq_drop_take,List.getLast?_eq_some_getLast a];have f:List.take (l.length-(l.length-1)) (List.drop (l.length-1) l)=[l.getLast a]:=by
   rw[←this,akO,Dj (by simp)]
  rw[f];show some ([l.getLast a] == [32])=some (some (l.getLast a) == some 32);congr 1;cases j:(l.getLast a == 32)<;>simp_all
 simp_all
def Et(b:ByteArray):ByteArray:=b.extract 0 (b.size-1)
def stripR(r:az):az:=bif mf r.Text&&r.Style.WhiteSpace != 2 then { r with Text:=Et r.Text,Space:=0 } else r
def HV(a x:Int)(b:ae):ae:={ b with X:=aa (b.X+x),Y:=aa (b.Y+(aa ((aa (a-b.H))-aa (b.After.Pos+b.After.Neg)))) }
def Hd(s:Int):Int:=min (max s 0) 1048576
def Yc(s:Int):Int:=aa (Hd s+(aa (Int.tdiv (aa (Hd s+3)) 4)))
def Br(a x:Int)(r:az):dn:=bif r.Text.data.toList.isEmpty then [] else [⟨3,r.Node,x,aa (a-Hd r.Style.FontSize),aa (r.Width+r.Space),Yc r.Style.FontSize,0,r.Text,r.Style,dB,dB,false,[]⟩]
def nn(a x:Int)(r:az):dn:=Br a x r++r.Box.map (HV a x)
def jv(a b:Int):Int→Int→d7→dn
 | _,_,[]=>[]
 | i,x,r::t =>
  let c:=bif i == b then stripR r else r
  nn a x c++jv a b (i+1) (aa (x+aa (c.Width+c.Space))) t
section
variable{K:Kn}{n:Nat}{L:d7}{s:aN}{w a d e:Int}
theorem aeL(r:az)(i:Int)(C:Int→Int→dn→Option ae)(x:Int)(o:r.Box.length≤1000):∀(m j:Nat) (b:dn),j≤r.Box.length→r.Box.length<m+j→b.length≤1000000+j →
  tN K n L s w a d e x i r C m (j:Int) b=C (aa (x+aa (r.Width+r.Space))) (aa (i+1)) (b++(r.Box.drop j).map (HV a x)):=by
 intro m
 induction m with
 | zero=>intro j b f g;omega
 | succ m k =>
  intro j b f g l;show ub K n L s w a d e x i r C (tN K n L s w a d e x i r C m) j b=_;unfold ub;by_cases c:j<r.Box.length
  ·have h:r.Box.drop j=r.Box.getD j default::r.Box.drop (j+1):=by rw[l3 c,bN c]
   rw[lp (by simpa using c),dh (by omega) (by omega)];simp only[ba,iN,Int.toNat_natCast,gz];rw[dc (by simp;omega) (by omega),ba,bK (n:=(j:Int)+1) (by omega) (by omega),show(j:Int)+1=((j+1:Nat):Int) by omega,k (j+1) _ (by omega) (by omega) (by simp;omega),h,rl];rw[u3];rfl
  ·rw[kc (by simpa using c),mo (by omega)];simp
theorem YL(r:az)(i:Int)(C:Int→Int→dn→Option ae)(x:Int)(j:r.Box.length≤1000)(m:1001≤n)(f:dn)(k:f.length≤900000):
  oq K n L s w a d e x i f C r=C (aa (x+aa (r.Width+r.Space))) (aa (i+1)) (f++nn a x r):=by
 unfold oq;rw[En,ahs];simp only[iN];have g:∀c:dn,c.length≤1000000→sa K n L s w a d e x i r C c=C (aa (x+aa (r.Width+r.Space))) (aa (i+1)) (c++r.Box.map (HV a x)):=fun c h=>by
  unfold sa;rw[show(0:Int)=((0:Nat):Int) from rfl,aeL r i C x j n 0 c (by omega) (by omega) (by omega),List.drop_zero]
 unfold nn Br;cases l:r.Text.data.toList with
 | nil =>
  rw[kc (by simp),g f (by omega)];simp
 | cons b t =>
  rw[lp (by simp)];simp only[zU,yx,ra,iN];rw[dc (by simp;omega) (by omega),ba,g _ (by simp;omega)];simp only[List.isEmpty_cons,alr,u3];rfl
theorem YS(C:∀r∈L,r.Box.length≤1∧r.Text.size≤100000)(O:L.length≤2000)(P:2002≤n):∀(m i:Nat) (x:Int) (b:dn),i≤L.length→L.length<m+i→b.length≤2*i →
  mJ K n L s w a d e m x (i:Int) b=some { bT with Kind:=2,W:=w,H:=aa (a+d),aB:=a,Style:=s,Kids:=b++jv a e i x (L.drop i) }:=by
 intro m
 induction m with
 | zero=>intro i x b A B;omega
 | succ m I =>
  intro i x b A B N;show vg K n L s w a d e (mJ K n L s w a d e m) x i b=_;unfold vg;by_cases hi:i<L.length
  ·have D:L.drop i=L.getD i default::L.drop (i+1):=by rw[l3 hi,bN hi]
   have E:L.getD i default∈L:=by rw[bN hi];exact qv _
   obtain⟨t,M⟩:=C _ E;have u:aa ((i:Int)+1)=((i+1:Nat):Int):=by rw[bK (by omega) (by omega)];omega
   rw[lp (by simpa using hi),dh (by omega) (by omega),ba];simp only[Int.toNat_natCast];have J:∀(y:Int) (r:az),r.Box.length≤1→(nn a y r).length≤2:=fun y r h=>by
    unfold nn Br;cases r.Text.data.toList.isEmpty<;>simp<;>omega
   have step:∀g:az,g.Box=(L.getD i default).Box→oq K n L s w a d e x i b (mJ K n L s w a d e m) g=some { bT with Kind:=2,W:=w,H:=aa (a+d),aB:=a,Style:=s,Kids:=b++(nn a x g++jv a e ((i:Int)+1) (aa (x+aa (g.Width+g.Space))) (L.drop (i+1))) }:=fun g p=>by
    have F:=J x g (by rw[p];exact t);rw[YL g i _ x (by rw[p];omega) (by omega) b (by omega),u,I (i+1) _ _ (by omega) (by omega) (by simp;omega)];rw[u3];rfl
   rw[D];unfold jv;by_cases f:(i:Int)=e
   ·rw[lp (by simpa using f),abY K n (by omega)];simp only[iN];rw[show((i:Int) == e)=true by simpa using f];simp only[alH];have q:∀c:Bool,o8 K n L s w a d e x i b (mJ K n L s w a d e m) (mf (L.getD i default).Text&&c)=oq K n L s w a d e x i b (mJ K n L s w a d e m) (bif mf (L.getD i default).Text&&c then { L.getD i default with Text:=Et (L.getD i default).Text,Space:=0 } else L.getD i default):=fun c=>by
     unfold o8;simp only[Int.toNat_natCast];cases j:mf (L.getD i default).Text with
     | false=>rw[kc (by simp)];rfl
     | true =>
      cases c with
      | false=>rw[kc (by simp)];rfl
      | true =>
       have G:1≤(L.getD i default).Text.size:=by
        unfold mf at j;rcases Nat.eq_zero_or_pos (L.getD i default).Text.size with l|l
        ·have:(L.getD i default).Text.data.toList=[]:=qk (by rw[Az];exact l);rw[this]at j;simp at j
        ·exact l
       have v:aa (((L.getD i default).Text.size:Int)-1)=(((L.getD i default).Text.size-1:Nat):Int):=by rw[bK (by omega) (by omega)];omega
       rw[lp (show(true&&true)=true from rfl),v,show cF (0:Int) (((L.getD i default).Text.size-1:Nat):Int) (L.getD i default).Text.size=true by simp only[cF,iO,q6];omega,ba];simp only[Int.toNat_natCast,Int.toNat_zero];rfl
    have o:stripR (L.getD i default)=(bif mf (L.getD i default).Text&&(L.getD i default).Style.WhiteSpace != 2 then { L.getD i default with Text:=Et (L.getD i default).Text,Space:=0 } else L.getD i default):=rfl;rw[o];have k:∀c:Bool,(bif c then { L.getD i default with Text:=Et (L.getD i default).Text,Space:=0 } else L.getD i default:az).Box=(L.getD i default).Box:=fun c=>by cases c<;>rfl
    cases j:mf (L.getD i default).Text with
    | true =>
     rw[lp rfl];have:=q ((L.getD i default).Style.WhiteSpace != 2);rw[j,alw]at this;rw[this,alw];exact step _ (k _)
    | false =>
     rw[kc (by simp)];have:=q false;rw[j,amN]at this;rw[this,amN];exact step _ rfl
   ·rw[kc (by simpa using f)];have z:((i:Int) == e)=false:=by simpa using f
    rw[z];unfold o8;rw[kc (by simp)];simp only[Int.toNat_natCast,alr];exact step _ rfl
  grind[jv]
end
def jW:Int×Int→d7→Int×Int
 | p,[]=>p
 | p,r::t=>jW (bif r.Forced then p else (max p.1 r.Above,max p.2 r.Below)) t
theorem acL p r t:jW p (r::t)=jW (bif r.Forced then p else (max p.1 r.Above,max p.2 r.Below)) t:=rfl
def ry(i a:Int):d7→Int
 | []=>a
 | r::t=>ry (i+1) (bif r.Forced then a else i) t
def Er(L:d7):Int:=ry 0 (-1) L
def AZ(s:aN)(w u:Int):Int:=(uV (KN 0) 0 s w u).getD 0
def qi(s:aN)(w:Int)(L:d7):ae :=
 { bT with Kind:=2,W:=w,H:=aa ((jW (kn s) L).1+(jW (kn s) L).2),aB:=(jW (kn s) L).1,Style:=s,Kids:=[]++jv (jW (kn s) L).1 (Er L) 0 (AZ s w (fQ (L.map vI))) L }
theorem OA:∀a r i b,ry i b (a++[r])=bif r.Forced then ry i b a else i+a.length
 | [],r,i,b=>by simp[ry]
 | x::t,r,i,b=>by
  simp only[ahj,ry];rw[OA t r (i+1)]
  grind
theorem adp K n s w u:uV K n s w u=some (AZ s w u):=by
 grind[uV,AZ]
section
variable{K:Kn}{n:Nat}{L:d7}{s:aN}{w:Int}
theorem aa4:∀(m k:Nat),k≤L.length→k<m→(L.length:Int)<9223372036854775807→oD K n L m ((k:Int)-1)=some (ry 0 (-1) (L.take k)):=by
 intro m
 induction m with
 | zero=>intro k _ h;omega
 | succ m f =>
  intro k i j b;show oP K n L (oD K n L m) ((k:Int)-1)=_;unfold oP;cases k with
  | zero=>rw[kc (by simp)];rfl
  | succ k =>
   have e:(((k+1:Nat):Int)-1)=(k:Int):=by omega
   have a:k<L.length:=by omega
   have d:L.take (k+1)=L.take k++[L.getD k default]:=by
    rw[amn,j3 a,bN a];rfl
   rw[e,lp (by simp),dh (by omega) (by omega),ba,Int.toNat_natCast,d,OA];have c:(L.take k).length=k:=by simp;omega
   cases g:(L.getD k default).Forced with
   | false=>rw[show(!false)=true from rfl,lp rfl,c];simp
   | true=>rw[show(!true)=false from rfl,kc (by simp),bK (by omega) (by omega),f k (by omega) (by omega) b];rfl
theorem Y2(b:L.length<n)(a:(L.length:Int)<9223372036854775807):oQ K n L=some (Er L):=by
 unfold oQ;rw[bK (by omega) (by omega),aa4 n L.length (by omega) b a,akO];rfl
theorem Yh(g:∀r∈L,r.Box.length≤1∧r.Text.size≤100000)(j:L.length≤2000)(k:2002≤n):∀(m i:Nat) (p:Int×Int),i≤L.length→L.length<m+i→jW (kn s) L=jW p (L.drop i)→tT K n L s w m p.1 p.2 (i:Int)=some (qi s w L):=by
 intro m
 induction m with
 | zero=>intro i p e f;omega
 | succ m c =>
  intro i p e f a;show tr K n L s w (tT K n L s w m) p.1 p.2 i=_;unfold tr;by_cases hi:i<L.length
  ·have h:L.drop i=L.getD i default::L.drop (i+1):=by rw[l3 hi,bN hi]
   rw[h,acL]at a;have d:aa ((i:Int)+1)=((i+1:Nat):Int):=by rw[bK (by omega) (by omega)];omega
   rw[lp (by simpa using hi),dh (by omega) (by omega),ba];simp only[Int.toNat_natCast];unfold Ad;rw[d];cases b:(L.getD i default).Forced with
   | false =>
    rw[b]at a;rw[show(!false)=true from rfl,lp rfl];exact c (i+1) (_,_) (by omega) (by omega) a
   | true =>
    rw[b]at a;rw[show(!true)=false from rfl,kc (by simp)];exact c (i+1) p (by omega) (by omega) a
  ·rw[mo (by omega)]at a;have a:jW (kn s) L=p:=a;rw[kc (by simpa using hi),Bp (by omega) (by omega)];simp only[iN,adp];rw[Y2 (by omega) (by omega)];simp only[iN];rw[show(0:Int)=((0:Nat):Int) from rfl,YS g j k n 0 _ [] (by omega) (by omega) (by simp),List.drop_zero];unfold qi;rw[a];rfl
theorem acF(a:∀r∈L,r.Box.length≤1∧r.Text.size≤100000)(b:L.length≤2000)(c:2002≤n):Ec K n L s w=some (qi s w L):=by
 exact Yh a b c n 0 (kn s) (by omega) (by omega) rfl
end
def jj(s:aN)(w:Int)(X:d7):Int→ed→dn×Int
 | h,a::b::r =>
  let f:=qi s w (sl X a b)
  let q:=jj s w X (aa (h+f.H)) (b::r)
  ({ f with Y:=h }::q.1,q.2)
 | h,_=>([],h)
theorem Vz s w X:∀S h,(jj s w X h S).1.length≤S.length
 | [],h=>by simp[jj]
 | [a],h=>by simp[jj]
 | a::b::r,h=>by
  have:=Vz s w X (b::r) (aa (h+(qi s w (sl X a b)).H))
  grind[jj]
section
variable{K:Kn}{n:Nat}{X:d7}{s:aN}{w:Int}
def BU(N:Nat):ed→Prop
 | a::b::r=>a≤b∧b≤N∧BU N (b::r)
 | _=>True
theorem TX{N}:∀{S},BU N S→∀i,i+1<S.length→S.getD i 0≤S.getD (i+1) 0∧S.getD (i+1) 0≤N
 | [],_,i,h=>by grind
 | [a],_,i,h=>by grind
 | a::b::r,h,0,_=>⟨h.1,h.2.1⟩
 | a::b::r,h,i+1,hi=>by
  have:=TX h.2.2 i (by grind)
  grind
theorem W2(B:∀r∈X,r.Box.length≤1∧r.Text.size≤100000)(I:X.length≤2000)(J:2010≤n)(v:Int)(C:min (max v 0) 1048576=w)(c S:ed)(z:S=c++[X.length])(y:BU X.length S)(A:S.length≤2001):∀(m i:Nat) (h:Int) (a:dn),i<S.length→S.length<m+i→a.length≤i →
  wg K n s v X (c.map fun (k:Nat)=>(k:Int)) m h ((S.length-1:Nat):Int) (i:Int) a=some (a++(jj s w X h (S.drop i)).1,(jj s w X h (S.drop i)).2):=by
 have f:(c.map fun (k:Nat)=>(k:Int))++[(X.length:Int)]=S.map fun (k:Nat)=>(k:Int):=by rw[z];simp
 have b:∀j,j<S.length→(S.map fun (k:Nat)=>(k:Int)).getD j default=((S.getD j 0:Nat):Int):=fun j o=>by
  rw[bN (by simpa using o),ald];congr 1;simp[List.getD,o]
 intro m
 induction m with
 | zero=>intro i h a e x;omega
 | succ m D =>
  intro i h a e x G;show uF K n s v X (c.map fun (k:Nat)=>(k:Int)) (wg K n s v X (c.map fun (k:Nat)=>(k:Int)) m) h ((S.length-1:Nat):Int) i a=_;unfold uF;have q:aa ((i:Int)+1)=((i+1:Nat):Int):=by rw[bK (by omega) (by omega)];omega
  rw[f,q];have l:S.drop i=S.getD i 0::S.drop (i+1):=by rw[l3 e];congr 1;simp[List.getD,e]
  by_cases hi:i+1<S.length
  ·have t:=b i e;have u:=b (i+1) hi;obtain⟨E,F⟩:=TX y i hi;have d:S.drop (i+1)=S.getD (i+1) 0::S.drop (i+2):=by rw[l3 hi];congr 1;simp[List.getD,hi]
   rw[lp (by simp;omega),dh (by omega) (by simp;omega),ba,dh (by omega) (by simp;omega),ba];simp only[Int.toNat_natCast,t,u];rw[show cF ((S.getD i 0:Nat):Int) ((S.getD (i+1) 0:Nat):Int) X.length=true by simp only[cF,iO,q6];omega,ba];have g:List.drop (S.getD i 0) (List.take (S.getD (i+1) 0) X)=sl X (S.getD i 0) (S.getD (i+1) 0):=rfl;have H:=xO X (S.getD i 0) (S.getD (i+1) 0);rw[g,C,acF (fun r p=>B r (by unfold sl at p;exact u6 (OR p))) (by omega) (by omega)];simp only[iN];rw[dc (by simp;omega) (by omega),ba,D (i+1) _ _ (by omega) (by omega) (by simp;omega),l,d]
   conv=>rhs;unfold jj
   rw[←d];simp[u3]
  ·rw[kc (by simp;omega),l,mo (by omega)];simp[jj]
end
end
noncomputable section
theorem W0(l:List R4)(w:Int)(m a:Nat)(b:a≤l.length)(c:l.length<m+a):∃r,bM l w m a++[l.length]=a::r:=by
 cases m with
 | zero=>omega
 | succ m =>
  unfold bM;by_cases h:a<l.length
  ·rw[lp h];exact⟨_,rfl⟩
  ·rw[kc h];exact⟨[],by rw[IT,show a=l.length by omega]⟩
theorem aga(l:List R4)(w:Int):∀(m a:Nat),a≤l.length→l.length<m+a→BU l.length (bM l w m a++[l.length]):=by
 intro m
 induction m with
 | zero=>intro a d e;omega
 | succ m g =>
  intro a d e;unfold bM;by_cases h:a<l.length
  ·rw[lp h];have j:=Ay (l:=l) (i:=a+1) (by omega);have k:=mu l (a+1);have b:=Gg l w a l.length _ j;have n:=xb l w a l.length (gr l (a+1));have c:=g (lE l w a l.length (gr l (a+1))) b (by omega);obtain⟨r,f⟩:=W0 l w m (lE l w a l.length (gr l (a+1))) b (by omega);rw[ahj];rw[f]at c⊢;exact⟨by omega,b,c⟩
  ·rw[kc h];trivial
theorem Ri{P:az→Prop}{pl:ab→az}(q:∀e g,P (runM { cR with Forced:=true } e g)):∀(m:Nat) (p:Option aI) (l:eb),(∀e∈l,e.Kind=3→∀g,P (runM (pl e.Box) e g))→(∀e g (x:eb),x≠[]→x.length≤l.length→(∀y∈x,y∈l)→P (runM (eL x) e g))→∀r∈cM pl m p l,P r:=by
 intro m
 induction m with
 | zero=>intro p l _ _ r a;cases a
 | succ m j =>
  intro p l h i r a;cases l with
  | nil=>cases a
  | cons e t =>
   unfold cM at a;cases k:(e.Kind == 2) with
   | true =>
    rw[k]at a;rcases ol.1 a with rfl|a
    ·exact q _ _
    ·exact j (some e) t (fun e c=>h e (by simp[c])) (fun e g x d o f=>i e g x d (by simp;omega) (fun y b=>by simp[f y b])) r a
   | false =>
    cases n:(e.Kind == 3) with
    | true =>
     rw[k,n]at a;rcases ol.1 a with rfl|a
     ·exact h e (by simp) (by simpa using n) _
     ·exact j (some e) t (fun e c=>h e (by simp[c])) (fun e g x d o f=>i e g x d (by simp;omega) (fun y b=>by simp[f y b])) r a
    | false =>
     rw[k,n]at a;rcases ol.1 a with rfl|a
     ·refine i _ _ _ (by simp) (by simp;omega) (fun y b=>?_);rcases ol.1 b with rfl|b
      ·simp
      ·exact oR _ (u6 b)
     ·refine j _ _ (fun e c=>h e (oR _ (OR c))) (fun e g x d o f=>i e g x d (by simp at o⊢;omega) (fun y b=>oR _ (OR (f y b)))) r a
theorem aiD{x:eb}(h:∀e∈x,kp e):(eL x).Text.size≤4*x.length:=by
 have:=BP (Ff h);unfold eL;simp only[];rw[Dv];have:(cW x).length=x.length:=by unfold cW;simp
 omega
def gf(v:Int):Int:=min (max v 0) 1048576
def kw(X:d7)(w:Int):ed:=bM (X.map vI) w (X.length+1) 0++[X.length]
def fS(L:d6):Prop:=∀b∈L,b.Kind=3
theorem abL:∀(L:d6) (s:Int×eb),fS L→(∀x∈s.2,x.Kind≠3)→∀x∈(vM 1 L s).2,x.Kind≠3:=by
 intro L
 induction L with
 | nil=>intro s _ a;exact a
 | cons b r d =>
  intro s e a;rw[lv,ala,← lv];have f:=e b tl;refine d _ (fun c g=>e c (oR _ g)) ?_;unfold ia;rw[f];cases mC b with
  | false=>exact a
  | true=>exact C0 (P:=fun x=>x.Kind≠3) b _ (fun _ _ _=>(by show(1:Int)≠3;decide)) (by show(2:Int)≠3;decide) (fun _=>(by show(1:Int)≠3;decide)) (fun _=>(by show(1:Int)≠3;decide)) _ _ Jf a
def K2(b:ab):az:=cR
def jN(a:d6):d7:=qL K2 (fm 1 a)
theorem Oz(a:d6):(jN a).length≤eF 1 a:=by
 unfold jN qL;have b:=OM K2 ((fm 1 a).length+1) none (fm 1 a);have c:=Ej 1 a;omega
theorem Bm{a:d6}(h:fS a):∀e∈fm 1 a,e.Kind≠3:=abL a (0,[]) h (fun x b=>by cases b)
theorem Zw{a:d6}(h:fS a)(j:eF 1 a≤2000):∀r∈jN a,r.Box.length≤1∧r.Text.size≤100000:=by
 have b:=Ej 1 a;unfold jN qL;refine Ri (P:=fun r=>r.Box.length≤1∧r.Text.size≤100000) (fun e g=>⟨by simp[runM,cR],by show(⟨#[]⟩:ByteArray).size≤100000;decide⟩) _ _ _ (fun e d c g=>absurd c (Bm h e d)) (fun e g x k l i=>⟨by simp[runM,eL,cR],?_⟩);have:=aiD (x:=x) (fun y f=>DQ 1 a y (i y f));show(eL x).Text.size≤100000;omega
theorem OI{a:d6}(h:fS a)(d:a.length≤1000)(f:∀b∈a,b.Text.size≤1000):Dp 1 a:=by
 unfold Dp;exact⟨d,fun b c=>⟨f b c,fun e=>by rw[h b c]at e;cases e⟩⟩
theorem ac1{a:d6}(h:fS a)(g:a.length≤1000)(i:∀b∈a,b.Text.size≤1000)(d:eF 1 a≤2000){N:Nat}(j:9001≤N)(w:Int)(env:bz):Be (KN N) N a w env=some (jN a):=by
 unfold Be;rw[show wM (KN N) N a _=_ from aaj (pl:=K2) (OI h g i) d (by omega) (fun e f c=>absurd c (Bm h e f))];rfl
def nA(a:d6)(s:aN)(v:Int):dn×Int:=jj s (gf v) (jN a) 0 (kw (jN a) (gf v))
theorem acj{a:d6}(h:fS a)(o:a.length≤1000)(q:∀b∈a,b.Text.size≤1000)(j:eF 1 a≤2000){N:Nat}(l:9001≤N)(s:aN)(v:Int)(env:bz):xU (KN N) N a s v env=some (nA a s v):=by
 have p:=ac1 h o q j l (gf v) env;have m:=Oz a;have e:=Zw h j;unfold nA;generalize jN a=X at *;unfold xU;rw[show min (max v 0) 1048576=gf v from rfl,p];simp only[iN];rw[Wp (by omega) (by omega)];simp only[iN];have f:=E8 (X.map vI) (gf v) (X.length+1) 0;simp only[nw]at f;rw[dc (by simp;omega) (by omega),ba];have i:=aga (X.map vI) (gf v) (X.length+1) 0 (by omega) (by simp);rw[nw]at i;have c:(kw X (gf v)).length≤2001:=by unfold kw;simp only[ne,ls,ti];omega
 have d:0<(kw X (gf v)).length:=by unfold kw;simp
 have g:(((bM (X.map vI) (gf v) (X.length+1) 0).map fun (k:Nat)=>(k:Int))++[(X.length:Int)]).length=(kw X (gf v)).length:=by unfold kw;simp
 rw[g,show aa (((kw X (gf v)).length:Int)-1)=(((kw X (gf v)).length-1:Nat):Int) by rw[bK (by omega) (by omega)];omega];have:=W2 (K:=KN N) (n:=N) (X:=X) (s:=s) (w:=gf v) e (by omega) (by omega) v rfl (bM (X.map vI) (gf v) (X.length+1) 0) (kw X (gf v)) rfl i c N 0 0 [] d (by omega) (by simp);rw[List.drop_zero,IT]at this;exact this
end
abbrev cd:=dO
def n8(b:Bool)(z:bW)(a:Int)(f:ae):ae :=
 if b=true then sE { f with X:=aa (f.X+aa (z.Border.a3+z.Padding.a3)),Y:=aa (f.Y+aa (aa (z.Border.a0+z.Padding.a0)+a)) } z.Content
 else { f with X:=aa (f.X+aa (z.Border.a3+z.Padding.a3)),Y:=aa (f.Y+aa (aa (z.Border.a0+z.Padding.a0)+a)) }
theorem aiY b z a f:(n8 b z a f).Kids=f.Kids:=by
 grind[n8,Sa]
def ni(b:ab)(z:bW)(e:Bool)(L:dn)(d:Int)(c a:bc)(f:Bool)(h:Int):ae :=
 ⟨1,b.Node,z.Margin.a3,0,aa (z.Content+aa (aa (aa (z.Border.a3+z.Padding.a3)+z.Border.a1)+z.Padding.a1)),aa (aa (aa (aa (h+z.Border.a0)+z.Padding.a0)+z.Border.a2)+z.Padding.a2),0,⟨#[]⟩,b.Style,c,a,f,L.map (n8 e z d)⟩
theorem EV{α:Type}(A R:List α) x y:(A++x::R).set A.length y=A++y::R:=by
 grind
theorem FW{α:Type}(A R:List α) x d:(A++x::R).getD A.length d=x:=by grind
theorem Zq(K:Kn)(n:Nat)(b:ab)(z:bW)(v6:d6×Bool)(L:dn)(l q:Int)(S:cd)(d:Int)(i h:bc)(j:Bool)(f H:Int)(w:L.length≤100000)(t:v6.2=true→v6.1.length=L.length∧∀k∈v6.1,eP k=true):
  ∀(m:Nat) (A R:dn),A.length+R.length=L.length→R.length<m→wK K n b z v6 L l q S d i h j f H m (A.length:Int) (A++R) =
   some (⟨1,b.Node,z.Margin.a3,0,aa (z.Content+f),H,0,⟨#[]⟩,b.Style,i,h,j,A++R.map (n8 v6.2 z d)⟩,l,q,S):=by
 intro m
 induction m with
 | zero=>intro A R _ p;omega
 | succ m u =>
  intro A R o p;simp only[wK,yE];cases R with
  | nil =>
   have e:A.length=L.length:=by simpa using o
   simp only[C5 (show L.length≤A.length by omega),jf,pt,Db]
  | cons x R =>
   simp only[ls]at o p;have s:A.length<L.length:=by omega
   have a:=u (A++[n8 v6.2 z d x]) R (by simp;omega) (by omega);simp only[u3,akS,ne,ls,ti,IF]at a;simp only[xI s,AT,Int.toNat_natCast,EV,FW,qI (show A.length<(A++x::R).length by simp),ne,ls,qI (show A.length<A.length+(R.length+1) by omega),ba,Tn,iN,xS,AF,N1,xJ (show A.length<1000000 by omega),rl];cases g:v6.2 with
   | false =>
    rw[g]at a;simp only[jf,pt];simp only[n8,jf,pt]at a⊢;exact a
   | true =>
    rw[g]at a;obtain⟨v,r⟩:=t g;have c:A.length<v6.1.length:=by omega
    simp only[AT,qI c,ba,r _ (fp c)];simp only[n8,AT]at a⊢;exact a
def pV(s:aN)(h:Int):Int:=if s.Height.Kind=1 then max (min (max s.Height.Value (-1048576)) 1048576) 0 else max h 0
def dJ(a b:bc):bc:=⟨max a.Pos b.Pos,min a.Neg b.Neg⟩
def iQ(x:Int):bc:=⟨max x 0,min x 0⟩
def rt(b:ab)(z:bW)(t i f:Bool)(h:Int)(k:Bool)(g j:bc)(L:dn):ae :=
 let a:=iQ z.Margin.a0
 let c:=iQ z.Margin.a2
 let e:=if t=true then 0 else if (!k)=true then aa (g.Pos+g.Neg) else if (!i)=true then aa (g.Pos+g.Neg) else 0
 let d:=if t=true then dJ a g else a
 if (k&&(t&&i))=true then ni b z f L e (dJ d c) (dJ d c) true (pV b.Style 0)
 else if k=true then (if i=true then ni b z f L e d (dJ c g) false (pV b.Style e) else ni b z f L e d c false (pV b.Style e))
 else if i=true then ni b z f L e d (dJ c j) false (pV b.Style (aa (h+e))) else ni b z f L e d c false (pV b.Style (aa (h+aa (e+aa (j.Pos+j.Neg)))))
section
variable(K:Kn)(n:Nat)(b:ab)(z:bW)(L:dn)(e:L.length≤100000)(g:L.length<n)(a c:Int)(S:cd)(v6:d6×Bool)(f:v6.2=true→v6.1.length=L.length∧∀k∈v6.1,eP k=true)
include g e f
theorem sj8 d i g j h:uc K n b z v6 L a c S d i g j h=some (ni b z v6.2 L d i g j h,a,c,S):=by
 unfold uc;simp only[DK];exact Zq K n b z v6 L a c S d i g j _ _ e f n [] L (by simp) (by omega)
theorem sj6 d h j i k:ms K n b z v6 L a c S d h j i k=some (ni b z v6.2 L d j i k (pV b.Style h),a,c,S):=by
 unfold ms;simp only[gq,zp,sj8 K n b z L e g a c S v6 f]
 grind[pV,cH]
theorem MR(t d:Bool)(h:Int)(i:Bool)(k j:bc):qK K n b z t d v6 h i k j L a c S=some (rt b z t d v6.2 h i k j L,a,c,S):=by
 have l:∀x y,kD K n x y=some (dJ x y):=fun x y=>rfl;have o:∀x,gz K n x=some (aa (x.Pos+x.Neg)):=fun x=>rfl;have m:∀x,m5 K n x=some (iQ x):=fun x=>rfl;unfold qK;simp only[m,iN,w6,sf,uL,l,o,sj6 K n b z L e g a c S v6 f];unfold rt;cases t<;>cases d<;>cases i<;>simp
end
def qV(f:ab→Int→Int→cd→Option (ae×Int×Int×cd)):d6→Int→Int→cd→Option (dn×Int×Int×cd)
 | [],a,b,S=>some ([],a,b,S)
 | k::r,a,b,S=>(f k a b S).bind fun x=>(qV f r x.2.1 x.2.2.1 x.2.2.2).bind fun y=>some (x.1::y.1,y.2)
theorem We(K:Kn)(n:Nat)(b:ab)(z:bW)(f v4:Bool)(env:bz)(v6:d6×Bool)(p:v6.1.length≤1000):
  ∀(m i:Nat) (a:dn) (d e:Int) (S:cd),i≤v6.1.length→v6.1.length<m+i→a.length≤i→qt K n b z f v4 env v6 m i a d e S =
   (qV (fun k=>K.dr env.Layout k z.Content) (v6.1.drop i) d e S).bind fun r=>(mi K n (a++r.1)).bind fun c=>qK K n b z f v4 v6 c.2.1 c.2.2.2.2 c.2.2.1 c.2.2.2.1 c.1 r.2.1 r.2.2.1 r.2.2.2:=by
 intro m
 induction m with
 | zero=>intro i a d e S _ g;omega
 | succ m h =>
  intro i a d e S j g l;simp only[qt,zu];by_cases hi:i<v6.1.length
  ·rw[drop_at' hi];simp only[xI hi,AT,qI hi,ba,Int.toNat_natCast,ls,ti,xJ (show i<1000000 by omega),qV];cases o:K.dr env.Layout (v6.1.getD i default) z.Content d e S with
   | none=>rfl
   | some x =>
    simp only[iN];rw[dc (by omega) (by omega),ba,h (i+1) _ _ _ _ (by omega) (by omega) (by simp;omega)];cases qV (fun k=>K.dr env.Layout k z.Content) (v6.1.drop (i+1)) x.2.1 x.2.2.1 x.2.2.2 with
    | none=>rfl
    | some y=>simp only[iN,u3,akS]
  grind[qV]
theorem HG K n l(a:l.length≤100000):qJ K n l=some l:=by
 unfold qJ om
 grind[fits,ae,dc,ba]
def DF:Nat→ae→Prop
 | 0,_=>False
 | d+1,f=>f.Kids.length≤3000∧∀k∈f.Kids,DF d k
theorem vp:∀{d} {f g},f.Kids=g.Kids→DF d g→DF d f
 | 0,_,_,_,h=>h
 | d+1,f,g,e,h=>by grind[DF]
theorem HW:∀{d e} {f},DF d f→d≤e→DF e f
 | 0,_,_,h,_=>h.elim
 | d+1,0,_,_,h=>by omega
 | d+1,e+1,f,h,b=>⟨h.1,fun k a=>HW (h.2 k a) (by omega)⟩
theorem aaS{d}{b}{z}{e}{L}{g}{c a}{i}{h}(k:L.length≤3000)(j:∀f∈L,DF d f):DF (d+1) (ni b z e L g c a i h):=by
 unfold DF
 grind[ni,n8,vp,aiY]
theorem SI{d}{b}{z}{t e o}{h}{g}{c a}{L}(j:L.length≤3000)(i:∀f∈L,DF d f):DF (d+1) (rt b z t e o h g c a L):=by
 grind[rt,aaS]
theorem BH N:∀x,(KN (N+1)).kR (Fv.fn 145) x=some (eP x):=fun x=>Tn (KN N) N x
theorem afV{a}(h:fS a):∀r∈jN a,r.Box=[]:=by
 exact Ri (P:=fun r=>r.Box=[]) (fun e g=>rfl) _ _ _ (fun e c b g=>absurd b (Bm h e c)) (fun e g x d f i=>rfl)
theorem aeK{f}(h:f.Kids=[]):DF 1 f:=by grind[DF]
theorem Vi(a b:Int):∀(X:d7) (i x:Int),(∀r∈X,r.Box=[])→(jv a b i x X).length≤X.length∧∀f∈jv a b i x X,DF 1 f
 | [],i,x,_=>⟨by simp[jv],fun f c=>by simp[jv]at c⟩
 | r::t,i,x,h=>by
  have g:=h r tl;have l:(bif i == b then stripR r else r).Box=[]:=by
   cases (i == b)
   ·exact g
   ·show(stripR r).Box=[];unfold stripR;cases (mf r.Text&&r.Style.WhiteSpace != 2)<;>exact g
  simp only[jv];generalize (bif i == b then stripR r else r)=e at *;obtain⟨m,j⟩:=Vi a b t (i+1) (aa (x+aa (e.Width+e.Space))) (fun q k=>h q (oR _ k));have d:(nn a x e).length≤1∧∀f∈nn a x e,DF 1 f:=by
   unfold nn Br;rw[l];cases e.Text.data.toList.isEmpty with
   | true=>exact⟨by simp,fun f c=>by simp at c⟩
   | false=>exact⟨by simp,fun f c=>by simp at c;subst c;exact aeK rfl⟩
  refine⟨by rw[ne,ls];omega,fun f c=>?_⟩;rcases n5.1 c with c|c
  ·exact d.2 f c
  ·exact j f c
theorem acK{s}{w}{X}(h:∀r∈X,r.Box=[])(e:X.length≤3000):DF 2 (qi s w X):=by
 obtain⟨d,a⟩:=Vi (jW (kn s) X).1 (Er X) X 0 (AZ s w (fQ (X.map vI))) h;exact⟨by show([]++jv _ _ _ _ X).length≤3000;grind,fun k b=>a k (by have c:k∈[]++jv (jW (kn s) X).1 (Er X) 0 (AZ s w (fQ (X.map vI))) X:=b;grind)⟩
theorem QZ{s}{w}{X}(h:∀r∈X,r.Box=[])(d:X.length≤3000):∀S y,∀f∈(jj s w X y S).1,DF 2 f
 | [],y=>fun f c=>by grind[jj]
 | [a],y=>fun f c=>by grind[jj]
 | a::b::r,y=>fun f c=>by
  simp only[jj,ol]at c;rcases c with rfl|c
  ·have g:∀q∈sl X a b,q.Box=[]:=fun q e=>h q (BR e)
   grind[sl,vp,qi,acK]
  ·exact QZ h d (b::r) _ f c
theorem Z0{a}(h:fS a)(e:eF 1 a≤2000) s v:(nA a s v).1.length≤2001∧∀f∈(nA a s v).1,DF 2 f:=by
 have b:=Oz a;unfold nA;have d:=Vz s (gf v) (jN a) (kw (jN a) (gf v)) 0;have c:=E8 ((jN a).map vI) (gf v) ((jN a).length+1) 0
 grind[QZ,afV,kw]
theorem YU{x y:cB}:fF x y=true↔x=y:=by
 cases x;cases y;simp[fF]
theorem S6{α:Type}[Inhabited α]{L:List α}{i:Nat}(h:i<L.length):L.set i (L.getD i default)=L:=by
 rw[bN h];exact List.set_getElem_self h
theorem Y4(K:Kn)(n:Nat)(f:ae)(L:dn)(e:L.length≤100000)(c:∀k∈L,K.xC k=some k):∀(m i:Nat),i≤L.length→L.length<m+i →
  vx K n f L m i L=some { f with Kids:=L }:=by
 intro m
 induction m with
 | zero=>intro i a b;omega
 | succ m d =>
  intro i a b;simp only[vx,yX];by_cases hi:i<L.length
  ·simp only[eC hi,AT,dv hi,ba,Int.toNat_natCast,c _ (fp hi),iN,S6 hi];rw[dL (by omega)];exact d (i+1) (by omega) (by omega)
  ·simp only[eh (show L.length≤i by omega),jf,pt]
theorem Ew:∀(d N:Nat) (f:ae),DF d f→d+3010≤N→oJ (KN N) N f=some f
 | 0,_,_,h,_=>h.elim
 | d+1,0,_,_,h=>by omega
 | d+1,N+1,f,h,b=>by
  unfold DF at h;unfold oJ;rw[HG _ _ _ (by omega),iN];have e:=Y4 (KN (N+1)) (N+1) f f.Kids (by omega) (fun k a=>Ew d N k (h.2 k a) (by omega)) (N+1) 0 (u4 _) (by omega);rw[show((0:Nat):Int)=0 from rfl]at e;rw[e];cases f;rfl
theorem aeo(K:Kn)(n:Nat)(f:ae)(L:dn)(e:L.length≤100000)(c:∀k∈L,K.yP k=some k):∀(m i:Nat),i≤L.length→L.length<m+i →
  uC K n f L m i L=some { f with Kids:=L }:=by
 intro m
 induction m with
 | zero=>intro i a b;omega
 | succ m d =>
  intro i a b;simp only[uC,xg];by_cases hi:i<L.length
  ·simp only[eC hi,AT,dv hi,ba,Int.toNat_natCast,c _ (fp hi),iN,S6 hi];rw[dL (by omega)];exact d (i+1) (by omega) (by omega)
  ·simp only[eh (show L.length≤i by omega),jf,pt]
theorem Vp:∀(d N:Nat) (f:ae),DF d f→d+3010≤N→tn (KN N) N f=some f
 | 0,_,_,h,_=>h.elim
 | d+1,0,_,_,h=>by omega
 | d+1,N+1,f,h,b=>by
  unfold DF at h;unfold tn;rw[HG _ _ _ (by omega),iN];have e:=aeo (KN (N+1)) (N+1) f f.Kids (by omega) (fun k a=>Vp d N k (h.2 k a) (by omega)) (N+1) 0 (u4 _) (by omega);rw[show((0:Nat):Int)=0 from rfl]at e;rw[e];cases f;rfl
def ai5(w:Int)(m:aw):Prop:=m.Width=w∧bE m.Box≤100∧DF (bE m.Box+2) m.Fragment
def eY(b:ab)(w:Int)(m:aw):Bool:=m.Width == w&&ga m.Box b
def vu(b:ab)(w a c:Int)(S R:cd):ae×Bool×Int×Int×cd :=
 match R.find? (eY b w) with
 | some m=>(m.Fragment,true,a,c,S)
 | none=>(bT,false,a,c,S)
theorem aa7(N:Nat)(b:ab)(w:Int)(f:ae)(a e:Int)(S:cd)(i:S.length≤3000)(h:3200≤N)(d:Nat)(g:DF d f)(c:d≤150)(j:0≤a∧a<100000):yZ (KN N) N b w f a e S=some (a+1,e,S++[⟨b,w,f⟩]):=by
 unfold yZ;rw[Ew d N f g (by omega),iN];simp only[List.length_singleton];rw[dc (by omega) (by omega),ba,bK (by omega) (by omega)]
namespace Wd
theorem jb x:0≤dP x∧dP x≤1048576:=by grind[dP]
theorem s9 l w:(cH l w).2=(l.Kind == 1||l.Kind == 2):=by
 grind[cH]
end Wd
theorem uQ l b: -1048576≤(cH l b).1∧(cH l b).1≤1048576:=by
 grind[cH]
def bi(l:cB):cB:=if l.Kind=2 then ci else l
def gl(s:aN):aN:={ s with Width:=bi s.Width,MinWidth:=bi s.MinWidth,MaxWidth:=bi s.MaxWidth,Margin:=⟨bi s.Margin.a0,bi s.Margin.a1,bi s.Margin.a2,bi s.Margin.a3⟩,Padding:=⟨bi s.Padding.a0,bi s.Padding.a1,bi s.Padding.a2,bi s.Padding.a3⟩ }
theorem fb{α:Type} l(f:cB→α) y(a:y=f l):(if (l.Kind == 2)=true then f ci else y)=f (bi l):=by
 grind[bi]
section
variable(K:Kn)(n:Nat)
theorem sL(s:aN):ut K n s=some (gl s):=by
 unfold ut;refine (fb s.Width (fun l=>sn K n { s with Width:=l }) _ rfl).trans ?_;unfold sn;refine (fb s.MinWidth (fun l=>vt K n { s with Width:=bi s.Width,MinWidth:=l }) _ rfl).trans ?_;unfold vt;refine (fb s.MaxWidth (fun l=>vn K n { s with Width:=bi s.Width,MinWidth:=bi s.MinWidth,MaxWidth:=l }) _ rfl).trans ?_;unfold vn;refine (fb s.Margin.a0 (fun l=>s7 K n { s with Width:=bi s.Width,MinWidth:=bi s.MinWidth,MaxWidth:=bi s.MaxWidth,Margin:=⟨l,s.Margin.a1,s.Margin.a2,s.Margin.a3⟩ }) _ rfl).trans ?_;unfold s7;refine (fb s.Padding.a0 (fun l=>uM K n { s with Width:=bi s.Width,MinWidth:=bi s.MinWidth,MaxWidth:=bi s.MaxWidth,Margin:=⟨bi s.Margin.a0,s.Margin.a1,s.Margin.a2,s.Margin.a3⟩,Padding:=⟨l,s.Padding.a1,s.Padding.a2,s.Padding.a3⟩ }) _ rfl).trans ?_;unfold uM;refine (fb s.Margin.a1 (fun l=>uO K n { s with Width:=bi s.Width,MinWidth:=bi s.MinWidth,MaxWidth:=bi s.MaxWidth,Margin:=⟨bi s.Margin.a0,l,s.Margin.a2,s.Margin.a3⟩,Padding:=⟨bi s.Padding.a0,s.Padding.a1,s.Padding.a2,s.Padding.a3⟩ }) _ rfl).trans ?_
 unfold uO;refine (fb s.Padding.a1 (fun l=>vG K n { s with Width:=bi s.Width,MinWidth:=bi s.MinWidth,MaxWidth:=bi s.MaxWidth,Margin:=⟨bi s.Margin.a0,bi s.Margin.a1,s.Margin.a2,s.Margin.a3⟩,Padding:=⟨bi s.Padding.a0,l,s.Padding.a2,s.Padding.a3⟩ }) _ rfl).trans ?_;unfold vG;refine (fb s.Margin.a2 (fun l=>vw K n { s with Width:=bi s.Width,MinWidth:=bi s.MinWidth,MaxWidth:=bi s.MaxWidth,Margin:=⟨bi s.Margin.a0,bi s.Margin.a1,l,s.Margin.a3⟩,Padding:=⟨bi s.Padding.a0,bi s.Padding.a1,s.Padding.a2,s.Padding.a3⟩ }) _ rfl).trans ?_;unfold vw;refine (fb s.Padding.a2 (fun l=>vV K n { s with Width:=bi s.Width,MinWidth:=bi s.MinWidth,MaxWidth:=bi s.MaxWidth,Margin:=⟨bi s.Margin.a0,bi s.Margin.a1,bi s.Margin.a2,s.Margin.a3⟩,Padding:=⟨bi s.Padding.a0,bi s.Padding.a1,l,s.Padding.a3⟩ }) _ rfl).trans ?_;unfold vV;refine (fb s.Margin.a3 (fun l=>wx K n { s with Width:=bi s.Width,MinWidth:=bi s.MinWidth,MaxWidth:=bi s.MaxWidth,Margin:=⟨bi s.Margin.a0,bi s.Margin.a1,bi s.Margin.a2,l⟩,Padding:=⟨bi s.Padding.a0,bi s.Padding.a1,bi s.Padding.a2,s.Padding.a3⟩ }) _ rfl).trans ?_
 unfold wx;refine (fb s.Padding.a3 (fun l=>xo K n { s with Width:=bi s.Width,MinWidth:=bi s.MinWidth,MaxWidth:=bi s.MaxWidth,Margin:=⟨bi s.Margin.a0,bi s.Margin.a1,bi s.Margin.a2,bi s.Margin.a3⟩,Padding:=⟨bi s.Padding.a0,bi s.Padding.a1,bi s.Padding.a2,l⟩ }) _ rfl).trans ?_;rfl
end
namespace Fw
open QSort (wn cD di dd qW pT sb)
section
variable(K:Kn)(n:Nat)
theorem Vy(s:aN):xx K n s=some (gl s):=by
 unfold xx;refine (fb s.Width (fun l=>vK K n { s with Width:=l }) _ rfl).trans ?_;unfold vK;refine (fb s.MinWidth (fun l=>uU K n { s with Width:=bi s.Width,MinWidth:=l }) _ rfl).trans ?_;unfold uU;refine (fb s.MaxWidth (fun l=>vD K n { s with Width:=bi s.Width,MinWidth:=bi s.MinWidth,MaxWidth:=l }) _ rfl).trans ?_;unfold vD;refine (fb s.Margin.a0 (fun l=>tz K n { s with Width:=bi s.Width,MinWidth:=bi s.MinWidth,MaxWidth:=bi s.MaxWidth,Margin:=⟨l,s.Margin.a1,s.Margin.a2,s.Margin.a3⟩ }) _ rfl).trans ?_;unfold tz;refine (fb s.Padding.a0 (fun l=>tJ K n { s with Width:=bi s.Width,MinWidth:=bi s.MinWidth,MaxWidth:=bi s.MaxWidth,Margin:=⟨bi s.Margin.a0,s.Margin.a1,s.Margin.a2,s.Margin.a3⟩,Padding:=⟨l,s.Padding.a1,s.Padding.a2,s.Padding.a3⟩ }) _ rfl).trans ?_;unfold tJ;refine (fb s.Margin.a1 (fun l=>ui K n { s with Width:=bi s.Width,MinWidth:=bi s.MinWidth,MaxWidth:=bi s.MaxWidth,Margin:=⟨bi s.Margin.a0,l,s.Margin.a2,s.Margin.a3⟩,Padding:=⟨bi s.Padding.a0,s.Padding.a1,s.Padding.a2,s.Padding.a3⟩ }) _ rfl).trans ?_
 unfold ui;refine (fb s.Padding.a1 (fun l=>wa K n { s with Width:=bi s.Width,MinWidth:=bi s.MinWidth,MaxWidth:=bi s.MaxWidth,Margin:=⟨bi s.Margin.a0,bi s.Margin.a1,s.Margin.a2,s.Margin.a3⟩,Padding:=⟨bi s.Padding.a0,l,s.Padding.a2,s.Padding.a3⟩ }) _ rfl).trans ?_;unfold wa;refine (fb s.Margin.a2 (fun l=>ud K n { s with Width:=bi s.Width,MinWidth:=bi s.MinWidth,MaxWidth:=bi s.MaxWidth,Margin:=⟨bi s.Margin.a0,bi s.Margin.a1,l,s.Margin.a3⟩,Padding:=⟨bi s.Padding.a0,bi s.Padding.a1,s.Padding.a2,s.Padding.a3⟩ }) _ rfl).trans ?_;unfold ud;refine (fb s.Padding.a2 (fun l=>uS K n { s with Width:=bi s.Width,MinWidth:=bi s.MinWidth,MaxWidth:=bi s.MaxWidth,Margin:=⟨bi s.Margin.a0,bi s.Margin.a1,bi s.Margin.a2,s.Margin.a3⟩,Padding:=⟨bi s.Padding.a0,bi s.Padding.a1,l,s.Padding.a3⟩ }) _ rfl).trans ?_;unfold uS;refine (fb s.Margin.a3 (fun l=>wm K n { s with Width:=bi s.Width,MinWidth:=bi s.MinWidth,MaxWidth:=bi s.MaxWidth,Margin:=⟨bi s.Margin.a0,bi s.Margin.a1,bi s.Margin.a2,l⟩,Padding:=⟨bi s.Padding.a0,bi s.Padding.a1,bi s.Padding.a2,s.Padding.a3⟩ }) _ rfl).trans ?_
 unfold wm;refine (fb s.Padding.a3 (fun l=>zQ K n { s with Width:=bi s.Width,MinWidth:=bi s.MinWidth,MaxWidth:=bi s.MaxWidth,Margin:=⟨bi s.Margin.a0,bi s.Margin.a1,bi s.Margin.a2,bi s.Margin.a3⟩,Padding:=⟨bi s.Padding.a0,bi s.Padding.a1,bi s.Padding.a2,l⟩ }) _ rfl).trans ?_;rfl
end
def cz(b:ab)(d:ck):d6:=d.map fun j=>b.Kids.getD j.toNat default
theorem u0 b d:(cz b d).length=d.length:=by simp[cz]
theorem adH b d{k}(a:k<d.length):(cz b d).getD k default=b.Kids.getD (d.getD k default).toNat default:=by
 grind[cz]
theorem Cc{b}{d}(h:Od.Is b.Kids d){k}(c:k∈cz b d):k∈b.Kids:=by
 obtain⟨j,a,rfl⟩:=Dy.1 c;obtain⟨i,e,rfl,_⟩:=h.mem a
 grind
theorem aet{b:ab}{d:ck}(h:Od.Is b.Kids d):(cz b d).Perm (eD b):=by
 have e:∀n,n≤b.Kids.length→(Od.ix (Od.fl b.Kids) n).map (fun j=>b.Kids.getD j.toNat default)=(b.Kids.take n).filter hJ:=by
  intro n
  induction n with
  | zero=>intro _;rfl
  | succ n f =>
   intro g;rw[Od.MS,MO,f (by omega),yk (by omega),akM];congr 1;rw[←bN (show n<b.Kids.length by omega)];unfold Od.fl;cases c:hJ (b.Kids.getD n default)<;>simp only[akl,al6,c,AT,jf,pt,rl,Db,Int.toNat_natCast]
 have a:=e b.Kids.length (by omega);rw[akO]at a;have:=h.p.map (fun j=>b.Kids.getD j.toNat default);rw[a]at this;exact this
theorem adg(K:Kn)(n:Nat){b:ab}(l:b.Kids.length≤19){d:ck}(h:Od.Is b.Kids d):∀(m i:Nat),i≤d.length→d.length<m+i →
  uY K n b d m (i:Int) ((cz b d).take i)=some (cz b d):=by
 have g:=h.len;intro m
 induction m with
 | zero=>intro i e f;omega
 | succ m a =>
  intro i e f;simp only[uY,Ab];by_cases hi:i<d.length
  ·obtain⟨j,o,c,_⟩:=h.mem (QSort.Ml (A:=d) hi);unfold QSort.at_ at c;have a:=a (i+1) (by omega) (by omega);rw[yk (by rw[u0];exact hi),← bN (by rw[u0];exact hi),adH b d hi]at a;rw[di (by omega),cD (by omega),eO,c,cD (by omega),eO,dc (by simp only[ls,ti,afN];omega) (by omega),ba,wn (n:=(i:Int)+1) (k:=i+1) (by omega) (by omega)];rw[c,eO]at a;exact a
  ·rw[dd (by omega),Dj (by rw[u0];omega)]
theorem Lh{b}(a:b.Kids.length≤19){d}(h:Od.Is b.Kids d){K}{n}(c:rV K n b.Kids=some d)(f:100<n):kU K n b=some (cz b d):=by
 have e:=h.len;unfold kU;rw[c,sb];exact adg K n a h n 0 (by omega) (by omega)
end Fw
namespace Fl
open QSort (wn cD di dd qW pT sb)
open Fw
def j4(l:cB):cB:=if l.Kind=1∨l.Kind=2 then l else { ci with Kind:=1 }
def oN(b:ab)(n:Int):ab:={ b with Style:={ b.Style with Width:=⟨1,n⟩,MinWidth:=ci,MaxWidth:=ci,Margin:=⟨j4 b.Style.Margin.a0,j4 b.Style.Margin.a1,j4 b.Style.Margin.a2,j4 b.Style.Margin.a3⟩ } }
theorem CL{α:Type} l(f:cB→α):(if (!(l.Kind == 1||l.Kind == 2))=true then f { ci with Kind:=1 } else f l)=f (j4 l):=by
 grind[j4]
theorem af0(K:Kn)(n:Nat)(b:ab)(x:Int):AW K n b x=some (oN b x):=by
 unfold AW;simp only[gq,iN,Wd.s9];rw[CL b.Style.Margin.a0 (fun l=>vQ K n b x ⟨l,b.Style.Margin.a1,b.Style.Margin.a2,b.Style.Margin.a3⟩)];unfold vQ;simp only[gq,iN,Wd.s9];rw[CL b.Style.Margin.a1 (fun l=>sT K n b x ⟨j4 b.Style.Margin.a0,l,b.Style.Margin.a2,b.Style.Margin.a3⟩)];unfold sT;simp only[gq,iN,Wd.s9];rw[CL b.Style.Margin.a2 (fun l=>wF K n b x ⟨j4 b.Style.Margin.a0,j4 b.Style.Margin.a1,l,b.Style.Margin.a3⟩)];unfold wF;simp only[gq,iN,Wd.s9];rw[CL b.Style.Margin.a3 (fun l=>yM K n b x ⟨j4 b.Style.Margin.a0,j4 b.Style.Margin.a1,j4 b.Style.Margin.a2,l⟩)];rfl
def eH(l:cB)(c o:Int):Int:=if (cH l c).2=true then (cH l c).1 else o
theorem DM K n l c o:mA K n l c o=some (eH l c o):=by
 grind[mA,eH,gq,sb]
theorem JM(s:aN)(w:Int): -6291456≤gV (fO s w 0)∧gV (fO s w 0)≤6291456:=by
 have a:=uQ s.Margin.a1 w;have b:=uQ s.Margin.a3 w;have c:=uQ s.Padding.a1 w;have d:=uQ s.Padding.a3 w;have e:=Wd.jb s.Border.a1;have f:=Wd.jb s.Border.a3;unfold gV fO;simp only[];rw[bK (n:=0+(cH s.Margin.a1 w).1) (by omega) (by omega),bK (n:=0+(cH s.Margin.a1 w).1+(cH s.Margin.a3 w).1) (by omega) (by omega),bK (n:=0+(cH s.Margin.a1 w).1+(cH s.Margin.a3 w).1+dP s.Border.a1) (by omega) (by omega),bK (n:=0+(cH s.Margin.a1 w).1+(cH s.Margin.a3 w).1+dP s.Border.a1+dP s.Border.a3) (by omega) (by omega),bK (n:=0+(cH s.Margin.a1 w).1+(cH s.Margin.a3 w).1+dP s.Border.a1+dP s.Border.a3+max (cH s.Padding.a1 w).1 0) (by omega) (by omega),bK (by omega) (by omega)];omega
theorem agJ s w c:0≤i7 s w c∧i7 s w c≤max c 1048576:=by
 have:=uQ s.MinWidth w
 grind[i7]
theorem CP s w:0≤(cu s w).Content∧(cu s w).Content≤8388608:=by
 have e:∃x,(cu s w).Content=i7 s (dP w) x∧x≤8388608:=by
  have a:(if (cH s.Width (dP w)).2=true then (cH s.Width (dP w)).1 else aa (dP w-gV (fO s (dP w) 0)))≤8388608:=by
   have b:=uQ s.Width (dP w);have c:=JM s (dP w);have d:=Wd.jb w
   grind[bK]
  refine⟨_,?_,a⟩
  grind[cu,Df]
 obtain⟨x,a,f⟩:=e;have:=agJ s (dP w) x;omega
def Small(B:Int)(l:ck):Prop:=∀x∈l,-B≤x∧x≤B
def wr(sp:Int):Int→Nat→ck→ck
 | _,_,[]=>[]
 | s,i,x::r=>if s+x>sp then i::wr sp x (i+1) r else wr sp (s+x) (i+1) r
def m9(sp:Int):ck→ck
 | []=>[]
 | x::r=>0::wr sp x 1 r
variable{B:Int}{L:ck}
theorem ac5(K:Kn)(n:Nat)(sp:Int)(a:0≤B∧B≤1073741824)(g:Small B L)(q:L.length≤100):∀(m i:Nat) (s:Int) (o:ck),1≤i→i≤L.length→L.length<m+i→o.length≤i → -(i*B)≤s→s≤i*B →
  rj K n L sp m s i o=some (o++wr sp s i (L.drop i)):=by
 intro m
 induction m with
 | zero=>intro i s o d e f;omega
 | succ m c =>
  intro i s o d e f r t j;simp only[rj,tc];by_cases hi:i<L.length
  ·have u:=g (L.getD i default) (fp hi);have h:(i:Int)*B≤100*1073741824:=aly (by omega) a.2 a.1 (by omega);have p:((i+1:Nat):Int)*B=i*B+B:=by simp[amP]
   have l:¬ ((i:Int) == 0)=true:=by rw[ajC];omega
   rw[di (by omega),cD (by omega),eO,bK (by omega) (by omega),sb,kc l];simp only[vc,wb,eO];rw[drop_at' hi];simp only[wr];rw[wn (n:=(i:Int)+1) (k:=i+1) (by omega) (by omega),dc (by simp only[ls,ti];omega) (by omega),ba];by_cases b:s+L.getD i default>sp
   ·rw[di b,lp b,c (i+1) (L.getD i default) (o++[(i:Int)]) (by omega) (by omega) (by omega) (by simp;omega) (by have:=ak7 (show(0:Int)≤i by omega) a.1;omega) (by have:=ak7 (show(0:Int)≤i by omega) a.1;omega)];simp
   ·rw[dd b,kc b,c (i+1) (s+L.getD i default) o (by omega) (by omega) (by omega) (by omega) (by omega) (by omega)]
  grind[wr]
theorem Xy(K:Kn){n:Nat}(sp:Int)(d:0≤B∧B≤1073741824)(c:Small B L)(f:L.length≤100)(h:101<n):rh K n L sp=some (m9 sp L):=by
 unfold rh;obtain⟨m,rfl⟩:∃m,n=m+1:=⟨n-1,by omega⟩;cases L with
 | nil=>rfl
 | cons x r =>
  have i:=c x (by simp);simp only[ls]at f;simp only[rj,tc];have a:(0:Int)<(((x::r).length:Nat):Int):=by simp only[ls];omega
  have g:aa (0+List.getD (x::r) (Int.toNat 0) default)=x:=by
   show aa (0+x)=x;rw[Int.zero_add];exact bK (by omega) (by omega)
  have b:aa ((0:Int)+1)=((1:Nat):Int):=wn (by omega) (by omega);have e:List.getD (x::r) (Int.toNat 0) default=x:=rfl;rw[di a,cD ⟨amq 0,a⟩,g,sb,lp (by rfl)];simp only[vc,wb,e,b];rw[dc (by simp) (by omega),ba,ac5 K (m+1) sp d c (by simp only[ls];omega) m 1 x ([]++[0]) (by omega) (by simp) (by simp only[ls];omega) (by simp) (by omega) (by omega)];simp[m9]
inductive qF n:Nat→ck→Prop
 | nil a (h:a≤n):qF n a []
 | cons a b t (h:a≤b) (h2:qF n b t):qF n a (b::t)
theorem Iz sp n:∀r a i s,a≤i→i+r.length≤n→qF n a (wr sp s i r)
 | [],a,i,s,b,c=>.nil _ (by omega)
 | x::r,a,i,s,b,c=>by
  simp only[ls]at c;unfold wr;split
  ·exact .cons _ _ _ b (Iz sp n r i (i+1) x (by omega) (by omega))
  ·exact Iz sp n r a (i+1) (s+x) (by omega) (by omega)
theorem qF.le{n a}{t}(h:qF n a t):a≤n:=by
 induction h with
 | nil a h=>grind
 | cons a b t h c d=>omega
theorem Rk{n a:Nat}{t:ck}(h:qF n a t):∀k,k<t.length+1→∃x y:Nat,((a:Int)::(t++[(n:Int)])).getD k default=(x:Int)∧((a:Int)::(t++[(n:Int)])).getD (k+1) default=(y:Int)∧x≤y∧y≤n:=by
 induction h with
 | nil a h =>
  intro k c;simp only[ti]at c;obtain rfl:k=0:=by omega
  exact⟨a,n,rfl,rfl,h,la _⟩
 | cons a b t h f i =>
  intro k c;cases k with
  | zero=>exact⟨a,b,rfl,rfl,h,f.le⟩
  | succ k =>
   obtain⟨x,y,d,e,g⟩:=i k (by simpa using c);exact⟨x,y,by simpa using d,by simpa using e,g⟩
theorem Hz sp:∀r s i,(wr sp s i r).length≤r.length
 | [],s,i=>by simp[wr]
 | x::r,s,i=>by
  unfold wr;have a:=Hz sp r x (i+1);have b:=Hz sp r (s+x) (i+1)
  grind
structure St n(S:ck):Prop where
 len:S.length≤n+1
 get:∀k,k<S.length→∃x y:Nat,(S++[(n:Int)]).getD k default=x∧(S++[(n:Int)]).getD (k+1) default=y∧x≤y∧y≤n
theorem aee(n:Nat):St n [0]:=⟨by simp,fun k b=>by
 have:=Rk (n:=n) (a:=0) (t:=[]) (.nil _ (u4 _)) k (by simpa using b);simpa using this⟩
theorem YV(sp:Int)(L:ck):St L.length (m9 sp L):=by
 cases L with
 | nil=>exact⟨by simp[m9],fun k b=>by simp[m9]at b⟩
 | cons x r =>
  have c:=Hz sp r x 1;refine⟨by simp only[m9,ls];omega,fun k b=>?_⟩;simp only[m9,ls]at b;have:=Rk (n:=(x::r).length) (a:=0) (Iz sp (x::r).length r 0 1 x (by omega) (by simp;omega)) k (by omega);simpa[m9]using this
end Fl
abbrev Eh:=ab→Int→Int→Int→cd→Option (ae×Int×Int×cd)
def c9(f:Eh):io→Int→Int→cd→Option (dn×Int×Int×cd)
 | [],a,b,S=>some ([],a,b,S)
 | p::r,a,b,S=>(f p.1 p.2 a b S).bind fun x=>(c9 f r x.2.1 x.2.2.1 x.2.2.2).bind fun y=>some (x.1::y.1,y.2)
theorem wJ{f:Eh}:∀{l:io} {a b:Int} {S:cd} {r:dn×Int×Int×cd},c9 f l a b S=some r→r.1.length=l.length
 | [],a,b,S,r,h=>by injection h with h;subst h;rfl
 | k::l,a,b,S,r,h=>by
  obtain⟨x,d,h⟩:=bind_some h;obtain⟨y,c,h⟩:=bind_some h;injection h with h;subst h
  simp[wJ c]
theorem Ux(f:Eh):∀(l m:io) (a b:Int) (S:cd),c9 f (l++m) a b S=(c9 f l a b S).bind fun x=>(c9 f m x.2.1 x.2.2.1 x.2.2.2).bind fun y=>some (x.1++y.1,y.2)
 | [],m,a,b,S=>by
  simp only[IT,c9,iN];cases c9 f m a b S<;>rfl
 | k::l,m,a,b,S=>by
  simp only[ahj,c9];cases f k.1 k.2 a b S with
  | none=>rfl
  | some x =>
   simp only[iN];rw[Ux f l m];cases c9 f l x.2.1 x.2.2.1 x.2.2.2 with
   | none=>rfl
   | some y =>
    simp only[iN];cases c9 f m y.2.1 y.2.2.1 y.2.2.2<;>rfl
theorem PT(f:Eh)(w:Int):∀(l:d6) (a b:Int) (S:cd),qV (fun k=>f k w) l a b S=c9 f (l.map fun k=>(k,w)) a b S
 | [],a,b,S=>rfl
 | k::r,a,b,S=>by
  simp only[qV,rl,c9];cases f k w a b S with
  | none=>rfl
  | some x=>simp only[iN,PT f w r]
def rB(f:ae):Int:=if f.Empty=true then 0 else aa (f.After.Pos+f.After.Neg)
def mZ(m:bc):Int:=aa (m.Pos+m.Neg)
theorem PS(K:Kn)(n:Nat)(f:ae):wt K n f=some (rB f):=by
 unfold wt rB;cases f.Empty<;>rfl
theorem Jd(K:Kn)(n:Nat)(m:bc):gz K n m=some (mZ m):=rfl
def Ei(y:Int)(p:Int×Int)(a:Int×Int×dn)(f:ae):Int×Int×dn :=
 (aa (a.1+aa (p.1+p.2)),max a.2.1 (aa (aa (mZ f.Before+f.H)+rB f)),a.2.2++[{ f with X:=aa (f.X+a.1),Y:=aa (y+mZ f.Before) }])
def jG(y:Int):List eq→dn→Int×Int×dn→Int×Int×dn
 | p::ps,f::b,a=>jG y ps b (Ei y p a f)
 | _,_,a=>a
theorem Gt(y:Int):∀(ps:List eq) (c:dn) (a:Int×Int×dn),ps.length=c.length→(jG y ps c a).2.2.length=a.2.2.length+c.length∧∀f∈(jG y ps c a).2.2,f∈a.2.2∨∃g∈c,f.Kids=g.Kids
 | [],[],a,_=>⟨by simp[jG],fun f k=>.inl k⟩
 | p::ps,f::c,a,h=>by
  simp only[ls]at h;obtain⟨i,j⟩:=Gt y ps c (Ei y p a f) (by omega);simp only[jG];refine⟨by rw[i];simp only[Ei,ne,ls,ti];omega,fun q b=>?_⟩;rcases j q b with b|⟨g,d,e⟩
  ·simp only[Ei]at b;rcases n5.1 b with b|b
   ·exact .inl b
   ·simp only[ol,akP,alX]at b;subst b;exact .inr ⟨f,tl,rfl⟩
  ·exact .inr ⟨g,oR _ d,e⟩
 | [],_::_,_,h=>by simp at h
 | _::_,[],_,h=>by simp at h
end Go.Proofs.YtocgkfoifehcbaaGreat
