/- Plain laws about the plain functions: words for all of them. No program in sight. -/
import Derived.Test.YtocgkfoifehcbaaGreatRtGf
import Derived.Lib.TrimUEq
import Derived.Laws.BitsLemmas
namespace Go.Proofs.YtocgkfoifehcbaaGreat
set_option linter.all false
open Go.RowKit
abbrev io:=List f6
def agP:=@List.cons_append
def ajl:=@List.countP_append
def aj7:=@List.not_mem_nil
def aka:=@List.singleton_append
def ako:=@Int.mul_nonneg
def aks:=@Int.tdiv_eq_ediv_of_nonneg
def akt:=@List.getElem_map
def aku:=@List.pairwise_cons
def akv:=@decide_false
def akD:=@List.takeWhile_cons
def akF:=@List.countP_cons
def akG:=@cond_false
def akK:=@Int.mul_le_mul
def akM:=@List.ext_getElem
def akO:=@List.getD_cons_succ
def akP:=@List.getD_cons_zero
def akW:=@cond_true
def akX:=@List.pairwise_lt_range
def akZ:=@List.Pairwise.imp
def ak2:=@Int.mul_le_mul_of_nonneg_right
def ak6:=@Int.mul_le_mul_of_nonneg_left
def ak7:=@Lib.decodeL_drop
def ak9:=@List.pairwise_append
def ala:=@List.getElem_zipWith
def alc:=@or_false
def ald:=@Lib.decodeL_N
def ale:=@List.dropLast_concat_getLast
def alh:=@List.getElem_of_mem
def ali:=@List.range_succ
def alj:=@List.replicate_zero
def alk:=@List.replicate_succ
def alm:=@List.length_zipWith
def alo:=@Int.tmod_eq_emod_of_nonneg
def alr:=@List.filter_append
def aly:=@List.pairwise_map
def alz:=@Lib.decodeL_width
def alA:=@List.take_add_one
def alF:=@Bool.and_self
def alL:=@ByteArray.data_extract
def alQ:=@List.filter_nil
def alR:=@List.length_filter_le
def alS:=@IntKind.wrap_u8
def alT:=@List.dropLast_sublist
def alV:=@List.Pairwise.filter
def alW:=@Array.toList_extract
def alX:=@List.drop_left
def alZ:=@Int.add_mul
def al0:=@List.countP_eq_zero
def al1:=@List.drop_succ_cons
def al2:=@List.map_congr_left
def al3:=@decide_true
def al4:=@Int.le_refl
def amb:=@Nat.sub_self
theorem bK{n:Int}(a : -9223372036854775808≤n)(b:n≤9223372036854775807):aa n=n:=by
 unfold aa;rw[akE];omega
theorem ba{α:Type}(x:Option α):aE true x=x:=rfl
theorem dj{i:Int}{n:Nat}(a:0≤i)(b:i<n):aM i n=true:=by simp[aM,a,b]
theorem bR{α:Type}[Inhabited α]{L:List α}{k:Nat}(h:k<L.length):L.getD k default=L[k]:=by simp[List.getD_eq_getElem?_getD,kb h]
theorem cY{n b:Nat}(h:n*b≤140737488355328)(c:0<b):fits n b=true:=by
 have d:n≤n*b:=Nat.le_mul_of_pos_right n c;have a:n≤9223372036854775807:=by omega
 simp only[fits,iO,q7];exact⟨a,h⟩
set_option maxRecDepth 20000
theorem eR(i:Nat):((i:Int)).toNat=i:=by omega
def sm:ck→Int
 | []=>0
 | x::r=>x+sm r
theorem lJ:∀(a b:ck),sm (a++b)=sm a+sm b
 | [],b=>by simp[sm]
 | x::r,b=>by simp only[agP,sm,lJ r b];omega
theorem TD{B:Int}(b:0≤B):∀(a:ck),(∀x∈a,-B≤x∧x≤B) → -(a.length*B)≤sm a∧sm a≤a.length*B
 | [],_=>by simp[sm]
 | x::r,h=>by
  have d:=h x (by simp);have f:=TD b r (fun y c=>h y (by simp[c]));have e:((x::r).length:Int)*B=r.length*B+B:=by simp[alZ]
  simp only[sm];rw[e];omega
end Go.Proofs.YtocgkfoifehcbaaGreat
namespace Go.Proofs.YtocgkfoifehcbaaGreat.QSort
set_option linter.all false
open Go.RowKit
theorem cG{α:Type}{i:Int}{m:Nat}{x:Option α}(h:0≤i∧i<m):aE (aM i m) x=x:=by rw[dj h.1 h.2];rfl
theorem gd{A B:ck}{x:Int}{i:Nat}(h:i=A.length):(A++x::B).getD i default=x:=by subst h;simp[List.getD_eq_getElem?_getD]
theorem Uj{A B:ck}{x y:Int}{i:Nat}(h:i=A.length+1):(A++x::y::B).getD i default=y:=by subst h;simp[List.getD_eq_getElem?_getD]
theorem sw{A B:ck}{x y:Int}{i j:Nat}(h:i=A.length)(a:j=A.length+1):List.set (List.set (A++x::y::B) j x) i y=A++y::x::B:=by subst h;subst a;simp[List.set_append]
theorem wn{n:Int}{k:Nat}(h:n=k)(a:k≤4000000000):aa n=(k:Int):=by subst h;exact bK (by omega) (by omega)
theorem dp{α:Type}{p:Prop}[Decidable p]{x y:α}(h:p):(if decide p=true then x else y)=x:=by simp[h]
theorem dm{α:Type}{p:Prop}[Decidable p]{x y:α}(h:¬ p):(if decide p=true then x else y)=y:=by simp[h]
theorem px{α:Type}{p:Prop}[Decidable p]{x y:α}(h:¬ p):(if (!decide p)=true then x else y)=x:=by simp[h]
theorem rB{α:Type}{p:Prop}[Decidable p]{x y:α}(h:p):(if (!decide p)=true then x else y)=y:=by simp[h]
theorem sb{α β:Type}(x:α)(k:α→Option β):(some x).bind k=k x:=rfl
structure tZ(K:Kn)(f:Fv)(D:Int→Prop)(key:Int→Int):Prop where
 ok:∀a b,D a→D b→∃c,K.tM f a b=some c∧(c<0↔key a<key b)
def R(key:Int→Int)(a b:Int):Prop:=key a<key b∨key a=key b∧a<b
theorem R.trans{key:Int→Int}{a b c:Int}(h:R key a b)(d:R key b c):R key a c:=by unfold R at *;omega
theorem R.As{key:Int→Int}{a:Int}(h:R key a a):False:=by unfold R at *;omega
theorem R.asymm{key:Int→Int}{a b:Int}(h:R key a b)(c:R key b a):False:=by unfold R at *;omega
theorem R.LW{key:Int→Int}{a b:Int}(h:b<a):key a<key b↔R key a b:=by unfold R;omega
theorem R.not{key:Int→Int}{a b:Int}(h:a≠b)(c:¬ R key a b):R key b a:=by unfold R at *;omega
variable{K:Kn}{n:Nat}{f:Fv}{D:Int→Prop}{key:Int→Int}
theorem WD(I:tZ K f D key)(P T:ck)(b i:Int)(B:Int→ck→Option ck):∀(m:Nat) (g e:ck) (x:Int),g.length<m→(∀y∈g,y<x∧D y)→D x→(g++e).Pairwise (R key)→(∀y∈e,R key x y)→P.length+g.length≤10000 →
  ∃l,l.Perm (x::(g++e))∧l.Pairwise (R key)∧sV K n ((P.length:Nat):Int) b f i B m ((P.length+g.length:Nat):Int) (P++g++x::e++T)=B (aa (i+1)) (P++l++T):=by
 intro m
 induction m with
 | zero=>intro g e x h;omega
 | succ m N =>
  intro g e x M C F q s L;simp only[sV,zS];rcases List.eq_nil_or_concat g with rfl|⟨d,y,rfl⟩
  ·refine⟨x::e,by simp,?_,?_⟩
   ·rw[aku];exact⟨s,by simpa using q⟩
   ·rw[dm (by simp)];simp[tD]
  ·simp only[List.concat_eq_append]at *;have w:=C y (by simp);simp only[ne,ls,rv]at M L;have G:P++(d++[y])++x::e++T=(P++d)++y::x::(e++T):=by simp
   have O:((P.length+(d++[y]).length:Nat):Int)=((P.length+d.length+1:Nat):Int):=by simp;omega
   have E:((P++d)++y::x::(e++T)).length≥P.length+d.length+2:=by simp;omega
   rw[G,O,dp (by omega)];rw[wn (n:=((P.length+d.length+1:Nat):Int)-1) (k:=P.length+d.length) (by omega) (by omega)];rw[cG (by omega),cG (by omega)];simp only[Int.toNat_natCast];rw[Uj (i:=P.length+d.length+1) (by simp),gd (i:=P.length+d.length) (by simp)];obtain⟨c,J,o⟩:=I.ok x y F w.2;rw[J,sb];simp only[tD];by_cases r:c<0
   ·rw[dp r];rw[wn (n:=((P.length+d.length+1:Nat):Int)-1) (k:=P.length+d.length) (by omega) (by omega)];simp only[akq];rw[cG (by omega),cG (by omega),cG (by omega),cG (by omega)];simp only[Int.toNat_natCast];rw[Uj (i:=P.length+d.length+1) (by simp),gd (i:=P.length+d.length) (by simp),sw (by simp) (by simp)];have v:R key x y:=(R.LW w.1).1 (o.1 r);obtain⟨l,p1,Q,S⟩:=N d (y::e) x (by omega) (fun z j=>C z (by simp[j])) F (by simpa using q)
     (fun z j=>by
      rcases ol.1 j with rfl|j
      ·exact v
      ·exact s z j) (by omega)
    refine⟨l,by simpa using p1,Q,?_⟩;have H:P++d++x::y::(e++T)=P++d++x::(y::e)++T:=by simp
    rw[H,S]
   ·rw[dm r];have p:R key y x:=R.not (by omega) (fun h=>r (o.2 ((R.LW w.1).2 h)));refine⟨d++y::x::e,?_,?_,by simp⟩
    ·exact(List.Perm.of_eq (by simp)).trans (List.perm_middle (l₁:=d++[y]) (a:=x) (l₂:=e))
    ·simp only[rl,agP,Io,ak9,aku,ol]at q⊢;obtain⟨U,⟨V,q3⟩,A⟩:=q;refine⟨U,⟨?_,s,q3⟩,?_⟩
     ·rintro z (rfl|j)
      ·exact p
      ·exact V z j
     ·rintro u t z (rfl|rfl|j)
      ·exact A u t z (.inl rfl)
      ·exact(A u t y (.inl rfl)).trans p
      ·exact A u t z (.inr j)
theorem VU(s:tZ K f D key)(P Q:ck)(E:10001<n):∀(m:Nat) (S T:ck),T.length<m→S≠[]→(∀y∈S,∀z∈T,y<z)→T.Pairwise (· < ·)→(∀y∈S++T,D y)→S.Pairwise (R key)→P.length+S.length+T.length≤10000 →
  ∃c,c.Perm (S++T)∧c.Pairwise (R key)∧nD K n ((P.length:Nat):Int) ((P.length+S.length+T.length:Nat):Int) f m ((P.length+S.length:Nat):Int) (P++S++T++Q)=some (P++c++Q):=by
 intro m
 induction m with
 | zero=>intro S T h;omega
 | succ m w =>
  intro S T u v j o i p t;simp only[nD,uU];cases T with
  | nil=>exact⟨S,by simp,p,by rw[dm (by simp)];simp⟩
  | cons x T =>
   simp only[ls]at u t⊢;rw[dp (by omega)];rw[aku]at o;obtain⟨c,p1,A,r⟩:=WD (n:=n) s P (T++Q) ((P.length+S.length+(T.length+1):Nat):Int) ((P.length+S.length:Nat):Int)
    (nD K n ((P.length:Nat):Int) ((P.length+S.length+(T.length+1):Nat):Int) f m) n S [] x (by omega) (fun y b=>⟨j y b x (by simp),i y (by simp[b])⟩) (i x (by simp)) (by simpa using p) (by simp) (by omega)
   have e:P++S++[x]++(T++Q)=P++S++x::T++Q:=by simp
   rw[e]at r;rw[r,wn (k:=P.length+(S.length+1)) (by omega) (by omega)];simp only[List.append_nil]at p1;have d:c.length=S.length+1:=by rw[p1.length_eq];simp
   have g:∀y,y∈c↔y=x∨y∈S:=fun y=>by rw[p1.mem_iff];simp
   obtain⟨l,B,C,q3⟩:=w c T (by omega) (by intro h;subst h;simp at d) (fun y b z q=>by
     rcases (g y).1 b with rfl|b
     ·exact o.1 z q
     ·exact j y b z (by simp[q])) o.2 (fun y b=>by
     rcases nw.1 b with b|b
     ·rcases (g y).1 b with rfl|b
      ·exact i y (by simp)
      ·exact i y (by simp[b])
     ·exact i y (by simp[b])) A (by omega)
   refine⟨l,?_,C,?_⟩
   ·refine B.trans ((p1.append_right T).trans ?_);exact(List.perm_middle (l₁:=S) (a:=x) (l₂:=T)).symm
   ·rw[d,show P.length+(S.length+1)+T.length=P.length+S.length+(T.length+1) by omega,show P++c++T++Q=P++c++(T++Q) by simp]at q3;exact q3
theorem WT(d:tZ K f D key)(P S Q:ck)(h:10001<n)(b:S.Pairwise (· < ·))(e:∀y∈S,D y)(g:P.length+S.length≤10000):
  ∃a,a.Perm S∧a.Pairwise (R key)∧sf K n (P++S++Q) ((P.length:Nat):Int) ((P.length+S.length:Nat):Int) f=some (P++a++Q):=by
 unfold sf;rw[wn (k:=P.length+1) (by omega) (by omega)];cases S with
 | nil =>
  obtain⟨m,rfl⟩:∃m,n=m+1:=⟨n-1,by omega⟩;refine⟨[],by simp,by simp,?_⟩;simp only[nD,uU];rw[dm (by simp;omega)]
 | cons x T =>
  rw[aku]at b;simp only[ls]at g⊢;obtain⟨a,p1,i,c⟩:=VU (n:=n) d P Q h n [x] T (by omega) (by simp) (by simpa using b.1) b.2 (by simpa using e) (by simp) (by simp;omega);refine⟨a,by simpa using p1,i,?_⟩;simp only[ls,rv,If]at c;rw[show P.length+(T.length+1)=P.length+1+T.length by omega,show P++x::T++Q=P++[x]++T++Q by simp];exact c
end Go.Proofs.YtocgkfoifehcbaaGreat.QSort
namespace Go.Proofs.YtocgkfoifehcbaaGreat.QSort
set_option linter.all false
open Go.RowKit
variable{K:Kn}{n:Nat}{f:Fv}{D:Int→Prop}{key:Int→Int}
def at_(L:ck)(k:Nat):Int:=L.getD k default
theorem TF{A:ck}{k:Nat}(h:k<A.length):at_ A k∈A:=by unfold at_;rw[bR h];exact q6 _
theorem Ks{A:ck}{x:Int}(h:x∈A):∃k,k<A.length∧at_ A k=x:=by
 obtain⟨k,a,e⟩:=alh h;exact⟨k,a,by unfold at_;rw[bR a,e]⟩
theorem BP{r:Int→Int→Prop}{A:ck}(h:A.Pairwise r){i j:Nat}(a:i<j)(b:j<A.length):r (at_ A i) (at_ A j):=by
 unfold at_;rw[bR (by omega:i<A.length),bR b];exact List.pairwise_iff_getElem.1 h i j (by omega) b a
theorem SC{A:ck}{t k:Nat}(h:k<t):at_ (A.take t) k=at_ A k:=by simp[at_,List.getD_eq_getElem?_getD,z3,h]
theorem afF{A:ck}{t k:Nat}:at_ (A.drop t) k=at_ A (t+k):=by simp[at_,List.getD_eq_getElem?_getD]
theorem NT{A:ck}{t:Nat}{x:Int}(h:x∈A.take t):∃k,k<t∧k<A.length∧at_ A k=x:=by
 obtain⟨k,a,e⟩:=Ks h;simp at a;exact⟨k,by omega,by omega,by rw[←e,SC (by omega)]⟩
theorem ZE{A:ck}{t:Nat}{x:Int}(h:x∈A.drop t):∃k,t≤k∧k<A.length∧at_ A k=x:=by
 obtain⟨k,a,e⟩:=Ks h;simp at a;exact⟨t+k,by omega,by omega,by rw[←e,afF]⟩
end Go.Proofs.YtocgkfoifehcbaaGreat.QSort
namespace Go.Proofs.YtocgkfoifehcbaaGreat.QSort
set_option linter.all false
open Go.RowKit
variable{f:Fv}{D:Int→Prop}{key:Int→Int}
theorem Tf{c0:Nat}(c:∀m,c0≤m→tZ (KN m) f D key){lvl n:Nat}(S:ck)(i:10001<n)(h:c0+(S.length+1)+10002≤lvl)(g:S.Pairwise (· < ·))(e:∀x∈S,D x)(k:S.length≤19):
  ∃d,d.Perm S∧d.Pairwise (R key)∧lZ (KN lvl) n S f=some d:=by
 unfold lZ DC;obtain⟨m,rfl⟩:∃m,n=m+1:=⟨n-1,by omega⟩;obtain⟨b,p1,j,a⟩:=WT (n:=m+1) (c lvl (by omega)) [] S [] i g e (by simp;omega);simp only[rv,Io,List.append_nil,If]at a;simp only[xc,y8];rw[dm (by omega)];rw[show((0:Nat):Int)=0 from rfl]at a;rw[a,sb];simp only[ze,wO];rw[dm (by omega)];exact⟨b,p1,j,rfl⟩
end Go.Proofs.YtocgkfoifehcbaaGreat.QSort
namespace Go.Proofs.YtocgkfoifehcbaaGreat
set_option linter.all false
open Go.RowKit
namespace Sh
def idx(n:Nat):ck:=(List.range n).map fun (k:Nat)=>(k:Int)
instance(key:Int→Int)(a b:Int):Decidable (QSort.R key a b):=by unfold QSort.R;infer_instance
theorem uH(n:Nat):(idx n).length=n:=by simp[idx]
theorem KL{n:Nat}{x:Int}:x∈idx n↔∃k:Nat,k<n∧x=k:=by
 simp only[idx,Do,afd];exact⟨fun⟨k,h,e⟩=>⟨k,h,e.symm⟩,fun⟨k,h,e⟩=>⟨k,h,e.symm⟩⟩
theorem Ui(n:Nat):(idx n).Pairwise (· < ·):=by
 unfold idx;rw[aly];refine akZ (fun h=>?_) akX;omega
theorem IL(n:Nat):idx (n+1)=idx n++[(n:Int)]:=by simp[idx,ali]
def dD(n a:Int):Int:=min (max n 0) a
def mx:Int:=2147483647
theorem je{n m:Int}(h:0≤m):0≤dD n m∧dD n m≤m:=by unfold dD;omega
def q(T S w:Int):Int:=T*w / S
def r(T S w:Int):Int:=T*w % S
def left(T:Int)(W:ck):Int:=T-sm (W.map (q T (sm W)))
def oJ(T:Int)(W:ck)(k:Nat):Prop :=
 0<r T (sm W) (W.getD k default)∧(((W.take k).countP (fun w=>decide (r T (sm W) (W.getD k default)≤r T (sm W) w))+(W.drop (k+1)).countP (fun w=>decide (r T (sm W) (W.getD k default)<r T (sm W) w)):Nat):Int)<left T W
instance(T:Int)(W:ck)(k:Nat):Decidable (oJ T W k):=by unfold oJ;infer_instance
def part(T:Int)(W:ck)(k:Nat):Int:=q T (sm W) (W.getD k default)+if oJ T W k then 1 else 0
def share(T:Int)(W:ck):ck:=if sm W=0 then List.replicate W.length 0 else (List.range W.length).map (part T W)
theorem tu(T:Int)(W:ck):(share T W).length=W.length:=by unfold share;split<;>simp
def inc:ck→ck→ck
 | p,[]=>p
 | p,i::l=>inc (p.set i.toNat (p.getD i.toNat default+1)) l
theorem UU:∀(l p:ck),(inc p l).length=p.length
 | [],p=>rfl
 | i::l,p=>by simp[inc,UU l]
theorem WE{p:ck}{i j:Nat}{x:Int}(h:i≠j):(p.set i x).getD j default=p.getD j default:=by simp[List.getD_eq_getElem?_getD,akp,h]
theorem abq{p:ck}{i:Nat}{x:Int}(h:i<p.length):(p.set i x).getD i default=x:=by simp[List.getD_eq_getElem?_getD,akp,h]
theorem QZ:∀(l p:ck) (k:Nat),l.Nodup→(∀i∈l,0≤i)→k<p.length→(inc p l).getD k default=p.getD k default+if (k:Int)∈l then 1 else 0
 | [],p,k,_,_,_=>by simp[inc]
 | i::l,p,k,a,b,c=>by
  simp only[inc];rw[List.nodup_cons]at a;rw[QZ l _ k a.2 (fun j f=>b j (by simp[f])) (by simpa using c)];have g:=b i (by simp);by_cases e:i.toNat=k
  ·have d:i=(k:Int):=by omega
   subst d;rw[Int.toNat_natCast,abq c,kc a.1,ll (by simp)];omega
  ·rw[WE e];have:((k:Int)∈i::l)↔(k:Int)∈l:=by
    rw[ol];constructor
    ·rintro (h|h)
     ·omega
     ·exact h
    ·exact .inr
   simp only[this]
theorem VY{a b:ck}(h:a.Perm b):sm a=sm b:=by
 induction h with
 | nil=>rfl
 | cons x _ e=>simp[sm,e]
 | swap x y l=>simp only[sm];omega
 | trans _ _ c d=>rw[c,d]
theorem LA(T S:Int)(a:0<S):∀W:ck,S*sm (W.map (q T S))+sm (W.map (r T S))=T*sm W
 | []=>by simp[sm]
 | w::W=>by
  have:=LA T S a W;have h:=Int.mul_ediv_add_emod (T*w) S;simp only[th,sm,Int.mul_add];unfold q r at *;omega
theorem mf{c:Int}:∀L:ck,(∀x∈L,x≤c)→sm L≤L.length*c
 | [],_=>by simp[sm]
 | x::L,h=>by
  have:=mf L (fun y a=>h y (by simp[a]));have:=h x (by simp);simp only[sm,ls];rw[show((L.length+1:Nat):Int)*c=L.length*c+c by simp[alZ]];omega
theorem km:∀L:ck,(∀x∈L,0≤x)→0≤sm L
 | [],_=>by simp[sm]
 | x::L,h=>by
  have:=km L (fun y a=>h y (by simp[a]));have:=h x (by simp);simp only[sm];omega
theorem AD:∀(L:ck),(∀x∈L,0≤x)→∀x∈L,x≤sm L
 | [],_,_,a=>by simp at a
 | y::L,h,x,a=>by
  have c:=km L (fun y b=>h y (by simp[b]));have d:=h y (by simp);simp only[sm];rcases ol.1 a with rfl|a
  ·omega
  ·have:=AD L (fun y b=>h y (by simp[b])) x a;omega
theorem Ii{T S w:Int}(a:0<S):0≤r T S w∧r T S w<S:=⟨Int.emod_nonneg _ (by omega),Int.emod_lt_of_pos _ a⟩
theorem BW{T S w:Int}(c:0<S)(b:0≤T)(d:0≤w)(a:w≤S):0≤q T S w∧q T S w≤T:=by
 refine⟨Int.ediv_nonneg (ako b d) (by omega),?_⟩;unfold q;have h:T*w≤T*S:=ak6 a b
 calc T*w / S≤T*S / S:=Int.ediv_le_ediv c h
  _=T:=Int.mul_ediv_cancel _ (by omega)
theorem MV(T:Int)(W:ck)(a:0<sm W):sm W*left T W=sm (W.map (r T (sm W))):=by
 have:=LA T (sm W) a W;unfold left;rw[Int.mul_sub,alM (sm W) T];omega
theorem Fy(T:Int)(W:ck)(a:0<sm W):0≤left T W∧left T W≤W.length:=by
 have h:=MV T W a;have d:0≤sm (W.map (r T (sm W))):=km _ (fun x b=>by
  obtain⟨w,_,rfl⟩:=Do.1 b;exact(Ii a).1)
 have c:sm (W.map (r T (sm W)))≤(W.map (r T (sm W))).length*sm W:=mf _ (fun x b=>by
  obtain⟨w,_,rfl⟩:=Do.1 b;have:=(Ii (T:=T) (w:=w) a).2;omega)
 rw[nx,← h,alM]at c;refine⟨?_,Int.le_of_mul_le_mul_right c a⟩;rw[←h]at d;rcases Int.lt_or_le (left T W) 0 with h|h
 ·have:=Int.mul_neg_of_pos_of_neg a h;omega
 ·exact h
def key(rs:ck)(a:Int):Int := - rs.getD a.toNat default
structure Ord(rs d:ck):Prop where
 p:d.Perm (idx rs.length)
 s:d.Pairwise (QSort.R (key rs))
theorem Ord.nodup{rs d:ck}(h:Ord rs d):d.Nodup:=by
 refine akZ (fun a e=>?_) h.s;subst e;exact a.As
theorem Ord.mem{rs d:ck}(h:Ord rs d){x:Int}:x∈d↔∃k:Nat,k<rs.length∧x=k:=by rw[h.p.mem_iff,KL]
theorem Ord.len{rs d:ck}(h:Ord rs d):d.length=rs.length:=by rw[h.p.length_eq,uH]
theorem Cb(rs:ck)(p:Int→Bool):∀n,n≤rs.length→(idx n).countP (fun a=>p (rs.getD a.toNat default))=(rs.take n).countP p
 | 0,_=>by simp[idx]
 | n+1,h=>by
  rw[IL,ajl,Cb rs p n (by omega),adV (by omega),ajl];simp[List.getD_eq_getElem?_getD,kb (show n<rs.length by omega)]
theorem aeC{rs d:ck}(h:Ord rs d){t k:Nat}(i:t<d.length)(p:d.getD t default=(k:Int)):(rs.take k).countP (fun w=>decide (rs.getD k default≤w))+(rs.drop (k+1)).countP (fun w=>decide (rs.getD k default<w))=t:=by
 have m:k<rs.length:=by
  have:d.getD t default∈d:=by rw[bR i];exact q6 _
  rw[p]at this;obtain⟨j,n,o⟩:=h.mem.1 this;omega
 -- in the sorted order there are t ahead of k
 have c1:d.countP (fun a=>decide (QSort.R (key rs) a k))=t:=by
  have e:d=d.take t++d.drop t:=(aj9 t d).symm;have z:d.drop t=(k:Int)::d.drop (t+1):=by rw[l3 i,← bR i,p]
  rw[z]at e;have g:=h.s;rw[e,ak9,aku]at g;rw[e,ajl,akF];have A:(d.take t).countP (fun a=>decide (QSort.R (key rs) a k))=t:=by
   rw[List.countP_eq_length.2 (fun a b=>by simpa using g.2.2 a b k (by simp))];simp;omega
  have B:(d.drop (t+1)).countP (fun a=>decide (QSort.R (key rs) a k))=0:=by
   rw[al0];intro a b c;exact(g.2.1.1 a b).asymm (by simpa using c)
  have C:(if decide (QSort.R (key rs) (k:Int) k)=true then 1 else 0)=0:=by
   rw[kc];intro c;exact(by simpa using c:QSort.R (key rs) (k:Int) k).As
  rw[A,B,C];omega
 rw[h.p.countP_eq]at c1
 -- the indices below k,k,those above
 have e:idx rs.length=idx k++(k:Int)::(idx rs.length).drop (k+1):=by
  have n:(idx rs.length).take k=idx k:=by unfold idx;rw[←List.map_take,List.take_range,Nat.min_eq_left (Nat.le_of_lt m)]
  have o:k<(idx rs.length).length:=by rw[uH];exact m
  conv=>lhs;rw[←aj9 k (idx rs.length),n,l3 o]
  congr 2;simp[idx]
 have r:(idx k).countP (fun a=>decide (QSort.R (key rs) a k))=(rs.take k).countP (fun w=>decide (rs.getD k default≤w)):=by
  rw[←Cb rs (fun w=>decide (rs.getD k default≤w)) k (by omega)];refine List.countP_congr (fun a b=>?_);obtain⟨j,E,rfl⟩:=KL.1 b;simp only[q7];simp only[QSort.R,key,Int.toNat_natCast];omega
 have s:((idx rs.length).drop (k+1)).countP (fun a=>decide (QSort.R (key rs) a k))=(rs.drop (k+1)).countP (fun w=>decide (rs.getD k default<w)):=by
  have f:=Cb rs (fun w=>decide (rs.getD k default<w)) rs.length (lc _);have l:=Cb rs (fun w=>decide (rs.getD k default<w)) (k+1) (by omega);rw[akj]at f;have v:rs.countP (fun w=>decide (rs.getD k default<w))=(rs.take (k+1)).countP (fun w=>decide (rs.getD k default<w))+(rs.drop (k+1)).countP (fun w=>decide (rs.getD k default<w)):=by
   rw[←ajl,aj9]
  have x:idx rs.length=idx (k+1)++(idx rs.length).drop (k+1):=by
   rw[IL];conv=>lhs;rw[e]
   simp
  rw[x,ajl,l]at f;have y:((idx rs.length).drop (k+1)).countP (fun a=>decide (QSort.R (key rs) a k))=((idx rs.length).drop (k+1)).countP (fun a=>(fun w=>decide (rs.getD k default<w)) (rs.getD a.toNat default)):=by
   refine List.countP_congr (fun a b=>?_);have:(k:Int)<a:=by
    have q:=Ui rs.length;rw[e,ak9,aku]at q;exact q.2.1.1 a b
   have D:0≤a:=by omega
   obtain⟨j,rfl⟩:∃j:Nat,a=j:=⟨a.toNat,by omega⟩;simp only[q7];simp only[QSort.R,key,Int.toNat_natCast];omega
  rw[y];dsimp only at f l v⊢;omega
 have u:(if decide (QSort.R (key rs) (k:Int) k)=true then 1 else 0)=0:=by
  rw[kc];intro c;exact(by simpa using c:QSort.R (key rs) (k:Int) k).As
 rw[e,ajl,akF,r,s,u]at c1;omega
theorem Ej(T S:Int)(W:ck){k:Nat}(h:k<W.length):(W.map (r T S)).getD k default=r T S (W.getD k default):=by simp[List.getD_eq_getElem?_getD,h]
theorem aer(T:Int)(W d:ck)(P:∀w∈W,0≤w)(O:sm W≠0)(h:Ord (W.map (r T (sm W))) d):share T W=inc (W.map (q T (sm W))) (d.take (left T W).toNat):=by
 have l:0<sm W:=by have:=km W P;omega
 have S:=Fy T W l;have v:=MV T W l;have Q:d.length=W.length:=by rw[h.len,nx]
 unfold share;rw[kc O];refine akM (by rw[UU];simp) (fun k K L=>?_);have n:k<W.length:=by simpa using K
 rw[←bR L,QZ _ _ _ (h.nodup.sublist (List.take_sublist _ _)) (fun i R=>by
  obtain⟨j,_,rfl⟩:=h.mem.1 (oR R);omega) (by simpa using n)]
 simp only[akt,List.getElem_range,part];have I:(W.map (q T (sm W))).getD k default=q T (sm W) (W.getD k default):=by simp[List.getD_eq_getElem?_getD,n]
 rw[I];congr 1
 -- where is k in the order?
 obtain⟨t,F,et⟩:=QSort.Ks (A:=d) (x:=(k:Int)) (h.mem.2 ⟨k,by simpa using n,rfl⟩);have B:=aeC h F et;rw[Ej _ _ _ n,← List.map_take,← alE,List.countP_map,List.countP_map]at B;have e:((k:Int)∈d.take (left T W).toNat)↔t<(left T W).toNat:=by
  constructor
  ·intro y;obtain⟨H,Y,V,G⟩:=QSort.NT y;have:H=t:=by
    rcases Nat.lt_trichotomy t H with b|b|b
    ·have:=QSort.BP h.s b V;rw[et,G]at this;exact absurd this (fun x=>x.As)
    ·exact b.symm
    ·have:=QSort.BP h.s b F;rw[et,G]at this;exact absurd this (fun x=>x.As)
   omega
  ·intro y;have:d.take (left T W).toNat=d.take (left T W).toNat:=rfl;have M:t<(d.take (left T W).toNat).length:=by simp;omega
   have:=QSort.TF M;rwa[QSort.SC y,et]at this
 have f:oJ T W k↔t<(left T W).toNat:=by
  unfold oJ;simp only[Function.comp_def]at B;rw[B];constructor
  ·intro b;omega
  ·intro b;refine⟨?_,by omega⟩
   -- a rest of 0 does not oJ: all behind it are 0,too
   rcases Int.lt_or_le 0 (r T (sm W) (W.getD k default))with z|z
   ·exact z
   ·exfalso;have g:sm (d.map fun a=>(W.map (r T (sm W))).getD a.toNat default)=sm (W.map (r T (sm W))):=by
     rw[VY (h.p.map _)];congr 1;refine akM (by simp[idx]) (fun i U s=>?_);simp only[akt,idx,List.getElem_range,Int.toNat_natCast,Ej T (sm W) W (show i<W.length by simpa using s)];rw[bR (show i<W.length by simpa using s)]
    have u:d=d.take t++d.drop t:=(aj9 t d).symm;have o:sm (d.map fun a=>(W.map (r T (sm W))).getD a.toNat default)=sm ((d.take t).map fun a=>(W.map (r T (sm W))).getD a.toNat default)+sm ((d.drop t).map fun a=>(W.map (r T (sm W))).getD a.toNat default):=by
     conv=>lhs;rw[u]
     rw[IT,lJ]
    have D:∀a∈d,0≤(W.map (r T (sm W))).getD a.toNat default∧(W.map (r T (sm W))).getD a.toNat default≤sm W-1:=by
     intro a m;obtain⟨j,E,rfl⟩:=h.mem.1 m;rw[nx]at E;rw[Int.toNat_natCast,Ej T (sm W) W E];have:=Ii (T:=T) (w:=W.getD j default) l;omega
    have Z:sm ((d.take t).map fun a=>(W.map (r T (sm W))).getD a.toNat default)≤t*(sm W-1):=by
     have:=mf (c:=sm W-1) ((d.take t).map fun a=>(W.map (r T (sm W))).getD a.toNat default) (fun x C=>by
      obtain⟨a,m,rfl⟩:=Do.1 C;exact(D a (oR m)).2)
     rw[nx,IN,Nat.min_eq_left (by omega)]at this;exact this
    have X:sm ((d.drop t).map fun a=>(W.map (r T (sm W))).getD a.toNat default)≤(((d.drop t).map fun a=>(W.map (r T (sm W))).getD a.toNat default).length:Int)*0:=by
     refine mf _ (fun x C=>?_);obtain⟨a,m,rfl⟩:=Do.1 C;obtain⟨i,U,s,rfl⟩:=QSort.ZE m;have J:(W.map (r T (sm W))).getD k default≤0:=by rw[Ej T (sm W) W n];exact z
     rcases Nat.lt_or_ge t i with q|q
     ·have:=QSort.BP h.s q s;rw[et]at this;unfold QSort.R key at this;rw[Int.toNat_natCast]at this;omega
     ·obtain rfl:i=t:=by omega
      rw[et,Int.toNat_natCast];exact J
    rw[Int.mul_zero]at X;have:sm W*left T W≤t*(sm W-1):=by rw[v,← g,o];omega
    have N:sm W*((t:Int)+1)≤sm W*left T W:=ak6 (by omega) (by omega);rw[Int.mul_add,Int.mul_one,alM (sm W) t]at N;rw[Int.mul_sub,Int.mul_one]at this;omega
 by_cases p:oJ T W k
 ·rw[ll p,ll (e.2 (f.1 p))]
 ·rw[kc p,kc (fun b=>p (f.2 (e.1 b)))]
end Sh
end Go.Proofs.YtocgkfoifehcbaaGreat
namespace Go.Proofs.YtocgkfoifehcbaaGreat
set_option linter.all false
open Go.RowKit
namespace Sh
open QSort (wn cG dp dm sb)
variable{K:Kn}{n:Nat}
def bW(L:ck):ck:=L.map fun w=>dD w mx
theorem fE L:(bW L).length=L.length:=by simp[bW]
theorem m5 L:∀w∈bW L,0≤w∧w≤2147483647:=by
 intro w a;obtain⟨x,_,rfl⟩:=Do.1 a;exact je (m:=mx) (by decide)
theorem OF{L}{k}(h:k<L.length):(bW L).getD k default=dD (L.getD k default) mx:=by grind[bW]
theorem Vm{L}(h:L.length≤19):0≤sm (bW L)∧sm (bW L)≤21474836470000:=by
 refine⟨km _ (fun w a=>(m5 L w a).1),?_⟩;have:=mf (c:=2147483647) (bW L) (fun w a=>(m5 L w a).2)
 grind[fE]
theorem Qv{W:ck}(h:∀w∈W,0≤w)(i:Nat):0≤sm (W.take i)∧sm (W.take i)≤sm W:=by
 have b:=km (W.take i) (fun w a=>h w (oR a));have c:=km (W.drop i) (fun w a=>h w (w3 a));have:sm W=sm (W.take i)+sm (W.drop i):=by rw[←lJ,aj9]
 omega
theorem aaD{W:ck}{i:Nat}(h:i<W.length):sm (W.take (i+1))=sm (W.take i)+W.getD i default:=by
 rw[adV h,lJ,bR h];simp[sm]
theorem CN{A:ck}{k i}{y z}(h:i=A.length):List.set (A++List.replicate (k+1) z) i y=(A++[y])++List.replicate k z:=by
 subst h;grind
theorem XI{A:ck}{k i}{y z}(h:i=A.length):List.getD ((A++[y])++List.replicate k z) i default=y:=by
 grind
theorem aiq{a b:Int}(d:0≤a)(e:a≤2147483647)(c:0≤b)(f:b≤2147483647):0≤a*b∧a*b≤4611686014132420609:=by
 refine⟨ako d c,?_⟩;have:=akK e f c (by omega);omega
theorem Fe(g:Int→Int){W:ck}{i:Nat}(h:i<W.length):(W.take (i+1)).map g=(W.take i).map g++[g (W.getD i default)]:=by
 rw[adV h,IT,bR h];rfl
theorem ae5{T}{W}(d:0≤T)(b:∀w∈W,0≤w)(a:0<sm W) i:0≤sm ((W.take i).map (q T (sm W)))∧sm ((W.take i).map (q T (sm W)))≤T:=by
 have e:∀x∈W.map (q T (sm W)),0≤x:=fun x f=>by
  obtain⟨w,c,rfl⟩:=Do.1 f;exact(BW a d (b w c) (AD W b w c)).1
 have:=Qv e i;rw[←List.map_take]at this;have g:=(Fy T W a).1
 grind[left]
theorem aio(L:ck)(T:Int)(c f g:ck)(l:L.length≤19):∀(m i:Nat),i≤L.length→L.length<m+i →
  vk K n L T c f g m (sm ((bW L).take i)) (i:Int)=if (sm (bW L) == 0)=true then some c else qp K n L T (sm (bW L)) n T 0 c f g:=by
 intro m
 induction m with
 | zero=>intro i h j;omega
 | succ m p =>
  intro i h j;simp only[vk,yU];by_cases d:i<L.length
  ·have q:=Vm l;have a:=Qv (W:=bW L) (fun w o=>(m5 L w o).1) (i+1);have e:=aaD (W:=bW L) (i:=i) (by rw[fE];exact d);have b:=OF d;rw[dp (by omega),cG (by omega),eR];simp only[iA,sb];rw[wn (n:=(i:Int)+1) (k:=i+1) (by omega) (by omega)];rw[show aa (sm ((bW L).take i)+min (max (L.getD i default) 0) 2147483647)=sm ((bW L).take (i+1)) by
    rw[e,b];exact bK (by rw[e,b]at a;unfold dD mx at a;omega) (by rw[e,b]at a;unfold dD mx at a;omega)]
   exact p (i+1) (by omega) (by omega)
  ·rw[dm (by omega),Dj (by rw[fE];omega)]
theorem Zx(L:ck)(T:Int)(d:0≤T∧T≤2147483647)(F:L.length≤19)(g:0<sm (bW L)):∀(m i:Nat),i≤L.length→L.length<m+i →
  qp K n L T (sm (bW L)) m (T-sm (((bW L).take i).map (q T (sm (bW L))))) (i:Int) (((bW L).take i).map (q T (sm (bW L)))++List.replicate (L.length-i) 0) (((bW L).take i).map (r T (sm (bW L)))++List.replicate (L.length-i) 0) (idx i++List.replicate (L.length-i) 0) =
  (lZ K n (idx L.length) (Fv.c165 ((bW L).map (r T (sm (bW L)))))).bind fun a =>
  aE (cC (0:Int) (left T (bW L)) a.length) (
  pX K n n (List.drop ((0:Int)).toNat (List.take (left T (bW L)).toNat a)) ((List.drop ((0:Int)).toNat (List.take (left T (bW L)).toNat a)).length:Int) 0 ((bW L).map (q T (sm (bW L))))):=by
 intro m
 induction m with
 | zero=>intro i x y;omega
 | succ m A =>
  intro i x y;simp only[qp,xl];by_cases b:i<L.length
  ·have h:=fun w c=>(m5 L w c).1;have f:=ae5 d.1 h g;have u:=OF b;obtain⟨k,t⟩:∃k,L.length-i=k+1:=⟨L.length-i-1,by omega⟩;have c:=m5 L ((bW L).getD i default) (by rw[bR (by rw[fE];exact b)];exact q6 _);have j:=aiq d.1 d.2 c.1 c.2;rw[dp (by omega),cG (by omega),eR];simp only[iA,sb];have e:min (max (L.getD i default) 0) 2147483647=(bW L).getD i default:=by rw[u];rfl
   rw[e,bK (n:=T*(bW L).getD i default) (by omega) (by omega)];have z:(sm (bW L) != 0)=true:=by simp;omega
   rw[z,ba,ba];have o:(((bW L).take i).map (q T (sm (bW L)))++List.replicate (L.length-i) 0).length=L.length:=by simp[fE];omega
   have C:(((bW L).take i).map (r T (sm (bW L)))++List.replicate (L.length-i) 0).length=L.length:=by simp[fE];omega
   have D:(idx i++List.replicate (L.length-i) 0).length=L.length:=by simp[uH];omega
   rw[o,C,D,cG (by omega),cG (by omega),cG (by omega)];simp only[akq];rw[o,cG (by omega),t];have l:i=(((bW L).take i).map (q T (sm (bW L)))).length:=by simp[fE];omega
   have B:i=(((bW L).take i).map (r T (sm (bW L)))).length:=by simp[fE];omega
   rw[CN l,CN B,CN (uH i).symm,XI l];have G:=BW g d.1 c.1 (AD _ h _ (by rw[bR (by rw[fE];exact b)];exact q6 _));have s:aa (Int.tdiv (T*(bW L).getD i default) (sm (bW L)))=q T (sm (bW L)) ((bW L).getD i default):=by
    rw[aks j.1];exact bK (by show _≤q _ _ _;omega) (by show q _ _ _≤_;omega)
   have v:Int.tmod (T*(bW L).getD i default) (sm (bW L))=r T (sm (bW L)) ((bW L).getD i default):=by
    rw[alo j.1];rfl
   rw[s,v,← Fe _ (by rw[fE];exact b),← Fe _ (by rw[fE];exact b),← IL];have p:aa (T-sm (((bW L).take i).map (q T (sm (bW L))))-q T (sm (bW L)) ((bW L).getD i default))=T-sm (((bW L).take (i+1)).map (q T (sm (bW L)))):=by
    rw[Fe _ (by rw[fE];exact b),lJ];simp only[sm];have E:=f i;rw[bK (by omega) (by omega)];omega
   rw[p,wn (n:=(i:Int)+1) (k:=i+1) (by omega) (by omega)];have:=A (i+1) (by omega) (by omega);rw[show L.length-(i+1)=k by omega]at this;exact this
  ·have:i=L.length:=by omega
   subst this;rw[dm (by omega)];have e:(bW L).take L.length=bW L:=Dj (by rw[fE];omega);rw[e];simp only[amb,alj,List.append_nil];rfl
theorem ai4(l:ck)(q:l.length≤19):∀(m i:Nat) (p:ck),i≤l.length→l.length<m+i→(∀x∈l,0≤x∧x.toNat<p.length)→(∀x∈p,0≤x∧x+l.length≤4611686018427387904+i) →
  pX K n m l (l.length:Int) (i:Int) p=some (inc p (l.drop i)):=by
 intro m
 induction m with
 | zero=>intro i p e f;omega
 | succ m o =>
  intro i p e f d c;simp only[pX,xx];by_cases a:i<l.length
  ·have g:=d (l.getD i default) (by rw[bR a];exact q6 _);have j:=c (p.getD (l.getD i default).toNat default) (by rw[bR g.2];exact q6 _);rw[dp (by omega),cG (by omega),eR,cG (by omega),cG (by omega),wn (n:=(i:Int)+1) (k:=i+1) (by omega) (by omega),bK (by omega) (by omega)];rw[o (i+1) _ (by omega) (by omega) (by simpa using d) (fun x b=>by
    rcases akx b with h|h
    ·have:=c x h;omega
    ·subst h;omega)]
   rw[l3 a,← bR a];rfl
  ·rw[dm (by omega),mo (by omega)];rfl
theorem JE rs m:QSort.tZ (KN (m+1)) (Fv.c165 rs) (fun a=>0≤a∧a<rs.length) (key rs):=by
 refine⟨fun a b d e=>?_⟩;show ∃c,Ak (KN m) m a b rs=some c∧_;unfold Ak;rw[cG e,cG d]
 grind[uu,wb,sb,key]
theorem sorted rs{lvl n}(h:10001<n)(i:rs.length≤19)(g:20010≤lvl):∃d,Ord rs d∧lZ (KN lvl) n (idx rs.length) (Fv.c165 rs)=some d:=by
 obtain⟨d,b,c,e⟩:=QSort.Tf (c0:=1) (f:=Fv.c165 rs) (D:=fun a=>0≤a∧a<rs.length) (key:=key rs) (fun m j=>by
  obtain⟨k,rfl⟩:∃k,m=k+1:=⟨m-1,by omega⟩
  grind[JE]) (lvl:=lvl) (n:=n) (idx rs.length) h (by grind[uH]) (Ui _) (fun x l=>by
   grind[KL]) (by grind[uH])
 exact⟨d,⟨b,c⟩,e⟩
theorem vc{a b:Int}{n:Nat}(c:0≤a)(d:a≤b)(e:b≤n):cC a b n=true:=by grind[cC]
theorem FS{n b:Nat}(h:n*b≤140737488355328)(a:n≤4611686018427387904):fB n b=true:=by
 grind[fB]
theorem mP{lvl n:Nat}(T:Int)(L:ck)(c:L.length≤19)(u:10001<n)(g:20010≤lvl):ya (KN lvl) n T L=some (share (dD T mx) (bW L)):=by
 unfold ya;have o:0≤dD T mx∧dD T mx≤2147483647:=je (m:=mx) (by decide);simp only[iA,sb,FS (show L.length*8≤140737488355328 by omega) (by omega),ba,eR];have l:=aio (K:=KN lvl) (n:=n) L (dD T mx) (List.replicate L.length 0) (List.replicate L.length 0) (List.replicate L.length 0) c n 0 (by omega) (by omega);rw[show sm ((bW L).take 0)=0 from rfl,show((0:Nat):Int)=0 from rfl]at l;rw[show min (max T 0) 2147483647=dD T mx from rfl,l];have v:=Vm c;by_cases i:sm (bW L)=0
 ·rw[ll (by simp[i])];unfold share;rw[ll i,fE]
 ·rw[kc (by simp[i])];have f:0<sm (bW L):=by omega
  have e:=Zx (K:=KN lvl) (n:=n) L (dD T mx) o c f n 0 (by omega) (by omega);simp only[akn,By,Io,akm,sm,Int.sub_zero,show idx 0=[] from rfl]at e;rw[show((0:Nat):Int)=0 from rfl]at e;rw[e];obtain⟨d,j,p⟩:=sorted ((bW L).map (r (dD T mx) (sm (bW L)))) (lvl:=lvl) (n:=n) u (by simp[fE,c]) g;rw[nx,fE]at p;rw[p,sb];have s:d.length=L.length:=by rw[j.len,nx,fE]
  have a:=Fy (dD T mx) (bW L) f;rw[fE]at a;rw[vc (by omega) a.1 (by rw[s];exact a.2),ba];rw[show(0:Int).toNat=0 from rfl,List.drop_zero];rw[aer (dD T mx) (bW L) d (fun w b=>(m5 L w b).1) (by omega) j];have:=ai4 (K:=KN lvl) (n:=n) (d.take (left (dD T mx) (bW L)).toNat) (by simp;omega) n 0 ((bW L).map (q (dD T mx) (sm (bW L)))) (by omega) (by simp;omega) (fun x h=>by
   obtain⟨k,t,rfl⟩:=j.mem.1 (oR h);simp at t;simp;omega) (fun x h=>by
   obtain⟨w,b,rfl⟩:=Do.1 h;have:=BW f o.1 (m5 L w b).1 (AD _ (fun w b=>(m5 L w b).1) w b);have y:(d.take (left (dD T mx) (bW L)).toNat).length≤10000:=by simp;omega
   omega)
  rw[show((0:Nat):Int)=0 from rfl,List.drop_zero]at this;exact this
end Sh
namespace Sh
theorem Lc{T:Int}{W:ck}(a:sm W≠0){k:Nat}(b:k<W.length):(share T W).getD k default=part T W k:=by
 rw[bR (by rw[tu];exact b)];unfold share;simp[a]
theorem Fg{T:Int}{W:ck}(a:sm W=0):share T W=List.replicate W.length 0:=by unfold share;rw[ll a]
theorem ahQ{T:Int}{W:ck}(a:∀w∈W,0≤w)(d:0≤T)(c:0<sm W){k:Nat}(e:k<W.length):0≤part T W k∧part T W k≤T+1:=by
 have b:W.getD k default∈W:=by rw[bR e];exact q6 _
 have:=BW c d (a _ b) (AD W a _ b);unfold part;split<;>omega
end Sh
namespace Rs
open Sh (share bW dD mx q r left oJ part)
def aux(T S l:Int):ck→ck→ck
 | _,[]=>[]
 | A,w::B=>(q T S w+if 0<r T S w∧((A.countP (fun x=>decide (r T S w≤r T S x))+B.countP (fun x=>decide (r T S w<r T S x)):Nat):Int)<l then 1 else 0)::aux T S l (A++[w]) B
theorem UL(T S l:Int):∀(B A:ck),(aux T S l A B).length=B.length
 | [],A=>rfl
 | w::B,A=>by simp[aux,UL T S l B]
theorem Ri(T S l:Int):∀(B A:ck) (k:Nat),k<B.length→(aux T S l A B).getD k default=q T S (B.getD k default)+if 0<r T S (B.getD k default)∧(((A++B.take k).countP (fun x=>decide (r T S (B.getD k default)≤r T S x))+(B.drop (k+1)).countP (fun x=>decide (r T S (B.getD k default)<r T S x)):Nat):Int)<l then 1 else 0
 | [],A,k,h=>by simp at h
 | w::B,A,0,h=>by simp[aux]
 | w::B,A,k+1,h=>by
  have:=Ri T S l B (A++[w]) k (by simpa using h);simp only[aux,akO,this,List.take_succ_cons,al1,rl,aka]
theorem QO(T:Int)(W:ck)(d:sm W≠0):share T W=aux T (sm W) (left T W) [] W:=by
 refine akM (by rw[Sh.tu,UL]) (fun k a c=>?_);have b:k<W.length:=by rw[Sh.tu]at a;exact a
 rw[←bR a,← bR c,Sh.Lc d b,Ri _ _ _ _ _ _ b];rfl
def zo(a:List (Option Int)):ck:=a.map fun o=>o.getD 0
def op(a:List (Option Int)):ck:=a.filterMap id
def pick:List (Option Int)→ck→ck
 | some _::a,p::P=>p::pick a P
 | none::a,_::P=>pick a P
 | _,_=>[]
theorem sB:∀a:List (Option Int),sm (zo a)=sm (op a)
 | []=>rfl
 | some w::a=>by have:=sB a;simp only[zo,op]at *;simp[sm,this]
 | none::a=>by have:=sB a;simp only[zo,op]at *;simp[sm,this]
theorem aaZ(T S:Int):q T S 0=0:=by simp[q]
theorem U5(T S:Int):r T S 0=0:=by simp[r]
theorem Gr(T S:Int):∀a:List (Option Int),sm ((zo a).map (q T S))=sm ((op a).map (q T S))
 | []=>rfl
 | some w::a=>by
  have:=Gr T S a;have b:zo (some w::a)=w::zo a:=rfl;have c:op (some w::a)=w::op a:=rfl;rw[b,c,th,th,sm,sm,this]
 | none::a=>by
  have:=Gr T S a;have b:zo (none::a)=0::zo a:=rfl;have c:op (none::a)=op a:=rfl;rw[b,c,th,sm,this,aaZ];omega
theorem IJ(p:Int→Bool)(b:p 0=false):∀a:List (Option Int),(zo a).countP p=(op a).countP p
 | []=>rfl
 | some w::a=>by have:=IJ p b a;simp only[zo,op]at *;simp[akF,this]
 | none::a=>by have:=IJ p b a;simp only[zo,op]at *;simp[akF,this,b]
theorem FE(T S l:Int):∀(a:List (Option Int)) (A b:ck),(∀x,0<x→A.countP (fun y=>decide (x≤r T S y))=b.countP (fun y=>decide (x≤r T S y))) →
  pick a (aux T S l A (zo a))=aux T S l b (op a)
 | [],A,b,h=>rfl
 | some w::a,A,b,h=>by
  have i:=FE T S l a (A++[w]) (b++[w]) (fun x g=>by rw[ajl,ajl,h x g]);have c:zo (some w::a)=w::zo a:=rfl;have d:op (some w::a)=w::op a:=rfl;rw[c,d];simp only[aux,pick,i];congr 2;by_cases f:0<r T S w
  ·rw[h _ f,IJ _ (by simp[U5];omega)]
  ·rw[kc (fun e=>f e.1),kc (fun e=>f e.1)]
 | none::a,A,b,h=>by
  have i:=FE T S l a (A++[0]) b (fun x g=>by
   rw[ajl,h x g];simp[U5];omega)
  have c:zo (none::a)=0::zo a:=rfl;have d:op (none::a)=op a:=rfl;rw[c,d];simp only[aux,pick,i]
theorem Fs:∀a:List (Option Int),pick a (List.replicate a.length 0)=List.replicate (op a).length 0
 | []=>rfl
 | some w::a=>by simp[pick,op,alk];exact Fs a
 | none::a=>by simp[pick,op,alk];exact Fs a
theorem aaX(T:Int)(a:List (Option Int)):pick a (share T (zo a))=share T (op a):=by
 by_cases b:sm (zo a)=0
 ·rw[Sh.Fg b,Sh.Fg (by rw[←sB];exact b)];have:(zo a).length=a.length:=by simp[zo]
  rw[this];exact Fs a
 ·rw[QO T _ b,QO T _ (by rw[←sB];exact b)];have e:left T (zo a)=left T (op a):=by unfold left;rw[Gr,sB]
  rw[e,sB];exact FE T _ _ a [] [] (fun _ _=>rfl)
def mi(g:Bool)(a:bF):Int:=if g=true then a.Grow else a.Shrink
def o5(g:Bool)(a:bF):Int:=if g=true then a.Grow else a.aC*a.Shrink / 1000
abbrev It:=bF×Option Int
def fT(p:It):Int:=p.2.getD p.1.aC
def gj(g:Bool)(p:It):Option Int:=if p.2.isSome=true then none else some (o5 g p.1)
def fp(g:Bool)(M:List It):Int:=sm (M.map fun p=>if p.2.isSome=true then 0 else mi g p.1)
def room(g:Bool)(sp:Int)(M:List It):Int:=max (if g=true then sp-sm (M.map fT) else-(sp-sm (M.map fT))) 0
def ot(g:Bool)(sp:Int)(M:List It):Int:=if fp g M<1000 then room g sp M*fp g M / 1000 else room g sp M
def parts(g:Bool)(sp:Int)(M:List It):ck:=share (dD (ot g sp M) mx) (bW (zo (M.map (gj g))))
def ns(g:Bool)(a:bF)(p:Int):Int:=if g=true then a.aC+p else a.aC-p
def cl(a:bF)(n:Int):Int:=min (max n a.Min) a.Max
def mD(g:Bool)(p:It)(x:Int):Int:=if p.2.isSome=true then 0 else cl p.1 (ns g p.1 x)-ns g p.1 x
def change(g:Bool)(sp:Int)(M:List It):Int:=sm (List.zipWith (mD g) M (parts g sp M))
def ly(c n l:Int):Bool:=decide (c=0∨(0<c∧n<l)∨(c<0∧l<n))
def gi(g:Bool)(c:Int)(p:It)(x:Int):It:=if p.2.isSome=true then p else if ly c (ns g p.1 x) (cl p.1 (ns g p.1 x))=true then (p.1,some (cl p.1 (ns g p.1 x))) else p
def round(g:Bool)(sp:Int)(M:List It):List It:=List.zipWith (gi g (change g sp M)) M (parts g sp M)
def opens(M:List It):Nat:=M.countP fun p=>!p.2.isSome
def run(g:Bool)(sp:Int):Nat→List It→List It
 | 0,M=>M
 | k+1,M=>if opens M=0 then M else run g sp k (round g sp M)
def du(x:bF):bF:=⟨dD x.aC 1048576,dD x.Grow 1048576,dD x.Shrink 1048576,dD x.Min 1048576,max (dD x.Max 1048576) (dD x.Min 1048576)⟩
def hyp(x:bF):Int:=cl (du x) (du x).aC
def lu(l:ek)(sp:Int):Bool:=decide (sm (l.map hyp)<sp)
def jo(g:Bool)(a:bF)(s:Int):Bool:=if g=true then decide (a.Grow=0∨a.aC>s) else decide (a.Shrink=0∨a.aC<s)
def start(g:Bool)(l:ek):List It:=l.map fun x=>(du x,if jo g (du x) (hyp x)=true then some (hyp x) else none)
def fU(M:List It):ck:=M.map fun p=>p.2.getD 0
def resolve(l:ek)(sp:Int):ck:=fU (run (lu l sp) sp l.length (start (lu l sp) l))
structure lg(p:It):Prop where
 b:0≤p.1.aC∧p.1.aC≤1048576
 g:0≤p.1.Grow∧p.1.Grow≤1048576
 s:0≤p.1.Shrink∧p.1.Shrink≤1048576
 l:0≤p.1.Min∧p.1.Min≤p.1.Max∧p.1.Max≤1048576
 z:∀n,p.2=some n→p.1.Min≤n∧n≤p.1.Max
def Ok(M:List It):Prop:=∀p∈M,lg p
theorem je(n:Int):0≤dD n 1048576∧dD n 1048576≤1048576:=Sh.je (by omega)
theorem Ij(x:bF)(o:Option Int)(h:o=none∨o=some (hyp x)):lg (du x,o):=by
 have b:=je x.aC;have c:=je x.Grow;have d:=je x.Shrink;have e:=je x.Min;have f:=je x.Max;refine⟨b,c,d,by simp only[du];omega,fun n a=>?_⟩;rcases h with rfl|rfl
 ·cases a
 ·injection a with a;subst a
  simp only[hyp,cl,du];omega
theorem aeN(g:Bool)(l:ek):Ok (start g l):=by
 intro p a;obtain⟨x,_,rfl⟩:=Do.1 a;refine Ij x _ ?_;split<;>simp
theorem CU{p:It}(h:lg p)(n:Int):p.1.Min≤cl p.1 n∧cl p.1 n≤p.1.Max:=by have:=h.l;unfold cl;omega
theorem abp{g:Bool}{c:Int}{p:It}(h:lg p)(x:Int):lg (gi g c p x):=by
 unfold gi;split
 ·exact h
 ·split
  ·refine⟨h.b,h.g,h.s,h.l,fun n a=>?_⟩;injection a with a;subst a;exact CU h _
  ·exact h
theorem Ec(g:Bool)(sp:Int)(M:List It):(parts g sp M).length=M.length:=by unfold parts;rw[Sh.tu,Sh.fE];simp[zo]
theorem mg(g:Bool)(sp:Int)(M:List It):(round g sp M).length=M.length:=by unfold round;rw[alm,Ec];omega
theorem Jc(g:Bool)(sp:Int)(M:List It){k:Nat}(a:k<M.length):(round g sp M)[k]'(by rw[mg];exact a)=gi g (change g sp M) M[k] ((parts g sp M).getD k default):=by
 unfold round;rw[ala,bR (by rw[Ec];exact a)]
theorem YB{g:Bool}{sp:Int}{M:List It}(h:Ok M):Ok (round g sp M):=by
 intro p c;obtain⟨k,b,e⟩:=alh c;have a:k<M.length:=by rw[mg]at b;exact b
 rw[Jc g sp M a]at e;subst e;exact abp (h _ (q6 _)) _
theorem Qm{g:Bool}{sp:Int}:∀(k:Nat) (M:List It),(run g sp k M).length=M.length
 | 0,M=>rfl
 | k+1,M=>by
  unfold run;split
  ·rfl
  ·rw[Qm k,mg]
theorem HV(l:ek)(sp:Int):(resolve l sp).length=l.length:=by simp[resolve,fU,Qm,start]
theorem LJ(g:Bool)(c:Int):∀(M:List It) (P:ck),M.length=P.length→opens (List.zipWith (gi g c) M P)≤opens M ∧
  ((∃k,∃h:k<M.length,∃f:k<P.length,M[k].2.isSome=false∧ly c (ns g M[k].1 P[k]) (cl M[k].1 (ns g M[k].1 P[k]))=true)→opens (List.zipWith (gi g c) M P)<opens M)
 | [],P,_=>⟨by simp[opens],fun⟨k,h,_⟩=>by simp at h⟩
 | p::M,[],h=>by simp at h
 | p::M,x::P,h=>by
  have m:=LJ g c M P (by simpa using h);have d:opens (p::M)=opens M+(if (!p.2.isSome)=true then 1 else 0):=by simp[opens,akF]
  have e:opens (List.zipWith (gi g c) (p::M) (x::P))=opens (List.zipWith (gi g c) M P)+(if (!(gi g c p x).2.isSome)=true then 1 else 0):=by simp[opens,akF]
  have n:(if (!(gi g c p x).2.isSome)=true then 1 else 0)≤(if (!p.2.isSome)=true then 1 else 0):=by
   unfold gi;by_cases j:p.2.isSome=true
   ·rw[ll j];exact lc _
   ·rw[kc j];by_cases i:ly c (ns g p.1 x) (cl p.1 (ns g p.1 x))=true
    ·rw[ll i];simp
    ·rw[kc i];exact lc _
  refine⟨by rw[d,e];omega,fun⟨k,l,f,a,b⟩=>?_⟩;cases k with
  | zero =>
   simp only[List.getElem_cons_zero]at a b;have:(if (!(gi g c p x).2.isSome)=true then 1 else 0)=0:=by
    have:gi g c p x=(p.1,some (cl p.1 (ns g p.1 x))):=by unfold gi;rw[kc (by rw[a];simp),ll b]
    rw[this];rfl
   rw[d,e,this,a];simp;omega
  | succ k =>
   simp only[List.getElem_cons_succ]at a b;have:=m.2 ⟨k,by simpa using l,by simpa using f,a,b⟩;rw[d,e];omega
theorem Qk:∀L:ck,0<sm L→∃k,∃h:k<L.length,0<L[k]
 | [],h=>by simp[sm]at h
 | x::L,h=>by
  simp only[sm]at h;by_cases c:0<x
  ·exact⟨0,by simp,c⟩
  ·obtain⟨k,b,a⟩:=Qk L (by omega);exact⟨k+1,by simpa using b,by simpa using a⟩
theorem Qu:∀L:ck,sm L<0→∃k,∃h:k<L.length,L[k]<0
 | [],h=>by simp[sm]at h
 | x::L,h=>by
  simp only[sm]at h;by_cases c:x<0
  ·exact⟨0,by simp,c⟩
  ·obtain⟨k,b,a⟩:=Qu L (by omega);exact⟨k+1,by simpa using b,by simpa using a⟩
theorem SD{g:Bool}{sp:Int}{M:List It}(h:opens M≠0):opens (round g sp M)<opens M:=by
 have e:=Ec g sp M;refine (LJ g (change g sp M) M (parts g sp M) e.symm).2 ?_;rcases Int.lt_trichotomy (change g sp M) 0 with d|d|d
 ·obtain⟨k,b,a⟩:=Qu _ d;simp only[alm,e,Nat.min_self]at b;rw[ala]at a;unfold mD at a;by_cases c:M[k].2.isSome=true
  ·rw[ll c]at a;omega
  ·rw[kc c]at a;refine⟨k,b,by omega,by simpa using c,?_⟩;unfold ly;rw[q7];omega
 ·have:0<opens M:=by omega
  obtain⟨p,f,a⟩:=List.countP_pos_iff.1 this;obtain⟨k,b,rfl⟩:=alh f;refine⟨k,b,by omega,by simpa using a,?_⟩;unfold ly;rw[q7];omega
 ·obtain⟨k,b,a⟩:=Qk _ d;simp only[alm,e,Nat.min_self]at b;rw[ala]at a;unfold mD at a;by_cases c:M[k].2.isSome=true
  ·rw[ll c]at a;omega
  ·rw[kc c]at a;refine⟨k,b,by omega,by simpa using c,?_⟩;unfold ly;rw[q7];omega
theorem MP(M:List It):opens M≤M.length:=List.countP_le_length
theorem zg{g:Bool}{sp:Int}{M:List It}(h:opens M=0):∀k,run g sp k M=M
 | 0=>rfl
 | k+1=>by unfold run;rw[ll h]
theorem RI{g:Bool}{sp:Int}:∀(k j:Nat) (M:List It),opens M≤k→opens M≤j→run g sp k M=run g sp j M
 | 0,j,M,h,_=>by rw[zg (by omega),zg (by omega)]
 | k+1,0,M,_,h=>by rw[zg (by omega),zg (by omega)]
 | k+1,j+1,M,h,b=>by
  unfold run;split
  ·rfl
  ·rename_i a;have:=SD (g:=g) (sp:=sp) a;exact RI k j _ (by omega) (by omega)
end Rs
namespace Rs
open Sh (share bW dD mx km mf)
open QSort (wn cG dp dm sb)
instance:Inhabited It:=⟨(default,none)⟩
def O(M:List It)(n:Nat):ck:=((List.range n).filter fun k=>!(M.getD k default).2.isSome).map fun (k:Nat)=>k
theorem J3 M:O M 0=[]:=rfl
theorem xf M n:O M (n+1)=O M n++if (M.getD n default).2.isSome=true then [] else [(n:Int)]:=by
 unfold O;rw[ali,alr,IT]
 grind
theorem E7{M}{n}{x}:x∈O M n↔∃k:Nat,k<n∧x=k∧(M.getD k default).2.isSome=false:=by
 grind[O]
theorem B9 M n:(O M n).length≤n:=by
 grind[O]
theorem abE M n:(O M n).Pairwise (· < ·):=by
 unfold O;rw[aly];refine akZ (fun h=>?_) (alV _ akX);omega
theorem RN{M}{k}(a:k<(O M M.length).length):∃j:Nat,(O M M.length).getD k default=j∧j<M.length∧(M.getD j default).2.isSome=false:=by
 have b:(O M M.length).getD k default∈O M M.length:=by grind
 grind[E7]
theorem Kh:∀(a:List (Option Int)) (P:ck) (o:Option Int) (p:Int),a.length=P.length→pick (a++[o]) (P++[p])=pick a P++if o.isSome=true then [p] else []
 | [],[],o,p,_=>by cases o<;>simp[pick]
 | [],_::_,o,p,h=>by grind
 | _::_,[],o,p,h=>by grind
 | none::a,x::P,o,p,h=>by
  have:=Kh a P o p (by grind)
  grind[pick]
 | some w::a,x::P,o,p,h=>by
  have:=Kh a P o p (by grind)
  grind[pick]
theorem ahb g p:(gj g p).isSome=!p.2.isSome:=by grind[gj]
theorem iP{α:Type}[Inhabited α]{L:List α}{n}(h:n<L.length):L.take (n+1)=L.take n++[L.getD n default]:=by
 simp_all
theorem R2(g:Bool)(M:List It)(P:ck)(a:P.length=M.length):∀n,n≤M.length→pick ((M.take n).map (gj g)) (P.take n)=(O M n).map fun j=>P.getD j.toNat default
 | 0,_=>by simp[pick,J3]
 | n+1,h=>by
  rw[iP (show n<M.length by omega),iP (show n<P.length by omega),IT,th,By,Kh _ _ _ _ (by simp;omega),R2 g M P a n (by omega),xf,IT,ahb];congr 1;cases (M.getD n default).2.isSome<;>simp
theorem NB(g:Bool)(M:List It){n}(h:n<M.length):op ((M.take (n+1)).map (gj g))=op ((M.take n).map (gj g))++if (M.getD n default).2.isSome=true then [] else [o5 g (M.getD n default).1]:=by
 grind[iP,op,gj]
theorem G3 g M:∀n,n≤M.length→(op ((M.take n).map (gj g))).length=(O M n).length
 | 0,_=>by rfl
 | n+1,h=>by
  rw[NB g M (by omega),xf,ne,ne,G3 g M n (by omega)]
  grind
theorem LD(f:It→Int)(M:List It){n:Nat}(h:n<M.length):sm ((M.take (n+1)).map f)=sm ((M.take n).map f)+f (M.getD n default):=by
 rw[iP h,IT,lJ];simp[sm]
theorem RM(F:Nat→Int)(M:List It)(h:∀k,(M.getD k default).2.isSome=true→F k=0):∀n,sm ((List.range n).map F)=sm ((O M n).map fun j=>F j.toNat)
 | 0=>by simp[J3]
 | n+1=>by
  rw[ali,IT,lJ,RM F M h n,xf,IT,lJ];congr 1;cases a:(M.getD n default).2.isSome
  ·simp[sm]
  ·simp[sm,h n a]
theorem ahs g sp M:change g sp M=sm ((O M M.length).map fun j=>mD g (M.getD j.toNat default) ((parts g sp M).getD j.toNat default)):=by
 rw[←RM (fun k=>mD g (M.getD k default) ((parts g sp M).getD k default)) M (fun k c=>by grind[mD]) M.length];unfold change;congr 1;refine akM (by simp[Ec]) (fun k a b=>?_)
 grind
theorem afU g(M:List It){n}(h:n<M.length):fp g (M.take (n+1))=fp g (M.take n)+if (M.getD n default).2.isSome=true then 0 else mi g (M.getD n default).1:=LD _ M h
variable{g:Bool}{M:List It}
theorem Ok.at(h:Ok M){k}(a:k<M.length):lg (M.getD k default):=by rw[bR a];exact h _ (q6 _)
theorem abu{p}(h:lg p):0≤fT p∧fT p≤1048576:=by
 unfold fT;have:=h.b;have:=h.l;cases a:p.2 with
 | none=>grind
 | some n=>have:=h.z n a;grind
theorem WA{p}(h:lg p):0≤mi g p.1∧mi g p.1≤1048576:=by unfold mi;have:=h.g;have:=h.s;omega
theorem GQ{p}(h:lg p):0≤o5 g p.1∧o5 g p.1≤1099511628:=by
 unfold o5;have b:=h.b;have c:=h.g;have a:=h.s;have:0≤p.1.aC*p.1.Shrink∧p.1.aC*p.1.Shrink≤1048576*1048576:=⟨ako b.1 a.1,akK b.2 a.2 a.1 (by omega)⟩;omega
theorem Rc{c}(a:0≤c) f(d:∀p∈M,0≤f p∧f p≤c) n(e:M.length≤19):0≤sm ((M.take n).map f)∧sm ((M.take n).map f)≤1000*c:=by
 refine⟨km _ (fun x b=>?_),?_⟩
 ·grind
 ·have:=mf (c:=c) ((M.take n).map f) (fun x b=>by grind);refine Int.le_trans this (ak2 ?_ a)
  grind
theorem B4(h:Ok M)(a:M.length≤19) n:0≤sm ((M.take n).map fT)∧sm ((M.take n).map fT)≤1048576000:=by
 have:=Rc (M:=M) (c:=1048576) (by omega) fT (fun p b=>abu (h p b)) n a;omega
theorem FO(h:Ok M)(a:M.length≤19) n:0≤fp g (M.take n)∧fp g (M.take n)≤1048576000:=by
 have:=Rc (M:=M) (c:=1048576) (by omega) (fun p=>if p.2.isSome=true then 0 else mi g p.1) (fun p b=>by
  have:=WA (g:=g) (h p b);omega) n a
 grind[fp]
theorem mF{α:Type}(L:List α):L.take L.length=L :=by grind
theorem acn(h:Ok M)(a:M.length≤19){sp}(b : -1125899906842624≤sp∧sp≤1125899906842624):0≤room g sp M∧room g sp M≤1125900955418624:=by
 have:=B4 h a M.length
 grind[mF,room]
theorem W6(a f:Int):a / 1000*f+a % 1000*f / 1000=a*f / 1000:=by
 have h:a*f=1000*(a / 1000*f)+a % 1000*f:=by
  grind
 omega
theorem agd{w}(h:Ok M)(c:w∈zo (M.map (gj g))):0≤w∧w≤1099511628:=by
 obtain⟨o,a,rfl⟩:=Do.1 c;obtain⟨p,b,rfl⟩:=Do.1 a;unfold gj;have:=GQ (g:=g) (h p b)
 grind
theorem S4{L}(h:∀w∈L,0≤w∧w≤2147483647):bW L=L:=by
 conv=>rhs;rw[←List.map_id L]
 refine al2 (fun w a=>?_);unfold Sh.dD Sh.mx;grind
theorem WR{w}(h:Ok M)(c:w∈op (M.map (gj g))):0≤w∧w≤1099511628:=by
 obtain⟨o,a,e⟩:=alq.1 c;obtain⟨p,b,rfl⟩:=Do.1 a;unfold gj at e;have:=GQ (g:=g) (h p b)
 grind
theorem ab5(h:Ok M) sp:share (dD (ot g sp M) mx) (bW (op (M.map (gj g))))=(O M M.length).map fun j=>(parts g sp M).getD j.toNat default:=by
 rw[S4 (fun w a=>by have:=WR h a;omega),← aaX];unfold parts;rw[S4 (fun w a=>by have:=agd h a;omega)];have:=R2 g M (share (dD (ot g sp M) mx) (zo (M.map (gj g)))) (by rw[Sh.tu];simp[zo]) M.length (by omega);rw[mF,Dj (by rw[Sh.tu];simp[zo])]at this
 grind
theorem ab2{T}{W}(b:∀w∈W,0≤w)(d:0≤T){k}(c:k<W.length):0≤(share T W).getD k default∧(share T W).getD k default≤T+1:=by
 by_cases a:sm W=0
 ·rw[Sh.Fg a,bR (by grind)]
  grind
 ·rw[Sh.Lc a c];exact Sh.ahQ b d (by have:=km W b;omega) c
theorem RT(h:Ok M) sp{k}(c:k<M.length):0≤(parts g sp M).getD k default∧(parts g sp M).getD k default≤2147483648:=by
 have a:=Sh.je (n:=ot g sp M) (m:=mx) (by decide);have:=ab2 (T:=dD (ot g sp M) mx) (W:=bW (zo (M.map (gj g)))) (fun w b=>(Sh.m5 _ w b).1) a.1 (k:=k) (by rw[Sh.fE];grind[zo]);unfold parts;unfold Sh.mx at *;omega
theorem NJ{p}(h:lg p){x}(a:0≤x∧x≤2147483648): -2147483648≤ns g p.1 x∧ns g p.1 x≤2148532224:=by
 have:=h.b
 grind[ns]
structure Rl g(p:It)(x:bd):Prop where
 it:x.Item=p.1
 f:x.factor=mi g p.1
 w:x.weight=o5 g p.1
 fx:x.fixed=p.2.isSome
 s:∀n,p.2=some n→x.size=n
structure aV g(M:List It)(L:eg):Prop where
 len:L.length=M.length
 at_:∀k,k<M.length→Rl g (M.getD k default) (L.getD k default)
def gE(g:Bool):Int:=if g=true then 1 else -1
variable{K:Kn}{n:Nat}{L:eg}
theorem RF{a b}(h:a≤1001)(d:b≤1000)(c:0<b):fits a b=true:=cY (aaN (Nat.mul_le_mul h d) (by grind)) c
theorem ah2(b:Ok M)(t:aV g M L)(c:M.length≤19){sp:Int}(B : -1125899906842624≤sp∧sp≤1125899906842624):∀(m i:Nat),i≤M.length→M.length<m+i →
  sk K n L (gE g) m (sp-sm ((M.take i).map fT)) (fp g (M.take i)) (i:Int) (O M i) (op ((M.take i).map (gj g)))=if (O M M.length).length=0 then some (false,L) else uO K n L (gE g) (O M M.length) (op (M.map (gj g))) (ot g sp M):=by
 intro m
 induction m with
 | zero=>intro i y A;omega
 | succ m u =>
  intro i y A;simp only[sk,zR,t.len];by_cases f:i<M.length
  ·have h:=t.at_ i f;have F:=b.at f;have v:=B4 b c i;have G:=B4 b c (i+1);have e:=FO (g:=g) b c i;have E:=FO (g:=g) b c (i+1);have r:=LD fT M f;have s:=afU g M f;have k:=NB g M f;have l:=xf M i;have H:=B9 M i;have pl:=G3 g M i (by omega);rw[dp (by omega),cG (by omega),eR,h.fx];simp only[y4];have C:aa ((i:Int)+1)=((i+1:Nat):Int):=wn (by omega) (by omega);rw[C,h.it,h.f,h.w];cases j:(M.getD i default).2 with
   | some z =>
    simp only[j,Option.isSome_some,AT,List.append_nil]at s k l⊢;rw[h.s z j];have p:fT (M.getD i default)=z:=by unfold fT;rw[j];rfl
    rw[p]at r;rw[bK (by omega) (by omega),show sp-sm ((M.take i).map fT)-z=sp-sm ((M.take (i+1)).map fT) by omega,show fp g (M.take i)=fp g (M.take (i+1)) by omega,← k,← l];exact u (i+1) (by omega) (by omega)
   | none =>
    simp only[j,Option.isSome_none,jf,sj]at s k l⊢;have p:fT (M.getD i default)=(M.getD i default).1.aC:=by unfold fT;rw[j];rfl
    rw[p]at r;simp only[sb];rw[RF (by simp only[ls,rv];omega) (by omega) (by omega),RF (by simp only[ls,rv];omega) (by omega) (by omega),ba,ba,bK (by omega) (by omega),bK (by omega) (by omega),
     show sp-sm ((M.take i).map fT)-(M.getD i default).1.aC=sp-sm ((M.take (i+1)).map fT) by omega,show fp g (M.take i)+mi g (M.getD i default).1=fp g (M.take (i+1)) by omega,← k,← l]
    exact u (i+1) (by omega) (by omega)
  ·obtain rfl:i=M.length:=by omega
   rw[dm (by omega),mF];have v:=B4 b c M.length;have e:=FO (g:=g) b c M.length;rw[mF]at v e;have a:=acn (g:=g) b c B;have x:max (aa ((sp-sm (M.map fT))*gE g)) 0=room g sp M:=by
    unfold room gE;cases g
    ·simp only[jf,sj];rw[bK (by omega) (by omega)];omega
    ·simp only[AT];rw[bK (by omega) (by omega)];omega
   rw[x];by_cases q:(O M M.length).length=0
   ·rw[ll q,ll (by simp[q])]
   ·rw[kc q,kc (by rw[ajK];omega)];unfold ot;by_cases o:fp g M<1000
    ·rw[dp o,ll o];have d:=W6 (room g sp M) (fp g M);have D:0≤room g sp M / 1000*fp g M∧room g sp M / 1000*fp g M≤1125900955419*1000:=⟨ako (by omega) e.1,akK (by omega) (by omega) e.1 (by omega)⟩;have w:0≤room g sp M % 1000*fp g M∧room g sp M % 1000*fp g M≤1000*1000:=⟨ako (by omega) e.1,akK (by omega) (by omega) e.1 (by omega)⟩;rw[aks a.1,alo a.1];rw[bK (n:=room g sp M / 1000) (by omega) (by omega),bK (n:=room g sp M / 1000*fp g M) (by omega) (by omega),bK (n:=room g sp M % 1000*fp g M) (by omega) (by omega),aks w.1,
      bK (n:=room g sp M % 1000*fp g M / 1000) (by omega) (by omega),bK (by omega) (by omega),d]
    ·rw[dm o,kc o]
def c8(g:Bool)(sp:Int)(M:List It):ck:=(O M M.length).map fun j=>ns g (M.getD j.toNat default).1 ((parts g sp M).getD j.toNat default)
def iV(g:Bool)(sp:Int)(M:List It):ck:=(O M M.length).map fun j=>(parts g sp M).getD j.toNat default
def iR(g:Bool)(sp:Int)(M:List It):ck:=(O M M.length).map fun j=>mD g (M.getD j.toNat default) ((parts g sp M).getD j.toNat default)
theorem DY{α:Type}[Inhabited α](f:Int→α)(l:ck){k}(a:k<l.length):(l.map f).getD k default=f (l.getD k default):=by
 grind
theorem ZH(b:Ok M)(s:aV g M L)(V:M.length≤19){sp:Int}:∀(m i:Nat),i≤(O M M.length).length→(O M M.length).length<m+i →
  rS K n L (gE g) (O M M.length) m (sm ((iR g sp M).take i)) (i:Int) ((c8 g sp M).take i++(iV g sp M).drop i)=rf K n (O M M.length) (change g sp M) (c8 g sp M) n 0 L:=by
 have X:=B9 M M.length;intro m
 induction m with
 | zero=>intro i F G;omega
 | succ m R =>
  intro i F G;simp only[rS,A3,s.len];have u:(c8 g sp M).length=(O M M.length).length:=by simp[c8]
  have v:(iV g sp M).length=(O M M.length).length:=by simp[iV]
  have W:(iR g sp M).length=(O M M.length).length:=by simp[iR]
  by_cases c:i<(O M M.length).length
  ·obtain⟨j,e,h,N⟩:=RN c;have P:=s.at_ j h;have a:=b.at h;have l:=RT (g:=g) b sp h;have d:=NJ (g:=g) a l;have H:=CU a (ns g (M.getD j default).1 ((parts g sp M).getD j default));have I:=a.l;have p:((c8 g sp M).take i++(iV g sp M).drop i).length=(O M M.length).length:=by simp[u,v];omega
   have T:(iV g sp M).getD i default=(parts g sp M).getD j default:=by unfold iV;rw[DY _ _ c,e,Int.toNat_natCast]
   have v2:(c8 g sp M).getD i default=ns g (M.getD j default).1 ((parts g sp M).getD j default):=by unfold c8;rw[DY _ _ c,e,Int.toNat_natCast]
   have U:(iR g sp M).getD i default=cl (M.getD j default).1 ((c8 g sp M).getD i default)-(c8 g sp M).getD i default:=by
    rw[v2];unfold iR;rw[DY _ _ c,e,Int.toNat_natCast];unfold mD;rw[N];simp
   have r:(iV g sp M).drop i=(parts g sp M).getD j default::(iV g sp M).drop (i+1):=by rw[l3 (by omega),← bR (by omega),T]
   have D:((c8 g sp M).take i++(iV g sp M).drop i).getD i default=(parts g sp M).getD j default:=by
    rw[r];exact QSort.gd (by simp;omega)
   rw[dp (by omega),cG (by omega),eR,e,p,cG (by omega),cG (by omega),eR,D,P.it];simp only[sb];have f:aa ((M.getD j default).1.aC+aa (gE g*(parts g sp M).getD j default))=(c8 g sp M).getD i default:=by
    rw[v2];have:=a.b;unfold ns at d⊢;unfold gE;cases g
    ·simp only[jf,sj]at d⊢;rw[bK (n := -1*(parts false sp M).getD j default) (by omega) (by omega),bK (by omega) (by omega)];omega
    ·simp only[AT]at d⊢;rw[bK (n:=1*(parts true sp M).getD j default) (by omega) (by omega),bK (by omega) (by omega)];omega
   rw[f];have A:List.set ((c8 g sp M).take i++(iV g sp M).drop i) i ((c8 g sp M).getD i default)=(c8 g sp M).take (i+1)++(iV g sp M).drop (i+1):=by
    rw[r,iP (by omega)];have:i=((c8 g sp M).take i).length:=by simp;omega
    conv=>lhs;arg 2;rw[this]
    simp
   rw[A];have wk:((c8 g sp M).take (i+1)++(iV g sp M).drop (i+1)).length=(O M M.length).length:=by simp[u,v];omega
   have E:((c8 g sp M).take (i+1)++(iV g sp M).drop (i+1)).getD i default=(c8 g sp M).getD i default:=by
    rw[iP (by omega),rl];exact QSort.gd (by simp;omega)
   rw[cG (by omega),wk,cG (by omega),E];simp only[qx,sb];have w:min (max ((c8 g sp M).getD i default) (M.getD j default).1.Min) (M.getD j default).1.Max=cl (M.getD j default).1 ((c8 g sp M).getD i default):=rfl;rw[w];have C:aa (cl (M.getD j default).1 ((c8 g sp M).getD i default)-(c8 g sp M).getD i default)=(iR g sp M).getD i default:=by rw[U];rw[v2];exact bK (by omega) (by omega)
   have q:∀i:Nat,-(1000*4294967296)≤sm ((iR g sp M).take i)∧sm ((iR g sp M).take i)≤1000*4294967296:=by
    intro i;have:=TD (B:=4294967296) (by omega) ((iR g sp M).take i) (fun x o=>by
     have o:=oR o;obtain⟨y,Q,rfl⟩:=Do.1 o;obtain⟨k,t,rfl,S⟩:=E7.1 Q;rw[Int.toNat_natCast];have a:=b.at t;have l:=RT (g:=g) b sp t;have d:=NJ (g:=g) a l;have H:=CU a (ns g (M.getD k default).1 ((parts g sp M).getD k default));have:=a.l;unfold mD;rw[S];simp only[jf,sj];omega)
    have J:((iR g sp M).take i).length≤1000:=by simp;omega
    omega
   have Y:=q (i+1);have z:sm ((iR g sp M).take (i+1))=sm ((iR g sp M).take i)+(iR g sp M).getD i default:=by rw[iP (by omega),lJ];simp[sm]
   rw[C,bK (n:=sm ((iR g sp M).take i)+(iR g sp M).getD i default) (by omega) (by omega),← z,wn (n:=(i:Int)+1) (k:=i+1) (by omega) (by omega),cG (by omega),cG (by omega)];exact R (i+1) (by omega) (by omega)
  ·rw[dm (by omega)];rw[Dj (by omega),Dj (by omega),mo (by omega),List.append_nil];rw[ahs];rfl
theorem VF(S:Ok M)(X:M.length≤19){sp:Int}:∀(m i:Nat) (L:eg),i≤(O M M.length).length→(O M M.length).length<m+i→L.length=M.length →
  (∀k,k<M.length→Rl g (if (k:Int)∈(O M M.length).take i then (round g sp M).getD k default else M.getD k default) (L.getD k default)) →
  ∃G,aV g (round g sp M) G∧rf K n (O M M.length) (change g sp M) (c8 g sp M) m (i:Int) L=some (true,G):=by
 have Z:=B9 M M.length;have W:(c8 g sp M).length=(O M M.length).length:=by simp[c8]
 intro m
 induction m with
 | zero=>intro i L Q R;omega
 | succ m I =>
  intro i L Q R u E;simp only[rf,yO];by_cases A:i<(O M M.length).length
  ·obtain⟨j,e,t,H⟩:=RN A;have f:=S.at t;have v2:(c8 g sp M).getD i default=ns g (M.getD j default).1 ((parts g sp M).getD j default):=by unfold c8;rw[DY _ _ A,e,Int.toNat_natCast]
   have B:(j:Int) ∉ (O M M.length).take i:=by
    intro p;obtain⟨k,V,Y,J⟩:=QSort.NT p;have:=QSort.BP (abE M M.length) V A;unfold QSort.at_ at this J;rw[J,e]at this;omega
   have s:=E j t;rw[kc B]at s;have F:aa ((i:Int)+1)=((i+1:Nat):Int):=wn (by omega) (by omega);rw[dp (by omega),cG (by omega),eR,e,u,cG (by omega),eR,W];simp only[cG (show(0:Int)≤(i:Int)∧(i:Int)<((O M M.length).length:Nat) by omega),qx,sb,s.it,mI,yr,u,F,Int.toNat_natCast,e];have P:min (max ((c8 g sp M).getD i default) (M.getD j default).1.Min) (M.getD j default).1.Max=cl (M.getD j default).1 ((c8 g sp M).getD i default):=rfl;rw[P];have C:(round g sp M).getD j default=gi g (change g sp M) (M.getD j default) ((parts g sp M).getD j default):=by
    rw[bR (by rw[mg];exact t),Jc g sp M t,bR t]
   have l:∀k,k<M.length→k≠j→((k:Int)∈(O M M.length).take (i+1)↔(k:Int)∈(O M M.length).take i):=by
    intro k f d;rw[iP A,e,nw,aix];constructor
    ·rintro (h|h)
     ·exact h
     ·omega
    ·exact .inl
   have D:(j:Int)∈(O M M.length).take (i+1):=by rw[iP A,e];simp
   have N:decide (j<M.length)=true:=by simpa using t
   by_cases x:ly (change g sp M) (ns g (M.getD j default).1 ((parts g sp M).getD j default)) (cl (M.getD j default).1 (ns g (M.getD j default).1 ((parts g sp M).getD j default)))=true
   ·-- it gets its size
    have r:(round g sp M).getD j default=((M.getD j default).1,some (cl (M.getD j default).1 ((c8 g sp M).getD i default))):=by rw[C,v2];unfold gi;rw[H,kc (by simp),ll x]
    have c:=I (i+1) (List.set (List.set L j ({ (List.getD L j default)with size:=cl (M.getD j default).1 ((c8 g sp M).getD i default) }:bd)) j ({ (List.getD (List.set L j ({ (List.getD L j default)with size:=cl (M.getD j default).1 ((c8 g sp M).getD i default) }:bd)) j default)with fixed:=true }:bd)) (by omega) (by omega) (by simpa using u) (fun k f=>by
     by_cases d:k=j
     ·subst d;rw[ll D,r];have:List.getD (List.set L k ({ (List.getD L k default)with size:=cl (M.getD k default).1 ((c8 g sp M).getD i default) }:bd)) k default=({ (List.getD L k default)with size:=cl (M.getD k default).1 ((c8 g sp M).getD i default) }:bd):=by
       rw[bR (by simp;omega)];simp
      rw[this];have:∀z:bd,List.getD (List.set (List.set L k ({ (List.getD L k default)with size:=cl (M.getD k default).1 ((c8 g sp M).getD i default) }:bd)) k z) k default=z:=by
       intro z;rw[bR (by simp;omega)];simp
      rw[this];exact⟨s.it,s.f,s.w,rfl,fun n T=>Option.some.inj T⟩
     ·have p:=E k f;have:∀a b:bd,List.getD (List.set (List.set L j a) j b) k default=L.getD k default:=by
       intro a b;rw[bR (by simp;omega),bR (by omega)];simp[List.getElem_set,show ¬ j=k by omega]
      rw[this];by_cases o:(k:Int)∈(O M M.length).take i
      ·rw[ll ((l k f d).2 o)];rwa[ll o]at p
      ·rw[kc (fun h=>o ((l k f d).1 h))];rwa[kc o]at p)
    simp only[s.it]at c;unfold ly at x;rw[q7,← v2]at x;simp only[AT,N,ba];by_cases v:change g sp M=0
    ·rw[ll (by simp[v])];exact c
    ·rw[kc (by simp[v])];by_cases q:change g sp M>0
     ·rw[dp q,dp (show cl (M.getD j default).1 ((c8 g sp M).getD i default)>(c8 g sp M).getD i default by omega)];exact c
     ·rw[dm q,dp (show change g sp M<0 by omega),dp (show cl (M.getD j default).1 ((c8 g sp M).getD i default)<(c8 g sp M).getD i default by omega)];exact c
   ·have r:(round g sp M).getD j default=M.getD j default:=by rw[C];unfold gi;rw[H,kc (by simp),kc x]
    have c:=I (i+1) L (by omega) (by omega) u (fun k f=>by
     by_cases d:k=j
     ·subst d;rw[ll D,r];exact s
     ·have p:=E k f;by_cases o:(k:Int)∈(O M M.length).take i
      ·rw[ll ((l k f d).2 o)];rwa[ll o]at p
      ·rw[kc (fun h=>o ((l k f d).1 h))];rwa[kc o]at p)
    have y:ly (change g sp M) (ns g (M.getD j default).1 ((parts g sp M).getD j default)) (cl (M.getD j default).1 (ns g (M.getD j default).1 ((parts g sp M).getD j default)))=false:=by simpa using x
    unfold ly at y;rw[decide_eq_false_iff_not,← v2]at y;simp only[AT,jf,sj];rw[kc (by simp;omega)];by_cases q:change g sp M>0
    ·rw[dp q,dm (show ¬ cl (M.getD j default).1 ((c8 g sp M).getD i default)>(c8 g sp M).getD i default by omega),dm (show ¬ change g sp M<0 by omega)];exact c
    ·rw[dm q];by_cases w:change g sp M<0
     ·rw[dp w,dm (show ¬ cl (M.getD j default).1 ((c8 g sp M).getD i default)<(c8 g sp M).getD i default by omega)];exact c
     ·rw[dm w];exact c
  ·rw[dm (by omega)];refine⟨L,⟨by rw[u,mg],fun k f=>?_⟩,rfl⟩;rw[mg]at f;have p:=E k f;rw[Dj (by omega)]at p;by_cases o:(k:Int)∈O M M.length
   ·rwa[ll o]at p
   ·rw[kc o]at p;have U:(M.getD k default).2.isSome=true:=by
     rcases Bool.eq_false_or_eq_true (M.getD k default).2.isSome with h|h
     ·exact h
     ·exact absurd (E7.2 ⟨k,f,rfl,h⟩) o
    have:(round g sp M).getD k default=M.getD k default:=by
     rw[bR (by rw[mg];exact f),Jc g sp M f,← bR f];unfold gi;rw[ll U]
    rw[this];exact p
theorem Xk M:opens M=(O M M.length).length:=by
 have:∀n,n≤M.length→(M.take n).countP (fun p=>!p.2.isSome)=(O M n).length:=by
  intro n
  induction n with
  | zero=>intro _;rfl
  | succ n a =>
   grind[iP,xf]
 have h:=this M.length (by omega);rw[mF]at h;exact h
theorem VZ{lvl:Nat}(c:Ok M)(b:aV g M L)(f:M.length≤19){sp:Int}(o : -1125899906842624≤sp∧sp≤1125899906842624)(m:10001<n)(i:20010≤lvl):
  if opens M=0 then uw (KN lvl) n L sp (gE g)=some (false,L) else ∃a,aV g (round g sp M) a∧uw (KN lvl) n L sp (gE g)=some (true,a):=by
 have h:=ah2 (K:=KN lvl) (n:=n) c b f o n 0 (by omega) (by omega);have j:sp-sm ((M.take 0).map fT)=sp:=by simp[sm]
 have r:=B9 M M.length;unfold uw;rw[j,show fp g (M.take 0)=0 from rfl,show((0:Nat):Int)=0 from rfl,J3,show op ((M.take 0).map (gj g))=[] from rfl]at h;rw[h,← Xk];by_cases d:opens M=0
 ·rw[ll d,ll d]
 ·rw[kc d,kc d];unfold uO;have pl:=G3 g M M.length (lc _);rw[mF]at pl;rw[Sh.mP _ _ (by omega) m i,ab5 c,sb];have e:=ZH (K:=KN lvl) (n:=n) c b f (sp:=sp) n 0 (by omega) (by omega);rw[akn,akn,List.drop_zero,Io,show sm []=0 from rfl,show((0:Nat):Int)=0 from rfl]at e;unfold iV at e;rw[e];obtain⟨a,p,q⟩:=VF (K:=KN lvl) (n:=n) (g:=g) c f (sp:=sp) n 0 L (by omega) (by omega) b.len (fun k l=>by rw[kc (by simp)];exact b.at_ k l);exact⟨a,p,q⟩
end Rs
namespace Rs
open Sh (share bW dD mx km mf)
open QSort (wn cG dp dm sb)
variable{K:Kn}{n:Nat}
theorem XC(x:bF):zm K n x=some (du x):=rfl
theorem JI(x:bF):vO K n x=some (hyp x):=rfl
theorem HX(x:bF):0≤hyp x∧hyp x≤1048576:=by
 have h:=Ij x none (.inl rfl);have a:=CU h (du x).aC;have b:=h.l
 dsimp only at a b
 unfold hyp;omega
def dG(x:bF):bd:=⟨du x,0,0,hyp x,false⟩
theorem PF(l:ek)(d:l.length≤19)(n:Nat):0≤sm ((l.take n).map hyp)∧sm ((l.take n).map hyp)≤1048576000:=by
 refine⟨km _ (fun x a=>?_),?_⟩
 ·obtain⟨y,_,rfl⟩:=Do.1 a;exact(HX y).1
 ·have:=mf (c:=1048576) ((l.take n).map hyp) (fun x a=>by obtain⟨y,_,rfl⟩:=Do.1 a;exact(HX y).2);have b:(((l.take n).map hyp).length:Int)≤1000:=by simp;omega
  have:=ak2 b (show(0:Int)≤1048576 by omega);omega
theorem aeB(l:ek)(sp:Int)(b:l.length≤19):∀(m i:Nat),i≤l.length→l.length<m+i →
  vE K n l sp m (sm ((l.take i).map hyp)) (i:Int) ((l.take i).map dG++List.replicate (l.length-i) iU)=uC K n sp (l.map dG) (gE (lu l sp)):=by
 intro m
 induction m with
 | zero=>intro i g j;omega
 | succ m o =>
  intro i g j;simp only[vE,xH];by_cases a:i<l.length
  ·obtain⟨k,e⟩:∃k,l.length-i=k+1:=⟨l.length-i-1,by omega⟩;have p:((l.take i).map dG++List.replicate (l.length-i) iU).length=l.length:=by simp;omega
   have f:List.set ((l.take i).map dG++List.replicate (l.length-i) iU) i (dG (l.getD i default))=(l.take (i+1)).map dG++List.replicate (l.length-(i+1)) iU:=by
    rw[e,alk,show l.length-(i+1)=k by omega,iP a,IT];have:i=((l.take i).map dG).length:=by simp;omega
    conv=>lhs;arg 2;rw[this]
    simp
   have q:((l.take (i+1)).map dG++List.replicate (l.length-(i+1)) iU).length=l.length:=by simp;omega
   have d:((l.take (i+1)).map dG++List.replicate (l.length-(i+1)) iU).getD i default=dG (l.getD i default):=by
    rw[iP a,IT,rl,List.getD_eq_getElem?_getD,Dy (by simp;omega)];have:i-((l.take i).map dG).length=0:=by simp;omega
    rw[this];rfl
   have r:=PF l b i;have s:=PF l b (i+1);have c:sm ((l.take (i+1)).map hyp)=sm ((l.take i).map hyp)+hyp (l.getD i default):=by rw[iP a,IT,lJ];simp[sm]
   rw[dp (by omega),cG (by omega),eR,XC,JI];simp only[sb];rw[p,cG (by omega)];rw[show({ (iU:bd)with Item:=du (l.getD i default),size:=hyp (l.getD i default) }:bd)=dG (l.getD i default) from rfl,f,q,cG (by omega),d];rw[show(dG (l.getD i default)).size=hyp (l.getD i default) from rfl,bK (by omega) (by omega),← c,wn (n:=(i:Int)+1) (k:=i+1) (by omega) (by omega)];exact o (i+1) (by omega) (by omega)
  ·obtain rfl:i=l.length:=by omega
   rw[dm (by omega),mF,amb,alj,List.append_nil];by_cases h:sm (l.map hyp)<sp
   ·rw[dp h];unfold lu gE;rw[ll (by simpa using h)]
   ·rw[dm h];unfold lu gE;rw[kc (by simpa using h)]
def ip(g:Bool)(x:bF):bd:=⟨du x,mi g (du x),o5 g (du x),hyp x,jo g (du x) (hyp x)⟩
theorem aiv{α:Type}(L:List α)(i:Nat)(a b:α):List.set (List.set L i a) i b=List.set L i b:=by simp
theorem ahA{L:eg}{i:Nat}{a:bd}(h:i<L.length):(List.set L i a).getD i default=a:=by rw[bR (by simpa using h)];simp
theorem adv(g:Bool)(l:ek)(sp:Int)(x:l.length≤19):∀(m i:Nat),i≤l.length→l.length<m+i →
  uj K n sp (l.map dG) (gE g) m (i:Int) ((l.take i).map (ip g)++(l.drop i).map dG)=ro K n sp (gE g) n (l.map (ip g)):=by
 intro m
 induction m with
 | zero=>intro i s t;omega
 | succ m v =>
  intro i s t;simp only[uj,AW,nx];by_cases c:i<l.length
  ·have j:(l.drop i).map dG=dG (l.getD i default)::(l.drop (i+1)).map dG:=by rw[l3 c,bR c];rfl
   have w:((l.take i).map (ip g)++(l.drop i).map dG).length=l.length:=by simp;omega
   have p:((l.take i).map (ip g)++(l.drop i).map dG).getD i default=dG (l.getD i default):=by
    rw[j,List.getD_eq_getElem?_getD,Dy (by simp;omega)];have:i-((l.take i).map (ip g)).length=0:=by simp;omega
    rw[this];rfl
   have q:List.set ((l.take i).map (ip g)++(l.drop i).map dG) i (ip g (l.getD i default))=(l.take (i+1)).map (ip g)++(l.drop (i+1)).map dG:=by
    rw[j,iP c,IT];have:i=((l.take i).map (ip g)).length:=by simp;omega
    conv=>lhs;arg 2;rw[this]
    simp
   have e:=Ij (l.getD i default) none (.inl rfl);have y:=GQ (g:=false) e;have k:=e.b;have f:=e.s;have u:0≤(du (l.getD i default)).aC*(du (l.getD i default)).Shrink∧(du (l.getD i default)).aC*(du (l.getD i default)).Shrink≤1048576*1048576:=⟨ako k.1 f.1,akK k.2 f.2 f.1 (by omega)⟩;rw[dp (by omega),cG (by omega)];simp only[eR,sb,yT,zY,aiv,akq,w,ahA (show i<((l.take i).map (ip g)++(l.drop i).map dG).length by omega),p];have d:aa ((i:Int)+1)=((i+1:Nat):Int):=wn (by omega) (by omega);have r:aa (Int.tdiv (aa ((dG (l.getD i default)).Item.aC*(dG (l.getD i default)).Item.Shrink)) 1000)=o5 false (du (l.getD i default)):=by
    show aa (Int.tdiv (aa ((du (l.getD i default)).aC*(du (l.getD i default)).Shrink)) 1000)=_;rw[bK (n:=(du (l.getD i default)).aC*(du (l.getD i default)).Shrink) (by omega) (by omega),aks u.1,bK (by omega) (by omega)];rfl
   have o:decide (i<l.length)=true:=by simpa using c
   simp only[d,r,o,ba];have:=v (i+1) (by omega) (by omega);rw[←q]at this;rw[←this];cases g
   ·rw[dm (show ¬ gE false>0 by decide)];by_cases a:(du (l.getD i default)).aC<hyp (l.getD i default)
    ·have:(decide ((dG (l.getD i default)).Item.aC<(dG (l.getD i default)).size))=true:=decide_eq_true a;have b:jo false (du (l.getD i default)) (hyp (l.getD i default))=true:=by unfold jo;rw[kc (by simp),q7];exact .inr a
     simp only[this,AT];unfold ip;rw[b];rfl
    ·have:(decide ((dG (l.getD i default)).Item.aC<(dG (l.getD i default)).size))=false:=decide_eq_false a;have b:jo false (du (l.getD i default)) (hyp (l.getD i default))=((du (l.getD i default)).Shrink == 0):=by unfold jo;rw[kc (by simp),Bool.eq_iff_iff,q7,ajK];exact⟨fun h=>h.resolve_right a,.inl⟩
     simp only[this,jf,sj];unfold ip;rw[b];rfl
   ·rw[dp (show gE true>0 by decide)];by_cases a:(du (l.getD i default)).aC>hyp (l.getD i default)
    ·have:(decide ((dG (l.getD i default)).Item.aC>(dG (l.getD i default)).size))=true:=decide_eq_true a;have b:jo true (du (l.getD i default)) (hyp (l.getD i default))=true:=by unfold jo;rw[ll rfl,q7];exact .inr a
     simp only[this,AT];unfold ip;rw[b];rfl
    ·have:(decide ((dG (l.getD i default)).Item.aC>(dG (l.getD i default)).size))=false:=decide_eq_false a;have b:jo true (du (l.getD i default)) (hyp (l.getD i default))=((du (l.getD i default)).Grow == 0):=by unfold jo;rw[ll rfl,Bool.eq_iff_iff,q7,ajK];exact⟨fun h=>h.resolve_right a,.inl⟩
     simp only[this,jf,sj];unfold ip;rw[b];rfl
  ·obtain rfl:i=l.length:=by omega
   rw[dm (by omega),mF,mo (lc _),By,List.append_nil]
theorem abn(g:Bool)(l:ek):aV g (start g l) (l.map (ip g)):=by
 refine⟨by simp[start],fun k c=>?_⟩;have b:k<l.length:=by simpa[start]using c
 rw[bR c,bR (by simpa using b)];have e:(start g l)[k]=(du l[k],if jo g (du l[k]) (hyp l[k])=true then some (hyp l[k]) else none):=by simp[start]
 rw[e,akt];refine⟨rfl,rfl,rfl,?_,fun n a=>?_⟩
 ·show jo g (du l[k]) (hyp l[k])=_;cases h:jo g (du l[k]) (hyp l[k])<;>simp
 ·cases h:jo g (du l[k]) (hyp l[k])
  ·rw[h]at a;simp at a
  ·rw[h]at a;simpa[ip]using a
theorem aeH(L:eg)(g:L.length≤19):∀(m i:Nat),i≤L.length→L.length<m+i →
  sn K n (false,L) m (i:Int) ((L.take i).map (fun (x:bd)=>x.size)++List.replicate (L.length-i) 0)=some (L.map fun (x:bd)=>x.size):=by
 intro m
 induction m with
 | zero=>intro i b c;omega
 | succ m e =>
  intro i b c;simp only[sn,Aj];by_cases d:i<L.length
  ·obtain⟨k,a⟩:∃k,L.length-i=k+1:=⟨L.length-i-1,by omega⟩;have f:((L.take i).map (fun (x:bd)=>x.size)++List.replicate (L.length-i) 0).length=L.length:=by simp;omega
   rw[dp (by omega),cG (by omega),eR,f,cG (by omega),a,Sh.CN (by simp;omega)];have:(L.take i).map (fun (x:bd)=>x.size)++[(L.getD i default).size]=(L.take (i+1)).map (fun (x:bd)=>x.size):=by rw[iP d,IT];rfl
   rw[this,wn (n:=(i:Int)+1) (k:=i+1) (by omega) (by omega),show k=L.length-(i+1) by omega];exact e (i+1) (by omega) (by omega)
  ·obtain rfl:i=L.length:=by omega
   rw[dm (by omega),mF,amb,alj,List.append_nil]
theorem ac7{lvl:Nat}(g:Bool){sp:Int}(v : -1125899906842624≤sp∧sp≤1125899906842624)(s:10001<n)(f:20010≤lvl):∀(m:Nat) (M:List It) (L:eg),opens M<m→Ok M→aV g M L→M.length≤19 →
  ro (KN lvl) n sp (gE g) m L=some (fU (run g sp M.length M)):=by
 intro m
 induction m with
 | zero=>intro M L h;omega
 | succ m w =>
  intro M L h j a p;simp only[ro,xF];have c:=VZ (lvl:=lvl) (n:=n) j a p v s f;by_cases b:opens M=0
  ·rw[ll b]at c;rw[c];simp only[sb,jf,sj];rw[Sh.FS (by rw[a.len];omega) (by rw[a.len];omega),ba,eR];have:=aeH (K:=KN lvl) (n:=n) L (by rw[a.len];omega) n 0 (by omega) (by rw[a.len];omega);rw[akn,By,Io,akm,show((0:Nat):Int)=0 from rfl]at this;rw[this,zg b];congr 1;refine akM (by simp[fU,a.len]) (fun k d e=>?_);have o:k<M.length:=by simpa[fU]using e
   simp only[fU,akt];have l:=a.at_ k o;rw[bR o,bR (by simpa using d)]at l;have t:M[k].2.isSome=true:=by
    have:=al0.1 b M[k] (q6 _);cases h:M[k].2 with
    | none=>rw[h]at this;simp at this
    | some z=>rfl
   obtain⟨z,i⟩:=yk.1 t;rw[l.s z i,i];rfl
  ·rw[kc b]at c;obtain⟨q,d,e⟩:=c;rw[e];simp only[sb,AT];have u:=SD (g:=g) (sp:=sp) b;rw[w (round g sp M) q (by omega) (YB j) d (by rw[mg];exact p)];congr 2;have r:run g sp (M.length+1) M=run g sp M.length (round g sp M):=by rw[run,kc b]
   rw[mg,← r];have:=MP M;exact RI _ _ _ (by omega) (by omega)
theorem mP{lvl:Nat}(l:ek){sp:Int}(b:l.length≤19)(d : -1125899906842624≤sp∧sp≤1125899906842624)(c:10001<n)(a:20010≤lvl):jx (KN lvl) n l sp=some (resolve l sp):=by
 unfold jx;rw[show min (max sp (-1125899906842624)) 1125899906842624=sp by omega];simp only[sb];rw[Sh.FS (by omega) (by omega),ba,eR];have:=aeB (K:=KN lvl) (n:=n) l sp b n 0 (by omega) (by omega);rw[akn,By,By,Io,akm,show((0:Nat):Int)=0 from rfl,show sm []=0 from rfl]at this;rw[this];unfold uC;have:=adv (K:=KN lvl) (n:=n) (lu l sp) l sp b n 0 (by omega) (by omega);rw[akn,By,Io,List.drop_zero,show((0:Nat):Int)=0 from rfl]at this;rw[this];have e:(start (lu l sp) l).length=l.length:=by simp[start]
 have:=MP (start (lu l sp) l);rw[ac7 (lu l sp) d c a n (start (lu l sp) l) _ (by omega) (aeN _ _) (abn _ _) (by omega),e];rfl
end Rs
def mix{α:Type}(i:Nat)(N O:List α):List α:=N.take i++O.drop i
variable{α:Type}[Inhabited α]{i:Nat}{N O:List α}
theorem C6(h:N.length=O.length):(mix i N O).length=O.length:=by unfold mix;simp;omega
theorem EA(h:N.length=O.length):mix O.length N O=N:=by unfold mix;rw[Dj (by omega),mo (lc _),List.append_nil]
theorem af4(h:N.length=O.length){k:Nat}(a:k<i)(b:i≤O.length):(mix i N O).getD k default=N.getD k default:=by
 unfold mix;rw[List.getD_eq_getElem?_getD,Db (by simp;omega),List.getElem?_take_of_lt a,List.getD_eq_getElem?_getD]
theorem ah8(h:N.length=O.length)(a:i<O.length):mix (i+1) N O=N.take i++N.getD i default::O.drop (i+1):=by
 unfold mix;rw[adV (by omega:i<N.length),bR (by omega:i<N.length),rl];rfl
theorem Fb(h:N.length=O.length)(a:i<O.length):List.set (mix i N O) i (N.getD i default)=mix (i+1) N O:=by
 rw[ah8 h a];unfold mix;rw[l3 a];have:i=(N.take i).length+0:=by simp;omega
 conv=>lhs;arg 2;rw[this]
 rw[List.set_append_right _ _ (by omega),alC,List.set_cons_zero]
theorem ai1(h:N.length=O.length)(a:i<O.length):(mix (i+1) N O).getD i default=N.getD i default:=af4 h (by omega) (by omega)
end Go.Proofs.YtocgkfoifehcbaaGreat
namespace Go.Proofs.YtocgkfoifehcbaaGreat
set_option linter.all false
open Go.RowKit
theorem Xv(K:Kn)(n:Nat)(L:dn)(D:(L.length:Int)≤9223372036854775807):∀(m:Nat) (i h:Int) (b:bg) (t:Bool) (u:bg) (l:dn),0≤i→i≤L.length→(L.length:Int)<m+i→((l.length:Int)+L.length)*584≤140737488355328+i*584 →
  ∃r,jr K n L m h t i b u l=some r∧(r.1.length:Int)=l.length+L.length-i∧(∀f∈r.1,f∈l∨∃g∈L,f.Kids=g.Kids):=by
 intro m
 induction m with
 | zero=>intro i _ _ _ _ _ s v w _;omega
 | succ m B =>
  intro i h b t u l s v w C;simp only[jr,pF];by_cases k:i<(L.length:Int)
  ·have o:=dj s k;have A:aa (i+1)=i+1:=bK (by omega) (by omega);have c:fits (l.length+1) 584=true:=cY (by omega) (by omega);have key:∀(j:Int) (q:Bool) (e a:bg) (y:Int),∃r,jr K n L m j q (i+1) e a (l++[{ L.getD i.toNat default with Y:=y }])=some r∧(r.1.length:Int)=l.length+L.length-i∧(∀f∈r.1,f∈l∨∃g∈L,f.Kids=g.Kids):=by
    intro j q e a y;obtain⟨r,z,d,x⟩:=B (i+1) j e q a (l++[{ L.getD i.toNat default with Y:=y }]) (by omega) (by omega) (by omega) (by simp only[ne,ls,rv];omega);refine⟨r,z,by rw[d];simp only[ne,ls,rv];omega,fun f c=>?_⟩;rcases x f c with hm|hm
    ·rcases nw.1 hm with hm|hm
     ·exact .inl hm
     ·right;have p:i.toNat<L.length:=by omega
      refine⟨L[i.toNat],q6 _,?_⟩;simp only[ol,aj7,alc]at hm;rw[hm,bR p]
    ·exact .inr hm
   simp only[k,al3,AT,o,ba,kC,gy,iN,vC,rZ,s5,ls,rv,If,c,A]
   repeat (first|exact key _ _ _ _ _|split)
  ·have:decide (i<(L.length:Int))=false:=by simpa using k
   simp only[this,jf,sj,qw];split<;>exact⟨_,rfl,by show(l.length:Int)=_;omega,fun f c=>.inl c⟩
theorem Po(K:Kn)(n:Nat)(L:dn)(i:L.length<n)(e:L.length*584≤140737488355328):∃r,lr K n L=some r∧r.1.length=L.length∧∀f∈r.1,∃g∈L,f.Kids=g.Kids:=by
 obtain⟨r,b,a,c⟩:=Xv K n L (by omega) n 0 0 dF true dF [] (by omega) (by omega) (by omega) (by simp;omega);exact⟨r,b,by simp only[rv]at a;omega,fun f d=>(c f d).elim (fun h=>by cases h) (fun h=>h)⟩
theorem adQ(s:aP):l7 s s=true:=by simp[l7,fJ]
theorem Wx(s:bg):DG s s=true:=by simp[DG]
def cI(l:cF)(b:Int):Int×Bool :=
 if l.Kind=1 then (min (max l.Value (-1048576)) 1048576,true)
 else if l.Kind=2 then (min (max (aa (Int.tdiv (aa ((min (max b 0) 1048576)*(min (max l.Value (-1000000)) 1000000))) 10000)) (-1048576)) 1048576,true)
 else (0,false)
def dQ(x:Int):Int:=min (max x 0) 1048576
section
variable(K:Kn)(n:Nat)
theorem sI(x:Int):gI K n x=some (dQ x):=rfl
theorem ge(l:cF)(b:Int):dS K n l b=some (cI l b):=by
 unfold dS cI;by_cases a:l.Kind=1
 ·simp[a,vB]
 ·by_cases c:l.Kind=2
  ·simp[c,vB,gI]
  ·simp[a,c]
def jd(s:aP)(w c:Int):Int :=
 let m:=if (cI s.MaxWidth w).2=true then min (max c 0) (max (cI s.MaxWidth w).1 0) else max c 0
 if (cI s.MinWidth w).2=true then max m (cI s.MinWidth w).1 else m
theorem D4(s:aP)(w c:Int):mq K n s w c=some (jd s w c):=by
 unfold mq jd;simp only[ge,iN,y7,Ai]
 repeat (first|rfl|split)
def fG(s:aP)(w c:Int):bZ :=
 ⟨⟨(cI s.Margin.a0 w).1,(cI s.Margin.a1 w).1,(cI s.Margin.a2 w).1,(cI s.Margin.a3 w).1⟩,⟨dQ s.Border.a0,dQ s.Border.a1,dQ s.Border.a2,dQ s.Border.a3⟩,
  ⟨max (cI s.Padding.a0 w).1 0,max (cI s.Padding.a1 w).1 0,max (cI s.Padding.a2 w).1 0,max (cI s.Padding.a3 w).1 0⟩,c⟩
theorem vf(s:aP)(w c:Int):jC K n s w c=some (fG s w c):=by
 simp only[jC,ge,sI,iN,fG]
def gZ(z:bZ):Int:=aa ((aa ((aa ((aa ((aa ((aa (z.Content+z.Margin.a1))+z.Margin.a3))+z.Border.a1))+z.Border.a3))+z.Padding.a1))+z.Padding.a3)
theorem vj(z:bZ):kH K n z=some (gZ z):=rfl
def Cu(s:aP)(a:Int)(e:bZ)(c:Int):bZ :=
 let r:=aa (a-gZ { e with Content:=c })
 if r≤0 then { e with Content:=c }
 else if (cI s.Margin.a3 a).2=false∧(cI s.Margin.a1 a).2=false then { e with Content:=c,Margin:=⟨e.Margin.a0,aa (r-aa (Int.tdiv r 2)),e.Margin.a2,aa (Int.tdiv r 2)⟩ }
 else if (cI s.Margin.a3 a).2=false then { e with Content:=c,Margin:=⟨e.Margin.a0,e.Margin.a1,e.Margin.a2,r⟩ }
 else if (cI s.Margin.a1 a).2=false then { e with Content:=c,Margin:=⟨e.Margin.a0,r,e.Margin.a2,e.Margin.a3⟩ }
 else { e with Content:=c }
def ct(s:aP)(w:Int):bZ :=
 let a:=dQ w
 let e:=fG s a 0
 let x:=if (cI s.Width a).2=true then (cI s.Width a).1 else aa (a-gZ e)
 Cu s a e (jd s a x)
theorem ag0(s:aP)(a:Int)(e:bZ)(x:Int):sG K n s a e x=some (Cu s a e (jd s a x)):=by
 simp only[sG,D4,vj,iN,ge,Cu];cases c:(cI s.Margin.a3 a).2<;>cases b:(cI s.Margin.a1 a).2<;>simp[zX,qV,c,b]<;>split<;>rfl
theorem BT(s:aP)(w:Int):rD K n s w=some (ct s w):=by
 simp only[rD,sI,vf,ge,vj,iN,ag0,ct];cases h:(cI s.Width (dQ w)).2<;>simp[h]
def ij(l:cF):Prop := -16777216≤l.Value∧l.Value≤16777216
theorem iz(l:cF):∃b,ga K n l=some b∧(b=true→ij l):=by
 unfold ga wH;by_cases h:l.Value ≥ -16777216
 ·simp only[h,al3,AT];exact⟨_,rfl,fun e=>⟨h,lp e⟩⟩
 ·simp only[h,akv,jf,sj];exact⟨_,rfl,fun e=>by cases e⟩
structure rd(x:aL):Prop where
 text:(x.Text.size:Int)≤60
 left:ij x.Style.Left
 top:ij x.Style.Top
 width:ij x.Style.Width
 height:ij x.Style.Height
 minw:ij x.Style.MinWidth
 maxw:ij x.Style.MaxWidth
 basis:ij x.Style.Basis
 lh:0≤x.Style.LineHeight∧x.Style.LineHeight≤65536
 fs:0≤x.Style.FontSize∧x.Style.FontSize≤65536
 grow:0≤x.Style.Grow∧x.Style.Grow≤1048576
 shrink:0≤x.Style.Shrink∧x.Style.Shrink≤1048576
 m0:ij x.Style.Margin.a0
 m1:ij x.Style.Margin.a1
 m2:ij x.Style.Margin.a2
 m3:ij x.Style.Margin.a3
 p0:ij x.Style.Padding.a0
 p1:ij x.Style.Padding.a1
 p2:ij x.Style.Padding.a2
 p3:ij x.Style.Padding.a3
theorem abX(L:g7)(m:Int)(a:Int→Option Bool)(i:Int)(h0:0≤i)(k:i<L.length):mU K n L m a i=some false∨(rd (L.getD i.toNat default)∧mU K n L m a i=a (aa (i+1))):=by
 unfold mU;simp only[k,al3,AT,dj h0 k,ba];generalize hx:L.getD i.toNat default=x;have j5:∀b,vq K n L m i a b=if b=true then some false else a (aa (i+1)):=fun b=>rfl;obtain⟨C,J,S⟩:=iz K n x.Style.Left;obtain⟨D,M,T⟩:=iz K n x.Style.Top;obtain⟨E,N,U⟩:=iz K n x.Style.Width;obtain⟨F,O,V⟩:=iz K n x.Style.Height;obtain⟨G,P,W⟩:=iz K n x.Style.MinWidth;obtain⟨H,Q,X⟩:=iz K n x.Style.MaxWidth;obtain⟨I,R,Y⟩:=iz K n x.Style.Basis;obtain⟨c0,Z,k0⟩:=iz K n x.Style.Margin.a0;obtain⟨c1,g1,k1⟩:=iz K n x.Style.Margin.a1;obtain⟨c,g2,k2⟩:=iz K n x.Style.Margin.a2;obtain⟨d,g3,k3⟩:=iz K n x.Style.Margin.a3;obtain⟨e,q0,r0⟩:=iz K n x.Style.Padding.a0;obtain⟨f,q1,r1⟩:=iz K n x.Style.Padding.a1;obtain⟨g,q2,r2⟩:=iz K n x.Style.Padding.a2;obtain⟨j,q3,r3⟩:=iz K n x.Style.Padding.a3;have l:fd K n L m i a true=some false:=rfl;have j1:fd K n L m i a false=some false∨((c0=true∧c1=true∧c=true∧d=true∧e=true∧f=true∧g=true∧j=true)∧fd K n L m i a false=a (aa (i+1))):=by
  simp only[fd,AZ,y6,yE,vq,hx,Z,g1,g2,g3,q0,q1,q2,q3,iN];cases c0<;>cases e<;>cases c1<;>cases f<;>cases c<;>cases g<;>cases d<;>cases j<;>simp
 simp only[J,M,N,O,P,Q,R,iN,l];by_cases o:(x.Text.size:Int)>60
 ·left;simp[o]
 simp only[o,akv,jf,sj];cases C
 ·left;simp
 simp only[aeJ,jf,sj];cases D
 ·left;simp
 simp only[aeJ,jf,sj];cases E
 ·left;simp
 simp only[aeJ,jf,sj];cases F
 ·left;simp
 simp only[aeJ,jf,sj];cases G
 ·left;simp
 simp only[aeJ,jf,sj];cases H
 ·left;simp
 simp only[aeJ,jf,sj];cases I
 ·left;simp
 simp only[aeJ,jf,sj];by_cases p:x.Style.LineHeight<0
 ·left;simp[p]
 simp only[p,akv,jf,sj];by_cases q:x.Style.LineHeight>65536
 ·left;simp[q]
 simp only[q,akv,jf,sj];by_cases r:x.Style.FontSize<0
 ·left;simp[r]
 simp only[r,akv,jf,sj];by_cases s:x.Style.FontSize>65536
 ·left;simp[s]
 simp only[s,akv,jf,sj];by_cases t:x.Style.Grow<0
 ·left;simp[t]
 simp only[t,akv,jf,sj];by_cases u:x.Style.Grow>1048576
 ·left;simp[u]
 simp only[u,akv,jf,sj];by_cases v:x.Style.Shrink<0
 ·left;simp[v]
 simp only[v,akv,jf,sj];by_cases w:x.Style.Shrink>1048576
 ·left;simp only[w,al3];exact l
 simp only[w,akv];rcases j1 with h|⟨⟨y,z,A,B,p0,p1,p2,p3⟩,h⟩
 ·exact .inl h
 ·refine .inr ⟨⟨by omega,S rfl,T rfl,U rfl,V rfl,W rfl,X rfl,Y rfl,⟨by omega,by omega⟩,⟨by omega,by omega⟩,⟨by omega,by omega⟩,⟨by omega,by omega⟩,k0 y,k1 z,k2 A,k3 B,r0 p0,r1 p1,r2 p2,r3 p3⟩,h⟩
theorem aa6(L:g7)(mx:Int)(t:(L.length:Int)≤9223372036854775807):∀(m:Nat) (i:Int),0≤i→i≤L.length→(L.length:Int)<m+i →
  ∃b,pK K n L mx m i=some b∧(b=true→(L.length:Int)≤mx∧∀k,i.toNat≤k→k<L.length→rd (L.getD k default)):=by
 intro m
 induction m with
 | zero=>intro i a l o;omega
 | succ m s =>
  intro i a l o;show ∃b,mU K n L mx (pK K n L mx m) i=some b∧_;by_cases d:i<(L.length:Int)
  ·rcases abX K n L mx (pK K n L mx m) i a d with h|⟨h,j⟩
   ·exact⟨false,h,fun e=>by cases e⟩
   ·obtain⟨b,q,f⟩:=s (i+1) (by omega) (by omega) (by omega);rw[j,bK (by omega) (by omega)];refine⟨b,q,fun e=>⟨(f e).1,fun k p c=>?_⟩⟩;by_cases g:k=i.toNat
    ·subst g;exact h
    ·exact(f e).2 k (by omega) c
  ·have r:decide (i<(L.length:Int))=false:=by simpa using d
   unfold mU;simp only[r,jf,sj];exact⟨_,rfl,fun e=>⟨lp e,fun k p c=>by omega⟩⟩
theorem OM(L:g7)(mx:Int)(f:(L.length:Int)≤9223372036854775807)(h:L.length<n):∃b,yY K n L mx=some b∧(b=true→(L.length:Int)≤mx∧∀x∈L,rd x):=by
 obtain⟨b,d,a⟩:=aa6 K n L mx f n 0 (by omega) (by omega) (by omega);refine⟨b,d,fun e=>⟨(a e).1,fun x g=>?_⟩⟩;obtain⟨k,c,rfl⟩:=akc.1 g;have:=(a e).2 k (by simp) c;rwa[bR c]at this
end
theorem AC{i:Nat}(h:i<1000000):aa ((i:Int)+1)=((i+1:Nat):Int):=by rw[bK (by omega) (by omega)];omega
theorem zI{i n:Nat}(h:i<n):decide ((i:Int)<(n:Int))=true:=by simpa using h
theorem D0{i n:Nat}(h:n≤i):decide ((i:Int)<(n:Int))=false:=by simpa using h
theorem qi{i n:Nat}(h:i<n):aM (i:Int) n=true:=dj (by omega) (by omega)
theorem drop_at'{α:Type}[Inhabited α]{L:List α}{i:Nat}(h:i<L.length):L.drop i=L.getD i default::L.drop (i+1):=by
 rw[bR h];exact l3 h
theorem f9{α:Type}[Inhabited α]{L:List α}{i:Nat}(h:i<L.length):L.getD i default∈L:=by
 rw[bR h];exact q6 h
def gL(k:ab):Bool:=k.Kind == 3||k.Style.Position != 2
def eM(k:ab):Bool:=k.Kind == 1||(k.Kind == 6||k.Kind == 7)
theorem Lt(K:Kn)(n:Nat)(k:ab):jN K n k=some (gL k):=by
 unfold jN gL xt;cases h:k.Kind == 3<;>simp
theorem NI(K:Kn)(n:Nat)(k:ab):uE K n k=some (eM k):=by
 unfold uE eM vY;cases h:k.Kind == 1<;>cases a:k.Kind == 6<;>simp
theorem aft(K:Kn)(n:Nat)(d:∀x,K.ld (Fv.fn 145) x=some (eM x))(L:d3)(g:L.length≤20):∀(m i:Nat),i≤L.length→L.length<m+i →
  ∃r,lG K n L (Fv.fn 145) m i=some r∧decide (r≥0)=(L.drop i).any eM:=by
 intro m
 induction m with
 | zero=>intro i b c;omega
 | succ m f =>
  intro i b c;simp only[lG,su];by_cases a:i<L.length
  ·rw[drop_at' a];simp only[zI a,AT,qi a,ba,d,iN,Int.toNat_natCast,List.any_cons,AC (show i<1000000 by omega)];cases h:eM (L.getD i default)
   ·simp only[jf,sj,akC];exact f (i+1) (by omega) (by omega)
   ·exact⟨_,rfl,by simp⟩
  ·have e:i=L.length:=by omega
   subst e;simp only[D0 (lc _),jf,sj,List.drop_length];exact⟨_,rfl,by simp⟩
theorem ajX(K:Kn)(n:Nat)(d:∀x,K.ld (Fv.fn 145) x=some (eM x))(L:d3)(c:L.length≤20)(e:20<n):nH K n L (Fv.fn 145)=some (L.any eM):=by
 obtain⟨r,a,b⟩:=aft K n d L c n 0 (by omega) (by omega);unfold nH xj;rw[show lG K n L (Fv.fn 145) n 0=some r from a];simp only[iN,b,List.drop_zero]
theorem YJ(K:Kn)(n:Nat)(b:ab)(j:b.Kids.length≤20):∀(m i:Nat) (a:d3),i≤b.Kids.length→b.Kids.length<m+i→a.length≤i →
  wB K n b m i a=(nH K n (a++(b.Kids.drop i).filter gL) (Fv.fn 145)).bind fun v=>some (a++(b.Kids.drop i).filter gL,v):=by
 intro m
 induction m with
 | zero=>intro i a f g;omega
 | succ m d =>
  intro i a f g h;simp only[wB,yK];by_cases c:i<b.Kids.length
  ·rw[drop_at' c];simp only[zI c,AT,qi c,ba,Lt,iN,zQ,Int.toNat_natCast,ls,rv,AC (show i<1000000 by omega),ak4];cases k:gL (b.Kids.getD i default)
   ·simp only[jf,sj];exact d (i+1) a (by omega) (by omega) (by omega)
   ·simp only[AT];rw[cY (by omega) (by omega),ba,d (i+1) _ (by omega) (by omega) (by simp;omega)];simp only[rl,aka]
  ·have e:i=b.Kids.length:=by omega
   subst e;simp only[D0 (lc _),jf,sj,List.drop_length,alQ,List.append_nil]
def eA(b:ab):d3:=b.Kids.filter gL
theorem SX{b:ab}:(eA b).length≤b.Kids.length:=alR _ _
theorem BR(K:Kn)(n:Nat)(c:∀x,K.ld (Fv.fn 145) x=some (eM x))(b:ab)(a:b.Kids.length≤20)(d:20<n):tS K n b=some (eA b,(eA b).any eM):=by
 have h:=YJ K n b a n 0 [] (by omega) (by omega) (by simp);unfold tS;refine (show _=_ from h).trans ?_;simp only[Io,List.drop_zero];rw[show b.Kids.filter gL=eA b from rfl,ajX K n c _ (aaN SX a) d];rfl
def rV(f:ae)(w:Int):ae :=
 if f.Style.Position=1 then { f with X:=aa (f.X+(cI f.Style.Left w).1),Y:=if f.Style.Top.Kind=1 then aa (f.Y+(cI f.Style.Top 0).1) else f.Y } else f
theorem Rr(K:Kn)(n:Nat)(f:ae)(w:Int):s8 K n f w=some (rV f w):=by
 unfold s8 rV;simp only[ge,iN,xw];by_cases h:f.Style.Position=1
 ·by_cases a:f.Style.Top.Kind=1<;>simp[h,a]
 ·simp[h]
theorem NK(f:ae)(w:Int):(rV f w).Kids=f.Kids:=by unfold rV;split<;>rfl
namespace Od
open QSort (wn cG dp dm px rB sb)
def ix(p:Nat→Bool)(n:Nat):ck:=((List.range n).filter p).map fun (k:Nat)=>(k:Int)
theorem OO(p:Nat→Bool)(n:Nat):ix p (n+1)=ix p n++if p n=true then [(n:Int)] else []:=by
 unfold ix;rw[ali,alr,IT];congr 1;cases h:p n<;>simp only[ak4,alQ,h,AT,jf,sj,th,By]
theorem Oy{p:Nat→Bool}{n:Nat}{x:Int}:x∈ix p n↔∃k:Nat,k<n∧x=k∧p k=true:=by
 simp only[ix,Do,akh,afd];constructor
 ·rintro ⟨k,⟨a,b⟩,rfl⟩;exact⟨k,a,rfl,b⟩
 ·rintro ⟨k,a,rfl,b⟩;exact⟨k,⟨a,b⟩,rfl⟩
theorem Je(p:Nat→Bool)(n:Nat):(ix p n).length≤n:=by
 unfold ix;rw[nx];have:=alR p (List.range n);rw[List.length_range]at this;exact this
theorem Yz(p:Nat→Bool)(n:Nat):(ix p n).Pairwise (· < ·):=by
 unfold ix;rw[aly];refine akZ (fun h=>?_) (alV _ akX);omega
variable(B:d3)
def fl(k:Nat):Bool:=gL (B.getD k default)
def key(a:Int):Int:=(B.getD a.toNat default).Style.Order
structure Is(d:ck):Prop where
 p:d.Perm (ix (fl B) B.length)
 s:d.Pairwise (QSort.R (key B))
variable{B}
theorem Is.uniq{d e:ck}(h:Is B d)(c:Is B e):d=e:=by
 refine List.Perm.eq_of_pairwise (fun a b _ _ f c=>(f.asymm c).elim) h.s c.s (h.p.trans c.p.symm)
theorem Is.mem{d:ck}(h:Is B d){x:Int}(a:x∈d):∃k:Nat,k<B.length∧x=k∧gL (B.getD k default)=true:=Oy.1 (h.p.mem_iff.1 a)
theorem Is.len{d:ck}(h:Is B d):d.length≤B.length:=by rw[h.p.length_eq];exact Je _ _
variable(B)
theorem JE(m:Nat):QSort.tZ (KN (m+1)) (Fv.c172 B) (fun a=>0≤a∧a<B.length) (key B):=by
 refine⟨fun a b f g=>?_⟩;show ∃c,zb (KN m) m a b B=some c∧_;unfold zb;rw[cG f,cG g];simp only[uu,wb,sb,bne_self_eq_false,jf,sj,key];by_cases d:(B.getD a.toNat default).Style.Order<(B.getD b.toNat default).Style.Order
 ·rw[dp d];exact⟨-1,rfl,by omega⟩
 ·rw[dm d];by_cases e:(B.getD a.toNat default).Style.Order>(B.getD b.toNat default).Style.Order
  ·rw[dp e];exact⟨1,rfl,by omega⟩
  ·rw[dm e];exact⟨0,rfl,by omega⟩
theorem ajO(K:Kn)(n:Nat)(g:B.length≤19):∀(m i:Nat),i≤B.length→B.length<m+i →
  tx K n B m (i:Int) (ix (fl B) i)=lZ K n (ix (fl B) B.length) (Fv.c172 B):=by
 intro m
 induction m with
 | zero=>intro i d e;omega
 | succ m a =>
  intro i d e;simp only[tx,AP];by_cases f:i<B.length
  ·have h:=Je (fl B) i;have b:=OO (fl B) i;have a:=a (i+1) (by omega) (by omega);rw[dp (by omega),cG (by omega),eR,Lt,sb];simp only[xP,wn (n:=(i:Int)+1) (k:=i+1) (by omega) (by omega)];cases c:gL (B.getD i default)
   ·rw[kc (by simp)];rw[b,kc (by unfold fl;rw[c];simp),List.append_nil]at a;exact a
   ·rw[ll rfl,cY (by simp only[ls,rv];omega) (by omega),ba];rw[b,ll (by unfold fl;rw[c])]at a;exact a
  ·obtain rfl:i=B.length:=by omega
   rw[dm (by omega)];cases lZ K n (ix (fl B) B.length) (Fv.c172 B)<;>rfl
theorem mP(g:B.length≤19){lvl n:Nat}(i:10001<n)(h:20010≤lvl):∃d,Is B d∧uy (KN lvl) n B=some d:=by
 have p:=Je (fl B) B.length;obtain⟨d,b,c,e⟩:=QSort.Tf (c0:=1) (f:=Fv.c172 B) (D:=fun a=>0≤a∧a<B.length) (key:=key B) (fun m o=>by
  obtain⟨k,rfl⟩:∃k,m=k+1:=⟨m-1,by omega⟩;exact JE B k) (lvl:=lvl) (n:=n) (ix (fl B) B.length) i (by omega) (Yz _ _) (fun x j=>by
   obtain⟨k,l,rfl,_⟩:=Oy.1 j;omega) (by omega)
 refine⟨d,⟨b,c⟩,?_⟩;have:=ajO B (KN lvl) n g n 0 (by omega) (by omega);unfold uy;rw[show ix (fl B) 0=[] from rfl,show((0:Nat):Int)=0 from rfl]at this;rw[this];exact e
end Od
mutual
/-- How many boxes. -/
def bQ:ab→Nat
 | ⟨_,_,_,_,_,_,a⟩=>cL a+1
def cL:d3→Nat
 | []=>0
 | b::r=>bQ b+cL r
end
theorem gx(b:ab):bQ b=cL b.Kids+1:=by cases b;simp only[bQ]
theorem g9(b:ab):1≤bQ b:=by rw[gx];omega
theorem Pp:∀{l:d3} {b:ab},b∈l→bQ b≤cL l
 | [],b,h=>by cases h
 | c::r,b,h=>by
  simp only[cL];rcases ol.1 h with rfl|h
  ·omega
  ·have:=Pp h;omega
theorem wG:∀(l:d3),l.length≤cL l
 | []=>lc _
 | c::r=>by simp only[cL,ls];have:=wG r;have:=g9 c;omega
theorem Dt:∀(l m:d3),cL (l++m)=cL l+cL m
 | [],m=>by simp[cL]
 | c::r,m=>by simp only[agP,cL,Dt r m];omega
theorem oc{b k:ab}(h:k∈b.Kids):bQ k<bQ b:=by rw[gx b];have:=Pp h;omega
theorem LN(b:ab):b.Kids.length<bQ b:=by rw[gx];have:=wG b.Kids;omega
def pR(a b:ab):Bool:=(a.Kind == b.Kind)&&((a.Node == b.Node)&&((l7 a.Style b.Style)&&((a.Text.toList == b.Text.toList)&&((a.Rows == b.Rows)&&(a.Cols == b.Cols)))))
mutual
def gp:ab→ab→Bool
 | ⟨k,n,s,t,r,c,d⟩,b=>pR ⟨k,n,s,t,r,c,[]⟩ b&&iB d b.Kids
def iB:d3→d3→Bool
 | [],[]=>true
 | a::r,b::q=>gp a b&&iB r q
 | _,_=>false
end
theorem Hl(a b:ab):gp a b=(pR a b&&iB a.Kids b.Kids):=by cases a;simp only[gp];rfl
theorem Qs:∀{l m:d3},iB l m=true→l.length=m.length
 | [],[],_=>rfl
 | a::r,b::q,h=>by simp only[iB,iO]at h;simp[Qs h.2]
 | [],_::_,h=>by cases h
 | _::_,[],h=>by cases h
theorem W7(x:cF):fJ x x=true:=by simp[fJ]
theorem Vz(x:aP):l7 x x=true:=by simp[l7,W7]
theorem ajt(a:ab):pR a a=true:=by simp[pR,Vz]
mutual
theorem Ce:∀a:ab,gp a a=true
 | ⟨k,n,s,t,r,c,b⟩=>by
  rw[Hl,ajt,alb];exact NU b
theorem NU:∀l:d3,iB l l=true
 | []=>rfl
 | a::r=>by simp only[iB,Ce a,NU r,alF]
end
theorem fg{i:Nat}(h:i<1000000000):aa ((i:Int)+1)=((i+1:Nat):Int):=by rw[bK (by omega) (by omega)];omega
theorem dK{i n:Nat}(h:i<n):aM ((i:Nat):Int) n=true:=dj (by omega) (by omega)
theorem fw{i n:Nat}(h:i<n):decide (((i:Nat):Int)<((n:Nat):Int))=true:=decide_eq_true (by omega)
theorem fA{i n:Nat}(h:n≤i):decide (((i:Nat):Int)<((n:Nat):Int))=false:=decide_eq_false (by omega)
theorem gN{α:Type}[Inhabited α]{L:List α}{k:Nat}(h:k<L.length):L.getD ((k:Nat):Int).toNat default=L[k]:=by rw[Int.toNat_natCast];exact bR h
theorem WS{l m:d3}{i:Nat}(a:i<l.length)(b:i<m.length):iB (l.drop i) (m.drop i)=(gp l[i] m[i]&&iB (l.drop (i+1)) (m.drop (i+1))):=by
 rw[l3 a,l3 b];simp only[iB]
theorem aab(K:Kn)(n:Nat)(l q:d3)(f:l.length=q.length)(g:l.length<1000000)(d:∀k∈l,∀p,K.pw (Fv.fn 27) k p=some (gp k p)):∀(m i:Nat),i≤l.length→l.length<m+i →
  vb K n l q (Fv.fn 27) m i=some (iB (l.drop i) (q.drop i)):=by
 intro m
 induction m with
 | zero=>intro i b c;omega
 | succ m e =>
  intro i b c;simp only[vb,xi];by_cases a:i<l.length
  ·simp only[fw a,AT,dK a,dK (show i<q.length by omega),ba,gN a,gN (show i<q.length by omega),d _ (q6 a),iN];rw[WS a (by omega)];cases h:gp l[i] q[i] with
   | false=>simp
   | true =>
    simp only[aeJ,jf,sj,alb];rw[fg (by omega)];exact e (i+1) (by omega) (by omega)
  ·simp only[fA (show l.length≤i by omega),jf,sj];rw[mo (by omega),mo (by omega)];rfl
theorem acI(K:Kn)(n:Nat)(l q:d3)(d:l.length<1000000)(e:l.length<n)(c:∀k∈l,∀p,K.pw (Fv.fn 27) k p=some (gp k p)):Aw K n l q (Fv.fn 27)=some (iB l q):=by
 unfold Aw;by_cases a:l.length=q.length
 ·have:(((l.length:Nat):Int) != ((q.length:Nat):Int))=false:=by rw[a];simp
  rw[this];simpa using aab K n l q a d c n 0 (v9 _) (by omega)
 ·have:(((l.length:Nat):Int) != ((q.length:Nat):Int))=true:=by simp[bne];omega
  rw[this,ll rfl];cases b:iB l q with
  | false=>rfl
  | true=>exact absurd (Qs b) a
theorem Dh:∀(s N:Nat) (a b:ab),bQ a≤s→s<1000000→s+2≤N→om (KN N) N a b=some (gp a b)
 | 0,_,a,_,h,_,_=>by have:=g9 a;omega
 | s+1,0,_,_,_,_,h=>by omega
 | s+1,N+1,a,b,n,o,p=>by
  have c:∀k∈a.Kids,∀q,(KN (N+1)).pw (Fv.fn 27) k q=some (gp k q):=fun k f q=>Dh s N k q (by have:=oc f;omega) (by omega) (by omega);have d:=LN a;have e:=acI (KN (N+1)) (N+1) a.Kids b.Kids (by omega) (by omega) c;unfold om;rw[Hl,e];unfold pR;simp only[mb,iN];cases c1:(a.Kind == b.Kind) with
  | false=>simp
  | true =>
  cases g:(a.Node == b.Node) with
  | false=>simp
  | true =>
  cases i:(l7 a.Style b.Style) with
  | false=>simp
  | true =>
  cases j:(a.Text.toList == b.Text.toList) with
  | false=>simp
  | true =>
  cases l:(a.Rows == b.Rows) with
  | false=>simp
  | true =>
  cases m:(a.Cols == b.Cols) with
  | false=>simp
  | true=>simp
mutual
/-- b is within a box. -/
def im(b:ab):ab→Bool
 | ⟨k,n,s,t,r,c,a⟩=>gp ⟨k,n,s,t,r,c,a⟩ b||mw b a
def mw(b:ab):d3→Bool
 | []=>false
 | k::r=>im b k||mw b r
end
theorem Fz(b a:ab):im b a=(gp a b||mw b a.Kids):=by cases a;simp only[im]
theorem ahd{b:ab}{l:d3}{i:Nat}(h:i<l.length):mw b (l.drop i)=(im b l[i]||mw b (l.drop (i+1))):=by
 rw[l3 h];simp only[mw]
theorem XR(K:Kn)(n:Nat)(l:d3)(b:ab)(g:l.length<1000000)(e:∀k∈l,K.ld (Fv.c65 b) k=some (im b k)):∀(m i:Nat),i≤l.length→l.length<m+i →
  ∃r,lG K n l (Fv.c65 b) m i=some r∧decide (r≥0)=mw b (l.drop i):=by
 intro m
 induction m with
 | zero=>intro i c d;omega
 | succ m f =>
  intro i c d;simp only[lG,su];by_cases a:i<l.length
  ·simp only[fw a,AT,dK a,ba,gN a,e _ (q6 a),iN];rw[ahd a];cases h:im b l[i] with
   | true=>exact⟨_,rfl,by simp⟩
   | false =>
    simp only[jf,sj,akC];rw[fg (by omega)];exact f (i+1) (by omega) (by omega)
  ·simp only[fA (show l.length≤i by omega),jf,sj];rw[mo (by omega)];exact⟨_,rfl,rfl⟩
theorem Ll:∀(s N:Nat) (a b:ab),bQ a≤s→s<100000→2*s+4≤N→pV (KN N) N a b=some (im b a)
 | 0,_,a,_,h,_,_=>by have:=g9 a;omega
 | s+1,0,_,_,_,_,h=>by omega
 | s+1,1,_,_,_,_,h=>by omega
 | s+1,N+2,a,b,i,l,m=>by
  have c:∀k∈a.Kids,(KN (N+2)).ld (Fv.c65 b) k=some (im b k):=fun k j=>by
   show A9 (KN (N+1)) (N+1) k b=_;unfold A9;show(pV (KN N) N k b).bind _=_;rw[Ll s N k b (by have:=oc j;omega) (by omega) (by omega)];rfl
  have e:=LN a;unfold pV;rw[Dh (s+1) (N+2) a b i (by omega) (by omega),iN,Fz];simp only[Ax];cases h:gp a b with
  | true=>simp
  | false =>
   simp only[jf,sj,akC];unfold nH xj;obtain⟨r,f,g⟩:=XR (KN (N+2)) (N+2) a.Kids b (by omega) c (N+2) 0 (v9 _) (by omega);have d:lG (KN (N+2)) (N+2) a.Kids (Fv.c65 b) (N+2) 0=some r:=f;rw[d];simp only[iN,g,List.drop_zero]
def dU(r:Int):List UInt8:=(Utf8.encode r).data.toList
def dx(r:Int):Prop:=(0≤r∧r<55296)∨(57344≤r∧r≤1114111)
theorem aaG{r:Int}(h:dx r):Utf8.valid r=true:=by
 unfold dx at h;unfold Utf8.valid;simp only[IF,iO,q7];omega
theorem fH{n:Nat}(h:n<256):(UInt8.ofNat n).toNat=n:=by rw[UInt8.toNat_ofNat',akL h]
theorem IK {r:Int} (h:dx r):∃ c:Nat,r=(c:Int) ∧
    ((c<128∧dU r=[UInt8.ofNat c])∨(128≤c∧c<2048∧dU r=[UInt8.ofNat (192+c / 64),UInt8.ofNat (128+c % 64)]) ∨
     (2048≤c∧c<65536∧(c<55296∨57344≤c)∧dU r=[UInt8.ofNat (224+c / 4096),UInt8.ofNat (128+c / 64 % 64),UInt8.ofNat (128+c % 64)]) ∨
     (65536≤c∧c≤1114111∧dU r=[UInt8.ofNat (240+c / 262144),UInt8.ofNat (128+c / 4096 % 64),UInt8.ofNat (128+c / 64 % 64),UInt8.ofNat (128+c % 64)])):=by
  refine⟨r.toNat,by unfold dx at h;omega,?_⟩;unfold dU Utf8.encode;simp only[aaG h,AT];unfold dx at h;generalize e:r.toNat=c at *;by_cases a:c<128
  · left;simp[a]
  · by_cases b:c<2048
    · right;left;simp[a,b];omega
    · by_cases d:c<65536
      · right;right;left;simp[a,b,d];omega
      · right;right;right;simp[a,b,d];omega
theorem EP{r:Int}(h:dx r)(t:List UInt8):Lib.decodeL (dU r++t)=(r.toNat,(dU r).length):=by
 obtain⟨c,rfl,h|h|h|h⟩:=IK h
 ·rw[h.2,ald];simp only[agP,Io,akP,fH (show c<256 by omega),Int.toNat_natCast,ls,rv];unfold Lib.decodeN;rw[ll h.1]
 ·rw[h.2.2,ald];simp only[agP,Io,akP,akO,fH (show 192+c / 64<256 by omega),fH (show 128+c % 64<256 by omega),Int.toNat_natCast,ls,rv];unfold Lib.decodeN;rw[kc (by omega),ll (by omega),ll (by omega)];congr 1;omega
 ·rw[h.2.2.2,ald];simp only[agP,Io,akP,akO,fH (show 224+c / 4096<256 by omega),fH (show 128+c / 64 % 64<256 by omega),fH (show 128+c % 64<256 by omega),Int.toNat_natCast,ls,rv];unfold Lib.decodeN;rw[kc (by omega),kc (by omega),ll (by omega),ll (by omega)];congr 1;omega
 ·rw[h.2.2,ald];simp only[agP,Io,akP,akO,fH (show 240+c / 262144<256 by omega),fH (show 128+c / 4096 % 64<256 by omega),fH (show 128+c / 64 % 64<256 by omega),fH (show 128+c % 64<256 by omega),Int.toNat_natCast,ls,rv];unfold Lib.decodeN;rw[kc (by omega),kc (by omega),kc (by omega),ll (by omega),ll (by omega)];congr 1;omega
theorem BB{r:Int}(h:dx r):1≤(dU r).length∧(dU r).length≤4:=by
 obtain⟨c,_,h|h|h|h⟩:=IK h
 ·rw[h.2];simp
 ·rw[h.2.2];simp
 ·rw[h.2.2.2];simp
 ·rw[h.2.2];simp
theorem Wj(n a b c d:Nat):dx ((Lib.decodeN n a b c d).1:Int):=by
 unfold Lib.decodeN dx
 repeat' split
 all_goals simp only[]
 all_goals omega
theorem abL(l:List UInt8):dx ((Lib.decodeL l).1:Int):=by rw[ald];exact Wj _ _ _ _ _
def iZ:Nat→List UInt8→ck
 | 0,_=>[]
 | n+1,l=>if l.isEmpty=true then [] else ((Lib.decodeL l).1:Int)::iZ n (l.drop (Lib.decodeL l).2)
theorem VD:∀(n m:Nat) (l:List UInt8),l.length≤n→l.length≤m→iZ n l=iZ m l:=by
 intro n
 induction n with
 | zero =>
  intro m l a b;have:l=[]:=ob (by omega);subst this;cases m<;>simp[iZ]
 | succ n c =>
  intro m l a b;cases m with
  | zero =>
   have:l=[]:=ob (by omega);subst this;simp[iZ]
  | succ m =>
   unfold iZ;split
   ·rfl
   ·have:=alz l;rw[c m _ (by simp;omega) (by simp;omega)]
def jy(l:List UInt8):ck:=iZ l.length l
theorem W3:jy []=[]:=rfl
theorem To{l:List UInt8}(h:l≠[]):jy l=((Lib.decodeL l).1:Int)::jy (l.drop (Lib.decodeL l).2):=by
 unfold jy;cases l with
 | nil=>exact absurd rfl h
 | cons x r =>
  have:=alz (x::r);rw[show iZ (x::r).length (x::r)=((Lib.decodeL (x::r)).1:Int)::iZ r.length ((x::r).drop (Lib.decodeL (x::r)).2) from rfl];rw[VD r.length _ _ (by simp;omega) (lc _)]
theorem aax{r:Int}(h:dx r)(t:List UInt8):jy (dU r++t)=r::jy t:=by
 have a:=BB h;rw[To (by intro e;rw[List.append_eq_nil_iff]at e;rw[e.1]at a;simp at a),EP h t];simp only[alX];congr 1;unfold dx at h;omega
def dC(rs:ck):List UInt8:=rs.flatMap dU
theorem Ox(r:Int)(rs:ck):dC (r::rs)=dU r++dC rs:=by simp[dC]
theorem Nt(a b:ck):dC (a++b)=dC a++dC b:=by simp[dC]
theorem P1:∀{rs:ck} (t:List UInt8),(∀r∈rs,dx r)→jy (dC rs++t)=rs++jy t
 | [],t,_=>rfl
 | r::rs,t,h=>by
  rw[Ox,rl,aax (h r (by simp)),P1 t (fun x a=>h x (by simp[a]))];rfl
theorem agW{rs:ck}(h:∀r∈rs,dx r):jy (dC rs)=rs:=by
 have:=P1 [] h;simpa[W3]using this
theorem SH:∀(n:Nat) (l:List UInt8),∀r∈iZ n l,dx r
 | 0,_,r,h=>by cases h
 | n+1,l,r,h=>by
  unfold iZ at h;split at h
  ·cases h
  ·rcases ol.1 h with rfl|h
   ·exact abL l
   ·exact SH n _ r h
theorem FU{l:List UInt8}:∀r∈jy l,dx r:=SH _ _
theorem KY:∀(n:Nat) (l:List UInt8),(iZ n l).length≤n
 | 0,_=>by simp[iZ]
 | n+1,l=>by
  unfold iZ;split
  ·simp
  ·have:=KY n (l.drop (Lib.decodeL l).2);simp;omega
theorem Xe(l:List UInt8):(jy l).length≤l.length:=KY _ _
def ir(b:ByteArray)(p:Nat):ck:=jy (b.data.toList.drop p)
theorem yi(b:ByteArray):b.data.toList.length=b.size:=rfl
theorem R0{b:ByteArray}{p:Nat}(h:¬ p<b.size):ir b p=[]:=by
 unfold ir;rw[mo (by rw[yi];omega)];rfl
theorem R3{b:ByteArray}{p:Nat}(h:p<b.size):ir b p=((Utf8.decode b p).1:Int)::ir b (p+(Utf8.decode b p).2):=by
 unfold ir;rw[To (by intro e;have:=congrArg List.length e;simp at this;have a:=yi b;simp at a;omega),ak7,aky]
theorem Sx(b:ByteArray)(p:Nat):1≤(Utf8.decode b p).2:=by rw[←ak7];exact alz _
def ints(l:List UInt8):ck:=l.map fun b=>(b.toNat:Int)
theorem ajJ(a b:List UInt8):ints (a++b)=ints a++ints b:=by simp[ints]
theorem aal(a:List UInt8):(ints a).length=a.length:=by simp[ints]
theorem ajf(x y:Int):gT .u8 x y=bits .and .u8 x y:=rfl
theorem BV(x y:Int):fa .u8 x y=bits .or .u8 x y:=rfl
theorem w8{n:Int}(h:0≤n∧n<256):IntKind.wrap .u8 n=n:=by rw[alS];omega
theorem sY(y:Int):fa .u8 128 (gT .u8 (IntKind.wrap .u8 y) 63)=128+y % 64:=by
 have h:0≤IntKind.wrap .u8 y∧IntKind.wrap .u8 y<256:=by rw[alS];omega
 rw[ajf,u8_and63 _ h.1 h.2,BV,u8_or128 _ (by omega) (by omega),alS];omega
section
variable{K:Kn}{n:Nat}
theorem air{r:Int}(h:dx r){L:ck}(f:L.length≤1000000):wm K n r L=some (L++ints (dU r)):=by
 have a:IntKind.wrap .u32 r=r:=by rw[IntKind.wrap_u32];unfold dx at h;omega
 unfold wm;rw[a];obtain⟨c,rfl,b|b|b|b⟩:=IK h
 ·rw[ll (by simp;omega),cY (by simp;omega) (by omega),ba,b.2,w8 (by omega)];simp only[ints,th,By,fH (show c<256 by omega)]
 ·rw[kc (by simp;omega)];unfold tR;rw[a,ll (by simp;omega),cY (by simp;omega) (by omega),ba,b.2.2];simp only[iN,ints,th,By,fH (show 192+c / 64<256 by omega),fH (show 128+c % 64<256 by omega)];rw[w8 (n:=(c:Int) / 64) (by omega),BV 192,u8_or192 _ (by omega) (by omega),sY];congr 3<;>omega
 ·rw[kc (by simp;omega)];unfold tR;rw[a,kc (by simp;omega)];have e:o4 K n (c:Int) L true=some (L++ints (dU (c:Int))):=by
   unfold o4;rw[ll rfl,cY (by simp;omega) (by omega),ba,b.2.2.2];simp only[ints,th,By,fH (show 224+c / 4096<256 by omega),fH (show 128+c / 64 % 64<256 by omega),fH (show 128+c % 64<256 by omega)];rw[w8 (n:=(c:Int) / 4096) (by omega),BV 224,u8_or224 _ (by omega) (by omega),sY,sY];congr 3<;>omega
  by_cases d:(c:Int)<55296
  ·rw[ll (by simpa using d),e];rfl
  ·rw[kc (by simpa using d),ll (by simp;omega),show decide ((c:Int)≤65535)=true by simp;omega,e];rfl
 ·rw[kc (by simp;omega)];unfold tR;rw[a,kc (by simp;omega),kc (by simp;omega),ll (by simp;omega),show decide ((c:Int)≤65535)=false by simp;omega];unfold o4;rw[a,kc (by simp),ll (by simp;omega),show decide ((c:Int)≤1114111)=true by simp;omega];unfold xT;rw[ll rfl,cY (by simp;omega) (by omega),ba,b.2.2];simp only[iN,ints,th,By,fH (show 240+c / 262144<256 by omega),fH (show 128+c / 4096 % 64<256 by omega),fH (show 128+c / 64 % 64<256 by omega),fH (show 128+c % 64<256 by omega)];rw[w8 (n:=(c:Int) / 262144) (by omega),BV 240,u8_or240 _ (by omega) (by omega),sY,sY,sY];congr 3<;>omega
theorem Z1{r:Int}(h:dx r){L:ck}(a:L.length≤1000000)(b:Bool):∃x,ru K n r b L=some (x,(),L++ints (dU r)):=by
 unfold ru;rw[air h a];cases b
 ·exact⟨_,rfl⟩
 ·exact⟨_,rfl⟩
end
theorem X6{l:List UInt8}(h:l≠[]):rp (ints l)=true:=by
 unfold rp ints;rw[iO];refine⟨?_,by cases l;exact absurd rfl h;rfl⟩;rw[n5];intro n a;obtain⟨b,_,rfl⟩:=Do.1 a;have:=UInt8.toNat_lt b;simp;omega
theorem ad2(l:List UInt8):bytesOf (ints l)=⟨l.toArray⟩:=by
 unfold bytesOf ints;rw[List.map_map];congr 2
 conv=>rhs;rw[←List.map_id l]
 refine al2 fun b _=>?_;simp
noncomputable section
def jM(r:Int):Bool:=r == 9||(r == 10||(r == 13||r == 32))
def xp(r:Int):Int:=(lj (KN 0) 0 r).getD 0
def aiX(s:Int):Int:=min (max s 0) 1048576
def JU(r s:Int):Int:=aa (Int.tdiv (aa ((aa (xp r*aiX s))+15)) 16)
def qL(a b:Int):Bool:=bif jM b||xp b == 0 then false else bif jM a then true else bif a == 45&&b != 45 then true else decide (a≥11904)||decide (b≥11904)
def i8(e:aJ):Bool:=e.Kind == 1&&(e.Box.Style.WhiteSpace != 1&&e.Box.Style.WhiteSpace != 2)
def iy(a b:aJ):Bool :=
 bif a.Kind == 3||b.Kind == 3 then (a.Kind == 3||i8 a)&&(b.Kind == 3||i8 b)
 else bif a.Kind != 1||(b.Kind != 1||(!i8 a||(a.Char != 32&&!i8 b))) then false else qL a.Char b.Char
def ww{α:Type}(x:Option α):Prop:=∃u,x=some u
theorem O7{α:Type}(u:α):ww (some u):=⟨u,rfl⟩
theorem Q1{α:Type}{c:Prop}[Decidable c]{x y:Option α}(a:ww x)(b:ww y):ww (if c then x else y):=by split;exact a;exact b
section
variable(K:Kn)(n:Nat)
theorem TN(r:Int):ss K n r=some (jM r):=by
 unfold ss jM;cases a:(r == 9)<;>cases b:(r == 10)<;>cases c:(r == 13)<;>cases d:(r == 32)<;>simp[pO]
theorem ajs(r:Int):ww (lj K n r):=by
 unfold lj lI;simp only[gQ,gn,mV,xa]
 repeat first|exact O7 _|apply Q1
theorem Pz(r:Int):lj K n r=some (xp r):=by
 obtain⟨u,a⟩:=ajs K n r;have e:lj (KN 0) 0 r=lj K n r:=rfl;unfold xp;rw[e,a];rfl
theorem Mq(r s:Int):n7 K n r s=some (JU r s):=by
 unfold n7;rw[Pz];rfl
theorem ae4(a b:Int):Ap K n a b=some (qL a b):=by
 unfold Ap qL;rw[TN,Pz];simp only[iN];have c:pI K n a b true=some false:=rfl;have d:pI K n a b false=some (bif jM a then true else bif a == 45&&b != 45 then true else decide (a≥11904)||decide (b≥11904)):=by
  unfold pI;rw[kc (by simp),TN];simp only[iN];cases jM a with
  | true=>simp
  | false =>
   simp only[jf,sj,akG];unfold xd AG;cases e:(a == 45)<;>cases f:(b != 45)<;>cases g:decide (a≥11904)<;>simp
 cases jM b with
 | true=>rw[ll rfl,c];rfl
 | false =>
  rw[kc (by simp)];cases (xp b == 0) with
  | true=>rw[c];rfl
  | false=>rw[d];rfl
theorem S5(e:aJ):m9 K n e=some (i8 e):=by
 unfold m9 i8 vw;cases a:(e.Kind == 1)<;>cases b:(e.Box.Style.WhiteSpace != 1)<;>simp
end
theorem Lv(a b:ByteArray):(a++b).data.toList=a.data.toList++b.data.toList:=by
 rw[ByteArray.data_append,Array.toList_append]
theorem ad1(a b:Int):(runesBytes [a,b]).data.toList=dU a++dU b:=by
 unfold runesBytes;simp only[akr,List.foldl_nil];rw[Lv,Lv];rfl
theorem ail(K:Kn){n:Nat}(p:3≤n){a b:Int}(e:dx a)(f:dx b):∃l,xv K n (runesBytes [a,b])=some l∧decide ((l.length:Int)>0)=qL a b:=by
 generalize k:runesBytes [a,b]=B;have g:B.data.toList=dU a++dU b:=by rw[←k];exact ad1 a b
 have r:=BB e;have s:=BB f;have q:B.size=(dU a).length+(dU b).length:=by rw[←yi,g,ne]
 have h:Utf8.decode B 0=(a.toNat,(dU a).length):=by
  rw[←ak7,List.drop_zero,g,EP e]
 have d:Utf8.decode B (dU a).length=(b.toNat,(dU b).length):=by
  rw[←ak7,g,alX];have:=EP f [];rwa[List.append_nil]at this
 have i:((a.toNat:Nat):Int)=a:=by unfold dx at e;omega
 have j:((b.toNat:Nat):Int)=b:=by unfold dx at f;omega
 obtain⟨m,rfl⟩:∃m,n=m+3:=⟨n-3,by omega⟩;unfold xv;show ∃l,lQ K (m+3) B (oS K (m+3) B (m+2)) 0 0 []=some l∧_;unfold lQ;rw[ll (by simp;omega),kc (by simp)];unfold qI;rw[kc (by simp)];unfold qY;rw[h];simp only[If,i];show ∃l,lQ K (m+3) B (oS K (m+3) B (m+1)) a (dU a).length []=some l∧_;unfold lQ;rw[ll (by simp;omega),ll (by simp;omega),d];simp only[j];rw[ae4];simp only[iN];have c:∀(x:Int) (l:ck),oS K (m+3) B (m+1) x ((dU a).length+(dU b).length) l=some l:=fun x l=>by
  show lQ K (m+3) B (oS K (m+3) B m) x _ l=some l;unfold lQ;rw[kc (by simp;omega)]
 cases o:qL a b with
 | true =>
  unfold qI;rw[ll rfl,cY (by simp) (by omega),ba];unfold qY;rw[d];simp only[];rw[c];exact⟨_,rfl,by simp⟩
 | false =>
  unfold qI;rw[kc (by simp)];unfold qY;rw[d];simp only[];rw[c];exact⟨_,rfl,by simp⟩
theorem uq(K:Kn){n:Nat}(o:3≤n){a b:aJ}(k:dx a.Char)(m:dx b.Char):kX K n a b=some (iy a b):=by
 obtain⟨l,g,h⟩:=ail K o k m;have e:lP K n a b true=some false:=rfl;have p:lP K n a b false=some (qL a.Char b.Char):=by
  unfold lP;rw[kc (by simp),g];simp only[iN];rw[h]
 unfold kX iy;have f:oF K n a b true=some ((a.Kind == 3||i8 a)&&(b.Kind == 3||i8 b)):=by
  unfold oF nK;simp only[S5,iN];cases c:(a.Kind == 3)<;>cases d:(b.Kind == 3)<;>cases i:i8 a<;>cases j:i8 b<;>simp
 have q:oF K n a b false=some (bif a.Kind != 1||(b.Kind != 1||(!i8 a||(a.Char != 32&&!i8 b))) then false else qL a.Char b.Char):=by
  unfold oF;simp only[S5,iN,e];cases c:(a.Kind != 1)<;>cases d:(b.Kind != 1)<;>cases i:i8 a<;>cases j:(a.Char != 32)<;>cases r:i8 b<;>simp[e,p]
 cases c:(a.Kind == 3) with
 | true=>rw[ll rfl,f,c];rfl
 | false =>
  rw[kc (by simp)];cases d:(b.Kind == 3) with
  | true=>rw[f,c,d];rfl
  | false=>rw[q];rfl
def xY(s a:Int):ck→Int
 | []=>a
 | r::t=>xY s (aa (a+JU r s)) t
theorem adG(K:Kn)(n:Nat)(b:ByteArray)(s:Int):∀(m:Nat) (a:Int) (p:Nat),b.size-p<m→sL K n b s m a p=some (xY s a (ir b p)):=by
 intro m
 induction m with
 | zero=>intro a p h;omega
 | succ m d =>
  intro a p h;show wv K n b s (sL K n b s m) a p=_;unfold wv;by_cases c:p<b.size
  ·have:=Sx b p;rw[ll (by simpa using c),Mq,R3 c];simp only[iN,xY];exact d _ _ (by omega)
  ·rw[kc (by simpa using c),R0 c];rfl
theorem Sq(K:Kn){n:Nat}(b:ByteArray)(s:Int)(a:b.size<n):ql K n b s=some (xY s 0 (ir b 0)):=by
 unfold ql;exact adG K n b s n 0 0 (by omega)
def j6(s:aP):Int×Int:=(ou (KN 0) 0 s).getD default
theorem Vi(K:Kn)(n:Nat)(s:aP):ou K n s=some (j6 s):=rfl
def cZ(x:eb):ck:=x.map fun e=>e.Char
def Bp(x:eb):Bool:=(x.getD (x.length-1) default).Soft
def JD(x:eb):ck:=bif Bp x then (cZ x).dropLast else cZ x
def gk(rs:ck):ByteArray:=⟨(dC rs).toArray⟩
def AH(x:eb):aP:=(x.getD 0 default).Box.Style
def eI(x:eb):ay :=
 { cV with Text:=gk (cZ x),Width:=xY (AH x).FontSize 0 (JD x),Space:=bif Bp x then JU 32 (AH x).FontSize else 0,Above:=(j6 (AH x)).1,Below:=(j6 (AH x)).2 }
theorem DL{rs:ck}(h:∀r∈rs,dx r):rs.length≤(dC rs).length∧(dC rs).length≤4*rs.length:=by
 induction rs with
 | nil=>simp[dC]
 | cons r t b =>
  have:=BB (h r (by simp));have:=b (fun x a=>h x (by simp[a]));rw[Ox,ne,ls];omega
theorem CI(rs:ck):(gk rs).size=(dC rs).length:=by unfold gk;rfl
theorem H0(rs:ck):(gk rs).data.toList=dC rs:=by unfold gk;simp
theorem OW{rs:ck}(h:∀r∈rs,dx r):ir (gk rs) 0=rs:=by
 unfold ir;rw[List.drop_zero,H0,agW h]
theorem Yj{rs:ck}(a:rs≠[])(h:rs.getLast a=32):dC rs=dC rs.dropLast++[32]:=by
 conv=>lhs;rw[←ale a]
 rw[Nt,h];rfl
theorem adn{rs:ck}(a:rs≠[])(h:rs.getLast a=32):(gk rs).extract 0 ((gk rs).size-1)=gk rs.dropLast:=by
 have e:=Yj a h;have b:(gk rs).size=(dC rs.dropLast).length+1:=by rw[CI,e];simp
 apply ByteArray.ext;apply Array.ext';rw[alL,alW,H0,H0,b,e];simp
structure jR(e:aJ):Prop where
 ch:dx e.Char
 soft:e.Soft=true→e.Char=32
theorem Ip{x:eb}(h:∀e∈x,jR e):∀r∈cZ x,dx r:=by
 intro r b;obtain⟨e,a,rfl⟩:=Do.1 b;exact(h e a).ch
section
variable{K:Kn}{n:Nat}{x:eb}
theorem Re(z:x≠[])(I:x.length≤2000)(w:∀e∈x,jR e)(J:8010≤n)(b:Bool):sQ K n x (ints (dC (cZ x))) b=some (eI x):=by
 have H:0<x.length:=List.length_pos_iff.2 z;have v:cZ x≠[]:=by unfold cZ;simp[z]
 have D:(cZ x).length=x.length:=by unfold cZ;simp
 have f:=Ip w;have j:=DL f;have p:dC (cZ x)≠[]:=by intro e;rw[e]at j;have:=j.1;simp only[rv]at this;omega
 have A:aa ((x.length:Int)-1)=((x.length-1:Nat):Int):=by rw[bK (by omega) (by omega)];omega
 have o:bytesOf (ints (dC (cZ x)))=gk (cZ x):=ad2 _;have F:(gk (cZ x)).size=(dC (cZ x)).length:=CI _;have B:aa (((gk (cZ x)).size:Int)-1)=(((gk (cZ x)).size-1:Nat):Int):=by rw[bK (by omega) (by omega)];omega
 have key:∀(a:aP) (Y:ByteArray→Int→Option ay),(∀k l,Y k l=(ql K n k a.FontSize).bind fun t=>(ou K n a).bind fun m=>some ({ cV with Text:=bytesOf (ints (dC (cZ x))),Width:=t,Space:=l,Above:=m.1,Below:=m.2 }:ay))→a=AH x →
   aE (rp (ints (dC (cZ x)))) (aE (aM (aa ((x.length:Int)-1)) x.length) ((some ((List.getD x ((aa ((x.length:Int)-1))).toNat default).Soft)).bind fun s =>
    if s=true then aE (cC (0:Int) (aa (((bytesOf (ints (dC (cZ x)))).size:Int)-1)) (bytesOf (ints (dC (cZ x)))).size) ((some (ByteArray.extract (bytesOf (ints (dC (cZ x)))) (0:Int).toNat ((aa (((bytesOf (ints (dC (cZ x)))).size:Int)-1))).toNat)).bind fun c=>(n7 K n 32 a.FontSize).bind fun d=>Y c d)
    else Y (bytesOf (ints (dC (cZ x)))) 0))=some (eI x):=by
  intro a Y u G;subst G;rw[X6 p,ba,A,dj (by omega) (by omega),ba];simp only[iN,Int.toNat_natCast];have y:(List.getD x (x.length-1) default).Soft=Bp x:=rfl;rw[y,o,B];cases h:Bp x with
  | true =>
   have g:(cZ x).getLast v=32:=by
    have E:x.getD (x.length-1) default∈x:=by rw[bR (by omega)];exact q6 _
    have:=(w _ E).soft (by rw[y];exact h);rw[List.getLast_eq_getElem];unfold cZ;rw[akt];rw[bR (by omega)]at this;simpa using this
   rw[ll rfl,show cC (0:Int) (((gk (cZ x)).size-1:Nat):Int) (gk (cZ x)).size=true by simp only[cC,iO,q7];omega,ba];simp only[Int.toNat_zero,Int.toNat_natCast];rw[adn v g,Mq];simp only[iN];rw[u,Sq K (gk (cZ x).dropLast) _ (by
    have C:=DL (rs:=(cZ x).dropLast) (fun r q=>f r ((alT _).subset q));rw[CI];simp at C;omega),OW (fun r q=>f r ((alT _).subset q)),Vi,o]
   simp only[iN];unfold eI JD;rw[h];rfl
  | false =>
   rw[kc (by simp),u,Sq K (gk (cZ x)) _ (by omega),OW f,Vi,o];simp only[iN];unfold eI JD;rw[h];rfl
 unfold sQ;rw[dj (i:=(0:Int)) (by omega) (by omega)];simp only[ba,iN];cases b with
 | true=>rw[ll rfl];exact key _ (fun c d=>zA K n _ _ c d) (fun _ _=>rfl) rfl
 | false=>rw[kc (by simp)];exact key _ (fun c d=>zz K n _ _ c d) (fun _ _=>rfl) rfl
theorem Y9(l:x≠[])(j:x.length≤2000)(d:∀e∈x,jR e)(k:8010≤n):∀(m i:Nat) (b:Bool),i≤x.length→x.length<m+i→qb K n x m (i:Int) b (ints (dC ((cZ x).take i)))=some (eI x):=by
 intro m
 induction m with
 | zero=>intro i b o p;omega
 | succ m t =>
  intro i b o p;show wc K n x (qb K n x m) i b _=_;unfold wc;have g:(cZ x).length=x.length:=by unfold cZ;simp
  by_cases a:i<x.length
  ·have q:x.getD i default∈x:=by rw[bR a];exact q6 _
   have c:=DL (rs:=(cZ x).take i) (fun r f=>Ip d r (oR f));have h:(cZ x).take (i+1)=(cZ x).take i++[(x.getD i default).Char]:=by
    rw[alA,kb (by rw[g];exact a),bR a];simp[cZ]
   have f:∀b,(ru K n ((List.getD x ((i:Int)).toNat default).Char) b (ints (dC ((cZ x).take i)))).bind (fun u=>qb K n x m (aa ((i:Int)+1)) true u.2.2)=some (eI x):=fun b=>by
    rw[Int.toNat_natCast];obtain⟨y,s⟩:=Z1 (K:=K) (n:=n) (d _ q).ch (L:=ints (dC ((cZ x).take i))) (by rw[aal];simp at c;omega) b;rw[s];simp only[iN];rw[bK (by omega) (by omega),show(i:Int)+1=((i+1:Nat):Int) by omega,← ajJ];have e:dC ((cZ x).take i)++dU (x.getD i default).Char=dC ((cZ x).take (i+1)):=by
     rw[h,Nt];simp[dC]
    rw[e];exact t (i+1) true (by omega) (by omega)
   cases b with
   | true=>rw[ll rfl,ll (by simpa using a),dj (by omega) (by omega),ba];exact f true
   | false=>rw[kc (by simp),ll (by simpa using a),dj (by omega) (by omega),ba];exact f false
  ·have h:(cZ x).take i=cZ x:=Dj (by omega);rw[h];cases b with
   | true=>rw[ll rfl,kc (by simpa using a)];exact Re l j d k true
   | false=>rw[kc (by simp),kc (by simpa using a)];exact Re l j d k false
theorem Kl(d:x≠[])(a:x.length≤2000)(c:∀e∈x,jR e)(b:8010≤n):pb K n x=some (eI x):=by
 unfold pb;exact Y9 d a c b n 0 false (by omega) (by omega)
end
end
noncomputable section
def jv(e:aJ):Bool:=e.Box.Style.WhiteSpace == 2
def nj(a:eb):aJ:=a.getD (a.length-1) default
def ul(a:eb):Bool:=a.isEmpty||((nj a).Soft||(nj a).Kind == 2)
def nM(a:eb)(e:aJ):eb :=
  bif jM e.Char then
    (bif jv e then (bif e.Char == 10 then a++[{ e with Kind:=2,Char:=32 }] else bif e.Char == 13 then a else a++[{ e with Char:=32 }])
     else bif ul a then a else a++[{ e with Soft:=true,Char:=32 }])
  else a++[e]
theorem N3 a e:(nM a e).length≤a.length+1:=by
 grind[nM]
section
variable(K:Kn)(n:Nat)
theorem KJ{a}(b:a.length≤1000000) e:po K n a e=some (a++[{ e with Char:=32 }]):=by
 grind[po,cY,ba]
theorem afb{a:eb}(k:a.length≤1000000)(e:aJ):zO K n e a=some (nM a e):=by
 have j:∀b,ny K n e a b=some (bif b then a else a++[{ e with Soft:=true,Char:=32 }]):=fun b=>by
  unfold ny;cases b with
  | true=>rfl
  | false=>rw[kc (by simp),KJ K n k];rfl
 have o:∀b,jv e=b→∀c,vF K n e a c=some (bif c then a else bif b then a++[{ e with Char:=32 }] else bif ul a then a else a++[{ e with Soft:=true,Char:=32 }]):=fun b s c=>by
  unfold vF;cases c with
  | true=>rfl
  | false =>
   have h:(e.Box.Style.WhiteSpace == 2)=b:=s;rw[kc (by simp),h];cases b with
   | true=>rw[show(!true)=false from rfl,kc (by simp),KJ K n k];rfl
   | false =>
    rw[show(!false)=true from rfl,ll rfl];by_cases f:a=[]
    ·subst f;rw[ll (by simp),j];rfl
    ·have p:0<a.length:=List.length_pos_iff.2 f;have r:aa ((a.length:Int)-1)=((a.length-1:Nat):Int):=by rw[bK (by omega) (by omega)];omega
     have g:a.isEmpty=false:=by cases a;exact absurd rfl f;rfl
     rw[kc (by simp;exact f),r,dj (by omega) (by omega)];simp only[ba,Int.toNat_natCast]
     change (if (nj a).Soft=true then ny K n e a true else ny K n e a ((nj a).Kind == 2))=_
     cases q:(nj a).Soft with
     | true=>rw[ll rfl,j];unfold ul;rw[g,q];rfl
     | false=>rw[kc (by simp),j];unfold ul;rw[g,q];rfl
 have m:∀c,uJ K n e a c=some (bif c then a++[{ e with Kind:=2,Char:=32 }] else bif jv e then (bif e.Char == 13 then a else a++[{ e with Char:=32 }]) else bif ul a then a else a++[{ e with Soft:=true,Char:=32 }]):=fun c=>by
  unfold uJ;cases c with
  | true=>rw[ll rfl,KJ K n k];rfl
  | false =>
   have h:(e.Box.Style.WhiteSpace == 2)=jv e:=rfl;rw[kc (by simp),h];cases d:jv e with
   | true=>rw[ll rfl,o true d];rfl
   | false=>rw[kc (by simp),o false d];rfl
 have i:lO K n e a true=some (bif jv e then (bif e.Char == 10 then a++[{ e with Kind:=2,Char:=32 }] else bif e.Char == 13 then a else a++[{ e with Char:=32 }]) else bif ul a then a else a++[{ e with Soft:=true,Char:=32 }]):=by
  unfold lO;have h:(e.Box.Style.WhiteSpace == 2)=jv e:=rfl;rw[ll rfl,h];cases d:jv e with
  | true=>rw[ll rfl,m,d];rfl
  | false=>rw[kc (by simp),m,d];rfl
 have f:lO K n e a false=some (a++[e]):=by
  unfold lO;rw[kc (by simp),cY (by simp;omega) (by omega),ba]
 unfold zO nM jM;cases t:(e.Char == 9) with
 | true=>rw[ll rfl,i];rfl
 | false =>
  rw[kc (by simp)];cases l:(e.Char == 10) with
  | true=>rw[ll rfl,i,l];rfl
  | false =>
   rw[kc (by simp)];cases q3:(e.Char == 13) with
   | true=>rw[ll rfl,i,l,q3];rfl
   | false =>
    rw[kc (by simp)];cases u:(e.Char == 32) with
    | true=>rw[i,l,q3];rfl
    | false=>rw[f];rfl
end
def nB(b:ab):Bool:=(jN (KN 0) 0 b).getD false
def rm(b:ab)(a:Int)(c:eb)(rs:ck):eb:=rs.foldl (fun o r=>nM o ⟨1,a,r,false,b⟩) c
def vM:Nat→d3→Int×eb→Int×eb
  | 0,_,s=>s
  | d+1,L,s=>L.foldl (fun s b=>bif nB b then
      (bif b.Kind == 2 then vM d b.Kids (aa (s.1+1),s.2)
       else bif b.Kind == 4 then (aa (s.1+1),s.2++[⟨2,aa (s.1+1),0,false,b⟩])
       else bif b.Kind == 5 then (aa (s.1+1),s.2++[⟨3,aa (s.1+1),0,false,b⟩])
       else bif b.Kind == 3 then (aa (s.1+1),rm b (aa (s.1+1)) s.2 (ir b.Text 0))
       else (aa (s.1+1),s.2)) else s) s
def gU (d : Nat) (s : Int × eb) (b : ab) : Int × eb := bif nB b then
      (bif b.Kind == 2 then vM d b.Kids (aa (s.1+1),s.2)
       else bif b.Kind == 4 then (aa (s.1+1),s.2++[⟨2,aa (s.1+1),0,false,b⟩])
       else bif b.Kind == 5 then (aa (s.1+1),s.2++[⟨3,aa (s.1+1),0,false,b⟩])
       else bif b.Kind == 3 then (aa (s.1+1),rm b (aa (s.1+1)) s.2 (ir b.Text 0))
       else (aa (s.1+1),s.2)) else s
theorem kW d L s:vM (d+1) L s=L.foldl (gU d) s:=rfl
def ex:Nat→d3→Nat
 | 0,_=>0
 | d+1,L=>(L.map fun b=>1+b.Text.size+ex d b.Kids).sum
def Dp:Nat→d3→Prop
 | 0,_=>False
 | d+1,L=>L.length≤1000∧∀b∈L,b.Text.size≤1000∧(b.Kind=2→Dp d b.Kids)
theorem Lb b c:∀rs a,(rm b c a rs).length≤a.length+rs.length
 | [],a=>by simp[rm]
 | r::t,a=>by
  have:=Lb b c t (nM a ⟨1,c,r,false,b⟩);have:=N3 a ⟨1,c,r,false,b⟩
  grind[rm]
theorem adC b p:(ir b p).length≤b.size:=by
 grind[ir,Xe,yi]
theorem NC d(a:∀L s,(vM d L s).2.length≤s.2.length+ex d L) s b:(gU d s b).2.length≤s.2.length+(1+b.Text.size+ex d b.Kids):=by
 unfold gU;cases nB b with
 | false=>grind
 | true =>
  grind[aa,Lb,ir,adC]
theorem Te:∀(d:Nat) (L:d3) (s:Int×eb),(vM d L s).2.length≤s.2.length+ex d L:=by
 intro d
 induction d with
 | zero=>intro L s;simp[vM,ex]
 | succ d e =>
  intro L
  induction L with
  | nil=>intro s;simp[vM,ex]
  | cons b r a =>
   intro s;have f:=NC d e s b;have c:=a (gU d s b);rw[kW,akr];rw[kW]at c;simp only[ex,th,List.sum_cons]at c⊢;omega
theorem ajE K n b:jN K n b=some (nB b):=by
 have e:jN (KN 0) 0 b=jN K n b:=rfl;have:ww (jN K n b):=by
  repeat first|exact O7 _|apply Q1
 obtain⟨u,a⟩:=this
 grind[nB]
theorem aeu(K:Kn)(n:Nat)(L:d3)(i b:Int)(C:Int→Int→eb→Option (Int×eb))(j:i.toNat<L.length):∀(m p:Nat) (a:eb),(L.getD i.toNat default).Text.size-p<m→a.length+((L.getD i.toNat default).Text.size-p)≤900000 →
  uv K n L i b C m p a=C (aa (i+1)) (aa (b+1)) (rm (L.getD i.toNat default) (aa (b+1)) a (ir (L.getD i.toNat default).Text p)):=by
 intro m
 induction m with
 | zero=>intro p a h;omega
 | succ m e =>
  intro p a f g;show vL K n L i b C (uv K n L i b C m) p a=_;unfold vL;by_cases c:p<(L.getD i.toNat default).Text.size
  ·have k:=Sx (L.getD i.toNat default).Text p;rw[ll (by simpa using c)];simp only[iN];rw[afb K n (by omega)];simp only[iN];have d:=N3 a ⟨1,aa (b+1),((Utf8.decode (L.getD i.toNat default).Text p).1:Int),false,L.getD i.toNat default⟩;rw[e _ _ (by omega) (by omega),R3 c];rfl
  ·rw[kc (by grind),R0 c];rfl
theorem ab3:∀(d N:Nat) (L:d3) (s:Int×eb),Dp d L→s.2.length+ex d L≤800000→d+1100≤N→nh (KN N) N L s.1 s.2=some (vM d L s):=by
 intro d
 induction d with
 | zero=>intro N L s h;exact h.elim
 | succ d z =>
  intro N L s n B A;obtain⟨N,rfl⟩:∃M,N=M+1:=⟨N-1,by omega⟩;unfold Dp at n;unfold nh;have k:∀(m i:Nat) (s:Int×eb),i≤L.length→L.length<m+i→s.2.length+ex (d+1) (L.drop i)≤800000→rj (KN (N+1)) (N+1) L m (i:Int) s.1 s.2=some (vM (d+1) (L.drop i) s):=by
   intro m
   induction m with
   | zero=>intro i s t u;omega
   | succ m p =>
    intro i s t u q;show uz (KN (N+1)) (N+1) L (rj (KN (N+1)) (N+1) L m) i s.1 s.2=_;unfold uz;by_cases j:i<L.length
    ·have r:L.getD i default∈L:=by rw[bR j];exact q6 _
     have o:L.drop i=L.getD i default::L.drop (i+1):=by rw[l3 j,bR j]
     have y:aa ((i:Int)+1)=((i+1:Nat):Int):=by rw[bK (by omega) (by omega)];omega
     rw[o]at q⊢;rw[kW,akr,← kW];have x:=NC d (Te d) s (L.getD i default);have v:s.2.length+((1+(L.getD i default).Text.size+ex d (L.getD i default).Kids)+ex (d+1) (L.drop (i+1)))≤800000:=by
      simpa only[ex,th,List.sum_cons]using q
     have l:=p (i+1) (gU d s (L.getD i default)) (by omega) (by omega) (by omega);rw[ll (by simpa using j),dj (by omega) (by omega),ba,ajE];simp only[iN,Int.toNat_natCast];have step:∀s',gU d s (L.getD i default)=s'→rj (KN (N+1)) (N+1) L m (aa ((i:Int)+1)) s'.1 s'.2=some (vM (d+1) (L.drop (i+1)) (gU d s (L.getD i default))):=fun s' e=>by
      rw[←e,y];exact l
     cases g:nB (L.getD i default) with
     | false =>
      rw[show(!false)=true from rfl,ll rfl];unfold mG;exact step s (by unfold gU;rw[g];rfl)
     | true =>
      rw[show(!true)=false from rfl,kc (by simp)];cases a:((L.getD i default).Kind == 2) with
      | true =>
       have w:(L.getD i default).Kind=2:=by simpa using a
       have:=z N (L.getD i default).Kids (aa (s.1+1),s.2) ((n.2 _ r).2 w) (by simp only[];omega) (by omega);rw[ll rfl];show((nh (KN N) N (L.getD i default).Kids (aa (s.1+1)) s.2).bind _)=_;rw[show nh (KN N) N (L.getD i default).Kids (aa (s.1+1)) s.2=_ from this];simp only[iN];unfold kJ mG;exact step _ (by unfold gU;rw[g,a];rfl)
      | false =>
       rw[kc (by simp)];cases b:((L.getD i default).Kind == 4) with
       | true =>
        rw[ll rfl,cY (by simp;omega) (by omega),ba];unfold kJ mG;exact step (_,_) (by unfold gU;rw[g,a,b];rfl)
       | false =>
        rw[kc (by simp)];cases f:((L.getD i default).Kind == 5) with
        | true =>
         rw[ll rfl,cY (by simp;omega) (by omega),ba];unfold kJ mG;exact step (_,_) (by unfold gU;rw[g,a,b,f];rfl)
        | false =>
         rw[kc (by simp)];cases c:((L.getD i default).Kind == 3) with
         | true =>
          have C:=(n.2 _ r).1;rw[ll rfl,aeu (KN (N+1)) (N+1) L i s.1 _ (by simpa using j) (N+1) 0 s.2 (by rw[Int.toNat_natCast];omega) (by rw[Int.toNat_natCast];omega)];rw[Int.toNat_natCast];exact step (_,_) (by unfold gU;rw[g,a,b,f,c];rfl)
         | false =>
          rw[kc (by simp)];unfold kJ mG;exact step (_,_) (by unfold gU;rw[g,a,b,f,c];rfl)
    ·rw[kc (by simpa using j),mo (by omega)];rfl
  have:=k (N+1) 0 s (by omega) (by omega) (by grind)
  grind
def fi(d:Nat)(L:d3):eb:=(vM d L (0,[])).2
theorem Ky{d N}{L}(a:Dp d L)(c:ex d L≤800000)(b:d+1100≤N):pE (KN N) N L=some (fi d L):=by
 unfold pE;rw[show nh (KN N) N L 0 []=_ from ab3 d N L (0,[]) a (by grind) b];rfl
theorem Du d L:(fi d L).length≤ex d L:=by
 grind[Te,fi]
theorem ahu{P:aJ→Prop}{a}{e}(h:∀x∈a,P x)(b:jM e.Char=false→P e)(c:jv e=true→P { e with Kind:=2,Char:=32 })(d:jv e=true→P { e with Char:=32 })(f:jv e=false→P { e with Soft:=true,Char:=32 }):∀x∈nM a e,P x:=by
 grind[nM]
theorem Dc{P:aJ→Prop} b a(g:∀r,dx r→(jM r=false→P ⟨1,a,r,false,b⟩))(d:P ⟨2,a,32,false,b⟩)(e:b.Style.WhiteSpace=2→P ⟨1,a,32,false,b⟩)(f:b.Style.WhiteSpace≠2→P ⟨1,a,32,true,b⟩):∀rs c,(∀r∈rs,dx r)→(∀x∈c,P x)→∀x∈rm b a c rs,P x
 | [],c,_,h=>h
 | r::t,c,j,h=>by
  refine Dc b a g d e f t _ (fun x l=>j x (by grind)) (ahu h (fun k=>g r (by grind) k) (fun _=>d) (fun i=>e (by grind[jv])) (fun i=>f (by grind[jv])))
theorem ajP{P:aJ→Prop}(i:∀(b:ab) (a r:Int),dx r→jM r=false→P ⟨1,a,r,false,b⟩)(j:∀(b:ab) (a:Int),P ⟨2,a,32,false,b⟩)(k:∀(b:ab) (a:Int),b.Style.WhiteSpace=2→P ⟨1,a,32,false,b⟩)(l:∀(b:ab) (a:Int),b.Style.WhiteSpace≠2→P ⟨1,a,32,true,b⟩)
  (m:∀(b:ab) (a:Int),P ⟨2,a,0,false,b⟩) (n:∀(b:ab) (a:Int),P ⟨3,a,0,false,b⟩):∀(d:Nat) (L:d3) (s:Int×eb),(∀x∈s.2,P x)→∀x∈(vM d L s).2,P x:=by
 have g:∀{e:eb} (y:aJ),(∀x∈e,P x)→P y→∀x∈e++[y],P x:=fun y h q x c=>by
  rcases nw.1 c with c|c
  ·exact h x c
  ·rw[aix.1 c];exact q
 intro d
 induction d with
 | zero=>intro L s h;exact h
 | succ d t =>
  intro L
  induction L with
  | nil=>intro s h;exact h
  | cons b r f =>
   intro s h;rw[kW,akr,← kW];refine f _ ?_;unfold gU;cases nB b with
   | false=>exact h
   | true =>
    simp only[akW];cases (b.Kind == 2) with
    | true=>exact t _ _ h
    | false =>
     simp only[akG];cases (b.Kind == 4) with
     | true=>exact g _ h (m _ _)
     | false =>
      simp only[akG];cases (b.Kind == 5) with
      | true=>exact g _ h (n _ _)
      | false =>
       simp only[akG];cases (b.Kind == 3) with
       | true=>exact Dc b _ (fun r o p=>i b _ r o p) (j b _) (k b _) (l b _) _ _ FU h
       | false=>exact h
theorem GH:dx 32:=by grind[dx]
theorem MY:dx 0:=by grind[dx]
theorem Cy d L:∀x∈fi d L,jR x :=
 ajP (fun b a r c _=>⟨c,fun h=>by grind⟩) (fun b a=>⟨GH,fun _=>rfl⟩) (fun b a _=>⟨GH,fun _=>rfl⟩) (fun b a _=>⟨GH,fun _=>rfl⟩) (fun b a=>⟨MY,fun h=>by grind⟩) (fun b a=>⟨MY,fun h=>by grind⟩) d L (0,[]) (fun x e=>by grind)
end
structure R4 where
 w:Int
 s:Int
 g:Bool
 f:Bool
instance:Inhabited R4:=⟨⟨0,0,false,false⟩⟩
def vI(r:ay):R4:=⟨r.Width,r.Space,r.Glued,r.Forced⟩
theorem yd{L:d5}{k:Nat}(h:k<L.length):(L.map vI)[k]'(by simpa using h)=vI (L.getD k default):=by
 rw[bR h];simp
def gr(l:List R4)(i:Nat):Nat:=i+((l.drop i).takeWhile R4.g).length
theorem mu(l:List R4)(i:Nat):i≤gr l i:=ak5 _ _
theorem T1{α:Type}(p:α→Bool):∀l:List α,(l.takeWhile p).length≤l.length
 | []=>lc _
 | x::r=>by
  rw[akD];split
  ·simp;exact T1 p r
  ·simp
theorem wP{l:List R4}{i:Nat}(h:i≤l.length):gr l i≤l.length:=by
 have:=T1 R4.g (l.drop i);simp at this;unfold gr;omega
theorem afY{l:List R4}{i:Nat}(h:i<l.length)(a:l[i].g=true):gr l i=gr l (i+1):=by
 unfold gr;rw[l3 h,akD,ll a];simp;omega
theorem ajp{l:List R4}{i:Nat}(h:i<l.length)(a:l[i].g=false):gr l i=i:=by
 unfold gr;rw[l3 h,akD,kc (by simp[a])];simp
theorem aiB{l:List R4}{i:Nat}(h:l.length≤i):gr l i=i:=by
 unfold gr;rw[mo h];simp
def wS(n a:Int):List R4→Int
 | []=>aa (n-a)
 | r::t=>wS (aa (n+aa (r.w+r.s))) (if r.f then a else r.s) t
def fQ(l:List R4):Int:=wS 0 0 l
def t9(n:Int):List R4→Int
 | []=>n
 | r::t=>t9 (aa (n+aa (r.w+r.s))) t
def hJ(x:Int):List R4→Int
 | []=>x
 | r::t=>hJ (if r.f then x else r.s) t
theorem TK:∀(l:List R4) (n a:Int),wS n a l=aa (t9 n l-hJ a l)
 | [],n,a=>rfl
 | r::t,n,a=>by unfold wS t9 hJ;exact TK t _ _
theorem EE:∀(l m:List R4) (x:Int),hJ x (l++m)=hJ (hJ x l) m
 | [],m,x=>rfl
 | r::t,m,x=>by simp only[agP,hJ];exact EE t m _
theorem Yq(n:Int):aa (aa n)=aa n:=by
 have : -9223372036854775808≤aa n∧aa n≤9223372036854775807:=by unfold aa;rw[akE];omega
 exact bK this.1 this.2
section
variable{K:Kn}{n:Nat}{L:d5}
theorem ajq:∀(m:Nat) (i:Int),0≤i→i≤L.length→L.length<m+i.toNat→(L.length:Int)<9223372036854775807→sD K n L m i=some ((gr (L.map vI) i.toNat:Nat):Int):=by
 intro m
 induction m with
 | zero=>intro i c f g;omega
 | succ m j =>
  intro i c f g h;show tm K n L (sD K n L m) i=_;unfold tm;by_cases a:i<(L.length:Int)
  ·have b:i.toNat<L.length:=by omega
   rw[ll (by simpa using a),dj c a,ba];unfold sv;have e:=yd b;cases d:(L.getD i.toNat default).Glued with
   | true =>
    rw[ll rfl,bK (by omega) (by omega),j (i+1) (by omega) (by omega) (by omega) h];rw[afY (l:=L.map vI) (i:=i.toNat) (by simpa using b) (by rw[e];exact d),show(i+1).toNat=i.toNat+1 by omega]
   | false =>
    rw[kc (by simp)];rw[ajp (l:=L.map vI) (i:=i.toNat) (by simpa using b) (by rw[e];exact d)];congr 1;omega
  ·rw[kc (by simpa using a)];unfold sv;rw[kc (by simp),aiB (by simp;omega)];congr 1;omega
theorem JZ{i:Int}(b:0≤i)(c:i<L.length)(d:L.length<n)(a:(L.length:Int)<9223372036854775807):rz K n L i=some ((gr (L.map vI) (i.toNat+1):Nat):Int):=by
 unfold rz;rw[bK (by omega) (by omega),ajq n (i+1) (by omega) (by omega) (by omega) a,show(i+1).toNat=i.toNat+1 by omega]
theorem aif:∀(m:Nat) (k:Nat),k≤L.length→k<m→(L.length:Int)<9223372036854775807 →
  ∃j:Int,oY K n L m ((k:Int)-1)=some j∧((j = -1∧∀x,hJ x ((L.map vI).take k)=x)∨(0≤j∧j<k∧∀x,hJ x ((L.map vI).take k)=(L.getD j.toNat default).Space)):=by
 intro m
 induction m with
 | zero=>intro k _ h;omega
 | succ m r =>
  intro k s t p;show ∃j,n4 K n L (oY K n L m) ((k:Int)-1)=some j∧_;unfold n4;cases k with
  | zero=>rw[kc (by simp)];exact⟨-1,rfl,.inl ⟨rfl,fun x=>by simp[hJ]⟩⟩
  | succ k =>
   have e:(((k+1:Nat):Int)-1)=(k:Int):=by omega
   rw[e,ll (by simp),dj (by omega) (by omega),ba,Int.toNat_natCast];have d:k<L.length:=by omega
   have q:=yd d;have g:(L.map vI).take (k+1)=(L.map vI).take k++[vI (L.getD k default)]:=by
    rw[alA,kb (by simpa using d),q];rfl
   cases f:(L.getD k default).Forced with
   | false =>
    rw[show(!false)=true from rfl,ll rfl];refine⟨(k:Int),rfl,.inr ⟨by omega,by omega,fun x=>?_⟩⟩;rw[g,EE,Int.toNat_natCast];simp only[hJ,vI,f,jf,sj]
   | true =>
    rw[show(!true)=false from rfl,kc (by simp),bK (by omega) (by omega)];obtain⟨j,l,o⟩:=r k (by omega) (by omega) p;refine⟨j,l,?_⟩;have i:∀x,hJ x ((L.map vI).take (k+1))=hJ x ((L.map vI).take k):=fun x=>by
     rw[g,EE];simp only[hJ,vI,f,AT]
    obtain⟨a,b⟩|⟨a,b,c⟩:=o
    ·exact .inl ⟨a,fun x=>(i x).trans (b x)⟩
    ·exact .inr ⟨a,by omega,fun x=>(i x).trans (c x)⟩
theorem ad7(d:L.length<n)(c:(L.length:Int)<9223372036854775807):∃j:Int,nS K n L=some j∧((j = -1∧∀x,hJ x (L.map vI)=x)∨(0≤j∧j<L.length∧∀x,hJ x (L.map vI)=(L.getD j.toNat default).Space)):=by
 unfold nS;rw[bK (by omega) (by omega)];obtain⟨j,b,a⟩:=aif (K:=K) (n:=n) (L:=L) n L.length (lc _) d c;refine⟨j,b,?_⟩;rw[Dj (by simp)]at a;exact a
theorem WM(q:L.length<n)(p:(L.length:Int)<9223372036854775807):∀(m:Nat) (x i:Int),0≤i→i≤L.length→L.length<m+i.toNat→aa x=x →
  t9 0 (L.map vI)=t9 x ((L.map vI).drop i.toNat)→rK K n L m x i=some (fQ (L.map vI)):=by
 intro m
 induction m with
 | zero=>intro x i d f g;omega
 | succ m s =>
  intro x i d f g r b;show tW K n L (rK K n L m) x i=_;unfold tW;by_cases c:i<(L.length:Int)
  ·have e:i.toNat<L.length:=by omega
   rw[ll (by simpa using c),dj d c,ba,bK (n:=i+1) (by omega) (by omega)];refine s _ (i+1) (by omega) (by omega) (by omega) (Yq _) ?_;rw[b,l3 (by simpa using e),yd e,show(i+1).toNat=i.toNat+1 by omega];rfl
  ·rw[kc (by simpa using c)];rw[mo (by simp;omega)]at b;simp only[t9]at b;obtain⟨j,h,k⟩:=ad7 (K:=K) (L:=L) q p;rw[h];simp only[iN,xK];unfold fQ;rw[TK,b];obtain⟨rfl,a⟩|⟨a,l,o⟩:=k
   ·rw[kc (by simp),a];simp[r]
   ·rw[ll (by simpa using a),dj a l,ba,o]
theorem BE(a:L.length<n)(b:(L.length:Int)<9223372036854775807):oC K n L=some (fQ (L.map vI)):=by
 unfold oC;exact WM a b n 0 0 (by omega) (by omega) (by simpa using a) (by unfold aa;rw[akE];omega) rfl
end
def sl{α:Type}(l:List α)(a b:Nat):List α:=List.drop a (List.take b l)
theorem Fx{α β:Type}(f:α→β)(l:List α)(a b:Nat):(sl l a b).map f=sl (l.map f) a b:=by unfold sl;rw[alE,List.map_take]
theorem yF{α:Type}(l:List α)(a b:Nat):(sl l a b).length≤l.length:=by unfold sl;simp;omega
def lE(l:List R4)(w:Int)(a:Nat):Nat→Nat→Nat
 | 0,e=>e
 | m+1,e=>if e<l.length∧(l.getD (e-1) default).f=false∧¬ fQ (sl l a (gr l (e+1)))>w then lE l w a m (gr l (e+1)) else e
def bM(l:List R4)(w:Int):Nat→Nat→ed
 | 0,_=>[]
 | m+1,a=>if a<l.length then a::bM l w m (lE l w a l.length (gr l (a+1))) else []
theorem Bb(l:List R4)(w:Int)(a:Nat):∀m e,e≤lE l w a m e
 | 0,e=>lc _
 | m+1,e=>by
  unfold lE;split
  ·have:=Bb l w a m (gr l (e+1));have:=mu l (e+1);omega
  ·exact lc _
theorem Fh(l:List R4)(w:Int)(a:Nat):∀m e,e≤l.length→lE l w a m e≤l.length
 | 0,e,h=>h
 | m+1,e,h=>by
  unfold lE;split
  ·rename_i b;exact Fh l w a m _ (wP (by omega))
  ·exact h
theorem ajj(l:List R4)(w:Int)(a:Nat):∀(m b e:Nat),l.length≤m+e→l.length≤b+e→lE l w a m e=lE l w a b e:=by
 intro m
 induction m with
 | zero =>
  intro b e h c;cases b with
  | zero=>rfl
  | succ b=>unfold lE;rw[kc (by omega)]
 | succ m d =>
  intro b e h c;cases b with
  | zero=>unfold lE;rw[kc (by omega)]
  | succ b =>
   unfold lE;split
   ·have:=mu l (e+1);exact d b _ (by omega) (by omega)
   ·rfl
theorem Zu(l:List R4)(w:Int):∀(m b a:Nat),l.length<m+a→l.length<b+a→bM l w m a=bM l w b a:=by
 intro m
 induction m with
 | zero =>
  intro b a h c;cases b with
  | zero=>rfl
  | succ b=>unfold bM;rw[kc (by omega)]
 | succ m d =>
  intro b a h c;cases b with
  | zero=>unfold bM;rw[kc (by omega)]
  | succ b =>
   unfold bM;split
   ·have:=Bb l w a l.length (gr l (a+1));have:=mu l (a+1);rw[d b _ (by omega) (by omega)]
   ·rfl
theorem G4(l:List R4)(w:Int):∀(m a:Nat),(bM l w m a).length≤l.length-a
 | 0,a=>by simp[bM]
 | m+1,a=>by
  unfold bM;split
  ·have:=G4 l w m (lE l w a l.length (gr l (a+1)));have:=Bb l w a l.length (gr l (a+1));have:=mu l (a+1);simp;omega
  ·simp
section
variable{K:Kn}{n:Nat}{L:d5}{w:Int}
theorem ag6(u:L.length<n)(r:(L.length:Int)<9223372036854775807)(a:Nat)(b:ck)(C:Int→ck→Option ck):∀(m e:Nat),1≤e→a≤e→e≤L.length→L.length<m+e →
  ve K n L w a b C m e=C ((lE (L.map vI) w a m e:Nat):Int) (b++[(a:Int)]):=by
 intro m
 induction m with
 | zero=>intro e j o p q;omega
 | succ m y =>
  intro e j o p q;show vA K n L w a b C (ve K n L w a b C m) e=_;unfold vA lE;by_cases d:e<L.length
  ·rw[ll (by simpa using d),bK (by omega) (by omega),dj (by omega) (by omega),ba];unfold sO;have h:((e:Int)-1).toNat=e-1:=by omega
   have x:=yd (L:=L) (k:=e-1) (by omega);have g:((L.map vI).getD (e-1) default).f=(L.getD ((e:Int)-1).toNat default).Forced:=by
    rw[bR (by simp;omega),x,h];rfl
   cases f:(L.getD ((e:Int)-1).toNat default).Forced with
   | true =>
    rw[show(!true)=false from rfl,kc (by simp),kc (by rw[g,f];simp)];rfl
   | false =>
    have s:=wP (l:=L.map vI) (i:=e+1) (by simp;omega);have t:=mu (L.map vI) (e+1);simp only[nx]at s;rw[show(!false)=true from rfl,ll rfl,JZ (by omega) (by omega) u r];simp only[iN,Int.toNat_natCast];rw[show cC (a:Int) ((gr (L.map vI) (e+1):Nat):Int) L.length=true by simp only[cC,iO,q7];omega,ba];have v:List.drop a (List.take (gr (L.map vI) (e+1)) L)=sl L a (gr (L.map vI) (e+1)):=rfl;rw[v,BE (by have:=yF L a (gr (L.map vI) (e+1));omega) (by have:=yF L a (gr (L.map vI) (e+1));omega),Fx];simp only[iN];by_cases c:fQ (sl (L.map vI) a (gr (L.map vI) (e+1)))>w
    ·rw[ll (by simpa using c),kc (by simp[c])];rfl
    ·rw[kc (by simpa using c),ll ⟨by simpa using d,by rw[g,f],c⟩];exact y _ (by omega) (by omega) (by omega) (by omega)
  ·rw[kc (by simpa using d),kc (by simp;omega)];unfold sO;rw[kc (by simp)];rfl
theorem XU(f:L.length<n)(r:(L.length:Int)≤1000000):∀(m a:Nat) (b:ck),a≤L.length→b.length≤a→L.length<m+a→sq K n L w m a b=some (b++(bM (L.map vI) w m a).map fun (k:Nat)=>(k:Int)):=by
 intro m
 induction m with
 | zero=>intro a b g h j;omega
 | succ m q =>
  intro a b g h j;show wC K n L w (sq K n L w m) a b=_;unfold wC bM;by_cases c:a<L.length
  ·rw[ll (by simpa using c),ll (by simpa using c),cY (by simp;omega) (by omega),ba,JZ (by omega) (by omega) f (by omega)];simp only[iN,Int.toNat_natCast];have d:=wP (l:=L.map vI) (i:=a+1) (by simp;omega);have p:=mu (L.map vI) (a+1);simp only[nx]at d;rw[ag6 f (by omega) a b _ n _ (by omega) (by omega) d (by omega)];rw[ajj (L.map vI) w a n (L.map vI).length _ (by simp;omega) (by simp)];have e:=Fh (L.map vI) w a (L.map vI).length (gr (L.map vI) (a+1)) (by simpa using d);have o:=Bb (L.map vI) w a (L.map vI).length (gr (L.map vI) (a+1));simp only[nx]at e o⊢;rw[q _ _ e (by simp;omega) (by omega)];simp[rl]
  ·rw[kc (by simpa using c),kc (by simpa using c)];simp
theorem aaI(b:L.length<n)(a:(L.length:Int)≤1000000):yS K n L w=some ((bM (L.map vI) w (L.length+1) 0).map fun (k:Nat)=>(k:Int)):=by
 unfold yS;rw[show(0:Int)=((0:Nat):Int) from rfl,XU b a n 0 [] (by omega) (by simp) (by omega),Zu (L.map vI) w n (L.length+1) 0 (by simp;omega) (by simp)];simp
end
noncomputable section
def jl(o:Int):aJ→eb→Nat
 | _,[]=>0
 | a,b::r=>bif b.Kind == 1&&(b.Of == o&&!iy a b) then jl o b r+1 else 0
theorem CP(o:Int):∀(l:eb) (a:aJ),jl o a l≤l.length
 | [],_=>lc _
 | b::r,a=>by
  unfold jl;cases (b.Kind == 1&&(b.Of == o&&!iy a b)) with
  | true=>have:=CP o r b;simp;omega
  | false=>simp
def rL(p:Option aJ)(e:aJ):Bool:=match p with
 | none=>false
 | some q=>q.Kind != 2&&!iy q e
def runM(x:ay)(e:aJ)(g:Bool):ay:={ x with Node:=e.Box.Node,Style:=e.Box.Style,Glued:=g }
def cM(pl:ab→ay):Nat→Option aJ→eb→d5
 | 0,_,_=>[]
 | _+1,_,[]=>[]
 | m+1,p,e::r =>
  bif e.Kind == 2 then runM { cV with Forced:=true } e (rL p e)::cM pl m (some e) r
  else bif e.Kind == 3 then runM (pl e.Box) e (rL p e)::cM pl m (some e) r
  else runM (eI (e::r.take (jl e.Of e r))) e (rL p e)::cM pl m (some (nj (e::r.take (jl e.Of e r)))) (r.drop (jl e.Of e r))
def dI(L:eb)(i:Nat):Option aJ:=if i=0 then none else some (L.getD (i-1) default)
theorem Bm{α:Type}[Inhabited α]{L:List α}{i k:Nat}(h:i<L.length):sl L i (i+1+k)=L.getD i default::(L.drop (i+1)).take k:=by
 unfold sl;rw[List.drop_take,show i+1+k-i=k+1 by omega,l3 h,List.take_succ_cons,bR h]
theorem Bf{α:Type}{L:List α}{a b:Nat}{x:α}(h:x∈sl L a b):x∈L:=by
 unfold sl at h;exact oR (w3 h)
theorem D9{α:Type}{L:List α}{a b:Nat}(h:b≤L.length):(sl L a b).length=b-a:=by unfold sl;simp;omega
theorem GY{L:eb}{i k:Nat}(h:i+k<L.length):nj (L.getD i default::(L.drop (i+1)).take k)=L.getD (i+k) default:=by
 rw[←Bm (by omega)];unfold nj;have c:=D9 (L:=L) (a:=i) (b:=i+1+k) (by omega);rw[c,bR (by rw[c];omega),bR h];unfold sl;rw[List.getElem_drop,List.getElem_take];congr 1;omega
section
variable{K:Kn}{n:Nat}{v2:Fv}{L:eb}{pl:ab→ay}
theorem afM(q:∀e∈L,jR e)(G:L.length≤2000)(z:8010≤n)(i:Nat)(c:d5)(g:Bool)(C:Int→d5→Option d5)(E:i<L.length):∀(m x:Nat),i<x→x≤L.length→L.length<m+x →
  qy K n v2 L (i:Int) c g C m (x:Int)=lA K n v2 L i c g C ((x+jl (L.getD i default).Of (L.getD (x-1) default) (L.drop x):Nat):Int) (eI (sl L i (x+jl (L.getD i default).Of (L.getD (x-1) default) (L.drop x)))):=by
 have h:∀y:Nat,i<y→y≤L.length→∀(D:Int→Option d5),lz K n v2 L (i:Int) c g (y:Int) C D false=lA K n v2 L i c g C (y:Int) (eI (sl L i y)):=fun y l j D=>by
  unfold lz;have r:List.drop i (List.take y L)=sl L i y:=rfl;have d:=D9 (L:=L) (a:=i) (b:=y) j;rw[kc (by simp),show cC (i:Int) (y:Int) L.length=true by simp only[cC,iO,q7];omega,ba];simp only[Int.toNat_natCast];rw[r,Kl (by intro e;rw[e]at d;simp at d;omega) (by omega) (fun e w=>q e (Bf w)) z];rfl
 intro m
 induction m with
 | zero=>intro x l j t;omega
 | succ m B =>
  intro x l j t;show sN K n v2 L i c g C (qy K n v2 L i c g C m) x=_;unfold sN;by_cases k:x<L.length
  ·have p:L.drop x=L.getD x default::L.drop (x+1):=by rw[l3 k,bR k]
   have o:L.getD x default∈L:=by rw[bR k];exact q6 _
   have u:L.getD (x-1) default∈L:=by rw[bR (by omega)];exact q6 _
   have s:aa ((x:Int)-1)=((x-1:Nat):Int):=by rw[bK (by omega) (by omega)];omega
   rw[ll (by simpa using k),dj (by omega) (by omega)];simp only[ba,Int.toNat_natCast,s];rw[p];unfold jl;have f:∀{b:Bool},b=false→lz K n v2 L (i:Int) c g (x:Int) C (qy K n v2 L i c g C m) false=lA K n v2 L i c g C ((x+(bif b then jl (L.getD i default).Of (L.getD x default) (L.drop (x+1))+1 else 0):Nat):Int) (eI (sl L i (x+(bif b then jl (L.getD i default).Of (L.getD x default) (L.drop (x+1))+1 else 0)))):=fun {b} o=>by
    subst o;exact h x l j _
   cases F:((L.getD x default).Kind == 1) with
   | false=>rw[kc (by simp)];exact f rfl
   | true =>
    rw[ll rfl];cases A:((L.getD x default).Of == (L.getD i default).Of) with
    | false=>rw[kc (by simp)];exact f rfl
    | true =>
     rw[ll rfl,dj (by omega) (by omega),ba,uq K (by omega) (q _ u).ch (q _ o).ch];simp only[iN];cases v:iy (L.getD (x-1) default) (L.getD x default) with
     | true=>exact f rfl
     | false =>
      unfold lz;rw[show(!false)=true from rfl,ll rfl,bK (by omega) (by omega),show(x:Int)+1=((x+1:Nat):Int) by omega,B (x+1) (by omega) (by omega) (by omega)];simp only[ahK,alF,akW];rw[show x+1+jl (L.getD i default).Of (L.getD x default) (L.drop (x+1))=x+(jl (L.getD i default).Of (L.getD x default) (L.drop (x+1))+1) by omega]
  ·rw[kc (by simpa using k),mo (by omega)];unfold jl;exact h x l j _
theorem HB(i:Nat)(a:d5)(g:Bool)(C:Int→d5→Option d5)(b:a.length≤1000000)(y:Int)(x:ay):lA K n v2 L (i:Int) a g C y x=C y (a++[runM x (L.getD i default) g]):=by
 unfold lA;simp only[iN,Int.toNat_natCast];rw[cY (by simp;omega) (by omega),ba];rfl
theorem WC(l:∀e∈L,jR e)(z:L.length≤2000)(A:8010≤n)(o:∀e∈L,e.Kind=3→K.sy v2 e.Box=some (pl e.Box)):∀(m i:Nat) (a:d5),i≤L.length→L.length<m+i→a.length≤i →
  pM K n v2 L m (i:Int) a=some (a++cM pl m (dI L i) (L.drop i)):=by
 intro m
 induction m with
 | zero=>intro i a u v;omega
 | succ m q =>
  intro i a u v C;show si K n v2 L (pM K n v2 L m) i a=_;unfold si;by_cases c:i<L.length
  ·have h:L.drop i=L.getD i default::L.drop (i+1):=by rw[l3 c,bR c]
   have s:L.getD i default∈L:=by rw[bR c];exact q6 _
   rw[ll (by simpa using c),dj (by omega) (by omega)];simp only[ba,Int.toNat_natCast];rw[h];have p:aa ((i:Int)+1)=((i+1:Nat):Int):=by rw[bK (by omega) (by omega)];omega
   have b:dI L (i+1)=some (L.getD i default):=by unfold dI;rw[kc (by omega),ahK]
   have key:∀g,g=rL (dI L i) (L.getD i default)→rC K n v2 L (i:Int) a (pM K n v2 L m) g=some (a++cM pl (m+1) (dI L i) (L.getD i default::L.drop (i+1))):=by
    intro g x;unfold rC cM;simp only[iN,Int.toNat_natCast];rw[←x];cases D:((L.getD i default).Kind == 2) with
    | true =>
     rw[ll rfl,HB i a g _ (by omega),p,q (i+1) _ (by omega) (by omega) (by simp;omega),b];simp[rl]
    | false =>
     rw[kc (by simp)];cases B:((L.getD i default).Kind == 3) with
     | true =>
      rw[ll rfl,o _ s (by simpa using B)];simp only[iN];rw[HB i a g _ (by omega),p,q (i+1) _ (by omega) (by omega) (by simp;omega),b];simp[rl]
     | false =>
      rw[kc (by simp),p,afM l z A i a g _ c n (i+1) (by omega) (by omega) (by omega),ahK];simp only[akG];have y:=CP (L.getD i default).Of (L.drop (i+1)) (L.getD i default);rw[ahP]at y;generalize jl (L.getD i default).Of (L.getD i default) (L.drop (i+1))=k at *;rw[HB i a g _ (by omega),q (i+1+k) _ (by omega) (by omega) (by simp;omega),Bm c,GY (by omega),aky];have f:dI L (i+1+k)=some (L.getD (i+k) default):=by unfold dI;rw[kc (by omega)];congr 2;omega
      rw[f];simp[rl]
   by_cases r:i=0
   ·rw[kc (by simp;omega)];exact key false (by unfold dI;rw[ll r];rfl)
   ·have w:L.getD (i-1) default∈L:=by rw[bR (by omega)];exact q6 _
    have t:aa ((i:Int)-1)=((i-1:Nat):Int):=by rw[bK (by omega) (by omega)];omega
    have f:dI L i=some (L.getD (i-1) default):=by unfold dI;rw[kc r]
    rw[ll (by simp;omega),t,dj (by omega) (by omega)];simp only[ba,Int.toNat_natCast];by_cases d:((L.getD (i-1) default).Kind != 2)=true
    ·rw[ll d,uq K (by omega) (l _ w).ch (l _ s).ch];simp only[iN];exact key _ (by rw[f];show _=((L.getD (i-1) default).Kind != 2&&!iy (L.getD (i-1) default) (L.getD i default));rw[d];rfl)
    ·rw[kc d];have j:((L.getD (i-1) default).Kind != 2)=false:=by simpa using d
     exact key false (by rw[f];show _=((L.getD (i-1) default).Kind != 2&&!iy (L.getD (i-1) default) (L.getD i default));rw[j];rfl)
  ·rw[kc (by simpa using c),mo (by omega)];simp[cM]
theorem O9(pl:ab→ay):∀(m a:Nat) (p:Option aJ) (l:eb),l.length<m→l.length<a→cM pl m p l=cM pl a p l:=by
 intro m
 induction m with
 | zero=>intro a p l h;omega
 | succ m b =>
  intro a p l h c;cases a with
  | zero=>omega
  | succ a =>
   cases l with
   | nil=>rfl
   | cons e r =>
    simp only[ls]at h c;unfold cM;rw[b a (some e) r (by omega) (by omega),b a _ (r.drop (jl e.Of e r)) (by simp;omega) (by simp;omega)]
theorem Tq(pl:ab→ay):∀(m:Nat) (p:Option aJ) (l:eb),(cM pl m p l).length≤l.length:=by
 intro m
 induction m with
 | zero=>intro p l;simp[cM]
 | succ m a =>
  intro p l;cases l with
  | nil=>simp[cM]
  | cons e r =>
   unfold cM;have c:=a (some e) r;have b:=a (some (nj (e::r.take (jl e.Of e r)))) (r.drop (jl e.Of e r));rw[ahP]at b;cases (e.Kind == 2) with
   | true=>simp;omega
   | false =>
    cases (e.Kind == 3) with
    | true=>simp;omega
    | false=>simp;omega
def rq(pl:ab→ay)(L:eb):d5:=cM pl (L.length+1) none L
end
theorem acA{N d:Nat}{B:d3}{v2:Fv}{pl:ab→ay}(c:Dp d B)(g:ex d B≤2000)(f:d+9000≤N)(a:∀e∈fi d B,e.Kind=3→(KN N).sy v2 e.Box=some (pl e.Box)):
  tK (KN N) N B v2=some (rq pl (fi d B)):=by
 have b:=Du d B;unfold tK;rw[Ky c (by omega) (by omega)];simp only[iN];rw[show(0:Int)=((0:Nat):Int) from rfl,WC (pl:=pl) (Cy d B) (by omega) (by omega) a N 0 [] (by omega) (by omega) (by simp),List.drop_zero,Io];unfold rq;rw[O9 pl N ((fi d B).length+1) _ _ (by omega) (by omega)];rfl
end
noncomputable section
theorem Br(b:ByteArray):b.toList=b.data.toList:=ByteArray.toList_eq b
theorem Xz:(⟨#[]⟩:ByteArray).toList=[]:=by rw[Br]
def lv(b:ByteArray):Bool:=b.data.toList.getLast? == some 32
theorem ad6(K:Kn)(n:Nat){b:ByteArray}(i:b.size≤1000000):AQ K n b ⟨#[32]⟩=some (lv b):=by
 have g:(⟨#[32]⟩:ByteArray).size=1:=rfl;unfold AQ Cr zL lv;rw[g];by_cases h:1≤b.size
 ·have d:aa ((b.size:Int)-((1:Nat):Int))=((b.size-1:Nat):Int):=by rw[bK (by omega) (by omega)];omega
  rw[ll (by simp;omega),d,show cC ((b.size-1:Nat):Int) (b.size:Int) b.size=true by simp only[cC,iO,q7];omega,ba];simp only[iN,Int.toNat_natCast];rw[Br,Br,alL,alW];have c:b.data.toList.length=b.size:=rfl;generalize b.data.toList=l at c;rw[←c]at h⊢;have a:l≠[]:=by intro e;rw[e]at h;simp at h
  have:(l.take l.length).drop (l.length-1)=[l.getLast a]:=by
   rw[akj]
   conv=>lhs;rw[←ale a]
   rw[ne,List.length_dropLast];simp
  rw[List.extract_eq_drop_take,List.getLast?_eq_some_getLast a];have f:List.take (l.length-(l.length-1)) (List.drop (l.length-1) l)=[l.getLast a]:=by
   rw[←this,akj,Dj (by simp)]
  rw[f];show some ([l.getLast a] == [32])=some (some (l.getLast a) == some 32);congr 1;cases j:(l.getLast a == 32)<;>simp_all
 simp_all
def BI(b:ByteArray):ByteArray:=b.extract 0 (b.size-1)
def stripR(r:ay):ay:=bif lv r.Text&&r.Style.WhiteSpace != 2 then { r with Text:=BI r.Text,Space:=0 } else r
def E0(a x:Int)(b:ae):ae:={ b with X:=aa (b.X+x),Y:=aa (b.Y+(aa ((aa (a-b.H))-aa (b.After.Pos+b.After.Neg)))) }
def JP(s:Int):Int:=min (max s 0) 1048576
def Wa(s:Int):Int:=aa (JP s+(aa (Int.tdiv (aa (JP s+3)) 4)))
def CF(a x:Int)(r:ay):dn:=bif r.Text.data.toList.isEmpty then [] else [⟨3,r.Node,x,aa (a-JP r.Style.FontSize),aa (r.Width+r.Space),Wa r.Style.FontSize,0,r.Text,r.Style,dF,dF,false,[]⟩]
def mN(a x:Int)(r:ay):dn:=CF a x r++r.Box.map (E0 a x)
def jA(a b:Int):Int→Int→d5→dn
 | _,_,[]=>[]
 | i,x,r::t =>
  let c:=bif i == b then stripR r else r
  mN a x c++jA a b (i+1) (aa (x+aa (c.Width+c.Space))) t
section
variable{K:Kn}{n:Nat}{L:d5}{s:aP}{w a d e:Int}
theorem ai5(r:ay)(i:Int)(C:Int→Int→dn→Option ae)(x:Int)(o:r.Box.length≤1000):∀(m j:Nat) (b:dn),j≤r.Box.length→r.Box.length<m+j→b.length≤1000000+j →
  sH K n L s w a d e x i r C m (j:Int) b=C (aa (x+aa (r.Width+r.Space))) (aa (i+1)) (b++(r.Box.drop j).map (E0 a x)):=by
 intro m
 induction m with
 | zero=>intro j b f g;omega
 | succ m k =>
  intro j b f g l;show ue K n L s w a d e x i r C (sH K n L s w a d e x i r C m) j b=_;unfold ue;by_cases c:j<r.Box.length
  ·have h:r.Box.drop j=r.Box.getD j default::r.Box.drop (j+1):=by rw[l3 c,bR c]
   rw[ll (by simpa using c),dj (by omega) (by omega)];simp only[ba,iN,Int.toNat_natCast,gy];rw[cY (by simp;omega) (by omega),ba,bK (n:=(j:Int)+1) (by omega) (by omega),show(j:Int)+1=((j+1:Nat):Int) by omega,k (j+1) _ (by omega) (by omega) (by simp;omega),h,th];rw[rl];rfl
  ·rw[kc (by simpa using c),mo (by omega)];simp
theorem aiU(r:ay)(i:Int)(C:Int→Int→dn→Option ae)(x:Int)(j:r.Box.length≤1000)(m:1001≤n)(f:dn)(k:f.length≤900000):
  n0 K n L s w a d e x i f C r=C (aa (x+aa (r.Width+r.Space))) (aa (i+1)) (f++mN a x r):=by
 unfold n0;rw[Br,Xz];simp only[iN];have g:∀c:dn,c.length≤1000000→sc K n L s w a d e x i r C c=C (aa (x+aa (r.Width+r.Space))) (aa (i+1)) (c++r.Box.map (E0 a x)):=fun c h=>by
  unfold sc;rw[show(0:Int)=((0:Nat):Int) from rfl,ai5 r i C x j n 0 c (by omega) (by omega) (by omega),List.drop_zero]
 unfold mN CF;cases l:r.Text.data.toList with
 | nil =>
  rw[kc (by simp),g f (by omega)];simp
 | cons b t =>
  rw[ll (by simp)];simp only[yW,zx,qd,iN];rw[cY (by simp;omega) (by omega),ba,g _ (by simp;omega)];simp only[List.isEmpty_cons,akG,rl];rfl
theorem aaH(D:∀r∈L,r.Box.length≤1∧r.Text.size≤100000)(P:L.length≤2000)(Q:2002≤n):∀(m i:Nat) (x:Int) (b:dn),i≤L.length→L.length<m+i→b.length≤2*i →
  nc K n L s w a d e m x (i:Int) b=some { bU with Kind:=2,W:=w,H:=aa (a+d),aC:=a,Style:=s,Kids:=b++jA a e i x (L.drop i) }:=by
 intro m
 induction m with
 | zero=>intro i x b B C;omega
 | succ m J =>
  intro i x b B C O;show vJ K n L s w a d e (nc K n L s w a d e m) x i b=_;unfold vJ;by_cases l:i<L.length
  ·have E:L.drop i=L.getD i default::L.drop (i+1):=by rw[l3 l,bR l]
   have F:L.getD i default∈L:=by rw[bR l];exact q6 _
   obtain⟨u,N⟩:=D _ F;have v:aa ((i:Int)+1)=((i+1:Nat):Int):=by rw[bK (by omega) (by omega)];omega
   rw[ll (by simpa using l),dj (by omega) (by omega),ba];simp only[Int.toNat_natCast];have M:∀(y:Int) (r:ay),r.Box.length≤1→(mN a y r).length≤2:=fun y r h=>by
    unfold mN CF;cases r.Text.data.toList.isEmpty<;>simp<;>omega
   have step:∀g:ay,g.Box=(L.getD i default).Box→n0 K n L s w a d e x i b (nc K n L s w a d e m) g=some { bU with Kind:=2,W:=w,H:=aa (a+d),aC:=a,Style:=s,Kids:=b++(mN a x g++jA a e ((i:Int)+1) (aa (x+aa (g.Width+g.Space))) (L.drop (i+1))) }:=fun g q=>by
    have G:=M x g (by rw[q];exact u);rw[aiU g i _ x (by rw[q];omega) (by omega) b (by omega),v,J (i+1) _ _ (by omega) (by omega) (by simp;omega)];rw[rl];rfl
   rw[E];unfold jA;by_cases f:(i:Int)=e
   ·rw[ll (by simpa using f),ad6 K n (by omega)];simp only[iN];rw[show((i:Int) == e)=true by simpa using f];simp only[akW];have t:∀c:Bool,oQ K n L s w a d e x i b (nc K n L s w a d e m) (lv (L.getD i default).Text&&c)=n0 K n L s w a d e x i b (nc K n L s w a d e m) (bif lv (L.getD i default).Text&&c then { L.getD i default with Text:=BI (L.getD i default).Text,Space:=0 } else L.getD i default):=fun c=>by
     unfold oQ;simp only[Int.toNat_natCast];cases j:lv (L.getD i default).Text with
     | false=>rw[kc (by simp)];rfl
     | true =>
      cases c with
      | false=>rw[kc (by simp)];rfl
      | true =>
       have I:1≤(L.getD i default).Text.size:=by
        unfold lv at j;rcases Nat.eq_zero_or_pos (L.getD i default).Text.size with o|o
        ·have:(L.getD i default).Text.data.toList=[]:=ob (by rw[yi];exact o);rw[this]at j;simp at j
        ·exact o
       have z:aa (((L.getD i default).Text.size:Int)-1)=(((L.getD i default).Text.size-1:Nat):Int):=by rw[bK (by omega) (by omega)];omega
       rw[ll (show(true&&true)=true from rfl),z,show cC (0:Int) (((L.getD i default).Text.size-1:Nat):Int) (L.getD i default).Text.size=true by simp only[cC,iO,q7];omega,ba];simp only[Int.toNat_natCast,Int.toNat_zero];rfl
    have p:stripR (L.getD i default)=(bif lv (L.getD i default).Text&&(L.getD i default).Style.WhiteSpace != 2 then { L.getD i default with Text:=BI (L.getD i default).Text,Space:=0 } else L.getD i default):=rfl;rw[p];have k:∀c:Bool,(bif c then { L.getD i default with Text:=BI (L.getD i default).Text,Space:=0 } else L.getD i default:ay).Box=(L.getD i default).Box:=fun c=>by cases c<;>rfl
    cases j:lv (L.getD i default).Text with
    | true =>
     rw[ll rfl];have:=t ((L.getD i default).Style.WhiteSpace != 2);rw[j,alb]at this;rw[this,alb];exact step _ (k _)
    | false =>
     rw[kc (by simp)];have:=t false;rw[j,Bool.false_and]at this;rw[this,Bool.false_and];exact step _ rfl
   ·rw[kc (by simpa using f)];have A:((i:Int) == e)=false:=by simpa using f
    rw[A];unfold oQ;rw[kc (by simp)];simp only[Int.toNat_natCast,akG];exact step _ rfl
  grind[jA]
end
def ke:Int×Int→d5→Int×Int
 | p,[]=>p
 | p,r::t=>ke (bif r.Forced then p else (max p.1 r.Above,max p.2 r.Below)) t
theorem W8 p r t:ke p (r::t)=ke (bif r.Forced then p else (max p.1 r.Above,max p.2 r.Below)) t:=rfl
def pH(i a:Int):d5→Int
 | []=>a
 | r::t=>pH (i+1) (bif r.Forced then a else i) t
def Dw(L:d5):Int:=pH 0 (-1) L
def zT(s:aP)(w u:Int):Int:=(vp (KN 0) 0 s w u).getD 0
def pY(s:aP)(w:Int)(L:d5):ae :=
 { bU with Kind:=2,W:=w,H:=aa ((ke (j6 s) L).1+(ke (j6 s) L).2),aC:=(ke (j6 s) L).1,Style:=s,Kids:=[]++jA (ke (j6 s) L).1 (Dw L) 0 (zT s w (fQ (L.map vI))) L }
theorem Pm:∀a r i b,pH i b (a++[r])=bif r.Forced then pH i b a else i+a.length
 | [],r,i,b=>by simp[pH]
 | x::t,r,i,b=>by
  simp only[agP,pH];rw[Pm t r (i+1)]
  grind
theorem acX K n s w u:vp K n s w u=some (zT s w u):=by
 grind[vp,zT]
section
variable{K:Kn}{n:Nat}{L:d5}{s:aP}{w:Int}
theorem abP:∀(m k:Nat),k≤L.length→k<m→(L.length:Int)<9223372036854775807→oY K n L m ((k:Int)-1)=some (pH 0 (-1) (L.take k)):=by
 intro m
 induction m with
 | zero=>intro k _ h;omega
 | succ m f =>
  intro k i j b;show n4 K n L (oY K n L m) ((k:Int)-1)=_;unfold n4;cases k with
  | zero=>rw[kc (by simp)];rfl
  | succ k =>
   have e:(((k+1:Nat):Int)-1)=(k:Int):=by omega
   have a:k<L.length:=by omega
   have d:L.take (k+1)=L.take k++[L.getD k default]:=by
    rw[alA,kb a,bR a];rfl
   rw[e,ll (by simp),dj (by omega) (by omega),ba,Int.toNat_natCast,d,Pm];have c:(L.take k).length=k:=by simp;omega
   cases g:(L.getD k default).Forced with
   | false=>rw[show(!false)=true from rfl,ll rfl,c];simp
   | true=>rw[show(!true)=false from rfl,kc (by simp),bK (by omega) (by omega),f k (by omega) (by omega) b];rfl
theorem ajr(b:L.length<n)(a:(L.length:Int)<9223372036854775807):nS K n L=some (Dw L):=by
 unfold nS;rw[bK (by omega) (by omega),abP n L.length (by omega) b a,akj];rfl
theorem aaO(h:∀r∈L,r.Box.length≤1∧r.Text.size≤100000)(k:L.length≤2000)(l:2002≤n):∀(m i:Nat) (p:Int×Int),i≤L.length→L.length<m+i→ke (j6 s) L=ke p (L.drop i)→uY K n L s w m p.1 p.2 (i:Int)=some (pY s w L):=by
 intro m
 induction m with
 | zero=>intro i p f g;omega
 | succ m d =>
  intro i p f g a;show vV K n L s w (uY K n L s w m) p.1 p.2 i=_;unfold vV;by_cases b:i<L.length
  ·have j:L.drop i=L.getD i default::L.drop (i+1):=by rw[l3 b,bR b]
   rw[j,W8]at a;have e:aa ((i:Int)+1)=((i+1:Nat):Int):=by rw[bK (by omega) (by omega)];omega
   rw[ll (by simpa using b),dj (by omega) (by omega),ba];simp only[Int.toNat_natCast];unfold zl;rw[e];cases c:(L.getD i default).Forced with
   | false =>
    rw[c]at a;rw[show(!false)=true from rfl,ll rfl];exact d (i+1) (_,_) (by omega) (by omega) a
   | true =>
    rw[c]at a;rw[show(!true)=false from rfl,kc (by simp)];exact d (i+1) p (by omega) (by omega) a
  ·rw[mo (by omega)]at a;have a:ke (j6 s) L=p:=a;rw[kc (by simpa using b),BE (by omega) (by omega)];simp only[iN,acX];rw[ajr (by omega) (by omega)];simp only[iN];rw[show(0:Int)=((0:Nat):Int) from rfl,aaH h k l n 0 _ [] (by omega) (by omega) (by simp),List.drop_zero];unfold pY;rw[a];rfl
theorem aiT(a:∀r∈L,r.Box.length≤1∧r.Text.size≤100000)(b:L.length≤2000)(c:2002≤n):Eo K n L s w=some (pY s w L):=by
 exact aaO a b c n 0 (j6 s) (by omega) (by omega) rfl
end
def jh(s:aP)(w:Int)(X:d5):Int→ed→dn×Int
 | h,a::b::r =>
  let f:=pY s w (sl X a b)
  let q:=jh s w X (aa (h+f.H)) (b::r)
  ({ f with Y:=h }::q.1,q.2)
 | h,_=>([],h)
theorem Vx s w X:∀S h,(jh s w X h S).1.length≤S.length
 | [],h=>by simp[jh]
 | [a],h=>by simp[jh]
 | a::b::r,h=>by
  have:=Vx s w X (b::r) (aa (h+(pY s w (sl X a b)).H))
  grind[jh]
section
variable{K:Kn}{n:Nat}{X:d5}{s:aP}{w:Int}
def BZ(N:Nat):ed→Prop
 | a::b::r=>a≤b∧b≤N∧BZ N (b::r)
 | _=>True
theorem P0{N}:∀{S},BZ N S→∀i,i+1<S.length→S.getD i 0≤S.getD (i+1) 0∧S.getD (i+1) 0≤N
 | [],_,i,h=>by grind
 | [a],_,i,h=>by grind
 | a::b::r,h,0,_=>⟨h.1,h.2.1⟩
 | a::b::r,h,i+1,c=>by
  have:=P0 h.2.2 i (by grind)
  grind
theorem acm(C:∀r∈X,r.Box.length≤1∧r.Text.size≤100000)(J:X.length≤2000)(L:2010≤n)(v:Int)(D:min (max v 0) 1048576=w)(c S:ed)(A:S=c++[X.length])(z:BZ X.length S)(B:S.length≤2001):∀(m i:Nat) (h:Int) (a:dn),i<S.length→S.length<m+i→a.length≤i →
  tz K n s v X (c.map fun (k:Nat)=>(k:Int)) m h ((S.length-1:Nat):Int) (i:Int) a=some (a++(jh s w X h (S.drop i)).1,(jh s w X h (S.drop i)).2):=by
 have g:(c.map fun (k:Nat)=>(k:Int))++[(X.length:Int)]=S.map fun (k:Nat)=>(k:Int):=by rw[A];simp
 have b:∀j,j<S.length→(S.map fun (k:Nat)=>(k:Int)).getD j default=((S.getD j 0:Nat):Int):=fun j p=>by
  rw[bR (by simpa using p),akt];congr 1;simp[List.getD,p]
 intro m
 induction m with
 | zero=>intro i h a e y;omega
 | succ m E =>
  intro i h a e y H;show tA K n s v X (c.map fun (k:Nat)=>(k:Int)) (tz K n s v X (c.map fun (k:Nat)=>(k:Int)) m) h ((S.length-1:Nat):Int) i a=_;unfold tA;have t:aa ((i:Int)+1)=((i+1:Nat):Int):=by rw[bK (by omega) (by omega)];omega
  rw[g,t];have o:S.drop i=S.getD i 0::S.drop (i+1):=by rw[l3 e];congr 1;simp[List.getD,e]
  by_cases f:i+1<S.length
  ·have u:=b i e;have x:=b (i+1) f;obtain⟨F,G⟩:=P0 z i f;have d:S.drop (i+1)=S.getD (i+1) 0::S.drop (i+2):=by rw[l3 f];congr 1;simp[List.getD,f]
   rw[ll (by simp;omega),dj (by omega) (by simp;omega),ba,dj (by omega) (by simp;omega),ba];simp only[Int.toNat_natCast,u,x];rw[show cC ((S.getD i 0:Nat):Int) ((S.getD (i+1) 0:Nat):Int) X.length=true by simp only[cC,iO,q7];omega,ba];have l:List.drop (S.getD i 0) (List.take (S.getD (i+1) 0) X)=sl X (S.getD i 0) (S.getD (i+1) 0):=rfl;have I:=yF X (S.getD i 0) (S.getD (i+1) 0);rw[l,D,aiT (fun r q=>C r (by unfold sl at q;exact oR (w3 q))) (by omega) (by omega)];simp only[iN];rw[cY (by simp;omega) (by omega),ba,E (i+1) _ _ (by omega) (by omega) (by simp;omega),o,d]
   conv=>rhs;unfold jh
   rw[←d];simp[rl]
  ·rw[kc (by simp;omega),o,mo (by omega)];simp[jh]
end
end
noncomputable section
theorem Yk(l:List R4)(w:Int)(m a:Nat)(b:a≤l.length)(c:l.length<m+a):∃r,bM l w m a++[l.length]=a::r:=by
 cases m with
 | zero=>omega
 | succ m =>
  unfold bM;by_cases h:a<l.length
  ·rw[ll h];exact⟨_,rfl⟩
  ·rw[kc h];exact⟨[],by rw[Io,show a=l.length by omega]⟩
theorem acY(l:List R4)(w:Int):∀(m a:Nat),a≤l.length→l.length<m+a→BZ l.length (bM l w m a++[l.length]):=by
 intro m
 induction m with
 | zero=>intro a c d;omega
 | succ m f =>
  intro a c d;unfold bM;by_cases h:a<l.length
  ·rw[ll h];have g:=wP (l:=l) (i:=a+1) (by omega);have j:=mu l (a+1);have q3:=Fh l w a l.length _ g;have k:=Bb l w a l.length (gr l (a+1));have b:=f (lE l w a l.length (gr l (a+1))) q3 (by omega);obtain⟨r,e⟩:=Yk l w m (lE l w a l.length (gr l (a+1))) q3 (by omega);rw[agP];rw[e]at b⊢;exact⟨by omega,q3,b⟩
  ·rw[kc h];trivial
theorem MT{P:ay→Prop}{pl:ab→ay}(o:∀e g,P (runM { cV with Forced:=true } e g)):∀(m:Nat) (p:Option aJ) (l:eb),(∀e∈l,e.Kind=3→∀g,P (runM (pl e.Box) e g))→(∀e g (x:eb),x≠[]→x.length≤l.length→(∀y∈x,y∈l)→P (runM (eI x) e g))→∀r∈cM pl m p l,P r:=by
 intro m
 induction m with
 | zero=>intro p l _ _ r a;cases a
 | succ m i =>
  intro p l f h r a;cases l with
  | nil=>cases a
  | cons e t =>
   unfold cM at a;cases j:(e.Kind == 2) with
   | true =>
    rw[j]at a;rcases ol.1 a with rfl|a
    ·exact o _ _
    ·exact i (some e) t (fun e c=>f e (by simp[c])) (fun e g x d n q3=>h e g x d (by simp;omega) (fun y b=>by simp[q3 y b])) r a
   | false =>
    cases k:(e.Kind == 3) with
    | true =>
     rw[j,k]at a;rcases ol.1 a with rfl|a
     ·exact f e (by simp) (by simpa using k) _
     ·exact i (some e) t (fun e c=>f e (by simp[c])) (fun e g x d n q3=>h e g x d (by simp;omega) (fun y b=>by simp[q3 y b])) r a
    | false =>
     rw[j,k]at a;rcases ol.1 a with rfl|a
     ·refine h _ _ _ (by simp) (by simp;omega) (fun y b=>?_);rcases ol.1 b with rfl|b
      ·simp
      ·exact pt _ (oR b)
     ·refine i _ _ (fun e c=>f e (pt _ (w3 c))) (fun e g x d n q3=>h e g x d (by simp at n⊢;omega) (fun y b=>pt _ (w3 (q3 y b)))) r a
theorem YG{x:eb}(h:∀e∈x,jR e):(eI x).Text.size≤4*x.length:=by
 have:=DL (Ip h);unfold eI;simp only[];rw[CI];have:(cZ x).length=x.length:=by unfold cZ;simp
 omega
def gg(v:Int):Int:=min (max v 0) 1048576
def j8(X:d5)(w:Int):ed:=bM (X.map vI) w (X.length+1) 0++[X.length]
def fW(L:d3):Prop:=∀b∈L,b.Kind=3
theorem aet:∀(L:d3) (s:Int×eb),fW L→(∀x∈s.2,x.Kind≠3)→∀x∈(vM 1 L s).2,x.Kind≠3:=by
 intro L
 induction L with
 | nil=>intro s _ a;exact a
 | cons b r d =>
  intro s e a;rw[kW,akr,← kW];have f:=e b ti;refine d _ (fun c g=>e c (pt _ g)) ?_;unfold gU;rw[f];cases nB b with
  | false=>exact a
  | true=>exact Dc (P:=fun x=>x.Kind≠3) b _ (fun _ _ _=>(by show(1:Int)≠3;decide)) (by show(2:Int)≠3;decide) (fun _=>(by show(1:Int)≠3;decide)) (fun _=>(by show(1:Int)≠3;decide)) _ _ FU a
def IP(b:ab):ay:=cV
def jz(a:d3):d5:=rq IP (fi 1 a)
theorem Ps(a:d3):(jz a).length≤ex 1 a:=by
 unfold jz rq;have b:=Tq IP ((fi 1 a).length+1) none (fi 1 a);have c:=Du 1 a;omega
theorem CG{a:d3}(h:fW a):∀e∈fi 1 a,e.Kind≠3:=aet a (0,[]) h (fun x b=>by cases b)
theorem agl{a:d3}(h:fW a)(i:ex 1 a≤2000):∀r∈jz a,r.Box.length≤1∧r.Text.size≤100000:=by
 have b:=Du 1 a;unfold jz rq;refine MT (P:=fun r=>r.Box.length≤1∧r.Text.size≤100000) (fun e g=>⟨by simp[runM,cV],by show(⟨#[]⟩:ByteArray).size≤100000;decide⟩) _ _ _ (fun e d c g=>absurd c (CG h e d)) (fun e g x j k q3=>⟨by simp[runM,eI,cV],?_⟩);have:=YG (x:=x) (fun y f=>Cy 1 a y (q3 y f));show(eI x).Text.size≤100000;omega
theorem Lg{a:d3}(h:fW a)(d:a.length≤1000)(f:∀b∈a,b.Text.size≤1000):Dp 1 a:=by
 unfold Dp;exact⟨d,fun b c=>⟨f b c,fun e=>by rw[h b c]at e;cases e⟩⟩
theorem abZ{a:d3}(h:fW a)(g:a.length≤1000)(i:∀b∈a,b.Text.size≤1000)(d:ex 1 a≤2000){N:Nat}(j:9001≤N)(w:Int)(env:bw):A5 (KN N) N a w env=some (jz a):=by
 unfold A5;rw[show tK (KN N) N a _=_ from acA (pl:=IP) (Lg h g i) d (by omega) (fun e f c=>absurd c (CG h e f))];rfl
def nq(a:d3)(s:aP)(v:Int):dn×Int:=jh s (gg v) (jz a) 0 (j8 (jz a) (gg v))
theorem ack{a:d3}(h:fW a)(o:a.length≤1000)(q:∀b∈a,b.Text.size≤1000)(j:ex 1 a≤2000){N:Nat}(l:9001≤N)(s:aP)(v:Int)(env:bw):yZ (KN N) N a s v env=some (nq a s v):=by
 have p:=abZ h o q j l (gg v) env;have m:=Ps a;have e:=agl h j;unfold nq;generalize jz a=X at *;unfold yZ;rw[show min (max v 0) 1048576=gg v from rfl,p];simp only[iN];rw[aaI (by omega) (by omega)];simp only[iN];have f:=G4 (X.map vI) (gg v) (X.length+1) 0;simp only[nx]at f;rw[cY (by simp;omega) (by omega),ba];have i:=acY (X.map vI) (gg v) (X.length+1) 0 (by omega) (by simp);rw[nx]at i;have c:(j8 X (gg v)).length≤2001:=by unfold j8;simp only[ne,ls,rv];omega
 have d:0<(j8 X (gg v)).length:=by unfold j8;simp
 have g:(((bM (X.map vI) (gg v) (X.length+1) 0).map fun (k:Nat)=>(k:Int))++[(X.length:Int)]).length=(j8 X (gg v)).length:=by unfold j8;simp
 rw[g,show aa (((j8 X (gg v)).length:Int)-1)=(((j8 X (gg v)).length-1:Nat):Int) by rw[bK (by omega) (by omega)];omega];have:=acm (K:=KN N) (n:=N) (X:=X) (s:=s) (w:=gg v) e (by omega) (by omega) v rfl (bM (X.map vI) (gg v) (X.length+1) 0) (j8 X (gg v)) rfl i c N 0 0 [] d (by omega) (by simp);rw[List.drop_zero,Io]at this;exact this
end
abbrev ci:=dO
def ox(b:Bool)(z:bZ)(a:Int)(f:ae):ae :=
 if b=true then rV { f with X:=aa (f.X+aa (z.Border.a3+z.Padding.a3)),Y:=aa (f.Y+aa (aa (z.Border.a0+z.Padding.a0)+a)) } z.Content
 else { f with X:=aa (f.X+aa (z.Border.a3+z.Padding.a3)),Y:=aa (f.Y+aa (aa (z.Border.a0+z.Padding.a0)+a)) }
theorem aaB b z a f:(ox b z a f).Kids=f.Kids:=by
 grind[ox,NK]
def me(b:ab)(z:bZ)(e:Bool)(L:dn)(d:Int)(c a:bg)(f:Bool)(h:Int):ae :=
 ⟨1,b.Node,z.Margin.a3,0,aa (z.Content+aa (aa (aa (z.Border.a3+z.Padding.a3)+z.Border.a1)+z.Padding.a1)),aa (aa (aa (aa (h+z.Border.a0)+z.Padding.a0)+z.Border.a2)+z.Padding.a2),0,⟨#[]⟩,b.Style,c,a,f,L.map (ox e z d)⟩
theorem IR{α:Type}(A R:List α) x y:(A++x::R).set A.length y=A++y::R:=by
 grind
theorem IZ{α:Type}(A R:List α) x d:(A++x::R).getD A.length d=x:=by grind
theorem adw(K:Kn)(n:Nat)(b:ab)(z:bZ)(v6:d3×Bool)(L:dn)(l q:Int)(S:ci)(d:Int)(i h:bg)(j:Bool)(f H:Int)(w:L.length≤100000)(t:v6.2=true→v6.1.length=L.length∧∀k∈v6.1,eM k=true):
  ∀(m:Nat) (A R:dn),A.length+R.length=L.length→R.length<m→vn K n b z v6 L l q S d i h j f H m (A.length:Int) (A++R) =
   some (⟨1,b.Node,z.Margin.a3,0,aa (z.Content+f),H,0,⟨#[]⟩,b.Style,i,h,j,A++R.map (ox v6.2 z d)⟩,l,q,S):=by
 intro m
 induction m with
 | zero=>intro A R _ p;omega
 | succ m u =>
  intro A R o p;simp only[vn,zj];cases R with
  | nil =>
   have e:A.length=L.length:=by simpa using o
   simp only[D0 (show L.length≤A.length by omega),jf,sj,By]
  | cons x R =>
   simp only[ls]at o p;have s:A.length<L.length:=by omega
   have a:=u (A++[ox v6.2 z d x]) R (by simp;omega) (by omega);simp only[rl,aka,ne,ls,rv,If]at a;simp only[zI s,AT,Int.toNat_natCast,IR,IZ,qi (show A.length<(A++x::R).length by simp),ne,ls,qi (show A.length<A.length+(R.length+1) by omega),ba,NI,iN,xZ,Am,Rr,AC (show A.length<1000000 by omega),th];cases g:v6.2 with
   | false =>
    rw[g]at a;simp only[jf,sj];simp only[ox,jf,sj]at a⊢;exact a
   | true =>
    rw[g]at a;obtain⟨v,r⟩:=t g;have c:A.length<v6.1.length:=by omega
    simp only[AT,qi c,ba,r _ (f9 c)];simp only[ox,AT]at a⊢;exact a
def rH(s:aP)(h:Int):Int:=if s.Height.Kind=1 then max (min (max s.Height.Value (-1048576)) 1048576) 0 else max h 0
def dM(a b:bg):bg:=⟨max a.Pos b.Pos,min a.Neg b.Neg⟩
def iE(x:Int):bg:=⟨max x 0,min x 0⟩
def rr(b:ab)(z:bZ)(t i f:Bool)(h:Int)(k:Bool)(g j:bg)(L:dn):ae :=
 let a:=iE z.Margin.a0
 let c:=iE z.Margin.a2
 let e:=if t=true then 0 else if (!k)=true then aa (g.Pos+g.Neg) else if (!i)=true then aa (g.Pos+g.Neg) else 0
 let d:=if t=true then dM a g else a
 if (k&&(t&&i))=true then me b z f L e (dM d c) (dM d c) true (rH b.Style 0)
 else if k=true then (if i=true then me b z f L e d (dM c g) false (rH b.Style e) else me b z f L e d c false (rH b.Style e))
 else if i=true then me b z f L e d (dM c j) false (rH b.Style (aa (h+e))) else me b z f L e d c false (rH b.Style (aa (h+aa (e+aa (j.Pos+j.Neg)))))
section
variable(K:Kn)(n:Nat)(b:ab)(z:bZ)(L:dn)(e:L.length≤100000)(g:L.length<n)(a c:Int)(S:ci)(v6:d3×Bool)(f:v6.2=true→v6.1.length=L.length∧∀k∈v6.1,eM k=true)
include g e f
theorem sj8 d i g j h:rT K n b z v6 L a c S d i g j h=some (me b z v6.2 L d i g j h,a,c,S):=by
 unfold rT;simp only[Cz];exact adw K n b z v6 L a c S d i g j _ _ e f n [] L (by simp) (by omega)
theorem sj6 d h j i k:mh K n b z v6 L a c S d h j i k=some (me b z v6.2 L d j i k (rH b.Style h),a,c,S):=by
 unfold mh;simp only[ge,za,sj8 K n b z L e g a c S v6 f]
 grind[rH,cI]
theorem Mb(t d:Bool)(h:Int)(i:Bool)(k j:bg):pj K n b z t d v6 h i k j L a c S=some (rr b z t d v6.2 h i k j L,a,c,S):=by
 have l:∀x y,kC K n x y=some (dM x y):=fun x y=>rfl;have o:∀x,gy K n x=some (aa (x.Pos+x.Neg)):=fun x=>rfl;have m:∀x,nr K n x=some (iE x):=fun x=>rfl;unfold pj;simp only[m,iN,xJ,ub,sC,l,o,sj6 K n b z L e g a c S v6 f];unfold rr;cases t<;>cases d<;>cases i<;>simp
end
def pk(f:ab→Int→Int→ci→Option (ae×Int×Int×ci)):d3→Int→Int→ci→Option (dn×Int×Int×ci)
 | [],a,b,S=>some ([],a,b,S)
 | k::r,a,b,S=>(f k a b S).bind fun x=>(pk f r x.2.1 x.2.2.1 x.2.2.2).bind fun y=>some (x.1::y.1,y.2)
theorem ado(K:Kn)(n:Nat)(b:ab)(z:bZ)(g v4:Bool)(env:bw)(v6:d3×Bool)(q:v6.1.length≤1000):
  ∀(m i:Nat) (a:dn) (d e:Int) (S:ci),i≤v6.1.length→v6.1.length<m+i→a.length≤i→qN K n b z g v4 env v6 m i a d e S =
   (pk (fun k=>K.dw env.Layout k z.Content) (v6.1.drop i) d e S).bind fun r=>(lr K n (a++r.1)).bind fun c=>pj K n b z g v4 v6 c.2.1 c.2.2.2.2 c.2.2.1 c.2.2.2.1 c.1 r.2.1 r.2.2.1 r.2.2.2:=by
 intro m
 induction m with
 | zero=>intro i a d e S _ h;omega
 | succ m j =>
  intro i a d e S l h o;simp only[qN,Ah];by_cases f:i<v6.1.length
  ·rw[drop_at' f];simp only[zI f,AT,qi f,ba,Int.toNat_natCast,ls,rv,AC (show i<1000000 by omega),pk];cases p:K.dw env.Layout (v6.1.getD i default) z.Content d e S with
   | none=>rfl
   | some x =>
    simp only[iN];rw[cY (by omega) (by omega),ba,j (i+1) _ _ _ _ (by omega) (by omega) (by simp;omega)];cases pk (fun k=>K.dw env.Layout k z.Content) (v6.1.drop (i+1)) x.2.1 x.2.2.1 x.2.2.2 with
    | none=>rfl
    | some y=>simp only[iN,rl,aka]
  grind[pk]
theorem FB K n l(a:l.length≤100000):rb K n l=some l:=by
 unfold rb oa
 grind[fits,ae,cY,ba]
def DF:Nat→ae→Prop
 | 0,_=>False
 | d+1,f=>f.Kids.length≤3000∧∀k∈f.Kids,DF d k
theorem sJ:∀{d} {f g},f.Kids=g.Kids→DF d g→DF d f
 | 0,_,_,_,h=>h
 | d+1,f,g,e,h=>by grind[DF]
theorem HC:∀{d e} {f},DF d f→d≤e→DF e f
 | 0,_,_,h,_=>h.elim
 | d+1,0,_,_,h=>by omega
 | d+1,e+1,f,h,b=>⟨h.1,fun k a=>HC (h.2 k a) (by omega)⟩
theorem ZM{d}{b}{z}{e}{L}{g}{c a}{i}{h}(k:L.length≤3000)(j:∀f∈L,DF d f):DF (d+1) (me b z e L g c a i h):=by
 unfold DF
 grind[me,ox,sJ,aaB]
theorem Sb{d}{b}{z}{t e o}{h}{g}{c a}{L}(j:L.length≤3000)(i:∀f∈L,DF d f):DF (d+1) (rr b z t e o h g c a L):=by
 grind[rr,ZM]
theorem C1 N:∀x,(KN (N+1)).ld (Fv.fn 145) x=some (eM x):=fun x=>NI (KN N) N x
theorem aa8{a}(h:fW a):∀r∈jz a,r.Box=[]:=by
 exact MT (P:=fun r=>r.Box=[]) (fun e g=>rfl) _ _ _ (fun e c b g=>absurd b (CG h e c)) (fun e g x d f q3=>rfl)
theorem ajn{f}(h:f.Kids=[]):DF 1 f:=by grind[DF]
theorem RQ(a b:Int):∀(X:d5) (i x:Int),(∀r∈X,r.Box=[])→(jA a b i x X).length≤X.length∧∀f∈jA a b i x X,DF 1 f
 | [],i,x,_=>⟨by simp[jA],fun f c=>by simp[jA]at c⟩
 | r::t,i,x,h=>by
  have g:=h r ti;have l:(bif i == b then stripR r else r).Box=[]:=by
   cases (i == b)
   ·exact g
   ·show(stripR r).Box=[];unfold stripR;cases (lv r.Text&&r.Style.WhiteSpace != 2)<;>exact g
  simp only[jA];generalize (bif i == b then stripR r else r)=e at *;obtain⟨m,j⟩:=RQ a b t (i+1) (aa (x+aa (e.Width+e.Space))) (fun q k=>h q (pt _ k));have d:(mN a x e).length≤1∧∀f∈mN a x e,DF 1 f:=by
   unfold mN CF;rw[l];cases e.Text.data.toList.isEmpty with
   | true=>exact⟨by simp,fun f c=>by simp at c⟩
   | false=>exact⟨by simp,fun f c=>by simp at c;subst c;exact ajn rfl⟩
  refine⟨by rw[ne,ls];omega,fun f c=>?_⟩;rcases nw.1 c with c|c
  ·exact d.2 f c
  ·exact j f c
theorem acv{s}{w}{X}(h:∀r∈X,r.Box=[])(e:X.length≤3000):DF 2 (pY s w X):=by
 obtain⟨d,a⟩:=RQ (ke (j6 s) X).1 (Dw X) X 0 (zT s w (fQ (X.map vI))) h;exact⟨by show([]++jA _ _ _ _ X).length≤3000;grind,fun k b=>a k (by have c:k∈[]++jA (ke (j6 s) X).1 (Dw X) 0 (zT s w (fQ (X.map vI))) X:=b;grind)⟩
theorem Np{s}{w}{X}(h:∀r∈X,r.Box=[])(d:X.length≤3000):∀S y,∀f∈(jh s w X y S).1,DF 2 f
 | [],y=>fun f c=>by grind[jh]
 | [a],y=>fun f c=>by grind[jh]
 | a::b::r,y=>fun f c=>by
  simp only[jh,ol]at c;rcases c with rfl|c
  ·have g:∀q∈sl X a b,q.Box=[]:=fun q e=>h q (Bf e)
   grind[sl,sJ,pY,acv]
  ·exact Np h d (b::r) _ f c
theorem adz{a}(h:fW a)(e:ex 1 a≤2000) s v:(nq a s v).1.length≤2001∧∀f∈(nq a s v).1,DF 2 f:=by
 have b:=Ps a;unfold nq;have d:=Vx s (gg v) (jz a) (j8 (jz a) (gg v)) 0;have c:=G4 ((jz a).map vI) (gg v) ((jz a).length+1) 0
 grind[Np,aa8,j8]
theorem Xy{x y:cF}:fJ x y=true↔x=y:=by
 cases x;cases y;simp[fJ]
theorem UF{α:Type}[Inhabited α]{L:List α}{i:Nat}(h:i<L.length):L.set i (L.getD i default)=L:=by
 rw[bR h];exact List.set_getElem_self h
theorem ahI(K:Kn)(n:Nat)(f:ae)(L:dn)(g:L.length≤100000)(d:∀k∈L,K.w5 k=some k):∀(m i:Nat),i≤L.length→L.length<m+i →
  t7 K n f L m i L=some { f with Kids:=L }:=by
 intro m
 induction m with
 | zero=>intro i b c;omega
 | succ m e =>
  intro i b c;simp only[t7,xR];by_cases a:i<L.length
  ·simp only[fw a,AT,dK a,ba,Int.toNat_natCast,d _ (f9 a),iN,UF a];rw[fg (by omega)];exact e (i+1) (by omega) (by omega)
  ·simp only[fA (show L.length≤i by omega),jf,sj]
theorem En:∀(d N:Nat) (f:ae),DF d f→d+3010≤N→oZ (KN N) N f=some f
 | 0,_,_,h,_=>h.elim
 | d+1,0,_,_,h=>by omega
 | d+1,N+1,f,h,b=>by
  unfold DF at h;unfold oZ;rw[FB _ _ _ (by omega),iN];have e:=ahI (KN (N+1)) (N+1) f f.Kids (by omega) (fun k a=>En d N k (h.2 k a) (by omega)) (N+1) 0 (v9 _) (by omega);rw[show((0:Nat):Int)=0 from rfl]at e;rw[e];cases f;rfl
theorem aas(K:Kn)(n:Nat)(f:ae)(L:dn)(g:L.length≤100000)(d:∀k∈L,K.zf k=some k):∀(m i:Nat),i≤L.length→L.length<m+i →
  rM K n f L m i L=some { f with Kids:=L }:=by
 intro m
 induction m with
 | zero=>intro i b c;omega
 | succ m e =>
  intro i b c;simp only[rM,AU];by_cases a:i<L.length
  ·simp only[fw a,AT,dK a,ba,Int.toNat_natCast,d _ (f9 a),iN,UF a];rw[fg (by omega)];exact e (i+1) (by omega) (by omega)
  ·simp only[fA (show L.length≤i by omega),jf,sj]
theorem Uu:∀(d N:Nat) (f:ae),DF d f→d+3010≤N→sP (KN N) N f=some f
 | 0,_,_,h,_=>h.elim
 | d+1,0,_,_,h=>by omega
 | d+1,N+1,f,h,b=>by
  unfold DF at h;unfold sP;rw[FB _ _ _ (by omega),iN];have e:=aas (KN (N+1)) (N+1) f f.Kids (by omega) (fun k a=>Uu d N k (h.2 k a) (by omega)) (N+1) 0 (v9 _) (by omega);rw[show((0:Nat):Int)=0 from rfl]at e;rw[e];cases f;rfl
def aeO(w:Int)(m:aA):Prop:=m.Width=w∧bQ m.Box≤100∧DF (bQ m.Box+2) m.Fragment
def fc(b:ab)(w:Int)(m:aA):Bool:=m.Width == w&&gp m.Box b
def tF(b:ab)(w a c:Int)(S R:ci):ae×Bool×Int×Int×ci :=
 match R.find? (fc b w) with
 | some m=>(m.Fragment,true,a,c,S)
 | none=>(bU,false,a,c,S)
theorem adN(N:Nat)(b:ab)(w:Int)(f:ae)(a e:Int)(S:ci)(i:S.length≤3000)(h:3200≤N)(d:Nat)(g:DF d f)(c:d≤150)(j:0≤a∧a<100000):AR (KN N) N b w f a e S=some (a+1,e,S++[⟨b,w,f⟩]):=by
 unfold AR;rw[En d N f g (by omega),iN];simp only[List.length_singleton];rw[cY (by omega) (by omega),ba,bK (by omega) (by omega)]
namespace Wd
theorem je x:0≤dQ x∧dQ x≤1048576:=by grind[dQ]
theorem wk l w:(cI l w).2=(l.Kind == 1||l.Kind == 2):=by
 grind[cI]
end Wd
theorem uL l b: -1048576≤(cI l b).1∧(cI l b).1≤1048576:=by
 grind[cI]
def bj(l:cF):cF:=if l.Kind=2 then cj else l
def gf(s:aP):aP:={ s with Width:=bj s.Width,MinWidth:=bj s.MinWidth,MaxWidth:=bj s.MaxWidth,Margin:=⟨bj s.Margin.a0,bj s.Margin.a1,bj s.Margin.a2,bj s.Margin.a3⟩,Padding:=⟨bj s.Padding.a0,bj s.Padding.a1,bj s.Padding.a2,bj s.Padding.a3⟩ }
theorem fj{α:Type} l(f:cF→α) y(a:y=f l):(if (l.Kind == 2)=true then f cj else y)=f (bj l):=by
 grind[bj]
section
variable(K:Kn)(n:Nat)
theorem uD(s:aP):uc K n s=some (gf s):=by
 unfold uc;refine (fj s.Width (fun l=>wu K n { s with Width:=l }) _ rfl).trans ?_;unfold wu;refine (fj s.MinWidth (fun l=>sZ K n { s with Width:=bj s.Width,MinWidth:=l }) _ rfl).trans ?_;unfold sZ;refine (fj s.MaxWidth (fun l=>uV K n { s with Width:=bj s.Width,MinWidth:=bj s.MinWidth,MaxWidth:=l }) _ rfl).trans ?_;unfold uV;refine (fj s.Margin.a0 (fun l=>vd K n { s with Width:=bj s.Width,MinWidth:=bj s.MinWidth,MaxWidth:=bj s.MaxWidth,Margin:=⟨l,s.Margin.a1,s.Margin.a2,s.Margin.a3⟩ }) _ rfl).trans ?_;unfold vd;refine (fj s.Padding.a0 (fun l=>wt K n { s with Width:=bj s.Width,MinWidth:=bj s.MinWidth,MaxWidth:=bj s.MaxWidth,Margin:=⟨bj s.Margin.a0,s.Margin.a1,s.Margin.a2,s.Margin.a3⟩,Padding:=⟨l,s.Padding.a1,s.Padding.a2,s.Padding.a3⟩ }) _ rfl).trans ?_;unfold wt;refine (fj s.Margin.a1 (fun l=>td K n { s with Width:=bj s.Width,MinWidth:=bj s.MinWidth,MaxWidth:=bj s.MaxWidth,Margin:=⟨bj s.Margin.a0,l,s.Margin.a2,s.Margin.a3⟩,Padding:=⟨bj s.Padding.a0,s.Padding.a1,s.Padding.a2,s.Padding.a3⟩ }) _ rfl).trans ?_
 unfold td;refine (fj s.Padding.a1 (fun l=>tc K n { s with Width:=bj s.Width,MinWidth:=bj s.MinWidth,MaxWidth:=bj s.MaxWidth,Margin:=⟨bj s.Margin.a0,bj s.Margin.a1,s.Margin.a2,s.Margin.a3⟩,Padding:=⟨bj s.Padding.a0,l,s.Padding.a2,s.Padding.a3⟩ }) _ rfl).trans ?_;unfold tc;refine (fj s.Margin.a2 (fun l=>ta K n { s with Width:=bj s.Width,MinWidth:=bj s.MinWidth,MaxWidth:=bj s.MaxWidth,Margin:=⟨bj s.Margin.a0,bj s.Margin.a1,l,s.Margin.a3⟩,Padding:=⟨bj s.Padding.a0,bj s.Padding.a1,s.Padding.a2,s.Padding.a3⟩ }) _ rfl).trans ?_;unfold ta;refine (fj s.Padding.a2 (fun l=>tJ K n { s with Width:=bj s.Width,MinWidth:=bj s.MinWidth,MaxWidth:=bj s.MaxWidth,Margin:=⟨bj s.Margin.a0,bj s.Margin.a1,bj s.Margin.a2,s.Margin.a3⟩,Padding:=⟨bj s.Padding.a0,bj s.Padding.a1,l,s.Padding.a3⟩ }) _ rfl).trans ?_;unfold tJ;refine (fj s.Margin.a3 (fun l=>uI K n { s with Width:=bj s.Width,MinWidth:=bj s.MinWidth,MaxWidth:=bj s.MaxWidth,Margin:=⟨bj s.Margin.a0,bj s.Margin.a1,bj s.Margin.a2,l⟩,Padding:=⟨bj s.Padding.a0,bj s.Padding.a1,bj s.Padding.a2,s.Padding.a3⟩ }) _ rfl).trans ?_
 unfold uI;refine (fj s.Padding.a3 (fun l=>yV K n { s with Width:=bj s.Width,MinWidth:=bj s.MinWidth,MaxWidth:=bj s.MaxWidth,Margin:=⟨bj s.Margin.a0,bj s.Margin.a1,bj s.Margin.a2,bj s.Margin.a3⟩,Padding:=⟨bj s.Padding.a0,bj s.Padding.a1,bj s.Padding.a2,l⟩ }) _ rfl).trans ?_;rfl
end
namespace Fw
open QSort (wn cG dp dm px rB sb)
section
variable(K:Kn)(n:Nat)
theorem Px(s:aP):wT K n s=some (gf s):=by
 unfold wT;refine (fj s.Width (fun l=>s7 K n { s with Width:=l }) _ rfl).trans ?_;unfold s7;refine (fj s.MinWidth (fun l=>uf K n { s with Width:=bj s.Width,MinWidth:=l }) _ rfl).trans ?_;unfold uf;refine (fj s.MaxWidth (fun l=>s9 K n { s with Width:=bj s.Width,MinWidth:=bj s.MinWidth,MaxWidth:=l }) _ rfl).trans ?_;unfold s9;refine (fj s.Margin.a0 (fun l=>uX K n { s with Width:=bj s.Width,MinWidth:=bj s.MinWidth,MaxWidth:=bj s.MaxWidth,Margin:=⟨l,s.Margin.a1,s.Margin.a2,s.Margin.a3⟩ }) _ rfl).trans ?_;unfold uX;refine (fj s.Padding.a0 (fun l=>uS K n { s with Width:=bj s.Width,MinWidth:=bj s.MinWidth,MaxWidth:=bj s.MaxWidth,Margin:=⟨bj s.Margin.a0,s.Margin.a1,s.Margin.a2,s.Margin.a3⟩,Padding:=⟨l,s.Padding.a1,s.Padding.a2,s.Padding.a3⟩ }) _ rfl).trans ?_;unfold uS;refine (fj s.Margin.a1 (fun l=>ux K n { s with Width:=bj s.Width,MinWidth:=bj s.MinWidth,MaxWidth:=bj s.MaxWidth,Margin:=⟨bj s.Margin.a0,l,s.Margin.a2,s.Margin.a3⟩,Padding:=⟨bj s.Padding.a0,s.Padding.a1,s.Padding.a2,s.Padding.a3⟩ }) _ rfl).trans ?_
 unfold ux;refine (fj s.Padding.a1 (fun l=>rN K n { s with Width:=bj s.Width,MinWidth:=bj s.MinWidth,MaxWidth:=bj s.MaxWidth,Margin:=⟨bj s.Margin.a0,bj s.Margin.a1,s.Margin.a2,s.Margin.a3⟩,Padding:=⟨bj s.Padding.a0,l,s.Padding.a2,s.Padding.a3⟩ }) _ rfl).trans ?_;unfold rN;refine (fj s.Margin.a2 (fun l=>vh K n { s with Width:=bj s.Width,MinWidth:=bj s.MinWidth,MaxWidth:=bj s.MaxWidth,Margin:=⟨bj s.Margin.a0,bj s.Margin.a1,l,s.Margin.a3⟩,Padding:=⟨bj s.Padding.a0,bj s.Padding.a1,s.Padding.a2,s.Padding.a3⟩ }) _ rfl).trans ?_;unfold vh;refine (fj s.Padding.a2 (fun l=>uT K n { s with Width:=bj s.Width,MinWidth:=bj s.MinWidth,MaxWidth:=bj s.MaxWidth,Margin:=⟨bj s.Margin.a0,bj s.Margin.a1,bj s.Margin.a2,s.Margin.a3⟩,Padding:=⟨bj s.Padding.a0,bj s.Padding.a1,l,s.Padding.a3⟩ }) _ rfl).trans ?_;unfold uT;refine (fj s.Margin.a3 (fun l=>vm K n { s with Width:=bj s.Width,MinWidth:=bj s.MinWidth,MaxWidth:=bj s.MaxWidth,Margin:=⟨bj s.Margin.a0,bj s.Margin.a1,bj s.Margin.a2,l⟩,Padding:=⟨bj s.Padding.a0,bj s.Padding.a1,bj s.Padding.a2,s.Padding.a3⟩ }) _ rfl).trans ?_
 unfold vm;refine (fj s.Padding.a3 (fun l=>yg K n { s with Width:=bj s.Width,MinWidth:=bj s.MinWidth,MaxWidth:=bj s.MaxWidth,Margin:=⟨bj s.Margin.a0,bj s.Margin.a1,bj s.Margin.a2,bj s.Margin.a3⟩,Padding:=⟨bj s.Padding.a0,bj s.Padding.a1,bj s.Padding.a2,l⟩ }) _ rfl).trans ?_;rfl
end
def cA(b:ab)(d:ck):d3:=d.map fun j=>b.Kids.getD j.toNat default
theorem s4 b d:(cA b d).length=d.length:=by simp[cA]
theorem ah9 b d{k}(a:k<d.length):(cA b d).getD k default=b.Kids.getD (d.getD k default).toNat default:=by
 grind[cA]
theorem BJ{b}{d}(h:Od.Is b.Kids d){k}(c:k∈cA b d):k∈b.Kids:=by
 obtain⟨j,a,rfl⟩:=Do.1 c;obtain⟨i,e,rfl,_⟩:=h.mem a
 grind
theorem YH{b:ab}{d:ck}(h:Od.Is b.Kids d):(cA b d).Perm (eA b):=by
 have e:∀n,n≤b.Kids.length→(Od.ix (Od.fl b.Kids) n).map (fun j=>b.Kids.getD j.toNat default)=(b.Kids.take n).filter gL:=by
  intro n
  induction n with
  | zero=>intro _;rfl
  | succ n f =>
   intro g;rw[Od.OO,IT,f (by omega),adV (by omega),alr];congr 1;rw[←bR (show n<b.Kids.length by omega)];unfold Od.fl;cases c:gL (b.Kids.getD n default)<;>simp only[ak4,alQ,c,AT,jf,sj,th,By,Int.toNat_natCast]
 have a:=e b.Kids.length (by omega);rw[akj]at a;have:=h.p.map (fun j=>b.Kids.getD j.toNat default);rw[a]at this;exact this
theorem adx(K:Kn)(n:Nat){b:ab}(o:b.Kids.length≤19){d:ck}(h:Od.Is b.Kids d):∀(m i:Nat),i≤d.length→d.length<m+i →
  vt K n b d m (i:Int) ((cA b d).take i)=some (cA b d):=by
 have l:=h.len;intro m
 induction m with
 | zero=>intro i f g;omega
 | succ m a =>
  intro i f g;simp only[vt,y9];by_cases c:i<d.length
  ·obtain⟨j,p,e,_⟩:=h.mem (QSort.TF (A:=d) c);unfold QSort.at_ at e;have a:=a (i+1) (by omega) (by omega);rw[adV (by rw[s4];exact c),← bR (by rw[s4];exact c),ah9 b d c]at a;rw[dp (by omega),cG (by omega),eR,e,cG (by omega),eR,cY (by simp only[ls,rv,IN];omega) (by omega),ba,wn (n:=(i:Int)+1) (k:=i+1) (by omega) (by omega)];rw[e,eR]at a;exact a
  ·rw[dm (by omega),Dj (by rw[s4];omega)]
theorem Rh{b}(a:b.Kids.length≤19){d}(h:Od.Is b.Kids d){K}{n}(c:uy K n b.Kids=some d)(f:100<n):kB K n b=some (cA b d):=by
 have e:=h.len;unfold kB;rw[c,sb];exact adx K n a h n 0 (by omega) (by omega)
end Fw
namespace Fl
open QSort (wn cG dp dm px rB sb)
open Fw
def kj(l:cF):cF:=if l.Kind=1∨l.Kind=2 then l else { cj with Kind:=1 }
def nF(b:ab)(n:Int):ab:={ b with Style:={ b.Style with Width:=⟨1,n⟩,MinWidth:=cj,MaxWidth:=cj,Margin:=⟨kj b.Style.Margin.a0,kj b.Style.Margin.a1,kj b.Style.Margin.a2,kj b.Style.Margin.a3⟩ } }
theorem BH{α:Type} l(f:cF→α):(if (!(l.Kind == 1||l.Kind == 2))=true then f { cj with Kind:=1 } else f l)=f (kj l):=by
 grind[kj]
theorem W0(K:Kn)(n:Nat)(b:ab)(x:Int):z6 K n b x=some (nF b x):=by
 unfold z6;simp only[ge,iN,Wd.wk];rw[BH b.Style.Margin.a0 (fun l=>uW K n b x ⟨l,b.Style.Margin.a1,b.Style.Margin.a2,b.Style.Margin.a3⟩)];unfold uW;simp only[ge,iN,Wd.wk];rw[BH b.Style.Margin.a1 (fun l=>ua K n b x ⟨kj b.Style.Margin.a0,l,b.Style.Margin.a2,b.Style.Margin.a3⟩)];unfold ua;simp only[ge,iN,Wd.wk];rw[BH b.Style.Margin.a2 (fun l=>we K n b x ⟨kj b.Style.Margin.a0,kj b.Style.Margin.a1,l,b.Style.Margin.a3⟩)];unfold we;simp only[ge,iN,Wd.wk];rw[BH b.Style.Margin.a3 (fun l=>z4 K n b x ⟨kj b.Style.Margin.a0,kj b.Style.Margin.a1,kj b.Style.Margin.a2,l⟩)];rfl
def eE(l:cF)(c o:Int):Int:=if (cI l c).2=true then (cI l c).1 else o
theorem B3 K n l c o:mc K n l c o=some (eE l c o):=by
 grind[mc,eE,ge,sb]
theorem KG(s:aP)(w:Int): -6291456≤gZ (fG s w 0)∧gZ (fG s w 0)≤6291456:=by
 have a:=uL s.Margin.a1 w;have b:=uL s.Margin.a3 w;have c:=uL s.Padding.a1 w;have d:=uL s.Padding.a3 w;have e:=Wd.je s.Border.a1;have q3:=Wd.je s.Border.a3;unfold gZ fG;simp only[];rw[bK (n:=0+(cI s.Margin.a1 w).1) (by omega) (by omega),bK (n:=0+(cI s.Margin.a1 w).1+(cI s.Margin.a3 w).1) (by omega) (by omega),bK (n:=0+(cI s.Margin.a1 w).1+(cI s.Margin.a3 w).1+dQ s.Border.a1) (by omega) (by omega),bK (n:=0+(cI s.Margin.a1 w).1+(cI s.Margin.a3 w).1+dQ s.Border.a1+dQ s.Border.a3) (by omega) (by omega),bK (n:=0+(cI s.Margin.a1 w).1+(cI s.Margin.a3 w).1+dQ s.Border.a1+dQ s.Border.a3+max (cI s.Padding.a1 w).1 0) (by omega) (by omega),bK (by omega) (by omega)];omega
theorem Zm s w c:0≤jd s w c∧jd s w c≤max c 1048576:=by
 have:=uL s.MinWidth w
 grind[jd]
theorem DJ s w:0≤(ct s w).Content∧(ct s w).Content≤8388608:=by
 have e:∃x,(ct s w).Content=jd s (dQ w) x∧x≤8388608:=by
  have a:(if (cI s.Width (dQ w)).2=true then (cI s.Width (dQ w)).1 else aa (dQ w-gZ (fG s (dQ w) 0)))≤8388608:=by
   have b:=uL s.Width (dQ w);have c:=KG s (dQ w);have d:=Wd.je w
   grind[bK]
  refine⟨_,?_,a⟩
  grind[ct,Cu]
 obtain⟨x,a,f⟩:=e;have:=Zm s (dQ w) x;omega
def Small(B:Int)(l:ck):Prop:=∀x∈l,-B≤x∧x≤B
def wr(sp:Int):Int→Nat→ck→ck
 | _,_,[]=>[]
 | s,i,x::r=>if s+x>sp then i::wr sp x (i+1) r else wr sp (s+x) (i+1) r
def mr(sp:Int):ck→ck
 | []=>[]
 | x::r=>0::wr sp x 1 r
variable{B:Int}{L:ck}
theorem aj1(K:Kn)(n:Nat)(sp:Int)(a:0≤B∧B≤1073741824)(h:Small B L)(r:L.length≤100):∀(m i:Nat) (s:Int) (o:ck),1≤i→i≤L.length→L.length<m+i→o.length≤i → -(i*B)≤s→s≤i*B →
  qG K n L sp m s i o=some (o++wr sp s i (L.drop i)):=by
 intro m
 induction m with
 | zero=>intro i s o e f g;omega
 | succ m d =>
  intro i s o e f g t u l;simp only[qG,vZ];by_cases c:i<L.length
  ·have v:=h (L.getD i default) (f9 c);have j:(i:Int)*B≤100*1073741824:=akK (by omega) a.2 a.1 (by omega);have q:((i+1:Nat):Int)*B=i*B+B:=by simp[alZ]
   have p:¬ ((i:Int) == 0)=true:=by rw[ajK];omega
   rw[dp (by omega),cG (by omega),eR,bK (by omega) (by omega),sb,kc p];simp only[uF,rR,eR];rw[drop_at' c];simp only[wr];rw[wn (n:=(i:Int)+1) (k:=i+1) (by omega) (by omega),cY (by simp only[ls,rv];omega) (by omega),ba];by_cases b:s+L.getD i default>sp
   ·rw[dp b,ll b,d (i+1) (L.getD i default) (o++[(i:Int)]) (by omega) (by omega) (by omega) (by simp;omega) (by have:=ako (show(0:Int)≤i by omega) a.1;omega) (by have:=ako (show(0:Int)≤i by omega) a.1;omega)];simp
   ·rw[dm b,kc b,d (i+1) (s+L.getD i default) o (by omega) (by omega) (by omega) (by omega) (by omega) (by omega)]
  grind[wr]
theorem aja(K:Kn){n:Nat}(sp:Int)(d:0≤B∧B≤1073741824)(c:Small B L)(f:L.length≤100)(h:101<n):pL K n L sp=some (mr sp L):=by
 unfold pL;obtain⟨m,rfl⟩:∃m,n=m+1:=⟨n-1,by omega⟩;cases L with
 | nil=>rfl
 | cons x r =>
  have i:=c x (by simp);simp only[ls]at f;simp only[qG,vZ];have a:(0:Int)<(((x::r).length:Nat):Int):=by simp only[ls];omega
  have g:aa (0+List.getD (x::r) (Int.toNat 0) default)=x:=by
   show aa (0+x)=x;rw[Int.zero_add];exact bK (by omega) (by omega)
  have b:aa ((0:Int)+1)=((1:Nat):Int):=wn (by omega) (by omega);have e:List.getD (x::r) (Int.toNat 0) default=x:=rfl;rw[dp a,cG ⟨al4 0,a⟩,g,sb,ll (by rfl)];simp only[uF,rR,e,b];rw[cY (by simp) (by omega),ba,aj1 K (m+1) sp d c (by simp only[ls];omega) m 1 x ([]++[0]) (by omega) (by simp) (by simp only[ls];omega) (by simp) (by omega) (by omega)];simp[mr]
inductive rc n:Nat→ck→Prop
 | nil a (h:a≤n):rc n a []
 | cons a b t (h:a≤b) (h2:rc n b t):rc n a (b::t)
theorem KK sp n:∀r a i s,a≤i→i+r.length≤n→rc n a (wr sp s i r)
 | [],a,i,s,b,c=>.nil _ (by omega)
 | x::r,a,i,s,b,c=>by
  simp only[ls]at c;unfold wr;split
  ·exact .cons _ _ _ b (KK sp n r i (i+1) x (by omega) (by omega))
  ·exact KK sp n r a (i+1) (s+x) (by omega) (by omega)
theorem rc.le{n a}{t}(h:rc n a t):a≤n:=by
 induction h with
 | nil a h=>grind
 | cons a b t h c d=>omega
theorem P8{n a:Nat}{t:ck}(h:rc n a t):∀k,k<t.length+1→∃x y:Nat,((a:Int)::(t++[(n:Int)])).getD k default=(x:Int)∧((a:Int)::(t++[(n:Int)])).getD (k+1) default=(y:Int)∧x≤y∧y≤n:=by
 induction h with
 | nil a h =>
  intro k c;simp only[rv]at c;obtain rfl:k=0:=by omega
  exact⟨a,n,rfl,rfl,h,lc _⟩
 | cons a b t h f i =>
  intro k c;cases k with
  | zero=>exact⟨a,b,rfl,rfl,h,f.le⟩
  | succ k =>
   obtain⟨x,y,d,e,g⟩:=i k (by simpa using c);exact⟨x,y,by simpa using d,by simpa using e,g⟩
theorem Hk sp:∀r s i,(wr sp s i r).length≤r.length
 | [],s,i=>by simp[wr]
 | x::r,s,i=>by
  unfold wr;have a:=Hk sp r x (i+1);have b:=Hk sp r (s+x) (i+1)
  grind
structure St n(S:ck):Prop where
 len:S.length≤n+1
 get:∀k,k<S.length→∃x y:Nat,(S++[(n:Int)]).getD k default=x∧(S++[(n:Int)]).getD (k+1) default=y∧x≤y∧y≤n
theorem agU(n:Nat):St n [0]:=⟨by simp,fun k b=>by
 have:=P8 (n:=n) (a:=0) (t:=[]) (.nil _ (v9 _)) k (by simpa using b);simpa using this⟩
theorem Xd(sp:Int)(L:ck):St L.length (mr sp L):=by
 cases L with
 | nil=>exact⟨by simp[mr],fun k b=>by simp[mr]at b⟩
 | cons x r =>
  have c:=Hk sp r x 1;refine⟨by simp only[mr,ls];omega,fun k b=>?_⟩;simp only[mr,ls]at b;have:=P8 (n:=(x::r).length) (a:=0) (KK sp (x::r).length r 0 1 x (by omega) (by simp;omega)) k (by omega);simpa[mr]using this
end Fl
abbrev Bl:=ab→Int→Int→Int→ci→Option (ae×Int×Int×ci)
def dh(f:Bl):io→Int→Int→ci→Option (dn×Int×Int×ci)
 | [],a,b,S=>some ([],a,b,S)
 | p::r,a,b,S=>(f p.1 p.2 a b S).bind fun x=>(dh f r x.2.1 x.2.2.1 x.2.2.2).bind fun y=>some (x.1::y.1,y.2)
theorem tp{f:Bl}:∀{l:io} {a b:Int} {S:ci} {r:dn×Int×Int×ci},dh f l a b S=some r→r.1.length=l.length
 | [],a,b,S,r,h=>by injection h with h;subst h;rfl
 | k::l,a,b,S,r,h=>by
  obtain⟨x,d,h⟩:=bind_some h;obtain⟨y,c,h⟩:=bind_some h;injection h with h;subst h
  simp[tp c]
theorem PC(f:Bl):∀(l m:io) (a b:Int) (S:ci),dh f (l++m) a b S=(dh f l a b S).bind fun x=>(dh f m x.2.1 x.2.2.1 x.2.2.2).bind fun y=>some (x.1++y.1,y.2)
 | [],m,a,b,S=>by
  simp only[Io,dh,iN];cases dh f m a b S<;>rfl
 | k::l,m,a,b,S=>by
  simp only[agP,dh];cases f k.1 k.2 a b S with
  | none=>rfl
  | some x =>
   simp only[iN];rw[PC f l m];cases dh f l x.2.1 x.2.2.1 x.2.2.2 with
   | none=>rfl
   | some y =>
    simp only[iN];cases dh f m y.2.1 y.2.2.1 y.2.2.2<;>rfl
theorem LM(f:Bl)(w:Int):∀(l:d3) (a b:Int) (S:ci),pk (fun k=>f k w) l a b S=dh f (l.map fun k=>(k,w)) a b S
 | [],a,b,S=>rfl
 | k::r,a,b,S=>by
  simp only[pk,th,dh];cases f k w a b S with
  | none=>rfl
  | some x=>simp only[iN,LM f w r]
def rE(f:ae):Int:=if f.Empty=true then 0 else aa (f.After.Pos+f.After.Neg)
def mE(m:bg):Int:=aa (m.Pos+m.Neg)
theorem ME(K:Kn)(n:Nat)(f:ae):t6 K n f=some (rE f):=by
 unfold t6 rE;cases f.Empty<;>rfl
theorem Ft(K:Kn)(n:Nat)(m:bg):gy K n m=some (mE m):=rfl
def CB(y:Int)(p:Int×Int)(a:Int×Int×dn)(f:ae):Int×Int×dn :=
 (aa (a.1+aa (p.1+p.2)),max a.2.1 (aa (aa (mE f.Before+f.H)+rE f)),a.2.2++[{ f with X:=aa (f.X+a.1),Y:=aa (y+mE f.Before) }])
def ju(y:Int):List em→dn→Int×Int×dn→Int×Int×dn
 | p::ps,f::b,a=>ju y ps b (CB y p a f)
 | _,_,a=>a
theorem JX(y:Int):∀(ps:List em) (c:dn) (a:Int×Int×dn),ps.length=c.length→(ju y ps c a).2.2.length=a.2.2.length+c.length∧∀f∈(ju y ps c a).2.2,f∈a.2.2∨∃g∈c,f.Kids=g.Kids
 | [],[],a,_=>⟨by simp[ju],fun f k=>.inl k⟩
 | p::ps,f::c,a,h=>by
  simp only[ls]at h;obtain⟨i,j⟩:=JX y ps c (CB y p a f) (by omega);simp only[ju];refine⟨by rw[i];simp only[CB,ne,ls,rv];omega,fun q b=>?_⟩;rcases j q b with b|⟨g,d,e⟩
  ·simp only[CB]at b;rcases nw.1 b with b|b
   ·exact .inl b
   ·simp only[ol,aj7,alc]at b;subst b;exact .inr ⟨f,ti,rfl⟩
  ·exact .inr ⟨g,pt _ d,e⟩
 | [],_::_,_,h=>by simp at h
 | _::_,[],_,h=>by simp at h
end Go.Proofs.YtocgkfoifehcbaaGreat
