/- Plain laws about the plain functions: words for all of them. No program in sight. -/
import Derived.Test.YtnpmlepplfaijaaIbGf
import Derived.Test.YtnpmlepplfaijaaIbGop
namespace Go.Proofs.Ytnpmlepplfaijaa
set_option linter.all false
open Go.RowKit
theorem du{n:Int}(h1 : -9223372036854775808≤n)(h2:n≤9223372036854775807):af n=n:=by
 unfold af;rw[IntKind.wrap_i64];omega
theorem dc{α:Type}(x:Option α):aM true x=x:=rfl
theorem eh{i:Int}{n:Nat}(h0:0≤i)(h1:i<n):aZ i n=true:=by simp[aZ,h0,h1]
theorem nZ{α:Type}[Inhabited α]{L:List α}{k:Nat}(h:k<L.length):L.getD k default=L[k]:=by simp[List.getD_eq_getElem?_getD,List.getElem?_eq_getElem h]
theorem rq{n b:Nat}(h:n*b≤140737488355328)(hb:0<b):fits n b=true:=by
 have h1:n≤n*b:=Nat.le_mul_of_pos_right n hb;have h2:n≤9223372036854775807:=by omega
 simp only[fits,Bool.and_eq_true,decide_eq_true_eq];exact⟨h2,h⟩
end Go.Proofs.Ytnpmlepplfaijaa
namespace Go.Proofs.Ytnpmlepplfaijaa
set_option linter.all false
open Go.RowKit
set_option maxRecDepth 100000 in
theorem E3(k:Nat):nl (KN (k+40)) (k+40)=some true:=by kernel_rfl
end Go.Proofs.Ytnpmlepplfaijaa
namespace Go.Proofs.Ytnpmlepplfaijaa
set_option linter.all false
open Go.RowKit
structure R4 where
 w:Int
 s:Int
 g:Bool
 f:Bool
instance:Inhabited R4:=⟨⟨0,0,false,false⟩⟩
def vI(r:av):R4:=⟨r.Width,r.Space,r.Glued,r.Forced⟩
theorem jh{L:List av}{k:Nat}(h:k<L.length):(L.map vI)[k]'(by simpa using h)=vI (L.getD k default):=by
 rw[nZ h];simp
def gr(l:List R4)(i:Nat):Nat:=i+((l.drop i).takeWhile R4.g).length
theorem fi(l:List R4)(i:Nat):i≤gr l i:=Nat.le_add_right _ _
theorem xm{α:Type}(p:α→Bool):∀l:List α,(l.takeWhile p).length≤l.length
 | []=>Nat.le_refl _
 | x::r=>by
  rw[List.takeWhile_cons];split
  ·simp;exact xm p r
  ·simp
theorem kI{l:List R4}{i:Nat}(h:i≤l.length):gr l i≤l.length:=by
 have:=xm R4.g (l.drop i);simp at this;unfold gr;omega
theorem uH{l:List R4}{i:Nat}(h:i<l.length)(hg:l[i].g=true):gr l i=gr l (i+1):=by
 unfold gr;rw[List.drop_eq_getElem_cons h,List.takeWhile_cons,if_pos hg];simp;omega
theorem wg{l:List R4}{i:Nat}(h:i<l.length)(hg:l[i].g=false):gr l i=i:=by
 unfold gr;rw[List.drop_eq_getElem_cons h,List.takeWhile_cons,if_neg (by simp[hg])];simp
theorem tF{l:List R4}{i:Nat}(h:l.length≤i):gr l i=i:=by
 unfold gr;rw[List.drop_eq_nil_of_le h];simp
def wS(n last:Int):List R4→Int
 | []=>af (n-last)
 | r::t=>wS (af (n+af (r.w+r.s))) (if r.f then last else r.s) t
def fU(l:List R4):Int:=wS 0 0 l
def iB(n:Int):List R4→Int
 | []=>n
 | r::t=>iB (af (n+af (r.w+r.s))) t
def c7(x:Int):List R4→Int
 | []=>x
 | r::t=>c7 (if r.f then x else r.s) t
theorem vk:∀(l:List R4) (n last:Int),wS n last l=af (iB n l-c7 last l)
 | [],n,last=>rfl
 | r::t,n,last=>by unfold wS iB c7;exact vk t _ _
theorem oD:∀(l m:List R4) (x:Int),c7 x (l++m)=c7 (c7 x l) m
 | [],m,x=>rfl
 | r::t,m,x=>by simp only[List.cons_append,c7];exact oD t m _
theorem CU(n:Int):af (af n)=af n:=by
 have : -9223372036854775808≤af n∧af n≤9223372036854775807:=by unfold af;rw[IntKind.wrap_i64];omega
 exact du this.1 this.2
section
variable{K:Kn}{n:Nat}{L:List av}
theorem BV:∀(m:Nat) (i:Int),0≤i→i≤L.length→L.length<m+i.toNat→(L.length:Int)<9223372036854775807→iM K n L m i=some ((gr (L.map vI) i.toNat:Nat):Int):=by
 intro m
 induction m with
 | zero=>intro i h0 h1 h2;omega
 | succ m ih =>
  intro i h0 h1 h2 hL;show gZ K n L (iM K n L m) i=_;unfold gZ;by_cases hi:i<(L.length:Int)
  ·have hk:i.toNat<L.length:=by omega
   rw[if_pos (by simpa using hi),eh h0 hi,dc];unfold iR;have hv:=jh hk;cases hg:(L.getD i.toNat default).Glued with
   | true =>
    rw[if_pos rfl,du (by omega) (by omega),ih (i+1) (by omega) (by omega) (by omega) hL];rw[uH (l:=L.map vI) (i:=i.toNat) (by simpa using hk) (by rw[hv];exact hg),show(i+1).toNat=i.toNat+1 by omega]
   | false =>
    rw[if_neg (by simp)];rw[wg (l:=L.map vI) (i:=i.toNat) (by simpa using hk) (by rw[hv];exact hg)];congr 1;omega
  ·rw[if_neg (by simpa using hi)];unfold iR;rw[if_neg (by simp),tF (by simp;omega)];congr 1;omega
theorem wR{i:Int}(h0:0≤i)(h1:i<L.length)(hn:L.length<n)(hL:(L.length:Int)<9223372036854775807):iu K n L i=some ((gr (L.map vI) (i.toNat+1):Nat):Int):=by
 unfold iu;rw[du (by omega) (by omega),BV n (i+1) (by omega) (by omega) (by omega) hL,show(i+1).toNat=i.toNat+1 by omega]
theorem zi:∀(m:Nat) (k:Nat),k≤L.length→k<m→(L.length:Int)<9223372036854775807 →
  ∃j:Int,gK K n L m ((k:Int)-1)=some j∧((j = -1∧∀x,c7 x ((L.map vI).take k)=x)∨(0≤j∧j<k∧∀x,c7 x ((L.map vI).take k)=(L.getD j.toNat default).Space)):=by
 intro m
 induction m with
 | zero=>intro k _ h;omega
 | succ m ih =>
  intro k hk hm hL;show ∃j,iw K n L (gK K n L m) ((k:Int)-1)=some j∧_;unfold iw;cases k with
  | zero=>rw[if_neg (by simp)];exact⟨-1,rfl,.inl ⟨rfl,fun x=>by simp[c7]⟩⟩
  | succ k =>
   have e:(((k+1:Nat):Int)-1)=(k:Int):=by omega
   rw[e,if_pos (by simp),eh (by omega) (by omega),dc,Int.toNat_natCast];have hkl:k<L.length:=by omega
   have hv:=jh hkl;have ht:(L.map vI).take (k+1)=(L.map vI).take k++[vI (L.getD k default)]:=by
    rw[List.take_add_one,List.getElem?_eq_getElem (by simpa using hkl),hv];rfl
   cases hf:(L.getD k default).Forced with
   | false =>
    rw[show(!false)=true from rfl,if_pos rfl];refine⟨(k:Int),rfl,.inr ⟨by omega,by omega,fun x=>?_⟩⟩;rw[ht,oD,Int.toNat_natCast];simp only[c7,vI,hf,Bool.false_eq_true,if_false]
   | true =>
    rw[show(!true)=false from rfl,if_neg (by simp),du (by omega) (by omega)];obtain⟨j,h1,h2⟩:=ih k (by omega) (by omega) hL;refine⟨j,h1,?_⟩;have hx:∀x,c7 x ((L.map vI).take (k+1))=c7 x ((L.map vI).take k):=fun x=>by
     rw[ht,oD];simp only[c7,vI,hf,if_true]
    obtain⟨a,b⟩|⟨a,b,c⟩:=h2
    ·exact .inl ⟨a,fun x=>(hx x).trans (b x)⟩
    ·exact .inr ⟨a,by omega,fun x=>(hx x).trans (c x)⟩
theorem BC(hn:L.length<n)(hL:(L.length:Int)<9223372036854775807):∃j:Int,iz K n L=some j∧((j = -1∧∀x,c7 x (L.map vI)=x)∨(0≤j∧j<L.length∧∀x,c7 x (L.map vI)=(L.getD j.toNat default).Space)):=by
 unfold iz;rw[du (by omega) (by omega)];obtain⟨j,h1,h2⟩:=zi (K:=K) (n:=n) (L:=L) n L.length (Nat.le_refl _) hn hL;refine⟨j,h1,?_⟩;rw[List.take_of_length_le (by simp)]at h2;exact h2
theorem yC(hn:L.length<n)(hL:(L.length:Int)<9223372036854775807):∀(m:Nat) (x i:Int),0≤i→i≤L.length→L.length<m+i.toNat→af x=x →
  iB 0 (L.map vI)=iB x ((L.map vI).drop i.toNat)→gL K n L m x i=some (fU (L.map vI)):=by
 intro m
 induction m with
 | zero=>intro x i h0 h1 h2;omega
 | succ m ih =>
  intro x i h0 h1 h2 hx hs;show ib K n L (gL K n L m) x i=_;unfold ib;by_cases hi:i<(L.length:Int)
  ·have hk:i.toNat<L.length:=by omega
   rw[if_pos (by simpa using hi),eh h0 hi,dc,du (n:=i+1) (by omega) (by omega)];refine ih _ (i+1) (by omega) (by omega) (by omega) (CU _) ?_;rw[hs,List.drop_eq_getElem_cons (by simpa using hk),jh hk,show(i+1).toNat=i.toNat+1 by omega];rfl
  ·rw[if_neg (by simpa using hi)];rw[List.drop_eq_nil_of_le (by simp;omega)]at hs;simp only[iB]at hs;obtain⟨j,h3,h4⟩:=BC (K:=K) (L:=L) hn hL;rw[h3];simp only[Option.bind_some,j2];unfold fU;rw[vk,hs];obtain⟨rfl,h5⟩|⟨h5,h6,h7⟩:=h4
   ·rw[if_neg (by simp),h5];simp[hx]
   ·rw[if_pos (by simpa using h5),eh h5 h6,dc,h7]
theorem CD(hn:L.length<n)(hL:(L.length:Int)<9223372036854775807):iy K n L=some (fU (L.map vI)):=by
 unfold iy;exact yC hn hL n 0 0 (by omega) (by omega) (by simpa using hn) (by unfold af;rw[IntKind.wrap_i64];omega) rfl
end
def sl{α:Type}(l:List α)(a b:Nat):List α:=List.drop a (List.take b l)
theorem vu{α β:Type}(f:α→β)(l:List α)(a b:Nat):(sl l a b).map f=sl (l.map f) a b:=by unfold sl;rw[List.map_drop,List.map_take]
theorem lq{α:Type}(l:List α)(a b:Nat):(sl l a b).length≤l.length:=by unfold sl;simp;omega
def lE(l:List R4)(w:Int)(a:Nat):Nat→Nat→Nat
 | 0,e=>e
 | m+1,e=>if e<l.length∧(l.getD (e-1) default).f=false∧¬ fU (sl l a (gr l (e+1)))>w then lE l w a m (gr l (e+1)) else e
def bM(l:List R4)(w:Int):Nat→Nat→List Nat
 | 0,_=>[]
 | m+1,a=>if a<l.length then a::bM l w m (lE l w a l.length (gr l (a+1))) else []
theorem jK(l:List R4)(w:Int)(a:Nat):∀m e,e≤lE l w a m e
 | 0,e=>Nat.le_refl _
 | m+1,e=>by
  unfold lE;split
  ·have:=jK l w a m (gr l (e+1));have:=fi l (e+1);omega
  ·exact Nat.le_refl _
theorem rR(l:List R4)(w:Int)(a:Nat):∀m e,e≤l.length→lE l w a m e≤l.length
 | 0,e,h=>h
 | m+1,e,h=>by
  unfold lE;split
  ·rename_i h1;exact rR l w a m _ (kI (by omega))
  ·exact h
theorem xz(l:List R4)(w:Int)(a:Nat):∀(m m' e:Nat),l.length≤m+e→l.length≤m'+e→lE l w a m e=lE l w a m' e:=by
 intro m
 induction m with
 | zero =>
  intro m' e h h';cases m' with
  | zero=>rfl
  | succ m'=>unfold lE;rw[if_neg (by omega)]
 | succ m ih =>
  intro m' e h h';cases m' with
  | zero=>unfold lE;rw[if_neg (by omega)]
  | succ m' =>
   unfold lE;split
   ·have:=fi l (e+1);exact ih m' _ (by omega) (by omega)
   ·rfl
end Go.Proofs.Ytnpmlepplfaijaa
namespace Go.Proofs.Ytnpmlepplfaijaa
set_option linter.all false
open Go.RowKit
theorem uz(l:List R4)(w:Int):∀(m m' a:Nat),l.length<m+a→l.length<m'+a→bM l w m a=bM l w m' a:=by
 intro m
 induction m with
 | zero =>
  intro m' a h h';cases m' with
  | zero=>rfl
  | succ m'=>unfold bM;rw[if_neg (by omega)]
 | succ m ih =>
  intro m' a h h';cases m' with
  | zero=>unfold bM;rw[if_neg (by omega)]
  | succ m' =>
   unfold bM;split
   ·have:=jK l w a l.length (gr l (a+1));have:=fi l (a+1);rw[ih m' _ (by omega) (by omega)]
   ·rfl
theorem xh(l:List R4)(w:Int):∀(m a:Nat),(bM l w m a).length≤l.length-a
 | 0,a=>by simp[bM]
 | m+1,a=>by
  unfold bM;split
  ·have:=xh l w m (lE l w a l.length (gr l (a+1)));have:=jK l w a l.length (gr l (a+1));have:=fi l (a+1);simp;omega
  ·simp
section
variable{K:Kn}{n:Nat}{L:List av}{w:Int}
theorem Ad(hn:L.length<n)(hL:(L.length:Int)<9223372036854775807)(a:Nat)(out:List Int)(C:Int→List Int→Option (List Int)):∀(m e:Nat),1≤e→a≤e→e≤L.length→L.length<m+e →
  gA K n L w a out C m e=C ((lE (L.map vI) w a m e:Nat):Int) (out++[(a:Int)]):=by
 intro m
 induction m with
 | zero=>intro e h0 h1 h2 h3;omega
 | succ m ih =>
  intro e h0 h1 h2 h3;show iJ K n L w a out C (gA K n L w a out C m) e=_;unfold iJ lE;by_cases he:e<L.length
  ·rw[if_pos (by simpa using he),du (by omega) (by omega),eh (by omega) (by omega),dc];unfold iY;have e1:((e:Int)-1).toNat=e-1:=by omega
   have hv:=jh (L:=L) (k:=e-1) (by omega);have hf:((L.map vI).getD (e-1) default).f=(L.getD ((e:Int)-1).toNat default).Forced:=by
    rw[nZ (by simp;omega),hv,e1];rfl
   cases hb:(L.getD ((e:Int)-1).toNat default).Forced with
   | true =>
    rw[show(!true)=false from rfl,if_neg (by simp),if_neg (by rw[hf,hb];simp)];rfl
   | false =>
    have hg:=kI (l:=L.map vI) (i:=e+1) (by simp;omega);have hge:=fi (L.map vI) (e+1);simp only[List.length_map]at hg;rw[show(!false)=true from rfl,if_pos rfl,wR (by omega) (by omega) hn hL];simp only[Option.bind_some,Int.toNat_natCast];rw[show db (a:Int) ((gr (L.map vI) (e+1):Nat):Int) L.length=true by simp only[db,Bool.and_eq_true,decide_eq_true_eq];omega,dc];have hs:List.drop a (List.take (gr (L.map vI) (e+1)) L)=sl L a (gr (L.map vI) (e+1)):=rfl;rw[hs,CD (by have:=lq L a (gr (L.map vI) (e+1));omega) (by have:=lq L a (gr (L.map vI) (e+1));omega),vu];simp only[Option.bind_some];by_cases hw:fU (sl (L.map vI) a (gr (L.map vI) (e+1)))>w
    ·rw[if_pos (by simpa using hw),if_neg (by simp[hw])];rfl
    ·rw[if_neg (by simpa using hw),if_pos ⟨by simpa using he,by rw[hf,hb],hw⟩];exact ih _ (by omega) (by omega) (by omega) (by omega)
  ·rw[if_neg (by simpa using he),if_neg (by simp;omega)];unfold iY;rw[if_neg (by simp)];rfl
theorem zm(hn:L.length<n)(hL:(L.length:Int)≤1000000):∀(m a:Nat) (out:List Int),a≤L.length→out.length≤a→L.length<m+a→gE K n L w m a out=some (out++(bM (L.map vI) w m a).map fun (k:Nat)=>(k:Int)):=by
 intro m
 induction m with
 | zero=>intro a out h1 h2 h3;omega
 | succ m ih =>
  intro a out h1 h2 h3;show iW K n L w (gE K n L w m) a out=_;unfold iW bM;by_cases ha:a<L.length
  ·rw[if_pos (by simpa using ha),if_pos (by simpa using ha),rq (by simp;omega) (by omega),dc,wR (by omega) (by omega) hn (by omega)];simp only[Option.bind_some,Int.toNat_natCast];have hg:=kI (l:=L.map vI) (i:=a+1) (by simp;omega);have hge:=fi (L.map vI) (a+1);simp only[List.length_map]at hg;rw[Ad hn (by omega) a out _ n _ (by omega) (by omega) hg (by omega)];rw[xz (L.map vI) w a n (L.map vI).length _ (by simp;omega) (by simp)];have h5:=rR (L.map vI) w a (L.map vI).length (gr (L.map vI) (a+1)) (by simpa using hg);have h6:=jK (L.map vI) w a (L.map vI).length (gr (L.map vI) (a+1));simp only[List.length_map]at h5 h6⊢;rw[ih _ _ h5 (by simp;omega) (by omega)];simp[List.append_assoc]
  ·rw[if_neg (by simpa using ha),if_neg (by simpa using ha)];simp
theorem Dn(hn:L.length<n)(hL:(L.length:Int)≤1000000):ic K n L w=some ((bM (L.map vI) w (L.length+1) 0).map fun (k:Nat)=>(k:Int)):=by
 unfold ic;rw[show(0:Int)=((0:Nat):Int) from rfl,zm hn hL n 0 [] (by omega) (by simp) (by omega),uz (L.map vI) w n (L.length+1) 0 (by simp;omega) (by simp)];simp
end
end Go.Proofs.Ytnpmlepplfaijaa
namespace Go.Proofs.Ytnpmlepplfaijaa
set_option linter.all false
open Go.RowKit
def vR(r:bJ):R4:=⟨r.Width,r.Space,r.Glued,r.Forced⟩
theorem oT{L:List bJ}{k:Nat}(h:k<L.length):(L.map vR)[k]'(by simpa using h)=vR (L.getD k default):=by
 rw[nZ h];simp
section
variable{K:Kn}{n:Nat}{L:List bJ}{w:Int}
theorem yz:∀(m:Nat) (i:Int),0≤i→i≤L.length→L.length<m+i.toNat→(L.length:Int)<9223372036854775807→g0 K n L m i=some ((gr (L.map vR) i.toNat:Nat):Int):=by
 intro m
 induction m with
 | zero=>intro i h0 h1 h2;omega
 | succ m ih =>
  intro i h0 h1 h2 hL;show iC K n L (g0 K n L m) i=_;unfold iC;by_cases hi:i<(L.length:Int)
  ·have hk:i.toNat<L.length:=by omega
   rw[if_pos (by simpa using hi),eh h0 hi,dc];unfold iV;have hv:=oT hk;cases hg:(L.getD i.toNat default).Glued with
   | true =>
    rw[if_pos rfl,du (by omega) (by omega),ih (i+1) (by omega) (by omega) (by omega) hL];rw[uH (l:=L.map vR) (i:=i.toNat) (by simpa using hk) (by rw[hv];exact hg),show(i+1).toNat=i.toNat+1 by omega]
   | false =>
    rw[if_neg (by simp)];rw[wg (l:=L.map vR) (i:=i.toNat) (by simpa using hk) (by rw[hv];exact hg)];congr 1;omega
  ·rw[if_neg (by simpa using hi)];unfold iV;rw[if_neg (by simp),tF (by simp;omega)];congr 1;omega
theorem qJ{i:Int}(h0:0≤i)(h1:i<L.length)(hn:L.length<n)(hL:(L.length:Int)<9223372036854775807):fW K n L i=some ((gr (L.map vR) (i.toNat+1):Nat):Int):=by
 unfold fW;rw[du (by omega) (by omega),yz n (i+1) (by omega) (by omega) (by omega) hL,show(i+1).toNat=i.toNat+1 by omega]
theorem zC(hL:(L.length:Int)<9223372036854775807):∀(m:Nat) (x y i:Int),0≤i→i≤L.length→L.length<m+i.toNat→gC K n L m x y i=some (wS x y ((L.map vR).drop i.toNat)):=by
 intro m
 induction m with
 | zero=>intro x y i h0 h1 h2;omega
 | succ m ih =>
  intro x y i h0 h1 h2;show iU K n L (gC K n L m) x y i=_;unfold iU;by_cases hi:i<(L.length:Int)
  ·have hk:i.toNat<L.length:=by omega
   rw[if_pos (by simpa using hi),eh h0 hi];simp only[dc,Option.bind_some];have hd:(L.map vR).drop i.toNat=vR (L.getD i.toNat default)::(L.map vR).drop (i+1).toNat:=by
    rw[List.drop_eq_getElem_cons (by simpa using hk),oT hk,show(i+1).toNat=i.toNat+1 by omega]
   rw[hd];unfold wS;unfold jy;cases hf:(L.getD i.toNat default).Forced with
   | false =>
    rw[show(!false)=true from rfl,if_pos rfl,du (n:=i+1) (by omega) (by omega),ih _ _ _ (by omega) (by omega) (by omega)];simp only[vR,hf,Bool.false_eq_true,if_false]
   | true =>
    rw[show(!true)=false from rfl,if_neg (by simp),du (n:=i+1) (by omega) (by omega),ih _ _ _ (by omega) (by omega) (by omega)];simp only[vR,hf,if_true]
  ·rw[if_neg (by simpa using hi),List.drop_eq_nil_of_le (by simp;omega)];rfl
theorem Dm(hn:L.length<n)(hL:(L.length:Int)<9223372036854775807):jJ K n L=some (fU (L.map vR)):=by
 unfold jJ;rw[zC hL n 0 0 0 (by omega) (by omega) (by simpa using hn)];rfl
theorem Er(hn:L.length<n)(hL:(L.length:Int)<9223372036854775807)(a:Nat)(out:List Int)(C:Int→List Int→Option (List Int)):∀(m e:Nat),1≤e→a≤e→e≤L.length→L.length<m+e →
  iX K n L w a out C m e=C ((lE (L.map vR) w a m e:Nat):Int) (out++[(a:Int)]):=by
 intro m
 induction m with
 | zero=>intro e h0 h1 h2 h3;omega
 | succ m ih =>
  intro e h0 h1 h2 h3;show iL K n L w a out C (iX K n L w a out C m) e=_;unfold iL lE;by_cases he:e<L.length
  ·rw[if_pos (by simpa using he),du (by omega) (by omega),eh (by omega) (by omega),dc];have e1:((e:Int)-1).toNat=e-1:=by omega
   have hv:=oT (L:=L) (k:=e-1) (by omega);have hf:((L.map vR).getD (e-1) default).f=(L.getD ((e:Int)-1).toNat default).Forced:=by
    rw[nZ (by simp;omega),hv,e1];rfl
   cases hb:(L.getD ((e:Int)-1).toNat default).Forced with
   | true =>
    unfold fw;rw[show(!true)=false from rfl,if_neg (by simp),if_neg (by simp),if_neg (by rw[hf,hb];simp)]
   | false =>
    have hg:=kI (l:=L.map vR) (i:=e+1) (by simp;omega);have hge:=fi (L.map vR) (e+1);simp only[List.length_map]at hg;rw[show(!false)=true from rfl,if_pos rfl,qJ (by omega) (by omega) hn hL];simp only[Option.bind_some,Int.toNat_natCast];rw[show db (a:Int) ((gr (L.map vR) (e+1):Nat):Int) L.length=true by simp only[db,Bool.and_eq_true,decide_eq_true_eq];omega,dc];have hs:List.drop a (List.take (gr (L.map vR) (e+1)) L)=sl L a (gr (L.map vR) (e+1)):=rfl;rw[hs,Dm (by have:=lq L a (gr (L.map vR) (e+1));omega) (by have:=lq L a (gr (L.map vR) (e+1));omega),vu];simp only[Option.bind_some];unfold fw;by_cases hw:fU (sl (L.map vR) a (gr (L.map vR) (e+1)))>w
    ·rw[if_neg (by simp;omega),if_neg (by simp[hw])]
    ·rw[if_pos (by simp;omega),if_pos ⟨by simpa using he,by rw[hf,hb],hw⟩,qJ (by omega) (by omega) hn hL];simp only[Option.bind_some,Int.toNat_natCast];exact ih _ (by omega) (by omega) (by omega) (by omega)
  ·rw[if_neg (by simpa using he),if_neg (by simp;omega)];unfold fw;rw[if_neg (by simp)]
theorem Di(hn:L.length<n)(hL:(L.length:Int)≤1000000):∀(m a:Nat) (out:List Int),a≤L.length→out.length≤a→L.length<m+a→ik K n L w m a out=some (out++(bM (L.map vR) w m a).map fun (k:Nat)=>(k:Int)):=by
 intro m
 induction m with
 | zero=>intro a out h1 h2 h3;omega
 | succ m ih =>
  intro a out h1 h2 h3;show gO K n L w (ik K n L w m) a out=_;unfold gO bM;by_cases ha:a<L.length
  ·rw[if_pos (by simpa using ha),if_pos (by simpa using ha),rq (by simp;omega) (by omega),dc,qJ (by omega) (by omega) hn (by omega)];simp only[Option.bind_some,Int.toNat_natCast];have hg:=kI (l:=L.map vR) (i:=a+1) (by simp;omega);have hge:=fi (L.map vR) (a+1);simp only[List.length_map]at hg;rw[Er hn (by omega) a out _ n _ (by omega) (by omega) hg (by omega)];rw[xz (L.map vR) w a n (L.map vR).length _ (by simp;omega) (by simp)];have h5:=rR (L.map vR) w a (L.map vR).length (gr (L.map vR) (a+1)) (by simpa using hg);have h6:=jK (L.map vR) w a (L.map vR).length (gr (L.map vR) (a+1));simp only[List.length_map]at h5 h6⊢;rw[ih _ _ h5 (by simp;omega) (by omega)];simp[List.append_assoc]
  ·rw[if_neg (by simpa using ha),if_neg (by simpa using ha)];simp
theorem Br(hn:L.length<n)(hL:(L.length:Int)≤1000000):km K n L w=some ((bM (L.map vR) w (L.length+1) 0).map fun (k:Nat)=>(k:Int)):=by
 unfold km;rw[show(0:Int)=((0:Nat):Int) from rfl,Di hn hL n 0 [] (by omega) (by simp) (by omega),uz (L.map vR) w n (L.length+1) 0 (by simp;omega) (by simp)];simp
end
end Go.Proofs.Ytnpmlepplfaijaa
namespace Go.Proofs.Ytnpmlepplfaijaa.QInlineBreak
set_option linter.all false
open Go.RowKit
theorem E8{K:Kn}{n:Nat}{X:List Int}(hX:(X.length:Int)<9223372036854775807):∀(m:Nat) (i:Int),0≤i→i≤X.length→X.length<m+i.toNat→iA K n X X m i=some true:=by
 intro m
 induction m with
 | zero=>intro i h0 h1 h2;omega
 | succ m ih =>
  intro i h0 h1 h2;show iq K n X X (iA K n X X m) i=_;unfold iq;by_cases hi:i<(X.length:Int)
  ·rw[if_pos (by simpa using hi),eh h0 hi];simp only[dc,Option.bind_some,bne_self_eq_false,Bool.false_eq_true,if_false];rw[du (by omega) (by omega)];exact ih _ (by omega) (by omega) (by omega)
  ·rw[if_neg (by simpa using hi)]
section
variable{K:Kn}{n:Nat}{L:List av}{w:Int}
theorem zT(hL:L.length≤40)(hn:60≤n):∀(m:Nat) (i:Int) (v7:List bJ),0≤i→i≤L.length→L.length<m+i.toNat→v7.map vR=(L.map vI).take i.toNat→eP K n L w m i v7=some true:=by
 intro m
 induction m with
 | zero=>intro i v7 h0 h1 h2;omega
 | succ m ih =>
  intro i v7 h0 h1 h2 hv;have hlen:v7.length=i.toNat:=by
   have:=congrArg List.length hv;simp at this;omega
  show iS K n L w (eP K n L w m) i v7=_;unfold iS;by_cases hi:i<(L.length:Int)
  ·have hk:i.toNat<L.length:=by omega
   rw[if_pos (by simpa using hi),eh h0 hi,dc];have ht:ee K n L w i v7 (eP K n L w m) true=some true:=rfl;have hf:ee K n L w i v7 (eP K n L w m) false=some true:=by
    unfold ee;rw[if_neg (by simp),rq (by simp;omega) (by omega),dc,du (by omega) (by omega)];refine ih _ _ (by omega) (by omega) (by omega) ?_;rw[List.map_append,hv,show(i+1).toNat=i.toNat+1 by omega,List.take_add_one,List.getElem?_eq_getElem (by simpa using hk),jh hk];rfl
   have hall:∀b,ee K n L w i v7 (eP K n L w m) b=some true:=fun b=>by cases b;exact hf;exact ht
   repeat' split
   all_goals exact hall _
  ·rw[if_neg (by simpa using hi)];have e:v7.map vR=L.map vI:=by rw[hv,List.take_of_length_le (by simp;omega)]
   have e2:v7.length=L.length:=by have:=congrArg List.length e;simpa using this
   rw[Dn (by omega) (by omega),Br (by omega) (by omega),e,e2];simp only[Option.bind_some,bne_self_eq_false,Bool.false_eq_true,if_false];have hb:=xh (L.map vI) w (L.length+1) 0;simp only[List.length_map,Nat.sub_zero]at hb;exact E8 (by simp;omega) n 0 (by omega) (by omega) (by simp;omega)
end
theorem holds(x0:List av)(x1:Int)(h0:bt Try.prog 37 ((sg ax) x0))(h1:bt Try.prog 3 ((aX .i64) x1)):∃n,nk (KN n) n x0 x1=some true:=by
 refine⟨40+40,?_⟩;unfold nk;rw[E3 40];simp only[Option.bind_some,Bool.not_true,Bool.false_eq_true,if_false];by_cases h:(x0.length:Int)>40
 ·rw[if_pos (by simpa using h)]
 ·rw[if_neg (by simpa using h)];exact zT (by omega) (by omega) _ 0 [] (by omega) (by omega) (by simp;omega) rfl
end Go.Proofs.Ytnpmlepplfaijaa.QInlineBreak
