/- Layer 22, plain: a row as its items' runs, and a plain rest. No program in sight. -/
import Derived.Test.YtocgkfoifehcbaaGreatRpZ16
import Derived.Test.YtocgkfoifehcbaaGreatRpGop
namespace Go.Proofs.YtocgkfoifehcbaaGreat
set_option linter.all false
open Go.RowKit
abbrev em:=List R4
def amq:=@List.filter_eq_self
def am1:=@ByteArray.toList.loop.eq_1
def am4:=@Nat.le_of_eq
def am7:=@Bool.not_false
def am8:=@List.mem_of_find?_eq_some
def ani:=@List.any_eq_false
def anx:=@List.find?_cons
def anF:=@List.mem_map_of_mem
namespace Fl
open QSort (wn cI dx dv pU qY sb)
open Fw
def eU(W:ag→Int×Int)(c:Int)(k:ag):bG:=⟨eP k.Style.Basis c (eP k.Style.Width c (aa ((W k).2-iD (f8 k.Style 0 0)))),k.Style.Grow,k.Style.Shrink,eP k.Style.MinWidth c 0,eP k.Style.MaxWidth c 1048576⟩
def eo(c:Int)(k:ag):Int:=iD (f8 k.Style c 0)
def ju(W:ag→Int×Int)(c:Int)(k:ag):Int:=Rs.hyp (eU W c k)+eo c k
theorem VB W c k: -6291456≤ju W c k∧ju W c k≤7340032:=by
 have a:=Rs.KJ (eU W c k);have b:=LI k.Style c
 grind[ju,eo]
theorem JS{α β:Type}[Inhabited α][Inhabited β](f:α→β){l:List α}{k}(a:k<l.length):(l.map f).getD k default=f (l.getD k default):=by
 grind
instance:Inhabited bG:=⟨kB⟩
section
variable(K:Kn)(n:Nat)(L:dn)(f:L.length≤19)(c:Int)(W:ag→Int×Int)(env:bN)(a d:Int)(S:ct)(e:∀k∈L,K.jD env.Widths k=some (W k))
include f e
theorem acp(b:ag):∀(m i:Nat),i≤L.length→L.length<m+i →
  qX K n b c env a d S L m (i:Int) (mix i (L.map (eU W c)) (List.replicate L.length kB)) (mix i (L.map (eo c)) (List.replicate L.length 0)) (mix i (L.map (ju W c)) (List.replicate L.length 0)) =
  if b.Style.Wrap=true then (qu K n (L.map (ju W c)) c).bind fun f=>mg K n c env a d S L (L.map (eU W c)) (L.map (eo c)) f else mg K n c env a d S L (L.map (eU W c)) (L.map (eo c)) [0]:=by
 have l:(L.map (eU W c)).length=(List.replicate L.length kB).length:=by simp
 have g:(L.map (eo c)).length=(List.replicate L.length (0:Int)).length:=by simp
 have o:(L.map (ju W c)).length=(List.replicate L.length (0:Int)).length:=by simp
 have y:(List.replicate L.length kB).length=L.length:=by simp
 have p:(List.replicate L.length (0:Int)).length=L.length:=by simp
 intro m
 induction m with
 | zero=>intro i E F;omega
 | succ m I =>
  intro i E F;simp only[qX,Ed];by_cases h:i<L.length
  ·have G:=e _ (gX h);have J:=Dq (i:=i) l;have v:=Dq (i:=i) g;have M:=Dq (i:=i) o;have z:=FZ l (i:=i) (by omega);have A:=FZ g (i:=i) (by omega);have B:=FZ o (i:=i) (by omega);have t:=ajk g (i:=i) (by omega);have N:=Dq (i:=i+1) g;rw[JS (eU W c) h]at z;rw[JS (eo c) h]at A t;rw[JS (ju W c) h]at B;have w:=VB W c (L.getD i default);have C:aa ((i:Int)+1)=((i+1:Nat):Int):=wn (by omega) (by omega);rw[dx (by omega)];have k:∀x,x=(eU W c (L.getD i default)).az→vF K n b c env a d S L (i:Int) (mix i (L.map (eU W c)) (List.replicate L.length kB)) (mix i (L.map (eo c)) (List.replicate L.length 0)) (mix i (L.map (ju W c)) (List.replicate L.length 0)) (eo c (L.getD i default)) (eP (L.getD i default).Style.MinWidth c 0) (eP (L.getD i default).Style.MaxWidth c 1048576) (L.getD i default).Style.Grow (L.getD i default).Style.Shrink (qX K n b c env a d S L m) x =
     (if b.Style.Wrap=true then (qu K n (L.map (ju W c)) c).bind fun f=>mg K n c env a d S L (L.map (eU W c)) (L.map (eo c)) f else mg K n c env a d S L (L.map (eU W c)) (L.map (eo c)) [0]):=by
    intro x H;subst H;unfold vF;have D:(⟨(eU W c (L.getD i default)).az,(L.getD i default).Style.Grow,(L.getD i default).Style.Shrink,eP (L.getD i default).Style.MinWidth c 0,eP (L.getD i default).Style.MaxWidth c 1048576⟩:bG)=eU W c (L.getD i default):=rfl;simp only[D,Rs.IG,sb,fh,z,A,J,v,M,N,t,C,y,p,cI (show(0:Int)≤(i:Int)∧(i:Int)<(L.length:Nat) by omega)];rw[bT (n:=Rs.hyp (eU W c (L.getD i default))+eo c (L.getD i default)) (by unfold ju at w;omega) (by unfold ju at w;omega)];rw[show Rs.hyp (eU W c (L.getD i default))+eo c (L.getD i default)=ju W c (L.getD i default) from rfl,B];exact I (i+1) (by omega) (by omega)
   simp only[cI (show(0:Int)≤(i:Int)∧(i:Int)<(L.length:Nat) by omega),fh,vm,vt,sb,BU,gO,v,p,zV];rw[show iD (f8 (L.getD i default).Style c 0)=eo c (L.getD i default) from rfl];cases j:(cO (L.getD i default).Style.Basis c).2 with
   | true =>
    simp only[Ts,hH,rv];exact k _ (by unfold eU eP;simp only[j,wl])
   | false =>
    simp only[am7,wl];cases u:(cO (L.getD i default).Style.Width c).2 with
    | true =>
     simp only[Ts,hH,rv];exact k _ (by unfold eU eP;simp only[j,u,wl,hH,rv])
    | false =>
     simp only[am7,wl];rw[G,sb];exact k _ (by unfold eU eP;simp only[j,u,hH,rv])
  ·obtain rfl:i=L.length:=by omega
   have q:=HN l;have r:=HN g;have s:=HN o;rw[y]at q;rw[p]at r s;rw[dv (by omega),q,r,s]
end
def lj(b:ag)(c:Int)(W:ag→Int×Int)(L:dn):b5:=if b.Style.Wrap=true then nf c (L.map (ju W c)) else [0]
def i7(b:ag)(c:Int)(W:ag→Int×Int)(L:dn):List (Nat×b5):=iW c L.length (L.map (eU W c)) (L.map (eo c)) (lj b c W L) 0 (lj b c W L).length
theorem O9 b c W L:St L.length (lj b c W L):=by
 unfold lj;split
 ·have:=ae1 c (L.map (ju W c));grind
 grind[ajP]
theorem agN(N:Nat)(t:20010≤N)(b:ag)(L:dn)(m:L.length≤19)(z:lO (KN N) N b=some L)(c:Int)(y:0≤c∧c≤8388608)(W:ag→Int×Int)(env:bN)(v:∀k∈L,(KN N).jD env.Widths k=some (W k))(a f:Int)(S:ct):
  xz (KN N) N b c env a f S=(du (fun b w=>(KN N).dE env.Layout b w) (iz c L (i7 b c W L)) a f S).bind fun r=>some ((ib (L.map (eo c)) (i7 b c W L) r.1 0 []).1,(ib (L.map (eo c)) (i7 b c W L) r.1 0 []).2,r.2.1,r.2.2.1,r.2.2.2):=by
 unfold xz;rw[z,sb];have n:fO (L.length:Int) 40=true:=by simp[fO];omega
 have o:fO (L.length:Int) 8=true:=by simp[fO];omega
 rw[n,o];simp only[bi,sb,fh];have h:=acp (KN N) N L m c W env a f S v b N 0 (n3 _) (by omega);have u:Small 7340032 (L.map (ju W c)):=fun x l=>by
  obtain⟨k,_,rfl⟩:=u6.1 l;have:=VB W c k;omega
 have s:Small 6291456 (L.map (eo c)):=fun x l=>by
  obtain⟨k,_,rfl⟩:=u6.1 l;exact LI k.Style c
 have p:qX (KN N) N b c env a f S L N 0 (List.replicate L.length kB) (List.replicate L.length 0) (List.replicate L.length 0)=_:=h;rw[p,ab0 (KN N) c (by omega) u (by rw[lp];omega) (by omega)];have g:∀ST,lj b c W L=ST→mg (KN N) N c env a f S L (L.map (eU W c)) (L.map (eo c)) ST=(du (fun b w=>(KN N).dE env.Layout b w) (iz c L (i7 b c W L)) a f S).bind fun r=>some ((ib (L.map (eo c)) (i7 b c W L) r.1 0 []).1,(ib (L.map (eo c)) (i7 b c W L) r.1 0 []).2,r.2.1,r.2.2.1,r.2.2.2):=fun ST q=>by
  have d:=O9 b c W L;have j:=d.len;unfold mg i7;rw[q]at d j⊢;have e:=afj N t c y env L m (L.map (eU W c)) (L.map (eo c)) ST (by simp) (by simp) s d N 0 0 [] a f S (n3 _) (by omega) (by simp);simpa using e
 by_cases i:b.Style.Wrap=true
 ·rw[iF i,sb];exact g _ (by unfold lj;rw[iF i])
 ·rw[io i];exact g _ (by unfold lj;rw[io i])
end Fl
namespace Fl
open QSort (wn cI dx dv pU qY sb)
open Fw
def Ak(x:Int):Int:=min (max x (-1125899906842624)) 1125899906842624
theorem Xt N(a:20010≤N) l sp(b:l.length≤19):kh (KN N) N l sp=some (Rs.resolve l (Ak sp)):=by
 rw[←Rs.nz (n:=N) (lvl:=N) l (sp:=Ak sp) b (by grind[Ak]) (by omega) a]
 grind[kh,Ak]
def lZ(c:Int)(k:ag):Int:=aa ((aa ((aa ((f8 k.Style c 0).Border.a0+(f8 k.Style c 0).Border.a2))+(f8 k.Style c 0).Padding.a0))+(f8 k.Style c 0).Padding.a2)
def nU(c:Int)(k:ag)(f:ab):bG:=⟨if (k.Style.Basis.Kind == 1)=true then eP k.Style.Basis 0 0 else aa (f.H-lZ c k),k.Style.Grow,k.Style.Shrink,0,1048576⟩
def Gd(c:Int)(k:ag)(f:ab):Int:=aa (aa (mU f.Before+qD f)+lZ c k)
structure qw where
 space:Int
 gn:b5
 items:d7
 inner:b5
 edges:b5
 out:b7
def dW(c:Int)(k:ag)(f:ab)(a:qw):qw :=
 ⟨aa (a.space-Gd c k f),a.gn++[Rs.hyp (nU c k f)],a.items++[nU c k f],a.inner++[lZ c k],a.edges++[Gd c k f],a.out++[f]⟩
def dC(c:Int):dn→b7→qw→qw
 | k::l,f::r,a=>dC c l r (dW c k f a)
 | _,_,a=>a
structure xJ n(a:qw):Prop where
 s:a.gn.length=n
 i:a.items.length=n
 w:a.inner.length=n
 e:a.edges.length=n
 o:a.out.length=n
theorem Ma{c}{k}{f}{n}{a}(h:xJ n a):xJ (n+1) (dW c k f a) :=
 ⟨by simp[dW,h.s],by simp[dW,h.i],by simp[dW,h.w],by simp[dW,h.e],by simp[dW,h.o]⟩
theorem xj{c:Int}:∀(l:dn) (r:b7) {n:Nat} {a:qw},l.length=r.length→xJ n a→xJ (n+l.length) (dC c l r a)∧(dC c l r a).out=a.out++r
 | [],[],n,a,_,h=>⟨h,by simp[dC]⟩
 | k::l,f::r,n,a,d,h=>by
  simp only[iN]at d;obtain⟨e,b⟩:=xj l r (by omega) (Ma (c:=c) (k:=k) (f:=f) h);refine⟨?_,by simp only[dC];rw[b];simp[dW]⟩
  grind[dC]
 | [],_::_,_,_,h,_=>by grind
 | _::_,[],_,_,h,_=>by grind
theorem aiC(K:Kn)(n:Nat)(b:ag)(c:Int)(env:bN)(L:dn)(C:L.length≤19):∀(m i:Nat) (a:qw) (f h:Int) (S:ct),i≤L.length→L.length<m+i→xJ i a →
  mL K n b c env L m a.space (i:Int) a.gn a.items a.inner a.edges a.out f h S =
   (du (fun b w=>K.dE env.Layout b w) ((L.drop i).map fun k=>(k,c)) f h S).bind fun r =>
    if (b.Style.Height.Kind == 1)=true then (kh K n (dC c (L.drop i) r.1 a).items (dC c (L.drop i) r.1 a).space).bind fun d=>kM K n (dC c (L.drop i) r.1 a).inner (dC c (L.drop i) r.1 a).edges (dC c (L.drop i) r.1 a).out r.2.1 r.2.2.1 r.2.2.2 d
    else kM K n (dC c (L.drop i) r.1 a).inner (dC c (L.drop i) r.1 a).edges (dC c (L.drop i) r.1 a).out r.2.1 r.2.2.1 r.2.2.2 (dC c (L.drop i) r.1 a).gn:=by
 intro m
 induction m with
 | zero=>intro i a f h S u v;omega
 | succ m A =>
  intro i a f h S u v e;simp only[mL,C3];by_cases j:i<L.length
  ·rw[drop_at' j];simp only[fP j,wl,dY j,bi,Int.toNat_natCast,n5,du];cases D:K.dE env.Layout (L.getD i default) c f h S with
   | none=>rfl
   | some q =>
    have B:o7 K n b c env L a.space (i:Int) a.gn a.items a.inner a.edges a.out q (lZ c (L.getD i default)) (L.getD i default).Style.Grow (L.getD i default).Style.Shrink (mL K n b c env L m) (nU c (L.getD i default) q.1).az=mL K n b c env L m (dW c (L.getD i default) q.1 a).space ((i+1:Nat):Int) (dW c (L.getD i default) q.1 a).gn (dW c (L.getD i default) q.1 a).items (dW c (L.getD i default) q.1 a).inner (dW c (L.getD i default) q.1 a).edges (dW c (L.getD i default) q.1 a).out q.2.1 q.2.2.1 q.2.2.2:=by
     unfold o7;have t:(⟨(nU c (L.getD i default) q.1).az,(L.getD i default).Style.Grow,(L.getD i default).Style.Shrink,0,1048576⟩:bG)=nU c (L.getD i default) q.1:=rfl;have l:aa (((a.edges++[aa (aa (mU q.1.Before+qD q.1)+lZ c (L.getD i default))]).length:Int)-1)=(i:Int):=by
      rw[kc,e.e];simp only[iN,ro];rw[bT (by omega) (by omega)];omega
     simp only[t,KV,Vt,sb,Rs.IG,l,List.length_singleton];rw[de (by rw[e.i];omega) (by omega),bi,de (by rw[e.w];omega) (by omega),bi,de (by rw[e.e];omega) (by omega),bi,dY (show i<(a.edges++[aa (aa (mU q.1.Before+qD q.1)+lZ c (L.getD i default))]).length by simp[e.e]),bi,de (by rw[e.s];omega) (by omega),bi,de (by rw[e.o];omega) (by omega),bi,fB (by omega)];rw[show List.getD (a.edges++[aa (aa (mU q.1.Before+qD q.1)+lZ c (L.getD i default))]) ((i:Int)).toNat default=Gd c (L.getD i default) q.1 by rw[Int.toNat_natCast];exact Rg e.e.symm];rfl
    simp only[sb,vm,BU];have o:=B.trans (A (i+1) (dW c (L.getD i default) q.1 a) q.2.1 q.2.2.1 q.2.2.2 (by omega) (by omega) (Ma e));have p:∀x,x=(nU c (L.getD i default) q.1).az→o7 K n b c env L a.space (i:Int) a.gn a.items a.inner a.edges a.out q (lZ c (L.getD i default)) (L.getD i default).Style.Grow (L.getD i default).Style.Shrink (mL K n b c env L m) x=o7 K n b c env L a.space (i:Int) a.gn a.items a.inner a.edges a.out q (lZ c (L.getD i default)) (L.getD i default).Style.Grow (L.getD i default).Style.Shrink (mL K n b c env L m) (nU c (L.getD i default) q.1).az:=fun x z=>by rw[z]
    have g:((du (fun b w=>K.dE env.Layout b w) ((L.drop (i+1)).map fun k=>(k,c)) q.2.1 q.2.2.1 q.2.2.2).bind fun y=>some (q.1::y.1,y.2)).bind (fun r =>
      if (b.Style.Height.Kind == 1)=true then (kh K n (dC c (L.getD i default::L.drop (i+1)) r.1 a).items (dC c (L.getD i default::L.drop (i+1)) r.1 a).space).bind fun d=>kM K n (dC c (L.getD i default::L.drop (i+1)) r.1 a).inner (dC c (L.getD i default::L.drop (i+1)) r.1 a).edges (dC c (L.getD i default::L.drop (i+1)) r.1 a).out r.2.1 r.2.2.1 r.2.2.2 d
      else kM K n (dC c (L.getD i default::L.drop (i+1)) r.1 a).inner (dC c (L.getD i default::L.drop (i+1)) r.1 a).edges (dC c (L.getD i default::L.drop (i+1)) r.1 a).out r.2.1 r.2.2.1 r.2.2.2 (dC c (L.getD i default::L.drop (i+1)) r.1 a).gn) =
      (du (fun b w=>K.dE env.Layout b w) ((L.drop (i+1)).map fun k=>(k,c)) q.2.1 q.2.2.1 q.2.2.2).bind (fun r =>
      if (b.Style.Height.Kind == 1)=true then (kh K n (dC c (L.drop (i+1)) r.1 (dW c (L.getD i default) q.1 a)).items (dC c (L.drop (i+1)) r.1 (dW c (L.getD i default) q.1 a)).space).bind fun d=>kM K n (dC c (L.drop (i+1)) r.1 (dW c (L.getD i default) q.1 a)).inner (dC c (L.drop (i+1)) r.1 (dW c (L.getD i default) q.1 a)).edges (dC c (L.drop (i+1)) r.1 (dW c (L.getD i default) q.1 a)).out r.2.1 r.2.2.1 r.2.2.2 d
      else kM K n (dC c (L.drop (i+1)) r.1 (dW c (L.getD i default) q.1 a)).inner (dC c (L.drop (i+1)) r.1 (dW c (L.getD i default) q.1 a)).edges (dC c (L.drop (i+1)) r.1 (dW c (L.getD i default) q.1 a)).out r.2.1 r.2.2.1 r.2.2.2 (dC c (L.drop (i+1)) r.1 (dW c (L.getD i default) q.1 a)).gn):=by
     cases du (fun b w=>K.dE env.Layout b w) ((L.drop (i+1)).map fun k=>(k,c)) q.2.1 q.2.2.1 q.2.2.2<;>rfl
    rw[g];cases s:((L.getD i default).Style.Basis.Kind == 1) with
    | true =>
     simp only[wl];exact(p (eP (L.getD i default).Style.Basis 0 0) (by simp only[nU,s,wl])).trans o
    | false =>
     simp only[hH,rv];exact(p (aa (q.1.H-lZ c (L.getD i default))) (by simp only[nU,s,hH,rv])).trans o
  ·simp only[ia (show L.length≤i by omega),hH,rv];rw[show L.drop i=[] from la (by omega)];simp only[u7,du,sb,dC]
end Fl
namespace Fl
open QSort (wn cI dx dv pU qY sb)
open Fw
def iT:b5→b5→b5→b7→Int→b7×Int
 | z::Z,i::I,e::E,f::a,y=>({ f with H:=aa (z+i),Y:=aa (y+mU f.Before) }::(iT Z I E a (aa (y+aa (z+e)))).1,(iT Z I E a (aa (y+aa (z+e)))).2)
 | _,_,_,_,y=>([],y)
theorem K4:∀a Z I E y,(iT Z I E a y).1.length≤a.length∧∀f∈(iT Z I E a y).1,∃g∈a,f.Kids=g.Kids
 | [],Z,I,E,y=>by
  grind[iT]
 | f::a,[],I,E,y=>⟨n3 _,fun f b=>by cases b⟩
 | f::a,z::Z,[],E,y=>⟨n3 _,fun f b=>by cases b⟩
 | f::a,z::Z,i::I,[],y=>⟨n3 _,fun f b=>by cases b⟩
 | f::a,z::Z,i::I,e::E,y=>by
  obtain⟨c,d⟩:=K4 a Z I E (aa (y+aa (z+e)))
  grind[iT]
theorem akh(K:Kn)(n:Nat)(I E:b5)(a:b7)(b h:Int)(S:ct)(Z:b5)(o:Z.length=a.length)(l:I.length=a.length)(k:E.length=a.length)(p:a.length≤1000):∀(m:Nat) (A R:b7) (y:Int),A.length+R.length=a.length→R.length<m →
  zH K n I E a b h S Z m y (A.length:Int) (A++R)=some (A++(iT (Z.drop A.length) (I.drop A.length) (E.drop A.length) R y).1,(iT (Z.drop A.length) (I.drop A.length) (E.drop A.length) R y).2,b,h,S):=by
 intro m
 induction m with
 | zero=>intro A R y _ d;omega
 | succ m j =>
  intro A R y c d;simp only[zH,Cm];cases R with
  | nil =>
   have e:A.length=a.length:=by simpa using c
   simp only[ia (show a.length≤A.length by omega),hH,rv];rw[la (by omega)];simp[iT]
  | cons f R =>
   simp only[iN]at c d;have i:A.length<a.length:=by omega
   rw[drop_at' (show A.length<Z.length by omega),drop_at' (show A.length<I.length by omega),drop_at' (show A.length<E.length by omega)];simp only[iT];have g:=j (A++[({ f with H:=aa (Z.getD A.length default+I.getD A.length default),Y:=aa (y+mU f.Before) }:ab)]) R (aa (y+aa (Z.getD A.length default+E.getD A.length default))) (by simp;omega) (by omega);simp only[u3,alP,kc,iN,ro,z5]at g;simp only[fP i,wl,Int.toNat_natCast,Kh,H9,dY (show A.length<Z.length by omega),dY (show A.length<I.length by omega),dY (show A.length<E.length by omega),kc,iN,dY (show A.length<A.length+(R.length+1) by omega),bi,sb,KV,fB (show A.length<1000000000 by omega)];exact g
def m7(b:ag)(c:Int)(L:dn)(r:b7):b7×Int :=
 let a:=dC c L r ⟨max (eP b.Style.Height 0 0) 0,[],[],[],[],[]⟩
 iT (if (b.Style.Height.Kind == 1)=true then Rs.resolve a.items (Ak a.space) else a.gn) a.inner a.edges a.out 0
theorem abb(N:Nat)(o:20010≤N)(b:ag)(L:dn)(m:L.length≤19)(p:lO (KN N) N b=some L)(c:Int)(env:bN)(f i:Int)(S:ct):
  zp (KN N) N b c env f i S=(du (fun b w=>(KN N).dE env.Layout b w) (L.map fun k=>(k,c)) f i S).bind fun r=>some ((m7 b c L r.1).1,(m7 b c L r.1).2,r.2.1,r.2.2.1,r.2.2.2):=by
 unfold zp;rw[BU,sb,p,sb];have h:=aiC (KN N) N b c env L m N 0 ⟨max (eP b.Style.Height 0 0) 0,[],[],[],[],[]⟩ f i S (n3 _) (by omega) ⟨rfl,rfl,rfl,rfl,rfl⟩;have l:mL (KN N) N b c env L N (max (eP b.Style.Height 0 0) 0) 0 [] [] [] [] [] f i S=_:=h;rw[l,Do];cases q:du (fun b w=>(KN N).dE env.Layout b w) (L.map fun k=>(k,c)) f i S with
 | none=>rfl
 | some r =>
  have g:=ua q;rw[lp]at g;obtain⟨d,t⟩:=xj (c:=c) L r.1 (n:=0) (a:=⟨max (eP b.Style.Height 0 0) 0,[],[],[],[],[]⟩) g.symm ⟨rfl,rfl,rfl,rfl,rfl⟩;simp only[sb];unfold m7;simp only;generalize dC c L r.1 ⟨max (eP b.Style.Height 0 0) 0,[],[],[],[],[]⟩=a at *;have j:∀Z:b5,Z.length=L.length→kM (KN N) N a.inner a.edges a.out r.2.1 r.2.2.1 r.2.2.2 Z=some ((iT Z a.inner a.edges a.out 0).1,(iT Z a.inner a.edges a.out 0).2,r.2.1,r.2.2.1,r.2.2.2):=fun Z s=>by
   unfold kM;have e:=akh (KN N) N a.inner a.edges a.out r.2.1 r.2.2.1 r.2.2.2 Z (by rw[d.o];omega) (by rw[d.w,d.o]) (by rw[d.e,d.o]) (by rw[d.o];omega) N [] a.out 0 (by simp) (by rw[d.o];omega);simpa using e
  split
  ·rw[Xt N o _ _ (by rw[d.i];omega),sb];exact j _ (by rw[Rs.Hg,d.i];omega)
  ·exact j _ (by rw[d.s];omega)
def mf(z:cb)(f:ab):ab:=o4 { f with X:=aa (f.X+aa (z.Border.a3+z.Padding.a3)),Y:=aa (f.Y+aa (z.Border.a0+z.Padding.a0)) } z.Content
theorem Mk z f:(mf z f).Kids=f.Kids:=by grind[mf,Mt]
theorem Y7(K:Kn)(n:Nat)(b:ag)(z:cb)(j k:bh)(L:b7)(p:L.length≤10000)(a i w h:Int)(S:ct):∀(m:Nat) (A R:b7),A.length+R.length=L.length→R.length<m →
  yK K n b z j k L a i S w h m (A.length:Int) (A++R)=some (⟨1,b.Node,z.Margin.a3,0,w,h,0,⟨#[]⟩,b.Style,j,k,false,A++R.map (mf z)⟩,a,i,S):=by
 intro m
 induction m with
 | zero=>intro A R _ d;omega
 | succ m o =>
  intro A R c d;simp only[yK,D6];cases R with
  | nil =>
   have e:A.length=L.length:=by simpa using c
   simp only[ia (show L.length≤A.length by omega),hH,rv,u7]
  | cons f R =>
   simp only[iN]at c d;have l:A.length<L.length:=by omega
   have g:=o (A++[mf z f]) R (by simp;omega) (by omega);simp only[u3,alP,kc,iN,ro,z5]at g;simp only[fP l,wl,Int.toNat_natCast,Kh,H9,kc,iN,dY (show A.length<A.length+(R.length+1) by omega),bi,sb,Nk,fB (show A.length<1000000000 by omega),n5];exact g
def sx(b:ag)(z:cb)(a:b7)(h:Int):ab :=
 ⟨1,b.Node,z.Margin.a3,0,aa (aa (aa (aa (z.Content+z.Border.a1)+z.Border.a3)+z.Padding.a1)+z.Padding.a3),aa (aa (aa (aa ((if (b.Style.Height.Kind == 1)=true then max (eP b.Style.Height 0 0) 0 else max h 0)+z.Border.a0)+z.Border.a2)+z.Padding.a0)+z.Padding.a2),0,⟨#[]⟩,b.Style,jf z.Margin.a0,jf z.Margin.a2,false,a.map (mf z)⟩
theorem Ny(K:Kn)(n:Nat)(b:ag)(z:cb)(h:Int)(L:b7)(d:L.length≤10000)(f:L.length<n)(a c:Int)(S:ct):uv K n b z (jf z.Margin.a0) (jf z.Margin.a2) h L a c S=some (sx b z L h,a,c,S):=by
 have g:∀x,vH K n b z (jf z.Margin.a0) (jf z.Margin.a2) L a c S x=some (⟨1,b.Node,z.Margin.a3,0,aa (aa (aa (aa (z.Content+z.Border.a1)+z.Border.a3)+z.Padding.a1)+z.Padding.a3),aa (aa (aa (aa (x+z.Border.a0)+z.Border.a2)+z.Padding.a0)+z.Padding.a2),0,⟨#[]⟩,b.Style,jf z.Margin.a0,jf z.Margin.a2,false,L.map (mf z)⟩,a,c,S):=fun x=>by
  unfold vH;simp only[sb];have e:=Y7 K n b z (jf z.Margin.a0) (jf z.Margin.a2) L d a c (aa (aa (aa (aa (z.Content+z.Border.a1)+z.Border.a3)+z.Padding.a1)+z.Padding.a3)) (aa (aa (aa (aa (x+z.Border.a0)+z.Border.a2)+z.Padding.a0)+z.Padding.a2)) S n [] L (by simp) (by omega)
  grind
 grind[uv,sx,BU,sb]
end Fl
noncomputable section
def ow(f:ab):Nat:=if (f.Kind != 2)=true then 0 else 1+(f.Kids.map fun k=>k.Text.size).sum
def tw:Nat→ab→Nat
 | 0,_=>0
 | d+1,f=>ow f+(f.Kids.map (tw d)).sum
def cK(d:Nat)(l:b7):Nat:=(l.map (tw d)).sum
theorem vE{d}{f g}(a:f.Kind=g.Kind)(b:f.Kids=g.Kids):tw d f=tw d g:=by
 cases d with
 | zero=>rfl
 | succ d=>grind[tw,ow]
theorem OI{d} h(a:∀f,(h f).Kind=f.Kind)(b:∀f,(h f).Kids=f.Kids) l:cK d (l.map h)=cK d l:=by
 unfold cK;rw[List.map_map];exact amM List.sum (amY fun f _=>vE (a f) (b f))
theorem KT d a b:cK d (a++b)=cK d a+cK d b:=by simp[cK]
theorem pW d f l:cK d (f::l)=tw d f+cK d l:=rfl
theorem abH d n l:cK d (l.take n)+cK d (l.drop n)=cK d l:=by rw[←KT,aeq]
theorem Tq f w:(o4 f w).Kind=f.Kind:=by grind[o4]
theorem MT b z t i o h j c a L d:tw (d+1) (mr b z t i o h j c a L)=cK d L:=by
 have e:∀f c a g h,tw (d+1) (mJ b z o L f c a g h)=cK d L:=fun f c a g h=>by
  show 0+cK d (L.map (l5 o z f))=cK d L
  grind[OI,l5,Tq,M3]
 grind[mr]
theorem agB(K:Kn)(n d:Nat)(L:b7):∀(m i:Nat) (h:Int) (b:bh) (t:Bool) (q:bh) (l:b7) (r:b7×Int×bh×bh×Bool),i≤L.length→L.length<1000000→iM K n L m h t (i:Int) b q l=some r→cK d r.1≤cK d l+cK d (L.drop i):=by
 intro m
 induction m with
 | zero=>intro i h b t q l r _ _ k;cases k
 | succ m u =>
  intro i h b t q l r w s k;simp only[iM,sh]at k;by_cases c:i<L.length
  ·have key:∀(j:Int) (o:Bool) (b' a:bh) (y:Int),iM K n L m j o ((i+1:Nat):Int) b' a (l++[{ L.getD i default with Y:=y }])=some r→cK d r.1≤cK d l+cK d (L.drop i):=fun j o b' a y e=>by
    have:=u (i+1) j b' o a _ r (by omega) s e;rw[KT,pW]at this;rw[drop_at' c,pW,← vE (d:=d) (f:={ L.getD i default with Y:=y }) (g:=L.getD i default) rfl rfl];have v:cK d []=0:=rfl;omega
   have p:∀(j:Int) (o:Bool) (b' a:bh) (y:Int),pR K n L (i:Int) l y (iM K n L m) j o b' a=some r→cK d r.1≤cK d l+cK d (L.drop i):=fun j o b' a y e=>by
    unfold pR at e;obtain⟨_,e⟩:=aB e;rw[fB (by omega),Int.toNat_natCast]at e;exact key _ _ _ _ _ e
   simp only[fP c,wl,dY c,bi,kW,gK,go,rF,rG]at k
   repeat (first|exact p _ _ _ _ _ k|split at k)
  grind[pH]
theorem ahK K n d L{r}(a:L.length<1000000)(h:kF K n L=some r):cK d r.1≤cK d L:=by
 have:=agB K n d L n 0 0 dD true dD [] r (n3 _) a h
 grind[cK]
namespace Fl
theorem TV d y:∀ps b a,cK d (gv y ps b a).2.2≤cK d a.2.2+cK d b
 | [],b,a=>by grind[gv]
 | p::ps,[],a=>by grind[gv]
 | p::ps,f::b,a=>by
  simp only[gv];have:=TV d y ps b (s4 y p a f);have e:cK d (s4 y p a f).2.2=cK d a.2.2+tw d f:=by
   show cK d (a.2.2++[_])=_;rw[KT];exact amM (cK d a.2.2 + ·) (vE (g:=f) rfl rfl)
  grind[pW]
theorem R5 d ED:∀b r y a,cK d (ib ED b r y a).1≤cK d a+cK d r
 | [],r,y,a=>by grind[ib]
 | l::b,r,y,a=>by
  simp only[ib];have c:=TV d y (ig ED l.1 l.2) (r.take l.2.length) (0,0,a);have e:=R5 d ED b (r.drop l.2.length) (aa (y+(gv y (ig ED l.1 l.2) (r.take l.2.length) (0,0,a)).2.1)) (gv y (ig ED l.1 l.2) (r.take l.2.length) (0,0,a)).2.2;have f:=abH d l.2.length r
  grind
theorem Mq d:∀a Z I E y,cK d (iT Z I E a y).1≤cK d a
 | [],Z,I,E,y=>by
  grind[iT]
 | f::a,[],I,E,y=>n3 _
 | f::a,z::Z,[],E,y=>n3 _
 | f::a,z::Z,i::I,[],y=>n3 _
 | f::a,z::Z,i::I,e::E,y=>by
  have:=Mq d a Z I E (aa (y+aa (z+e)))
  grind[iT,pW,vE]
theorem To b z L h d:tw (d+1) (sx b z L h)=cK d L:=by
 show 0+cK d (L.map (mf z))=cK d L
 grind[OI,mf,Tq,Mk]
end Fl
def CL:Nat:=2001*200000001
theorem agc{f}(a:f.Kind=3)(b:f.Kids=[]) d:tw d f=0:=by
 cases d with
 | zero=>rfl
 | succ d=>grind[tw,ow]
theorem SM{d}:∀{l},(∀f∈l,tw d f=0)→cK d l=0
 | [],_=>rfl
 | f::r,h=>by rw[pW,h f pe,SM (fun g a=>h g (by grind))]
theorem Oh{l:b7}{g}{B}(h:∀f∈l,g f≤B):(l.map g).sum≤l.length*B:=by
 induction l with
 | nil=>simp
 | cons a r b =>
  have c:=h a pe;have d:=b (fun f e=>h f (by grind));simp only[n5,al8,iN,ac6];omega
theorem OX(a b:Int):∀(X:dO) (i x:Int),(∀r∈X,r.Box=[]∧r.Text.size≤100000)→(gm a b i x X).length≤X.length∧∀f∈gm a b i x X,f.Kind=3∧f.Kids=[]∧f.Text.size≤100000
 | [],i,x,_=>⟨by simp[gm],fun f c=>by simp[gm]at c⟩
 | r::t,i,x,h=>by
  have g:=h r pe;have j:(bif i == b then stripR r else r).Box=[]∧(bif i == b then stripR r else r).Text.size≤100000:=by
   cases (i == b)
   ·exact g
   ·show(stripR r).Box=[]∧(stripR r).Text.size≤100000;unfold stripR;cases (lG r.Text&&r.Style.WhiteSpace != 2)
    ·exact g
    ·refine⟨g.1,?_⟩;show(sY r.Text).size≤100000;unfold sY;rw[ByteArray.size_extract];omega
  simp only[gm];generalize (bif i == b then stripR r else r)=e at *;obtain⟨m,k⟩:=OX a b t (i+1) (aa (x+aa (e.Width+e.Space))) (fun q l=>h q (nw _ l));have d:(kP a x e).length≤1∧∀f∈kP a x e,f.Kind=3∧f.Kids=[]∧f.Text.size≤100000:=by
   unfold kP A9;rw[j.1];cases e.Text.data.toList.isEmpty with
   | true=>exact⟨by simp,fun f c=>by simp at c⟩
   | false=>exact⟨by simp,fun f c=>by simp at c;subst c;exact⟨rfl,rfl,j.2⟩⟩
  refine⟨by rw[kc,iN];omega,fun f c=>?_⟩;rcases kb.1 c with c|c
  ·exact d.2 f c
  ·exact k f c
theorem adg{s}{w}{X}(h:∀r∈X,r.Box=[]∧r.Text.size≤100000)(l:X.length≤2000) d:tw d (jW s w X)≤200000001:=by
 obtain⟨i,b⟩:=OX (jL (jQ s) X).1 (sy X) X 0 (rR s w (fw (X.map vI))) h;cases d with
 | zero=>exact n3 _
 | succ d =>
  have c:(jW s w X).Kids=gm (jL (jQ s) X).1 (sy X) 0 (rR s w (fw (X.map vI))) X:=Dy _;show ow (jW s w X)+cK d (jW s w X).Kids≤_;have e:ow (jW s w X)=1+((jW s w X).Kids.map fun k=>k.Text.size).sum:=rfl;rw[e,c,SM (fun f a=>agc (b f a).1 (b f a).2.1 d)];have j:=Oh (g:=fun k=>k.Text.size) (fun f a=>(b f a).2.2);omega
theorem PS{s}{w}{X}(h:∀r∈X,r.Box=[]∧r.Text.size≤100000)(e:X.length≤2000) d:∀S y,∀f∈(gW s w X y S).1,tw d f≤200000001
 | [],y=>fun f c=>by grind[gW]
 | [a],y=>fun f c=>by grind[gW]
 | a::b::r,y=>fun f c=>by
  simp only[gW,l3]at c;rcases c with rfl|c
  ·refine oR (am4 (vE (g:=jW s w (sl X a b)) rfl rfl)) (adg (fun q i=>h q (Je i)) ?_ d)
   grind[uj]
  ·exact PS h e d (b::r) _ f c
theorem Xr{a}(h:gq a)(b:eJ 1 a≤2000) s v d:cK d (k8 a s v).1≤CL:=by
 have j:=BK a;have e:=(SB h b s v).1;have f:=Oh (g:=tw d) (l:=(k8 a s v).1) (PS (fun r c=>⟨Uk h r c,(R9 h b r c).2⟩) (by omega) d _ _);have i:=ye 200000001 e;exact oR f i
end
def ec:List eg→Nat
 | []=>0
 | p::r=>bI p.1+ec r
theorem Wz:∀l m,ec (l++m)=ec l+ec m
 | [],m=>by simp[ec]
 | p::r,m=>by simp only[RX,ec,Wz r m];omega
theorem Fs:∀l,l.length≤ec l
 | []=>h7 _
 | p::r=>by simp only[ec];have:=Fs r;grind[jZ]
theorem ajb{l m}(h:l.Perm m):da l=da m:=by
 induction h with
 | nil=>rfl
 | cons x _ c=>grind[da]
 | swap x y l=>grind[da]
 | trans _ _ a b=>grind
theorem PU p:∀l:dn,da (l.filter p)≤da l
 | []=>h7 _
 | b::r=>by
  have:=PU p r
  grind[da]
namespace Fl
open QSort (wn cI dx dv pU qY sb)
open Fw
theorem ajn b z:bI (om b z)=bI b:=by rw[iR,iR b];rfl
theorem Wo c L:∀Z j,j+Z.length≤L.length→ec (jE c L j Z)+da (L.drop (j+Z.length))=da (L.drop j)
 | [],j,_=>by simp[jE,ec]
 | z::Z,j,h=>by
  simp only[iN]at h⊢;have:=Wo c L Z (j+1) (by omega);rw[drop_at' (show j<L.length by omega)]
  grind[jE,ec,da,ajn]
theorem I2{c:Int}{L:dn}{d:d7}{ED ST:b5}(l:d.length=L.length)(f:St L.length ST){k:Nat}(j:k<ST.length):∃a b:Nat,(ST++[(L.length:Int)]).getD k default=(a:Int)∧(ST++[(L.length:Int)]).getD (k+1) default=(b:Int)∧a≤b∧b≤L.length∧(pq c L.length d ED ST k).1=a∧(pq c L.length d ED ST k).2.length=b-a:=by
 obtain⟨a,b,e,g,h,i⟩:=f.get k j;refine⟨a,b,e,g,h,i,by unfold pq;rw[e];rfl,?_⟩;unfold pq;rw[e,g,Rs.Hg];exact Hm d h (by omega)
theorem SC(c:Int)(L:dn)(d:d7)(ED ST:b5)(i:d.length=L.length)(b:St L.length ST):∀(m k:Nat),k+m=ST.length→0<m→∀e:Nat,(ST++[(L.length:Int)]).getD k default=(e:Int)→ec (iz c L (iW c L.length d ED ST k m))≤da (L.drop e)
 | 0,k,_,h,_,_=>by omega
 | m+1,k,h,_,e,p=>by
  obtain⟨a,f,l,n,s,t,o,g⟩:=I2 (c:=c) (ED:=ED) i b (show k<ST.length by omega);have j:a=e:=by rw[p]at l;omega
  subst j;simp only[iW,iz,Wz,o];have q:=Wo c L (pq c L.length d ED ST k).2 a (by rw[g];omega);rw[g,show a+(f-a)=f by omega]at q;by_cases r:m=0
  ·subst r;simp only[iW,iz,ec];omega
  ·have:=SC c L d ED ST i b m (k+1) (by omega) (by omega) f n;omega
theorem Rk(c:Int)(L:dn)(d:d7)(ED ST:b5)(e:d.length=L.length)(b:St L.length ST):∀(m k:Nat),k+m≤ST.length→∀p∈iz c L (iW c L.length d ED ST k m),p.2=c∧∃q∈L,∃z,p.1=om q z
 | 0,k,_,p,a=>by cases a
 | m+1,k,h,p,a=>by
  obtain⟨f,r,g,i,j,l,n,o⟩:=I2 (c:=c) (ED:=ED) e b (show k<ST.length by omega);simp only[iW]at a;rcases kb.1 a with a|a
  ·exact Ut (by omega) a
  ·exact Rk c L d ED ST e b m (k+1) (by omega) p a
theorem Ik(ED:b5):∀(b:List (Nat×b5)) (r:b7) (y:Int) (a:b7),(b.map fun l=>l.2.length).sum≤r.length→(ib ED b r y a).1.length≤a.length+r.length∧∀f∈(ib ED b r y a).1,f∈a∨∃g∈r,f.Kids=g.Kids
 | [],r,y,a,_=>⟨by simp[ib],fun f c=>.inl c⟩
 | l::b,r,y,a,h=>by
  simp only[n5]at h;simp only[ib];have i:=J1 y (ig ED l.1 l.2) (r.take l.2.length) (0,0,a) (by grind[HY]);obtain⟨d,e⟩:=Ik ED b (r.drop l.2.length) (aa (y+(gv y (ig ED l.1 l.2) (r.take l.2.length) (0,0,a)).2.1)) (gv y (ig ED l.1 l.2) (r.take l.2.length) (0,0,a)).2.2 (by grind)
  grind
theorem Fc c L:∀a:List (Nat×b5),(iz c L a).length=(a.map fun l=>l.2.length).sum
 | []=>rfl
 | l::a=>by simp only[iz,kc,Jd,Fc c L a,n5,al8]
theorem UZ{d}{b}{z}{L r:b7}{h}(i:L.length≤3000)(e:∀f∈L,∃g∈r,f.Kids=g.Kids)(j:∀f∈r,DF d f):DF (d+1) (sx b z L h):=by
 refine⟨by show(L.map (mf z)).length≤3000;grind,fun k a=>?_⟩;have c:k∈L.map (mf z):=a
 grind[vr,Mk]
theorem aaQ(b:ag)(hb:b.Kids.length≤19)(w:Int)(W:ag→Int×Int):
  ∃(P:List eg) (G:b7→ab),(∀p∈P,p.2=(cq b.Style w).Content∧∃k∈b.Kids,p.1=k∨∃z,p.1=om k z)∧ec P≤da b.Kids∧(∀(r:b7) (d:Nat),r.length=P.length→r.length≤2000→(∀f∈r,DF d f)→DF (d+1) (G r))∧(∀(r:b7) (d:Nat),r.length=P.length→tw (d+1) (G r)≤cK d r) ∧
   ∀(N:Nat),20010≤N→∀env:bN,(∀k∈b.Kids,(KN N).jD env.Widths k=some (W k))→∀(j t:Int) (S:ct),oZ (KN N) N b w env j t S =
    (du (fun b w=>(KN N).dE env.Layout b w) P j t S).bind fun r=>some (G r.1,r.2.1,r.2.2.1,r.2.2.2):=by
 obtain⟨d,v,_⟩:=Od.nz b.Kids (by omega) (lvl:=20010) (n:=20010) (by omega) (by omega);have a0:=v.len;have U:(cy b d).length≤19:=by rw[sU];omega
 have E:da (cy b d)≤da b.Kids:=by rw[ajb (afA v)];exact PU _ _
 have D:∀N,20010≤N→lO (KN N) N b=some (cy b d):=fun N A=>by
  obtain⟨d2,J,y⟩:=Od.nz b.Kids (by omega) (lvl:=N) (n:=N) (by omega) (by omega);rw[J.uniq v]at y;exact Rh hb v y (by omega)
 have hc:=Cl b.Style w;by_cases o:(b.Style.Direction == 1)=true
 ·refine⟨(cy b d).map fun k=>(k,(cq b.Style w).Content),fun r=>sx b (cq b.Style w) (m7 b (cq b.Style w).Content (cy b d) r).1 (m7 b (cq b.Style w).Content (cy b d) r).2,fun p O=>?_,?_,fun r e s y u=>?_,fun r d s=>?_,fun N A env V j t S=>?_⟩
  ·obtain⟨k,I,rfl⟩:=u6.1 O;exact⟨rfl,k,E6 v I,.inl rfl⟩
  ·have:∀l:dn,ec (l.map fun k=>(k,(cq b.Style w).Content))=da l:=by
    intro l;induction l with
    | nil=>rfl
    | cons x r R=>simp only[n5,ec,da,R]
   rw[this];exact E
  ·rw[lp]at s;obtain⟨_,B⟩:=xj (c:=(cq b.Style w).Content) (cy b d) r (n:=0) (a:=⟨max (eP b.Style.Height 0 0) 0,[],[],[],[],[]⟩) s.symm ⟨rfl,rfl,rfl,rfl,rfl⟩;unfold m7;simp only;have L:=K4 (dC (cq b.Style w).Content (cy b d) r ⟨max (eP b.Style.Height 0 0) 0,[],[],[],[],[]⟩).out;rw[B]at L;rw[B];exact UZ (r:=r) (oR (L _ _ _ _).1 (by simp;omega)) (by simpa using (L _ _ _ _).2) u
  ·rw[lp]at s;obtain⟨_,B⟩:=xj (c:=(cq b.Style w).Content) (cy b _) r (n:=0) (a:=⟨max (eP b.Style.Height 0 0) 0,[],[],[],[],[]⟩) s.symm ⟨rfl,rfl,rfl,rfl,rfl⟩;rw[To];unfold m7;simp only;refine oR (Mq d _ _ _ _ _) ?_;rw[B];exact h7 _
  ·unfold oZ;have g:∀x,nc (KN N) N x=some (jf x):=fun x=>rfl;rw[yC,sb,g,sb,g,sb,iF o,abb N A b (cy b d) U (D N A) _ env j t S];cases M:du (fun b w=>(KN N).dE env.Layout b w) ((cy b d).map fun k=>(k,(cq b.Style w).Content)) j t S with
   | none=>rfl
   | some r =>
    have i:=ua M;rw[lp]at i;obtain⟨_,B⟩:=xj (c:=(cq b.Style w).Content) (cy b d) r.1 (n:=0) (a:=⟨max (eP b.Style.Height 0 0) 0,[],[],[],[],[]⟩) i.symm ⟨rfl,rfl,rfl,rfl,rfl⟩;have X:(m7 b (cq b.Style w).Content (cy b d) r.1).1.length≤19:=by
     unfold m7;simp only;refine oR (K4 _ _ _ _ _).1 ?_;rw[B];simp;omega
    simp only[sb];rw[Ny (KN N) N b _ _ _ (by omega) (by omega)]
 ·have K:((cy b d).map (eU W (cq b.Style w).Content)).length=(cy b d).length:=lp _;have h:=O9 b (cq b.Style w).Content W (cy b d);refine⟨iz (cq b.Style w).Content (cy b d) (i7 b (cq b.Style w).Content W (cy b d)),fun r=>sx b (cq b.Style w) (ib ((cy b d).map (eo (cq b.Style w).Content)) (i7 b (cq b.Style w).Content W (cy b d)) r 0 []).1 (ib ((cy b d).map (eo (cq b.Style w).Content)) (i7 b (cq b.Style w).Content W (cy b d)) r 0 []).2,fun p O=>?_,?_,fun r e s y u=>?_,fun r d s=>?_,fun N A env V j t S=>?_⟩
  ·obtain⟨J,q,y,z,C⟩:=Rk _ _ _ _ _ K h _ 0 (by omega) p O;exact⟨J,q,E6 v y,.inr ⟨z,C⟩⟩
  ·refine oR ?_ E;by_cases T:0<(lj b (cq b.Style w).Content W (cy b d)).length
   ·obtain⟨F,to,Y,_⟩:=h.get 0 T;have:=SC (cq b.Style w).Content (cy b d) ((cy b d).map (eU W (cq b.Style w).Content)) ((cy b d).map (eo (cq b.Style w).Content)) _ K h _ 0 (by omega) T F Y;refine oR this ?_;have e:=Df ((cy b d).take F) ((cy b d).drop F);rw[aeq]at e;omega
   ·unfold i7;rw[show(lj b (cq b.Style w).Content W (cy b d)).length=0 by omega];simp[iW,iz,ec]
  ·rw[Fc]at s;obtain⟨C,h4⟩:=Ik ((cy b d).map (eo (cq b.Style w).Content)) (i7 b (cq b.Style w).Content W (cy b d)) r 0 [] (by omega);exact UZ (r:=r) (by simp at C;omega) (fun f hf=>by
    rcases h4 f hf with H|H
    ·cases H
    ·exact H) u
  ·rw[To];refine oR (R5 d _ _ r 0 []) ?_;exact am4 (z5 _)
  ·unfold oZ;have g:∀x,nc (KN N) N x=some (jf x):=fun x=>rfl;rw[yC,sb,g,sb,g,sb,io o,agN N A b (cy b d) U (D N A) _ hc W env (fun k I=>V k (E6 v I)) j t S];cases M:du (fun b w=>(KN N).dE env.Layout b w) (iz (cq b.Style w).Content (cy b d) (i7 b (cq b.Style w).Content W (cy b d))) j t S with
   | none=>rfl
   | some r =>
    have i:=ua M;have Q:(iz (cq b.Style w).Content (cy b d) (i7 b (cq b.Style w).Content W (cy b d))).length≤2000:=by
     rw[Fc];have:∀(m k:Nat),k+m≤(lj b (cq b.Style w).Content W (cy b d)).length→((iW (cq b.Style w).Content (cy b d).length ((cy b d).map (eU W (cq b.Style w).Content)) ((cy b d).map (eo (cq b.Style w).Content)) (lj b (cq b.Style w).Content W (cy b d)) k m).map fun l=>l.2.length).sum≤20*m:=by
      intro m
      induction m with
      | zero=>intro k _;simp[iW]
      | succ m R =>
       intro k I;obtain⟨F,to,_,_,g3,g4,_,Z⟩:=I2 (c:=(cq b.Style w).Content) (ED:=(cy b d).map (eo (cq b.Style w).Content)) K h (show k<_ by omega);have:=R (k+1) (by omega);simp only[iW,n5,al8,Z];omega
     have H:=this _ 0 (am4 (z5 _));have:=h.len;unfold i7;omega
    rw[Fc]at i Q;obtain⟨C,_⟩:=Ik ((cy b d).map (eo (cq b.Style w).Content)) (i7 b (cq b.Style w).Content W (cy b d)) r.1 0 [] (by omega);simp only[ro,z5]at C;simp only[sb];rw[Ny (KN N) N b _ _ _ (by omega) (by omega)]
end Fl
structure N3(s:aO):Prop where
 pos:s.Position≠2
 wi:s.Width=cn
 mn:s.MinWidth=cn
 mx:s.MaxWidth=cn
 ma:s.Margin=⟨cn,cn,cn,cn⟩
 pa:s.Padding=⟨cn,cn,cn,cn⟩
 bo:s.Border=⟨0,0,0,0⟩
mutual
/-- A block whose kids are texts,or blocks;their numbers run on. -/
def RB:Int→ag→Prop
 | lo,⟨k,n,s,_,_,_,a⟩=>k=1∧n=lo∧N3 s∧a.length≤20∧((gq a∧(∀q∈a,q.Text.size≤90)∧(∀q∈a,q.Kids=[]))∨CQ (lo+1) a)
def CQ:Int→dn→Prop
 | _,[]=>True
 | lo,b::r=>RB lo b∧CQ (lo+bI b) r
end
theorem ZJ{lo}{b}(h:RB lo b):b.Kind=1∧b.Node=lo∧N3 b.Style∧b.Kids.length≤20∧((gq b.Kids∧(∀q∈b.Kids,q.Text.size≤90)∧(∀q∈b.Kids,q.Kids=[]))∨CQ (lo+1) b.Kids):=by
 cases b;grind[RB]
structure tE w old lo hi(bs:dn) fre(us us':Int)(S T:ct):Prop where
 ok:∀m∈T,abW w m∧lo≤m.Box.Node∧m.Box.Node<hi
 len:T.length≤bs.length
 first:(∀m∈S,m.Box.Node<lo)→us'=us∧T.length=bs.length∧∀k∈bs,∃m∈T,m.Box=k
 again:(∀k,j8 k old=true→k.Kind=1→11≤k.Node→∃m∈S,m.Width=w∧gM m.Box k=true)→T.length≤fre
theorem tE.nil{w}{b}{lo d}{a}{c}{S}:tE w b lo d [] a c c S [] :=
 ⟨fun m f=>(by grind),h7 _,fun _=>⟨rfl,rfl,fun k e=>(by grind)⟩,fun _=>n3 _⟩
theorem tE.app{w:Int}{e:ag}{lo d l:Int}{n cs:dn}{f g:Nat}{q o p:Int}{S T U:ct}(h:tE w e lo d n f q o S T)(i:tE w e d l cs g o p (S++T) U)(z:lo≤d)(y:d≤l):tE w e lo l (n++cs) (f+g) q p S (T++U):=by
 refine⟨fun m hm=>?_,?_,fun j=>?_,fun j=>?_⟩
 ·rcases kb.1 hm with hm|hm
  ·obtain⟨a,b,c⟩:=h.ok m hm;exact⟨a,b,by omega⟩
  ·obtain⟨a,b,c⟩:=i.ok m hm;exact⟨a,by omega,c⟩
 ·have:=h.len;have:=i.len;simp only[kc];omega
 ·obtain⟨r,s,t⟩:=h.first j;obtain⟨u,v,x⟩:=i.first (fun m hm=>by
   rcases kb.1 hm with hm|hm
   ·have:=j m hm;omega
   ·exact(h.ok m hm).2.2)
  grind
 ·have a:=h.again j;have b:=i.again (fun k A B C=>by grind)
  grind
theorem Wt{l}(a:∀q∈l,q.Text.size≤90):eJ 1 l≤l.length*91:=by
 have:∀{l:dn},(∀q∈l,q.Text.size≤90)→(l.map fun b=>1+b.Text.size+eJ 0 b.Kids).sum≤l.length*91:=by
  intro l
  induction l with
  | nil=>grind
  | cons b r c =>
   grind[eJ]
 exact this a
noncomputable section
def nF(l:em):Nat→Int→Nat→Int
 | 0,x,_=>x
 | m+1,x,a=>if a<l.length then nF l m (max x (fw (sl l a (gr l (a+1))))) (gr l (a+1)) else x
def ef(l:em)(i:Nat):Nat:=min l.length (i+((l.drop i).takeWhile fun r=>!r.f).length+1)
theorem S7(l:em)(i:Nat):ef l i≤l.length:=by unfold ef;omega
theorem GM{l:em}{i:Nat}(h:i<l.length):i<ef l i:=by unfold ef;omega
theorem X3{l:em}{i:Nat}(h:i<l.length)(a:l[i].f=true):ef l i=i+1:=by
 unfold ef;rw[kp h,al9,io (by simp[a])];simp;omega
theorem ad2{l:em}{i:Nat}(h:i+1=l.length):ef l i=i+1:=by
 have:=GM (l:=l) (i:=i) (by omega);have:=S7 l i;omega
theorem agU{l:em}{i:Nat}(h:i+1<l.length)(a:l[i].f=false):ef l i=ef l (i+1):=by
 unfold ef;rw[kp (show i<l.length by omega),al9,iF (by simp[a])];simp;omega
def lU(l:em):Nat→Int→Nat→Int
 | 0,x,_=>x
 | m+1,x,a=>if a<l.length then lU l m (max x (fw (sl l a (ef l a)))) (ef l a) else x
theorem abz(l:em):∀(m b:Nat) (x:Int) (a:Nat),l.length<m+a→l.length<b+a→nF l m x a=nF l b x a:=by
 intro m
 induction m with
 | zero =>
  intro b x a h c;cases b with
  | zero=>rfl
  | succ b=>unfold nF;rw[io (by omega)]
 | succ m d =>
  intro b x a h c;cases b with
  | zero=>unfold nF;rw[io (by omega)]
  | succ b =>
   unfold nF;split
   ·have:=ni l (a+1);exact d b _ _ (by omega) (by omega)
   ·rfl
theorem acP(l:em):∀(m b:Nat) (x:Int) (a:Nat),l.length<m+a→l.length<b+a→lU l m x a=lU l b x a:=by
 intro m
 induction m with
 | zero =>
  intro b x a h c;cases b with
  | zero=>rfl
  | succ b=>unfold lU;rw[io (by omega)]
 | succ m e =>
  intro b x a h c;cases b with
  | zero=>unfold lU;rw[io (by omega)]
  | succ b =>
   unfold lU;split
   ·rename_i d;have:=GM d;exact e b _ _ (by omega) (by omega)
   ·rfl
section
variable{K:Kn}{n:Nat}{V4 V5:dO}
theorem aaB(y:V5.length<n)(x:(V5.length:Int)≤1000000)(c b:Int)(a:Nat)(C:Int→Int→Option eb):∀(m e:Nat),1≤e→a<e→e≤V5.length→V5.length<m+e →
  zz K n V5 c b (a:Int) C m (e:Int)=C (max b (fw (sl (V5.map vI) a (ef (V5.map vI) (e-1))))) ((ef (V5.map vI) (e-1):Nat):Int):=by
 have f:∀(e:Nat) (D:Int→Option eb),a<e→e≤V5.length→rD K n V5 c b (a:Int) (e:Int) C D false=C (max b (fw (sl (V5.map vI) a e))) (e:Int):=fun e D j g=>by
  unfold rD zR;have u:List.drop a (List.take e V5)=sl V5 a e:=rfl;have v:=uj V5 a e;rw[io (by simp),show cT (a:Int) (e:Int) V5.length=true by simp only[cT,g6,ob];omega,bi];simp only[Int.toNat_natCast];rw[u,Cc (by omega) (by omega),Jj];simp only[go];by_cases r:fw (sl (V5.map vI) a e)>b
  ·rw[iF (by simpa using r),show max b (fw (sl (V5.map vI) a e))=fw (sl (V5.map vI) a e) by omega]
  ·rw[io (by simpa using r),show max b (fw (sl (V5.map vI) a e))=b by omega]
 intro m
 induction m with
 | zero=>intro e j g h t;omega
 | succ m w =>
  intro e j g h t;show yc K n V5 c b a C (zz K n V5 c b a C m) e=_;unfold yc;have q:=zk (L:=V5) (k:=e-1) (by omega);have s:aa ((e:Int)-1)=((e-1:Nat):Int):=by rw[bT (by omega) (by omega)];omega
  by_cases o:e<V5.length
  ·rw[iF (by simpa using o),s,dT (by omega) (by omega),bi,Int.toNat_natCast];cases p:(V5.getD (e-1) default).Forced with
   | true =>
    have d:=X3 (l:=V5.map vI) (i:=e-1) (by simp;omega) (by rw[q];exact p);rw[d,show e-1+1=e by omega,show(!true)=false from rfl];exact f e _ g h
   | false =>
    have d:=agU (l:=V5.map vI) (i:=e-1) (by simp;omega) (by rw[q];exact p);rw[d,show e-1+1=(e+1)-1 by omega,show(!false)=true from rfl];unfold rD;rw[iF rfl,show aa ((e:Int)+1)=((e+1:Nat):Int) by rw[bT (by omega) (by omega)];omega];exact w (e+1) (by omega) (by omega) (by omega) (by omega)
  ·rw[io (by simpa using o)];have d:=ad2 (l:=V5.map vI) (i:=e-1) (by simp;omega);rw[d,show e-1+1=e by omega];exact f e _ g h
theorem ab6(j:V5.length<n)(h:(V5.length:Int)≤1000000)(b:Int):∀(m a:Nat) (c:Int),a≤V5.length→V5.length<m+a→xF K n V5 b m c (a:Int)=some (b,lU (V5.map vI) m c a):=by
 intro m
 induction m with
 | zero=>intro a c f g;omega
 | succ m k =>
  intro a c f g;show yV K n V5 b (xF K n V5 b m) c a=_;unfold yV lU;by_cases d:a<V5.length
  ·rw[iF (by simpa using d),iF (by simpa using d),show aa ((a:Int)+1)=((a+1:Nat):Int) by rw[bT (by omega) (by omega)];omega,aaB j h b c a _ n (a+1) (by omega) (by omega) (by omega) (by omega),amc];have o:=GM (l:=V5.map vI) (i:=a) (by simpa using d);have e:=S7 (V5.map vI) a;rw[lp]at e;exact k _ _ e (by omega)
  ·rw[io (by simpa using d),io (by simpa using d)]
theorem ad7(j:V4.length<n)(o:(V4.length:Int)≤1000000)(q:V5.length<n)(k:(V5.length:Int)≤1000000):∀(m a:Nat) (b:Int),a≤V4.length→V4.length<m+a→xA K n V4 V5 m b (a:Int)=some (nF (V4.map vI) m b a,lU (V5.map vI) n 0 0):=by
 intro m
 induction m with
 | zero=>intro a b g h;omega
 | succ m f =>
  intro a b g h;show y4 K n V4 V5 (xA K n V4 V5 m) b a=_;unfold y4 nF;by_cases c:a<V4.length
  ·have d:=yi (l:=V4.map vI) (i:=a+1) (by simp;omega);have p:=ni (V4.map vI) (a+1);rw[lp]at d;have r:List.drop a (List.take (gr (V4.map vI) (a+1)) V4)=sl V4 a (gr (V4.map vI) (a+1)):=rfl;have s:=uj V4 a (gr (V4.map vI) (a+1));rw[iF (by simpa using c),iF (by simpa using c),HQ (by omega) (by omega) j (by omega)];simp only[go,Int.toNat_natCast];rw[show cT (a:Int) ((gr (V4.map vI) (a+1):Nat):Int) V4.length=true by simp only[cT,g6,ob];omega,bi,r,Cc (by omega) (by omega),Jj];simp only[go];unfold Ab;by_cases e:fw (sl (V4.map vI) a (gr (V4.map vI) (a+1)))>b
   ·rw[iF (by simpa using e),show max b (fw (sl (V4.map vI) a (gr (V4.map vI) (a+1))))=fw (sl (V4.map vI) a (gr (V4.map vI) (a+1))) by omega];exact f _ _ d (by omega)
   ·rw[io (by simpa using e),show max b (fw (sl (V4.map vI) a (gr (V4.map vI) (a+1))))=b by omega];exact f _ _ d (by omega)
  ·rw[io (by simpa using c),io (by simpa using c)];exact ab6 q k b n 0 0 (by omega) (by omega)
end
end
noncomputable section
def AF(a:dn):Int×Int:=(nF ((fU a).map vI) ((fU a).length+1) 0 0,lU ((fU a).map vI) ((fU a).length+1) 0 0)
theorem afa{a:dn}(h:gq a)(g:a.length≤1000)(i:∀b∈a,b.Text.size≤1000)(f:eJ 1 a≤2000){N:Nat}(j:9001≤N)(s:aO)(env:bN):wy (KN N) N a s env=some (AF a):=by
 have e:=BK a;have c:nj (KN N) N a ()=some (fU a):=Oz (pl:=DK) (SI h g i) f (by omega) (Ez h);unfold wy;rw[c,go,go];have d:=ad7 (K:=KN N) (n:=N) (V4:=fU a) (V5:=fU a) (by omega) (by omega) (by omega) (by omega) N 0 0 (n3 _) (by omega);unfold AF;rw[←abz _ N _ 0 0 (by rw[lp];omega) (by rw[lp];omega),← acP _ N _ 0 0 (by rw[lp];omega) (by rw[lp];omega)];exact d
mutual
/-- Blocks and flex containers,and blocks of texts. -/
def GB:ag→Prop
 | ⟨k,_,s,t,_,_,a⟩=>(k=1∨k=6)∧(s.Position≠2∧t.size=0)∧a.length≤19∧((k=1∧gq a∧(∀q∈a,q.Text.size≤90)∧∀q∈a,q.Kids=[])∨je a)
def je:dn→Prop
 | []=>True
 | b::r=>GB b∧je r
end
theorem jO{b:ag}:GB b↔((b.Kind=1∨b.Kind=6)∧(b.Style.Position≠2∧b.Text.size=0)∧b.Kids.length≤19∧((b.Kind=1∧gq b.Kids∧(∀q∈b.Kids,q.Text.size≤90)∧∀q∈b.Kids,q.Kids=[])∨je b.Kids)):=by
 cases b;simp only[GB]
theorem lw:∀{l},je l→∀k∈l,GB k
 | [],_,k,a=>by grind
 | b::r,h,k,a=>by
  simp only[je]at h;rcases l3.1 a with rfl|a
  ·grind
  ·exact lw h.2 k a
theorem afD{b} z(h:GB b):GB (Fl.om b z):=by rw[jO]at h⊢;exact h
def Bu(s:Nat)(b:ag)(v:Int×Int):Prop:=∀N,20010+s≤N→∀c a,pV (KN N) N b (cY N c a)=some v
theorem ML{s}{l:dn}(h:∀k∈l,∃v,Bu s k v):∃W:ag→Int×Int,∀k∈l,Bu s k (W k):=by
 classical
 refine⟨fun k=>if h:∃v,Bu s k v then h.choose else (0,0),fun k a=>?_⟩
 grind
def Et(W:ag→Int×Int):dn→Int→Int→Int×Int
 | [],a,b=>(d8 a,d8 b)
 | k::r,a,b=>Et W r (max a (W k).1) (max b (W k).2)
theorem abs(K:Kn)(n:Nat)(env:bN)(v6:dn×Bool)(h:v6.1.length≤1000)(W:ag→Int×Int)(f:∀k∈v6.1,K.jD env.Widths k=some (W k)):∀(m i:Nat) (a b:Int),i≤v6.1.length→v6.1.length<m+i→xf K n env v6 m a b i=some (Et W (v6.1.drop i) a b):=by
 intro m
 induction m with
 | zero=>intro i a b d e;omega
 | succ m g =>
  intro i a b d e;simp only[xf,E0];by_cases c:i<v6.1.length
  ·rw[drop_at' c];simp only[fP c,wl,dY c,bi,Int.toNat_natCast,f _ (gX c),go,Et];rw[fB (by omega)];exact g (i+1) _ _ (by omega) (by omega)
  ·simp only[ia (show v6.1.length≤i by omega)];rw[la (by omega)];rfl
def ou(b:ag)(W:ag→Int×Int):dn→Int→Int→Int×Int
 | [],x,y=>(x,y)
 | k::r,x,y=>if (b.Style.Direction == 1)=true then ou b W r (max x (W k).1) (max y (W k).2) else if b.Style.Wrap=true then ou b W r (max x (W k).1) (aa (y+(W k).2)) else ou b W r (aa (x+(W k).1)) (aa (y+(W k).2))
theorem afp(K:Kn)(n:Nat)(b:ag)(env:bN)(s:aO)(L:dn)(h:L.length≤1000)(W:ag→Int×Int)(f:∀k∈L,K.jD env.Widths k=some (W k)):∀(m i:Nat) (x y:Int),i≤L.length→L.length<m+i→AB K n b env s L m x y i=ql K n s (ou b W (L.drop i) x y).1 (ou b W (L.drop i) x y).2:=by
 intro m
 induction m with
 | zero=>intro i x y d e;omega
 | succ m g =>
  intro i x y d e;simp only[AB,D4];by_cases a:i<L.length
  ·rw[drop_at' a];have c:=fun x y=>g (i+1) x y (by omega) (by omega);simp only[fP a,wl,dY a,bi,Int.toNat_natCast,f _ (gX a),go,ou,wX,AU,fB (show i<1000000000 by omega)];split
   ·exact c _ _
   ·split
    ·exact c _ _
    ·exact c _ _
  ·simp only[ia (show L.length≤i by omega),hH,rv];rw[la (by omega)];rfl
theorem OJ s x y:∃v,∀K n,ql K n s x y=some v :=
 ⟨(iD (f8 s 0 (jN s 0 (min (max x 0) 1048576))),iD (f8 s 0 (jN s 0 (min (max y 0) 1048576)))),fun K n=>by
  have a:∀q,jk K n q 1048576=some (min (max q 0) 1048576):=fun q=>rfl
  simp_all[ql,yj,CB,vm,vt]⟩
theorem Su:∀(s:Nat) (b:ag),bI b≤s→GB b→∃v,Bu s b v
 | 0,b,h,_=>by have:=jZ b;omega
 | s+1,b,h,Q=>by
  obtain⟨g,U,S,l⟩:=jO.1 Q;by_cases C:b.Kind=1∧gq b.Kids∧∀q∈b.Kids,q.Text.size≤90
  ·-- texts
   obtain⟨t,A,H⟩:=C;have I:=Wt H;have f:eI b=b.Kids:=amq.2 fun k g=>by unfold iE;rw[A k g];rfl
   have F:(eI b).any fg=false:=by
    rw[f,ani];intro k g;unfold fg;rw[A k g];decide
   have m:∃p:Int×Int,∀N,20010≤N→∀c a,nn (KN (N+1)) (N+1) b (cY (N+1) c a)=some p:=by
    by_cases j:(cO (gE b.Style).Width 0).2=true
    ·exact⟨_,fun N i c a=>by unfold nn;rw[tu,go,gO,go,iF j,vy,go]⟩
    ·refine⟨(d8 (AF b.Kids).1,d8 (AF b.Kids).2),fun N i c a=>?_⟩;unfold nn;rw[tu,go,gO,go,io j,EV (KN (N+1)) (N+1) (Ee N) b (by omega) (by omega),go];simp only[F,am7,wl];have O:(KN (N+1)).xX (cY (N+1) c a).Spread (eI b) b.Style=some (AF b.Kids):=by
      show yl (KN N) N (eI b) b.Style (cY N c a)=_;unfold yl;rw[f,afa A (by omega) (fun k r=>by have:=H k r;omega) (by omega) (by omega)];rfl
     rw[O,go,vy,go,vy,go]
   obtain⟨p,o⟩:=m;refine⟨(iD (f8 (gE b.Style) 0 (jN (gE b.Style) 0 p.1)),iD (f8 (gE b.Style) 0 (jN (gE b.Style) 0 p.2))),fun N i c a=>?_⟩;obtain⟨M,rfl⟩:∃M,N=M+1:=⟨N-1,by omega⟩;unfold pV;rw[show(b.Kind == 6)=false by rw[t];rfl,show(b.Kind == 7)=false by rw[t];rfl];simp only[hH,rv];unfold xS;simp only[o M (by omega) c a,tu,CB,vm,vt,go]
  ·have B:je b.Kids:=by
    rcases l with l|l
    ·exact absurd ⟨l.1,l.2.1,l.2.2.1⟩ C
    ·exact l
   obtain⟨W,P⟩:=ML (s:=s) (fun k g=>Su s k (by have:=rL g;omega) (lw B k g));have u:∀N,20010+s≤N→∀c a,∀k∈b.Kids,(KN (N+1)).jD (cY (N+1) c a).Widths k=some (W k):=fun N i c a k g=>P k g N i c a;rcases g with t|L
   ·-- a block of blocks
    have m:∃p:Int×Int,∀N,20010+s≤N→∀c a,nn (KN (N+1)) (N+1) b (cY (N+1) c a)=some p:=by
     have E:b.Kids≠[]:=fun e=>C ⟨t,fun k r=>(by rw[e]at r;cases r),fun k r=>(by rw[e]at r;cases r)⟩;have f:eI b=b.Kids:=amq.2 fun k g=>by
      have:=(jO.1 (lw B k g)).2.1.1;unfold iE;simp[bne,this]
     have w:(eI b).any fg=true:=by
      rw[aaf];obtain⟨x,J⟩:=amh _ E;refine⟨x,by rw[f];exact J,?_⟩;unfold fg;rcases (jO.1 (lw B x J)).1 with q|q<;>rw[q]<;>rfl
     by_cases j:(cO (gE b.Style).Width 0).2=true
     ·exact⟨_,fun N i c a=>by unfold nn;rw[tu,go,gO,go,iF j,vy,go]⟩
     ·refine⟨Et W b.Kids 0 0,fun N i c a=>?_⟩;unfold nn;rw[tu,go,gO,go,io j,EV (KN (N+1)) (N+1) (Ee N) b (by omega) (by omega),go];simp only[w,Ts,hH,rv];have e:=abs (KN (N+1)) (N+1) (cY (N+1) c a) (eI b,true) (by simp only[f];omega) W (by rw[f];exact u N i c a) (N+1) 0 0 0 (n3 _) (by simp only[f];omega);rw[Do]at e;simp only at e;rw[f]at e⊢;exact e
    obtain⟨p,o⟩:=m;refine⟨(iD (f8 (gE b.Style) 0 (jN (gE b.Style) 0 p.1)),iD (f8 (gE b.Style) 0 (jN (gE b.Style) 0 p.2))),fun N i c a=>?_⟩;obtain⟨M,rfl⟩:∃M,N=M+1:=⟨N-1,by omega⟩;unfold pV;rw[show(b.Kind == 6)=false by rw[t];rfl,show(b.Kind == 7)=false by rw[t];rfl];simp only[hH,rv];unfold xS;simp only[o M (by omega) c a,tu,CB,vm,vt,go]
   ·-- a flex container
    obtain⟨d,z,_⟩:=Od.nz b.Kids (by omega) (lvl:=20010) (n:=20010) (by omega) (by omega);have R:=z.len;have D:∀N,20010≤N→lO (KN N) N b=some (Fw.cy b d):=fun N i=>by
     obtain⟨T,K,G⟩:=Od.nz b.Kids (by omega) (lvl:=N) (n:=N) (by omega) (by omega);rw[K.uniq z]at G;exact Fw.Rh S z G (by omega)
    have key:∃v,∀N,20010+s≤N→∀c a,uK (KN (N+1)) (N+1) b (cY (N+1) c a)=some v:=by
     by_cases j:(cO (gE b.Style).Width 0).2=true
     ·obtain⟨v,y⟩:=OJ (gE b.Style) (cO (gE b.Style).Width 0).1 (cO (gE b.Style).Width 0).1;exact⟨v,fun N i c a=>by unfold uK;rw[Fw.PJ,go,gO,go,iF j,y]⟩
     ·obtain⟨v,y⟩:=OJ (gE b.Style) (ou b W (Fw.cy b d) 0 0).1 (ou b W (Fw.cy b d) 0 0).2;refine⟨v,fun N i c a=>?_⟩;unfold uK;rw[Fw.PJ,go,gO,go,io j,D (N+1) (by omega),go];have e:=afp (KN (N+1)) (N+1) b (cY (N+1) c a) (gE b.Style) (Fw.cy b d) (by rw[Fw.sU];omega) W (fun k g=>u N i c a k (Fw.E6 z g)) (N+1) 0 0 0 (n3 _) (by rw[Fw.sU];omega);rw[Do]at e;exact e.trans (y _ _)
    obtain⟨v,y⟩:=key;refine⟨v,fun N i c a=>?_⟩;obtain⟨M,rfl⟩:∃M,N=M+1:=⟨N-1,by omega⟩;unfold pV;rw[show(b.Kind == 6)=true by rw[L];rfl,iF rfl,y M (by omega) c a];rfl
end
theorem aj6(b:ByteArray):∀(k i:Nat) (r:List UInt8),b.size-i≤k→ByteArray.toList.loop b i r=r.reverse++b.data.toList.drop i:=by
 have j:b.data.toList.length=b.size:=by cases b;rfl
 intro k
 induction k with
 | zero =>
  intro i r h;rw[am1];have a:¬ i<b.size:=by omega
  rw[io a,la (by omega),IF]
 | succ k e =>
  intro i r h;rw[am1];by_cases a:i<b.size
  ·have c:i<b.data.toList.length:=by omega
   rw[iF a,e (i+1) _ (by omega),kp c];have g:b.get! i=b.data.toList[i]:=by
    cases b with
    | mk d =>
     have f:i<d.size:=by grind
     show d[i]! = d.toList[i]
     grind
   grind
  ·rw[io a,la (by omega),IF]
theorem OF(b:ByteArray):b.toList=b.data.toList:=by
 unfold ByteArray.toList;rw[aj6 b b.size 0 [] (by omega)];rfl
theorem Eo{a b:ByteArray}(h:a.toList=b.toList):a=b:=by
 rw[OF,OF]at h;exact ByteArray.ext (alS.1 h)
theorem JK{α}{x y:V4 α}(a:x.a0=y.a0)(b:x.a1=y.a1)(c:x.a2=y.a2)(d:x.a3=y.a3):x=y:=by
 cases x;simp_all
theorem akg{x y:aO}(h:ry x y=true):x=y:=by
 simp only[ry,aam,g6,alQ,and_true]at h;have d:=JK (x:=x.Margin) (y:=y.Margin);have e:=JK (x:=x.Padding) (y:=y.Padding);have f:=JK (x:=x.Border) (y:=y.Border);have a:=@Eo x.BorderColor y.BorderColor;have b:=@Eo x.Color y.Color;have c:=@Eo x.Background y.Background;cases x;cases y
 simp_all
theorem aiA{a b}(h:qU a b=true)(j:a.Kids=b.Kids):a=b:=by
 simp only[qU,g6,alQ]at h;obtain⟨e,f,c,d,g,i⟩:=h;have c:=akg c;have d:=Eo d;cases a;cases b
 grind
mutual
theorem Me:∀{a b},gM a b=true→a=b
 | ⟨k,n,s,t,r,q,c⟩,b,h=>by
  rw[Gb,g6]at h;exact aiA h.1 (MK (l:=c) h.2)
theorem MK:∀{l m},jq l m=true→l=m
 | [],[],_=>rfl
 | a::r,b::q,h=>by
  simp only[jq,g6]at h;rw[Me h.1,MK h.2]
 | [],_::_,h=>by cases h
 | _::_,[],h=>by cases h
end
theorem acm(K g:Kn)(n j:Nat)(L:b7)(v:L.length≤1000000):∀(m c:Nat) (i h:Int) (b:bh) (t:Bool) (f:bh) (l:b7),0≤i→i≤L.length→(L.length:Int)<m+i→(L.length:Int)<c+i →
  iM K n L m h t i b f l=iM g j L c h t i b f l:=by
 intro m
 induction m with
 | zero=>intro c i _ _ _ _ _ k o p _;omega
 | succ m s =>
  intro c i h b t f l k o p u;cases c with
  | zero=>omega
  | succ c =>
   by_cases q:i<(L.length:Int)
   ·have r:aa (i+1)=i+1:=bT (by omega) (by omega);have key:∀(d:Int) (e:Bool) (b' a:bh) (l':b7),iM K n L m d e (i+1) b' a l'=iM g j L c d e (i+1) b' a l':=fun d e b' a l'=>s c (i+1) d b' e a l' (by omega) (by omega) (by omega) (by omega);simp only[iM,sh,kW,gK,go,rF,rG,pR,pH,r,key]
   ·have:decide (i<(L.length:Int))=false:=by simpa using q
    simp only[iM,sh,this,hH,rv,pH,gK,kW]
theorem Xj K b n a L(c:L.length≤1000000)(e:L.length<n)(d:L.length<a):kF K n L=kF b a L :=
 acm K b n a L c n a 0 0 _ _ _ [] (by omega) (by omega) (by omega) (by omega)
noncomputable section
theorem adw(b:ag)(z:cb)(t q:Bool)(e:b.Kids.length≤20)(a:gq b.Kids)(s:∀k∈b.Kids,k.Text.size≤1000)(m:eJ 1 b.Kids≤2000):
  ∃F:ab,DF 3 F∧(∀d,tw (d+1) F≤CL)∧∀(N:Nat),9100≤N→∀env:bN,(∃f g h i,env.Lines=.c52 f g h i)→∀(j p:Int) (S:ct),kH (KN (N+1)) (N+1) b z t q env j p S=some (F,j,p,S):=by
 have c:eI b=b.Kids:=amq.2 fun k e=>by unfold iE;rw[a k e];rfl
 have o:(eI b).any fg=false:=by
  rw[c,ani];intro k e;unfold fg;rw[a k e];decide
 obtain⟨r,n⟩:=SB a m b.Style z.Content;refine⟨mr b z t q false (k8 b.Kids b.Style z.Content).2 (((k8 b.Kids b.Style z.Content).1.length:Int) == 0) dD dD (k8 b.Kids b.Style z.Content).1,Q8 (by omega) n,fun d=>oR (am4 (MT _ _ _ _ _ _ _ _ _ _ d)) (Xr a m _ _ d),fun N v env l j p S=>?_⟩;obtain⟨f,g,h,i,l⟩:=l;unfold kH;rw[EV (KN (N+1)) (N+1) (Ee N) b e (by omega),go];simp only[o,hH,rv];rw[c,l];have u:(KN (N+1)).wH (.c52 f g h i) b.Kids b.Style z.Content=some (k8 b.Kids b.Style z.Content):=by
  show xI (KN N) N b.Kids b.Style z.Content ⟨f,g,h,i⟩=_;unfold xI;rw[aeG a (by omega) s m (by omega)];rfl
 grind[G4,U0,KN]
theorem ajo(b:ag)(z:cb)(t h:Bool)(B:b.Kids.length≤20)(D:(eI b).any fg=true)(m:∀k∈eI b,fg k=true):
  ∃G:b7→ab,(∀(r:b7) (d:Nat),r.length=(eI b).length→(∀f∈r,DF d f)→DF (d+1) (G r))∧(∀(r:b7) (d:Nat),r.length=(eI b).length→tw (d+1) (G r)≤cK d r)∧∀(N:Nat),100≤N→∀(env:bN) (j l:Int) (S:ct),kH (KN (N+1)) (N+1) b z t h env j l S =
   (du (fun k w=>(KN (N+1)).dE env.Layout k w) ((eI b).map fun k=>(k,z.Content)) j l S).bind fun r=>some (G r.1,r.2.1,r.2.2.1,r.2.2.2):=by
 have y:=Tc (b:=b)
 let a:b7→b7×Int×bh×bh×Bool:=fun r=>(kF (KN 100) 100 r).getD ([],0,dD,dD,true)
 refine⟨fun r=>mr b z t h true (a r).2.1 (a r).2.2.2.2 (a r).2.2.1 (a r).2.2.2.1 (a r).1,fun r d p v=>?_,fun r d p=>?_,fun N E env j l S=>?_⟩
 ·obtain⟨q,i,s,n⟩:=FO (KN 100) 100 r (by omega) (by omega);have c:a r=q:=by show(kF (KN 100) 100 r).getD _=q;rw[i];rfl
  show DF (d+1) (mr b z t h true (a r).2.1 (a r).2.2.2.2 (a r).2.2.1 (a r).2.2.2.1 (a r).1);rw[c];refine Q8 (by omega) (fun f x=>?_);obtain⟨g,A,e⟩:=n f x;exact vr e (v g A)
 ·obtain⟨q,i,s,n⟩:=FO (KN 100) 100 r (by omega) (by omega);have c:a r=q:=by show(kF (KN 100) 100 r).getD _=q;rw[i];rfl
  show tw (d+1) (mr b z t h true (a r).2.1 (a r).2.2.2.2 (a r).2.2.1 (a r).2.2.2.1 (a r).1)≤_;rw[c,MT];exact ahK _ _ d r (by omega) i
 ·unfold kH;rw[EV (KN (N+1)) (N+1) (Ee N) b B (by omega),go];simp only[D,wl];have u:=ac4 (KN (N+1)) (N+1) b z t h env (eI b,true) (by simp only;omega) (N+1) 0 [] j l S (n3 _) (by simp only;omega) (by simp);have o:sv (KN (N+1)) (N+1) b z t h env (eI b,true) (N+1) 0 [] j l S=_:=u;rw[o,Do,U1 (fun k w=>(KN (N+1)).dE env.Layout k w)];cases C:du (fun k w=>(KN (N+1)).dE env.Layout k w) ((eI b).map fun k=>(k,z.Content)) j l S with
  | none=>rfl
  | some r =>
   have p:=ua C;rw[lp]at p;simp only[go,Dy];obtain⟨q,i,s,n⟩:=FO (KN 100) 100 r.1 (by omega) (by omega);have c:a r.1=q:=by show(kF (KN 100) 100 r.1).getD _=q;rw[i];rfl
   rw[Xj (KN (N+1)) (KN 100) (N+1) 100 r.1 (by omega) (by omega) (by omega),i,go,c];exact U0 (KN (N+1)) (N+1) b z q.1 (by omega) (by omega) _ _ _ (eI b,true) (fun _=>⟨by simp only;omega,m⟩) t h _ _ _ _
theorem aeH(b:ag)(w:Int):∃t g,∀(K:Kn) (n:Nat) (env:bN) (c d:Int) (S:ct),pL K n b w env c d S=(kH K n b (cq b.Style w) t g env c d S).bind fun a=>some (a.1,a.2.1,a.2.2.1,a.2.2.2):=by
 have j:∀t,∃g,∀(K:Kn) (n:Nat) (env:bN) (c d:Int) (S:ct),oo K n b env c d S (cq b.Style w) t=(kH K n b (cq b.Style w) t g env c d S).bind fun a=>some (a.1,a.2.1,a.2.2.1,a.2.2.2):=fun t=>by
  unfold oo;by_cases e:(b.Style.Overflow == 0)=true
  ·by_cases f:((cq b.Style w).Border.a2 == 0)=true
   ·by_cases h:((cq b.Style w).Padding.a2 == 0)=true
    ·exact⟨_,fun K n env c d S=>by rw[iF e,iF f,iF h];rfl⟩
    ·exact⟨_,fun K n env c d S=>by rw[iF e,iF f,io h];rfl⟩
   ·exact⟨_,fun K n env c d S=>by rw[iF e,io f];rfl⟩
  ·exact⟨_,fun K n env c d S=>by rw[io e];rfl⟩
 have:∃t,∀(K:Kn) (n:Nat) (env:bN) (c d:Int) (S:ct),pL K n b w env c d S=oo K n b env c d S (cq b.Style w) t:=by
  unfold pL;simp only[yC,go];by_cases e:(b.Style.Overflow == 0)=true
  ·by_cases f:((cq b.Style w).Border.a0 == 0)=true
   ·exact⟨_,fun K n env c d S=>by rw[iF e,iF f]⟩
   ·exact⟨_,fun K n env c d S=>by rw[iF e,io f]⟩
  ·exact⟨_,fun K n env c d S=>by rw[io e]⟩
 obtain⟨t,k⟩:=this;obtain⟨g,i⟩:=j t;exact⟨t,g,fun K n env c d S=>by grind⟩
structure EN b(f:Nat→Bool→Bool→Int→Int→ct→Option (ab×Int×Int×ct))(P:List eg)(G:b7→ab):Prop where
 good:∀p∈P,GB p.1∧bI p.1<bI b∧0≤p.2
 sz:ec P≤da b.Kids
 df:∀r d,2≤d→r.length=P.length→(∀x∈r,DF d x)→DF (d+1) (G r)
 wt:∀r d,r.length=P.length→tw (d+1) (G r)≤cK d r+CL
 run:∀N,20010+bI b≤N→∀lf kf fr us S,f (N+1) lf kf fr us S=(du (fun k w=>kz (KN N) N k w lf (cY N lf kf) kf) P fr us S).bind fun r=>some (G r.1,r.2.1,r.2.2.1,r.2.2.2)
theorem YF{b:ag}{P}:∀p∈P,bI p.1≤ec P:=by
 intro p a
 induction P with
 | nil=>grind
 | cons q r c =>
  grind[ec]
theorem PR(b:ag)(V:b.Kind=1)(R:GB b)(z:cb)(A:0≤z.Content)(t s:Bool):∃P G,EN b (fun N o n=>kH (KN N) N b z t s (cY N o n)) P G∧(∀p∈P,p.1∈b.Kids∧p.2=z.Content)∧((∃k∈b.Kids,k.Kind≠3)→P=b.Kids.map fun k=>(k,z.Content)):=by
 obtain⟨_,g,W,j⟩:=jO.1 R;have T:=iR b;by_cases i:gq b.Kids∧∀q∈b.Kids,q.Text.size≤90
 ·have E:=Wt i.2;obtain⟨F,J,L,K⟩:=adw b z t s (by omega) i.1 (fun k h=>by have:=i.2 k h;omega) (by omega);refine⟨[],fun _=>F,⟨fun p g=>(by cases g),n3 _,fun r d H _ _=>LH J (by omega),fun r d _=>oR (L d) (Nat.le_add_left _ _),fun N Q o n u B S=>?_⟩,fun p g=>(by cases g),fun⟨k,c,O⟩=>absurd (i.1 k c) O⟩;show kH (KN (N+1)) (N+1) b z t s (cY (N+1) o n) u B S=_;rw[K N (by omega) _ ⟨_,_,_,_,rfl⟩];rfl
 ·have v:je b.Kids:=by
   rcases j with j|j
   ·exact absurd ⟨j.2.1,j.2.2.1⟩ i
   ·exact j
  have w:b.Kids≠[]:=fun e=>i ⟨fun k h=>(by rw[e]at h;cases h),fun k h=>(by rw[e]at h;cases h)⟩;have a:eI b=b.Kids:=amq.2 fun k c=>by
   have:=(jO.1 (lw v k c)).2.1.1;unfold iE;simp[bne,this]
  have f:∀k∈eI b,fg k=true:=fun k c=>by
   rw[a]at c;unfold fg;rcases (jO.1 (lw v k c)).1 with q|q<;>rw[q]<;>rfl
  have m:(eI b).any fg=true:=by
   rw[aaf];obtain⟨x,I⟩:=amh _ w;exact⟨x,by rw[a];exact I,f x (by rw[a];exact I)⟩
  obtain⟨G,C,D,M⟩:=ajo b z t s (by omega) m f;rw[a]at C D;refine⟨b.Kids.map fun k=>(k,z.Content),G,⟨fun p g=>?_,?_,fun r d _ y H=>C r d (by rw[y,lp]) H,fun r d y=>oR (D r d (by rw[y,lp])) (alZ _ _),fun N Q o n u B S=>?_⟩,fun p g=>?_,fun _=>rfl⟩
  ·obtain⟨k,c,rfl⟩:=u6.1 g;exact⟨lw v k c,rL c,A⟩
  ·have:∀l:dn,ec (l.map fun k=>(k,z.Content))=da l:=by
    intro l;induction l with
    | nil=>rfl
    | cons x r U=>simp only[n5,ec,da,U]
   rw[this];exact h7 _
  ·have:=M N (by omega) (cY (N+1) o n) u B S;rw[a]at this;exact this
  ·obtain⟨k,c,rfl⟩:=u6.1 g;exact⟨c,rfl⟩
theorem MY(b:ag)(A:GB b)(B:bI b≤1900)(w:Int):∃P G,EN b (fun N c a=>if (b.Kind == 6)=true then oZ (KN N) N b w (cY N c a) else pL (KN N) N b w (cY N c a)) P G:=by
 obtain⟨f,o,M,g⟩:=jO.1 A;rcases f with y|z
 ·obtain⟨t,D,e⟩:=aeH b w;obtain⟨P,G,h,_⟩:=PR b y A (cq b.Style w) (Fl.Cl b.Style w).1 t D;refine⟨P,G,h.good,h.sz,h.df,h.wt,fun N n c a j l S=>?_⟩;rw[show(b.Kind == 6)=false by rw[y];rfl];simp only[hH,rv];rw[e,h.run N n c a j l S];cases du (fun k w=>kz (KN N) N k w c (cY N c a) a) P j l S<;>rfl
 ·have m:je b.Kids:=by
   rcases g with g|g
   ·rw[z]at g;exact absurd g.1 (by decide)
   ·exact g
  obtain⟨W,K⟩:=ML (s:=bI b) (fun k f=>by
   obtain⟨v,Q⟩:=Su (bI k) k (h7 _) (lw m k f);exact⟨v,fun N n c a=>Q N (by have:=rL f;omega) c a⟩)
  obtain⟨P,G,E,F,H,J,I⟩:=Fl.aaQ b M w W;have O:=iR b;have C:=Fs P;refine⟨P,G,fun p o=>?_,F,fun r d _ u L=>H r d u (by omega) L,fun r d u=>oR (J r d u) (alZ _ _),fun N n c a j l S=>?_⟩
  ·obtain⟨q,k,f,i⟩:=E p o;refine⟨?_,by have:=YF (b:=b) p o;omega,by rw[q];exact(Fl.Cl b.Style w).1⟩;rcases i with i|⟨x,i⟩
   ·rw[i];exact lw m k f
   ·rw[i];exact afD x (lw m k f)
  ·rw[show(b.Kind == 6)=true by rw[z];rfl];simp only[wl];exact I (N+1) (by omega) (cY (N+1) c a) (fun k f=>K k f N (by omega) c a) j l S
end
noncomputable section
def l6(b:ag)(w:Int)(F:ab):Prop:=∀N,20011+bI b≤N→∀a c (S:ct),kz (KN N) N b w false (cY N false false) false a c S=some (F,a,c,S)
theorem l6.uniq{b}{w}{F G}(h:l6 b w F)(g:l6 b w G):F=G:=by
 have e:=(h (20011+bI b) (by omega) 0 0 []).symm.trans (g (20011+bI b) (by omega) 0 0 [])
 grind
inductive gt D:List eg→b7→Prop
 | nil:gt D [] []
 | cons p F P r (h1:l6 p.1 p.2 F) (h2:DF D F) (h3:DF (bI p.1+2) F) (h4:∀d,tw d F≤CL*bI p.1) (t:gt D P r):gt D (p::P) (F::r)
theorem gt.len{D}{P}{r}(h:gt D P r):r.length=P.length:=by
 induction h with
 | nil=>rfl
 | cons p F P r a b c d t e=>grind
theorem gt.df{D}{P}{r}(h:gt D P r):∀x∈r,DF D x:=by
 induction h with
 | nil=>grind
 | cons p F P r a b c d t e =>
  grind
theorem gt.of{D}:∀P,(∀p∈P,bI p.1+2≤D∧∃F,DF (bI p.1+2) F∧l6 p.1 p.2 F∧∀d,tw d F≤CL*bI p.1)→∃r,gt D P r
 | [],_=>⟨[],.nil⟩
 | p::P,h=>by
  obtain⟨b,F,a,c,e⟩:=h p pe;obtain⟨r,f⟩:=gt.of P (fun q g=>h q (by grind));exact⟨F::r,.cons p F P r c (LH a b) a e f⟩
theorem gt.pure{D}{P}{r}(h:gt D P r){N}(c:∀p∈P,20011+bI p.1≤N):∀a b S,du (fun k w=>kz (KN N) N k w false (cY N false false) false) P a b S=some (r,a,b,S):=by
 induction h with
 | nil=>intro a b S;rfl
 | cons p F P r d g i j t f =>
  intro a b S;simp only[du,d N (c p pe) a b S,go,f (fun q e=>c q (nw _ e)) a b S]
theorem Kr b(e:GB b) w N env c a d(S:ct):tr (KN N) N b w env c a d S=((if (b.Kind == 6)=true then oZ (KN N) N b w env else pL (KN N) N b w env) a d S).bind fun v=>vu (KN N) N b w c v.1 v.2.1 v.2.2.1 v.2.2.2:=by
 grind[tr,jO]
theorem gt.tw{D}{P}{r}(h:gt D P r) d:cK d r≤CL*ec P:=by
 induction h with
 | nil=>exact n3 _
 | cons p F P r b c e a t f =>
  have:=a d;rw[pW];simp only[ec,Nat.mul_add];omega
theorem EN.tw{b}{f}{P}{G}(a:EN b f P G){D}{r}(c:gt D P r) d:tw d (G r)≤CL*bI b:=by
 cases d with
 | zero=>exact n3 _
 | succ d =>
  have e:=a.wt r d c.len;have g:=c.tw d;have h:=a.sz
  grind[iR,CL,ec,bI]
theorem Gi:∀(s:Nat) (b:ag) (w:Int),bI b≤s→s≤1900→GB b→∃F,DF (bI b+2) F∧l6 b w F∧∀d,tw d F≤CL*bI b
 | 0,b,_,h,_,_=>by have:=jZ b;omega
 | s+1,b,w,h,m,f=>by
  obtain⟨P,G,a⟩:=MY b f (by omega) w;have g:=jZ b;obtain⟨r,c⟩:=gt.of (D:=bI b+1) P (fun p e=>by
   have j:=a.good p e;exact⟨by omega,Gi s p.1 p.2 (by omega) (by omega) j.1⟩)
  refine⟨G r,a.df r (bI b+1) (by omega) c.len c.df,fun N l i k S=>?_,a.tw c⟩;obtain⟨M,rfl⟩:∃M,N=M+1:=⟨N-1,by omega⟩;unfold kz;simp only[hH];rw[Kr b f,show _=_ from a.run M (by omega) false false i k S,c.pure (fun p e=>by have:=(a.good p e).2;omega)];rfl
structure jY(m:ay):Prop where
 sz:bI m.Box≤100
 df:DF (bI m.Box+2) m.Fragment
 pure:l6 m.Box m.Width m.Fragment
 gb:GB m.Box
 wd:0≤m.Width
theorem acw(N:Nat)(b:ag)(w:Int)(f g:Int)(S:ct)(n:S.length≤100000)(l:3200≤N)(h:∀m∈S,jY m):∀(m i:Nat),i≤S.length→S.length<m+i →
  wW (KN N) N b w f g S m i=some (uO b w f g S (S.drop i)):=by
 intro m
 induction m with
 | zero=>intro i a c;omega
 | succ m j =>
  intro i a c;simp only[wW,BE];by_cases e:i<S.length
  ·have k:=j (i+1) (by omega) (by omega);have d:=h _ (gX e);rw[drop_at' e];simp only[fP e,wl,dY e,bi,Int.toNat_natCast,zC];generalize S.getD i default=M at *;rw[BF (bI M.Box) N M.Box b (h7 _) (by have:=d.sz;omega) (by have:=d.sz;omega),go,fB (by omega),k];cases a:(M.Width == w) with
   | false=>simp[uO,fI,anx,a]
   | true =>
    cases c:gM M.Box b with
    | false=>simp[uO,fI,anx,a,c]
    | true =>
     rw[BP _ N _ d.df (by have:=d.sz;omega)];simp[uO,fI,anx,a,c]
  ·simp only[ia (show S.length≤i by omega),hH,rv];rw[la (by omega)];rfl
theorem ajd N b w a c(S:ct)(f:S.length≤3000)(d:3200≤N)(e:∀m∈S,jY m):yX (KN N) N b w a c S=some (uO b w a c S S):=by
 unfold yX;have:=acw N b w a c S (by omega) d e N 0 (n3 _) (by omega)
 grind
theorem Yt N b w a c(S:ct)(e:S.length≤3000)(d:3200≤N)(f:∀m∈S,jY m):zd (KN N) N b w a c S =
  some (match S.find? (fI b w) with
   | some m=>(m.Fragment,true,a,aa (c+1),S)
   | none=>(bU,false,a,c,S)):=by
 unfold zd;rw[ajd N b w a c S e d f,go];unfold uO;cases S.find? (fI b w)<;>rfl
theorem Yj{b}{w}{m}(h:fI b w m=true):m.Width=w∧m.Box=b:=by
 grind[fI,Me]
theorem aiw{b}{w}{F}{S:ct}(f:∀m∈S,jY m)(e:l6 b w F){m}(h:S.find? (fI b w)=some m):m.Fragment=F:=by
 have a:=(f m (am8 h)).pure;obtain⟨c,d⟩:=Yj (List.find?_some h);rw[c,d]at a;exact a.uniq e
end
noncomputable section
def OK(N:Nat)(b:ag)(w:Int)(F:ab):Prop :=
 ∀(c d:Int) (S:ct),0≤c→c+bI b≤2000→S.length+bI b≤2000→(∀m∈S,jY m) →
  ∃a T,kz (KN N) N b w true (cY N true true) true c d S=some (F,c+T.length,a,S++T)∧(∀m∈T,jY m)∧T.length≤bI b∧(∃m∈S++T,fI b w m=true)∧((∃m∈S,fI b w m=true)→T=[]∧a=aa (d+1))∧(¬ (∃m∈S,fI b w m=true)→0<T.length)∧∀m∈T,bI m.Box≤bI b
theorem Pf{D:Nat}{P:List eg}{r:b7}(h:gt D P r)(N:Nat)(u:∀p∈P,∀F,l6 p.1 p.2 F→DF (bI p.1+2) F→OK N p.1 p.2 F):∀(b d:Int) (S:ct),0≤b→b+(ec P:Int)≤2000→S.length+ec P≤2000→(∀m∈S,jY m) →
  ∃j T,du (fun k w=>kz (KN N) N k w true (cY N true true) true) P b d S=some (r,b+(T.length:Int),j,S++T)∧(∀m∈T,jY m)∧T.length≤ec P∧(∀p∈P,∃m∈S++T,fI p.1 p.2 m=true)∧((∀p∈P,∃m∈S,fI p.1 p.2 m=true)→T=[]∧(0≤d→d+(P.length:Int)≤100000→j=d+(P.length:Int)))∧((∃p∈P,¬ ∃m∈S,fI p.1 p.2 m=true)→0<T.length)∧∀m∈T,bI m.Box≤ec P:=by
 induction h with
 | nil =>
  intro b d S _ _ _ _;exact⟨d,[],by simp[du],fun m e=>(by cases e),n3 _,fun p o=>(by cases o),fun _=>⟨rfl,fun _ _=>by simp⟩,fun⟨p,o,_⟩=>(by cases o),fun m e=>(by cases e)⟩
 | cons p F P r M h2 O h4 t V =>
  intro b d S L R Q e;simp only[ec]at R Q⊢;obtain⟨Z,T,E,s,e3,G,H,I,J⟩:=u p pe F M O b d S L (by omega) (by omega) e;have n:∀m∈S++T,jY m:=fun m a=>by
   rcases kb.1 a with a|a
   ·exact e m a
   ·exact s m a
  obtain⟨u2,U,x,y,d3,z,A,B,C⟩:=V (fun q a=>u q (nw _ a)) (b+(T.length:Int)) Z (S++T) (by omega) (by omega) (by simp only[kc];omega) n;refine⟨u2,T++U,?_,fun m a=>?_,by simp only[kc];omega,fun q a=>?_,fun c=>?_,fun⟨q,a,f⟩=>?_,fun m a=>(by
   rcases kb.1 a with a|a
   ·have:=J m a;omega
   ·have:=C m a;omega)⟩
  ·rw[show b+(((T++U).length:Nat):Int)=b+(T.length:Int)+(U.length:Int) by rw[kc];omega];simp only[du,E,go,x,u3]
  ·rcases kb.1 a with a|a
   ·exact s m a
   ·exact y m a
  ·rcases l3.1 a with rfl|a
   ·obtain⟨m,g,i⟩:=G;exact⟨m,by rw[←u3];exact amH _ g,i⟩
   ·obtain⟨m,g,i⟩:=z q a;exact⟨m,by rw[←u3];exact g,i⟩
  ·obtain⟨W,v⟩:=H (c p pe);subst W;obtain⟨X,Y⟩:=A (fun q a=>by
    obtain⟨m,g,i⟩:=c q (nw _ a);exact⟨m,by simpa using g,i⟩)
   refine⟨by rw[X];rfl,fun g1 K=>?_⟩;simp only[iN]at K⊢;rw[bT (by omega) (by omega)]at v;rw[Y (by omega) (by omega),v];omega
  ·rw[kc];by_cases hT:0<T.length
   ·omega
   ·have l:T=[]:=ne (by omega);rcases l3.1 a with rfl|a
    ·have:=I f;omega
    ·have:=B ⟨q,a,by rw[l,IF];exact f⟩;omega
theorem Wv:∀(s N:Nat) (b:ag) (w:Int) (F:ab),bI b≤s→s≤90→20011+bI b≤N→GB b→0≤w→DF (bI b+2) F→l6 b w F→OK N b w F
 | 0,_,b,_,_,h,_,_,_,_,_,_=>by have:=jZ b;omega
 | s+1,N,b,w,F,h,hs,L,q,z,n,x=>by
  intro i u S J hf hS j;have A:=jZ b;obtain⟨M,rfl⟩:∃M,N=M+1:=⟨N-1,by omega⟩;unfold kz;simp only[wl,bi];rw[Yt (M+1) b w i u S (by omega) (by omega) j,go];cases t:S.find? (fI b w) with
  | some m =>
   have f:=am8 t;have d:=List.find?_some t;have O:=aiw j x t;simp only[wl];refine⟨aa (u+1),[],by simp[O],fun m j=>(by cases j),n3 _,⟨m,by simpa using f,d⟩,fun _=>⟨rfl,rfl⟩,fun k=>absurd ⟨m,f,d⟩ k,fun m j=>(by cases j)⟩
  | none =>
   have k:¬ ∃m∈S,fI b w m=true:=fun⟨m,V,W⟩=>by
    have:=List.find?_eq_none.1 t m V;exact this W
   simp only[hH,rv];obtain⟨P,G,a⟩:=MY b q (by omega) w;obtain⟨r,B⟩:=gt.of (D:=bI b+1) P (fun p g=>by
    have Q:=a.good p g;exact⟨by omega,Gi s p.1 p.2 (by omega) (by omega) Q.1⟩)
   have K:G r=F:=by
    have e:=x (M+1) L 0 0 [];unfold kz at e;simp only[hH,rv]at e;rw[Kr b q,show _=_ from a.run M (by omega) false false 0 0 [],B.pure (fun p g=>by have:=(a.good p g).2;omega)]at e;have e':some (G r,(0:Int),(0:Int),([]:ct))=some (F,0,0,[]):=e;injection e' with e'
    exact(Prod.mk.inj e').1
   have U:=iR b;have R:=a.sz;obtain⟨l,T,E,H,X,Y,Z,e6,I⟩:=Pf B M (fun p g C y v=>Wv s M p.1 p.2 C (by have:=(a.good p g).2;omega) (by omega) (by have:=(a.good p g).2;omega) (a.good p g).1 (a.good p g).2.2 v y) i u S J (by omega) (by omega) j;rw[Kr b q,show _=_ from a.run M (by omega) true true i u S,E];simp only[go,K,vu,wl,bi];rw[abu (M+1) b w F (i+(T.length:Int)) l (S++T) (by simp only[kc];omega) (by omega) (bI b+2) n (by omega) (by omega),go];refine⟨l,T++[⟨b,w,F⟩],?_,fun m c=>?_,by simp only[kc,iN,ro];omega,⟨⟨b,w,F⟩,by simp,by simp[fI,IB]⟩,fun o=>absurd o k,fun _=>by simp,fun m c=>(by
    rcases kb.1 c with c|c
    ·have:=I m c;omega
    ·simp only[l3,abM,amk]at c;subst c;exact h7 _)⟩
   ·rw[show i+(((T++[(⟨b,w,F⟩:ay)]).length:Nat):Int)=i+(T.length:Int)+1 by rw[kc];simp only[iN,ro];omega];show some (F,i+(T.length:Int)+1,l,S++T++[(⟨b,w,F⟩:ay)])=_;rw[u3]
   ·rcases kb.1 c with c|c
    ·exact H m c
    ·simp only[l3,abM,amk]at c;subst c;exact⟨by show bI b≤100;omega,n,x,q,z⟩
end
theorem adn K n l(a:l.length≤100000):yn K n l=some l:=by
 unfold yn o5
 grind[fits,de,bi]
theorem ahk(K:Kn)(n:Nat)(p:iy)(b:ag)(ar:b5)(q:b.Kids.length<1000000)(h:∀k∈b.Kids,(k.Kind=3∨k.Style.Position≠2)∧K.uL p k ar=some ()):∀(m i:Nat),i≤b.Kids.length→b.Kids.length<m+i→uo K n p b ar m i=some ():=by
 intro m
 induction m with
 | zero=>intro i f g;omega
 | succ m j =>
  intro i f g;simp only[uo,CZ];by_cases c:i<b.Kids.length
  ·obtain⟨a,o⟩:=h _ (gX c);have l:=j (i+1) (by omega) (by omega);have d:qo K n p b ar i (uo K n p b ar m) false=some ():=by
    unfold qo;simp only[hH,rv,Int.toNat_natCast,o,go];rw[fB (by omega),l]
   simp only[fP c,wl,dY c,bi,Int.toNat_natCast];split
   ·rename_i e;split
    ·rcases a with a|a
     ·rw[a]at e;exact absurd e (by decide)
     ·rw[show((b.Kids.getD i default).Style.Position == 2)=false by simpa using a];exact d
    ·exact d
   ·exact d
  grind
theorem OQ(K:Kn)(n:Nat)(p:iy)(b:ag)(ar:b5)(h:ar.length≤90000)(i:b.Kids.length<n)(d:b.Kids.length<1000000)(e:∀k∈b.Kids,(k.Kind=3∨k.Style.Position≠2)∧∀a:b5,a.length≤ar.length+1→K.uL p k a=some ()):oA K n p b ar=some ():=by
 have l:∀a:b5,a.length≤ar.length+1→sT K n p b a=some ():=fun a g=>by
  unfold sT;have:=ahk K n p b a d (fun k f=>⟨(e k f).1,(e k f).2 a g⟩) n 0 (n3 _) (by omega)
  grind
 have j:∀c,sD K n p b ar c=some ():=fun c=>by
  grind[sD,adn,de,bi]
 grind[oA]
def lT(m x:ay):Bool:=x.Width == m.Width&&gM x.Box m.Box
theorem ZN(K:Kn)(n:Nat)(l:c6)(M:ay)(f:l.length<1000000)(d:∀k∈l,K.sQ (Fv.c39 M) k=some (lT M k)):∀(m i:Nat),i≤l.length→l.length<m+i →
  ∃r,wR K n l (Fv.c39 M) m i=some r∧decide (r≥0)=(l.drop i).any (lT M):=by
 intro m
 induction m with
 | zero=>intro i b c;omega
 | succ m e =>
  intro i b c;simp only[wR,De];by_cases a:i<l.length
  ·rw[drop_at' a];simp only[fP a,wl,dY a,bi,Int.toNat_natCast,d _ (gX a),go,List.any_cons];cases h:lT M (l.getD i default) with
   | true=>exact⟨_,rfl,by simp⟩
   | false =>
    simp only[hH,rv,al7];rw[fB (by omega)];exact e (i+1) (by omega) (by omega)
  ·simp only[ia (show l.length≤i by omega),hH,rv];rw[la (by omega)];exact⟨_,rfl,rfl⟩
theorem Zx N l M(g:l.length<5000)(d:6000≤N)(e:∀k∈l,bI k.Box≤100):ww (KN (N+1)) (N+1) l (Fv.c39 M)=some (l.any (lT M)):=by
 have a:∀k∈l,(KN (N+1)).sQ (Fv.c39 M) k=some (lT M k):=fun k f=>by
  show zO (KN N) N k M=_;unfold zO lT;rw[BF (bI k.Box) N k.Box M.Box (by omega) (by grind) (by grind),go];cases (k.Width == M.Width)<;>rfl
 obtain⟨r,b,c⟩:=ZN (KN (N+1)) (N+1) l M (by omega) a (N+1) 0 (n3 _) (by omega)
 grind[ww,EQ]
def jU(a:ag):ct→ct→ct
 | acc,[]=>acc
 | acc,m::r=>if acc.any (lT m)=true then jU a acc r else if j8 m.Box a=true then jU a (acc++[m]) r else jU a acc r
theorem B1(a:ag):∀(L b:ct),(∀x∈b,x∈jU a b L)∧(∀x∈jU a b L,x∈b∨(x∈L∧j8 x.Box a=true))∧(jU a b L).length≤b.length+L.length∧∀x∈L,j8 x.Box a=true→∃y∈jU a b L,lT x y=true
 | [],b=>⟨fun x h=>h,fun x h=>.inl h,by simp[jU],fun x h=>by cases h⟩
 | m::r,b=>by
  simp only[jU,iN];split
  ·rename_i k;obtain⟨d,g,j,i⟩:=B1 a r b;refine⟨d,fun x c=>?_,by omega,fun x c f=>?_⟩
   ·rcases g x c with h|h
    ·exact .inl h
    ·exact .inr ⟨nw _ h.1,h.2⟩
   ·rcases l3.1 c with rfl|c
    ·obtain⟨y,l,n⟩:=aaf.1 k;exact⟨y,d y l,n⟩
    ·exact i x c f
  ·split
   ·rename_i e;obtain⟨d,g,j,i⟩:=B1 a r (b++[m]);refine⟨fun x c=>d x (amH _ c),fun x c=>?_,by simp only[kc,List.length_singleton]at j;omega,fun x c f=>?_⟩
    ·rcases g x c with h|h
     ·rcases kb.1 h with h|h
      ·exact .inl h
      ·simp only[l3,abM,amk]at h;subst h;exact .inr ⟨pe,e⟩
     ·exact .inr ⟨nw _ h.1,h.2⟩
    ·rcases l3.1 c with rfl|c
     ·exact⟨x,d x (ano _ pe),by simp[lT,IB]⟩
     ·exact i x c f
   ·rename_i e;obtain⟨d,g,j,i⟩:=B1 a r b;refine⟨d,fun x c=>?_,by omega,fun x c f=>?_⟩
    ·rcases g x c with h|h
     ·exact .inl h
     ·exact .inr ⟨nw _ h.1,h.2⟩
    ·rcases l3.1 c with rfl|c
     ·exact absurd f e
     ·exact i x c f
theorem af2(N:Nat)(b:ag)(F:ab)(g l:Int)(L:ct)(v:L.length≤3000)(z:bI b≤100)(q:6000≤N)(d:Nat)(r:DF d F)(h:d≤150)(t:∀m∈L,bI m.Box≤100):∀(m i:Nat) (a:ct),i≤L.length→L.length<m+i→a.length≤i→(∀x∈a,x∈L) →
  uU (KN (N+1)) (N+1) b (F,g,l,L) m i a=some (F,g,l,jU b a (L.drop i)):=by
 intro m
 induction m with
 | zero=>intro i a n o;omega
 | succ m j =>
  intro i a n o u f;simp only[uU,Co];by_cases e:i<L.length
  ·have p:=gX e;rw[drop_at' e];simp only[fP e,wl,dY e,bi,Int.toNat_natCast,AO,yf,jU];generalize L.getD i default=M at *;rw[Zx N a M (by omega) q (fun k s=>t k (f k s)),go,MD (bI b) (N+1) b M.Box (h7 _) (by omega) (by omega),fB (by omega)];have skip:=j (i+1) a (by omega) (by omega) (by omega) f;cases w:a.any (lT M) with
   | true =>
    simp only[Ts,hH,rv,wl];exact skip
   | false =>
    simp only[am7,wl,go,hH,rv];cases y:j8 M.Box b with
    | false =>
     simp only[hH,rv];exact skip
    | true =>
     simp only[wl,List.length_singleton];rw[de (by omega) (by omega),bi];exact j (i+1) (a++[M]) (by omega) (by omega) (by simp;omega) (fun x c=>by
      rcases kb.1 c with c|c
      ·exact f x c
      ·simp only[l3,abM,amk]at c;subst c;exact p)
  ·simp only[ia (show L.length≤i by omega),hH,rv];rw[BP d (N+1) F r (by omega),go,la (by omega)];rfl
theorem XE{b}(h:GB b):∀k∈b.Kids,(k.Kind=3∧k.Kids=[])∨(k.Style.Position≠2∧GB k):=fun k c=>by
 obtain⟨_,_,_,a⟩:=jO.1 h;rcases a with a|a
 ·exact .inl ⟨a.2.1 k c,a.2.2.2 k c⟩
 grind[lw,jO]
theorem JI(p:iy):∀(s N:Nat) (b:ag) (ar:b5),bI b≤s→s<10000→s+2≤N→ar.length+s≤90000→GB b→oA (KN N) N p b ar=some ()
 | 0,_,b,_,h,_,_,_,_=>by have:=jZ b;omega
 | s+1,0,_,_,_,_,h,_,_=>by omega
 | s+1,N+1,b,ar,l,m,n,o,e=>by
  have i:=iR b;have d:=Cz b.Kids;refine OQ (KN (N+1)) (N+1) p b ar (by omega) (by omega) (by omega) (fun k c=>?_);have g:=rL c;obtain⟨r,t⟩|⟨j,q⟩:=XE e k c
  ·grind[oA,KN,OQ]
  ·exact⟨.inr j,fun a f=>JI p s N k a (by omega) (by omega) (by omega) (by omega) q⟩
noncomputable section
theorem akL(c:ag)(z:GB c)(U:c.Kind=1)(b0:bI c≤89)(e f:Int):
  ∃(F:ab) (P:List eg),(DF (bI c+2) F∧∀d,tw d F≤CL*bI c)∧(∀p∈P,p.1∈c.Kids)∧((∃k∈c.Kids,k.Kind≠3)→P.length=c.Kids.length)∧((∀p∈P,GB p.1)∧(∀k∈c.Kids,k.Kind≠3→(k,(cq c.Style e).Content)∈P)∧∀(N:Nat),20200≤N→oS (KN (N+1)) (N+1) c e f (cY (N+1) false false) 0 0 []=some (F,0,0,[])) ∧
   ∀(N:Nat),20200≤N→∀(S:ct) (a b:Int),S.length≤1500→(∀m∈S,jY m)→∃h T,oy (KN (N+1)) (N+1) c e f a b S=some (F,(T.length:Int),h,jU c [] (S++T))∧(∀m∈T,jY m)∧T.length≤bI c∧(∀p∈P,∃m∈S++T,fI p.1 p.2 m=true)∧((∀p∈P,∃m∈S,fI p.1 p.2 m=true)→T=[]∧h=(P.length:Int))∧((∃p∈P,¬ ∃m∈S,fI p.1 p.2 m=true)→0<T.length)∧∀m∈T,bI m.Box<bI c:=by
 obtain⟨P,G,i,y,o⟩:=PR c U z (cq c.Style (min (max e 0) 1048576)) (Fl.Cl _ _).1 false false;have A:cq c.Style (min (max e 0) 1048576)=cq c.Style e:=by
  unfold cq;rw[show d8 (min (max e 0) 1048576)=d8 e by unfold d8;omega]
 have a0:=iR c;have Z:=i.sz;have X:=Fs P;obtain⟨r,q⟩:=gt.of (D:=bI c+1) P (fun p j=>by
  have Y:=i.good p j;exact⟨by omega,Gi (bI p.1) p.1 p.2 (h7 _) (by omega) Y.1⟩)
 have J:=jZ c;have s:DF (bI c+2) (G r):=i.df r (bI c+1) (by omega) q.len q.df;refine⟨{ (G r)with H:=max (G r).H (min (max f 0) 1048576) },P,⟨vr rfl s,fun d=>oR (am4 (vE (g:=G r) rfl rfl)) (i.tw q d)⟩,fun p j=>(y p j).1,fun t=>by rw[o t,lp],⟨fun p j=>(i.good p j).1,fun k t V=>by rw[o ⟨k,t,V⟩,A];exact anF t,fun N W=>?_⟩,fun N W S a b hS I=>?_⟩
 ·unfold oS;rw[yC,go];unfold Bf;rw[show _=_ from i.run N (by omega) false false 0 0 []];rw[q.pure (N:=N) (fun p j=>by have:=(i.good p j).2;omega) 0 0 [],go];simp only[go];rw[GG (bI c+2) (N+1) (G r) s (by omega),go,JI _ (bI c) (N+1) c [] (h7 _) (by omega) (by omega) (by simp;omega) z,go]
 obtain⟨h,T,L,C,e3,M,E,O,Q⟩:=Pf q N (fun p j K w v=>Wv (bI p.1) N p.1 p.2 K (h7 _) (by have:=(i.good p j).2;omega) (by have:=(i.good p j).2;omega) (i.good p j).1 (i.good p j).2.2 v w) 0 0 S (anP 0) (by omega) (by omega) I;have B:∀m∈S++T,jY m:=fun m l=>by
  rcases kb.1 l with l|l
  ·exact I m l
  ·exact C m l
 refine⟨h,T,?_,C,by omega,M,fun n=>⟨(E n).1,by have:=(E n).2 (anP 0) (by omega);omega⟩,O,fun m l=>by have:=Q m l;omega⟩;have R:=af2 N c ({ (G r)with H:=max (G r).H (min (max f 0) 1048576) }:ab) (0+(T.length:Int)) h (S++T) (by simp only[kc];omega) (by omega) (by omega) (bI c+2) (vr rfl s) (by omega) (fun m l=>(B m l).sz) (N+1) 0 [] (n3 _) (by simp only[kc];omega) (n3 _) (fun x hx=>by cases hx);have u:uU (KN (N+1)) (N+1) c (({ (G r)with H:=max (G r).H (min (max f 0) 1048576) }:ab),0+(T.length:Int),h,S++T) (N+1) 0 []=_:=R;unfold oy tH;rw[go];unfold oS;rw[yC,go];unfold Bf;rw[show _=_ from i.run N (by omega) true true 0 0 S,L,go];simp only[go];rw[GG (bI c+2) (N+1) (G r) s (by omega),go,JI _ (bI c) (N+1) c [] (h7 _) (by omega) (by omega) (by simp;omega) z,go,go,u,Do,Int.zero_add]
end
mutual
/-- The blocks' numbers are those of their descriptions. -/
def kT(L:Nat):ag→Prop
 | ⟨k,n,_,_,_,_,a⟩=>k=1→((10≤n∧n<10+L)∧l7 L a)
def l7(L:Nat):dn→Prop
 | []=>True
 | b::r=>kT L b∧l7 L r
end
theorem Y8{L}{b}(h:kT L b)(a:b.Kind=1):(10≤b.Node∧b.Node<10+L)∧l7 L b.Kids:=by
 cases b;grind[kT]
theorem FY{L}:∀{l m},l7 L l→l7 L m→l7 L (l++m)
 | [],m,_,h=>h
 | b::r,m,a,c=>by simp only[l7]at a⊢;exact⟨a.1,FY a.2 c⟩
theorem tR{a b:Int}{n:Nat}(c:0≤a)(d:a≤b)(e:b≤n):cT a b n=true:=by grind[cT]
theorem aeD(K:Kn)(n:Nat)(l:dt)(cs:List fi)(A:l.length≤9223372036854775807)(z:cs.length≤9223372036854775807)(x:l.length<n)(g:1<n):∀(m:Nat) (i:Int),0≤i→i≤cs.length→(cs.length:Int)<m+i →
  ∃b,Bd K n l cs m i=some b∧(b=true→(l.length≤12∧0<l.length∧cs.length≤6)∧(∀s∈l,rh s)∧∀k,i.toNat≤k→k<cs.length→rh (cs.getD k default).Spec):=by
 intro m
 induction m with
 | zero=>intro i j t u;omega
 | succ m y =>
  intro i j t u;simp only[Bd,Cg];by_cases f:i<(cs.length:Int)
  ·rw[iF (decide_eq_true f),dT j f,bi];obtain⟨b,c,a⟩:=Nu K n [(cs.getD i.toNat default).Spec] 1 (by simp) (by simpa using g);rw[c,go];cases b with
   | false=>exact⟨false,rfl,fun h=>by cases h⟩
   | true =>
    obtain⟨q,r,d⟩:=y (i+1) (by omega) (by omega) (by omega);rw[io (by simp),bT (by omega) (by omega)];refine⟨q,r,fun h=>⟨(d h).1,(d h).2.1,fun k v o=>?_⟩⟩;by_cases e:k=i.toNat
    ·subst e;exact(a rfl).2 _ (by simp)
    ·exact(d h).2.2 k (by omega) o
  ·have w:¬ decide (i<(cs.length:Int))=true:=by simpa using f
   rw[io w];obtain⟨b,c,a⟩:=Nu K n l 12 (by omega) x;rw[c,go];cases b with
   | false=>exact⟨false,rfl,fun h=>by cases h⟩
   | true =>
    simp only[wl,sP];split
    ·rename_i p;have p:=il p;refine⟨_,rfl,fun h=>⟨⟨by have:=(a rfl).1;omega,by omega,by have:=il h;omega⟩,(a rfl).2,fun k v o=>by omega⟩⟩
    ·exact⟨false,rfl,fun h=>by cases h⟩
theorem ajy K n l cs(g:l.length≤9223372036854775807)(f:cs.length≤9223372036854775807)(i:l.length<n)(j:cs.length+1<n):
  ∃b,ES K n l cs=some b∧(b=true→(l.length≤12∧0<l.length∧cs.length≤6)∧(∀s∈l,rh s)∧∀c∈cs,rh c.Spec):=by
 obtain⟨b,e,d⟩:=aeD K n l cs g f i (by omega) n 0 (by omega) (by omega) (by omega);refine⟨b,e,fun h=>⟨(d h).1,(d h).2.1,fun c a=>?_⟩⟩;obtain⟨k,m,rfl⟩:=agi.1 a
 grind
theorem adU k:CF (KN (k+30)) (k+30)=some true:=by kernel_rfl
theorem adB s:(fL s).Text=s.Text:=by grind[fL]
def Yf(l:dn):Prop:=gq l∧(∀q∈l,q.Text.size≤90)∧(∀q∈l,q.Kids=[])
theorem aha(l:dt)(i:l.length≤1000)(f:∀s∈l,s.Rows=0)(b:ag)(c:Bool)(h:10≤b.Node∧b.Node<10+(l.length:Int)):ku l b b.Kids c=some b:=by
 have e:aa (b.Node-10)=b.Node-10:=bT (by omega) (by omega);have d:aU (aa (b.Node-10)) l.length=true:=by rw[e];exact dT (by omega) (by omega)
 have a:(⟨b.Kind,b.Node,b.Style,b.Text,b.Rows,b.Cols,b.Kids⟩:ag)=b:=by cases b;rfl
 have g:(l.getD (aa (b.Node-10)).toNat default).Rows=0:=f _ (gX (by rw[e];omega));unfold ku;cases c with
 | false=>exact amM some a
 | true =>
  simp only[d,bi,g];split
  ·rw[io (by decide)];exact amM some a
  ·exact amM some a
mutual
theorem Y3(l:dt)(g:l.length≤1000)(c:∀s∈l,s.Rows=0):∀(m:Nat) (b:ag) (lo:Int),bI b≤m→RB lo b→10≤lo→lo+(bI b:Int)≤10+(l.length:Int)→jr l m b=some b
 | 0,b,_,h,_,_,_=>by have:=jZ b;omega
 | m+1,b,lo,h,j,a,o=>by
  have v:=iR b;obtain⟨y,z,A,t,d⟩:=ZJ j;have e:li (jr l m) b.Kids=some b.Kids:=by
   rcases d with d|d
   ·exact H6 _ b.Kids d.1
   ·exact WF l g c m b.Kids (lo+1) (by omega) d (by omega) (by omega)
  simp only[jr,e,go];exact aha l g c b _ (by omega)
theorem H6(f:ag→Option ag):∀(l:dn),gq l→li f l=some l
 | [],_=>rfl
 | k::r,h=>by
  have e:=H6 f r (fun q u=>h q (nw _ u));have p:=h k pe;have n:¬ ((k.Kind == 1)=true):=by rw[p];decide
  simp only[li,io n,e,go]
theorem WF(l:dt)(g:l.length≤1000)(c:∀s∈l,s.Rows=0):∀(m:Nat) (i:dn) (lo:Int),da i≤m→CQ lo i→10≤lo→lo+(da i:Int)≤10+l.length→li (jr l m) i=some i
 | m,[],_,_,_,_,_=>rfl
 | m,k::r,lo,h,j,a,o=>by
  simp only[da]at h o;have w:=Y3 l g c m k lo (by omega) j.1 a (by omega);have x:=WF l g c m r (lo+bI k) (by omega) j.2 (by omega) (by omega)
  grind[li]
end
theorem Qn:∀{l m},je l→je m→je (l++m)
 | [],m,_,h=>h
 | b::r,m,a,c=>by simp only[RX]at a⊢;exact⟨a.1,Qn a.2 c⟩
def Im(s:aK):Prop:=s.Style.Position≠2∧s.Text.size≤90
theorem ajq(K:Kn)(n:Nat)(L:dt)(J:L.length≤19)(t:∀s∈L,Im s)(a:Nat)(g:Bool)(B:g=true→∀i,a<i→i<L.length→∃b e,K.k7 L ((i:Nat):Int)=some (b,((e:Nat):Int))∧i<e∧e≤L.length∧bI b≤e - i∧kT L.length b∧b.Kind=1∧GB b):
  ∀(m i:Nat) (c:dn),a<i→i≤L.length→L.length<m+i→da c+a<i→l7 L.length c→(g=true→je c)→(g=false→Yf c) →
   ∃b e,nZ K n L ((a:Nat):Int) g m ((i:Nat):Int) c=some (b,((e:Nat):Int))∧a<e∧e≤L.length∧bI b≤e - a∧kT L.length b∧b.Kind=1∧GB b∧b.Node=10+(a:Int):=by
 intro m
 induction m with
 | zero=>intro i c _ r z;omega
 | succ m l =>
  intro i c p r z I o k f;have u:=Cz c;have stop:∃b e,mX K n L ((a:Nat):Int) g ((i:Nat):Int) c (nZ K n L ((a:Nat):Int) g m) false=some (b,((e:Nat):Int))∧a<e∧e≤L.length∧bI b≤e - a∧kT L.length b∧b.Kind=1∧GB b∧b.Node=10+(a:Int):=by
   simp only[mX,hH,rv];refine⟨_,i,rfl,p,r,?_,?_,rfl,?_,bT (by omega) (by omega)⟩
   ·rw[iR];show da c+1≤i-a;omega
   ·simp only[kT];refine fun _=>⟨?_,o⟩;rw[bT (by omega) (by omega)];omega
   ·simp only[GB];refine⟨.inl (by first|rfl|trivial),⟨(t _ (gX (by simpa using (show a<L.length by omega)))).1,by first|rfl|trivial⟩,by omega,?_⟩;cases g with
    | true=>exact .inr (k rfl)
    | false=>exact .inl ⟨by first|rfl|trivial,(f rfl).1,(f rfl).2.1,(f rfl).2.2⟩
  simp only[nZ,se];by_cases j:i<L.length
  ·simp only[fP j,wl,dY j,bi];cases M:decide ((L.getD ((i:Nat):Int).toNat default).Depth>(L.getD ((a:Nat):Int).toNat default).Depth) with
   | false=>exact stop
   | true =>
    simp only[mX,wl];cases g with
    | true =>
     obtain⟨b,e,v,F,w,G,x,H,y⟩:=B rfl i p j;simp only[wl,v,go,iN,ro];rw[de (by omega) (by omega),bi];exact l e (c++[b]) (by omega) w (by omega) (by rw[Df];simp only[da];omega) (FY o ⟨x,trivial⟩) (fun _=>Qn (k rfl) ⟨y,trivial⟩) (fun h=>by cases h)
    | false =>
     simp only[hH,rv,dY j,bi,iN,ro];rw[de (by omega) (by omega),bi,fB (by omega)];have A:=(t _ (gX j)).2;refine l (i+1) _ (by omega) (by omega) (by omega) (by rw[Df];simp only[da,bI];show da c+(da []+1+0)+a<i+1;simp only[da];omega) (FY o ⟨(by simp only[kT];intro h;exact absurd h (by decide)),trivial⟩) (fun h=>by cases h) (fun _=>?_);obtain⟨C,D,E⟩:=f rfl;refine⟨fun q d=>?_,fun q d=>?_,fun q d=>?_⟩
     ·rcases kb.1 d with d|d
      ·exact C q d
      ·simp only[l3,abM,amk]at d;subst d;rfl
     ·rcases kb.1 d with d|d
      ·exact D q d
      ·simp only[l3,abM,amk]at d;subst d;exact A
     ·rcases kb.1 d with d|d
      ·exact E q d
      ·simp only[l3,abM,amk]at d;subst d;rfl
  ·simp only[ia (show L.length≤i by omega),hH,rv];exact stop
theorem UT(K:Kn)(n:Nat)(L:dt)(j:L.length≤19)(k:∀s∈L,Im s)(p:L.length+2≤n):∀(d a:Nat),a<L.length→L.length-a≤d→∃b c,lH K n d L ((a:Nat):Int)=some (b,((c:Nat):Int))∧a<c∧c≤L.length∧bI b≤c - a∧kT L.length b∧b.Kind=1∧GB b∧b.Node=10+(a:Int)
 | 0,a,h,m=>by omega
 | d+1,a,h,m=>by
  have f:∀g:Bool,∃b c,nZ { K with k7:=lH K n d } n L ((a:Nat):Int) g n ((a+1:Nat):Int) []=some (b,((c:Nat):Int))∧a<c∧c≤L.length∧bI b≤c - a∧kT L.length b∧b.Kind=1∧GB b∧b.Node=10+(a:Int):=fun g =>
   ajq { K with k7:=lH K n d } n L j k a g (fun _ i z o=>by
    obtain⟨b,c,r,t,u,v,w,x,y,_⟩:=UT K n L j k p d i o (by omega);exact⟨b,c,r,t,u,v,w,x,y⟩) n (a+1) [] (by omega) (by omega) (by omega) (by simp[da]) trivial (fun _=>trivial) (fun _=>⟨fun q e=>(by cases e),fun q e=>(by cases e),fun q e=>(by cases e)⟩)
  show ∃b c,oI { K with k7:=lH K n d } n L ((a:Nat):Int)=some (b,((c:Nat):Int))∧_;unfold oI;simp only[dY h,bi,fB (show a<1000000000 by omega),pb];by_cases l:a+1<L.length
  ·simp only[fP l,wl,dY l,bi];split
   ·exact f _
   ·exact f _
  ·simp only[ia (show L.length≤a+1 by omega),hH,rv];exact f _
theorem ON(l:dt)(b:ag)(f:dn)(c:Bool)(g:10≤b.Node∧b.Node<10+(l.length:Int))(h:l.length≤1000):∃b',ku l b f c=some b'∧b'.Kids=f∧(b'.Style=b.Style∧b'.Text=b.Text)∧b'.Node=b.Node∧(b'.Kind=b.Kind∨(b'.Kind=6∧c=true∧b.Node≠10)):=by
 have e:aa (b.Node-10)=b.Node-10:=bT (by omega) (by omega);have d:aU (aa (b.Node-10)) l.length=true:=by rw[e];exact dT (by omega) (by omega)
 unfold ku;cases c with
 | false=>exact⟨_,rfl,rfl,⟨rfl,rfl⟩,rfl,.inl rfl⟩
 | true =>
  simp only[d,bi];split
  ·rename_i a;have a:=il a;rw[e]at a;split
   ·exact⟨_,rfl,rfl,⟨rfl,rfl⟩,rfl,.inr ⟨rfl,(by first|rfl|trivial),by omega⟩⟩
   ·exact⟨_,rfl,rfl,⟨rfl,rfl⟩,rfl,.inl rfl⟩
  grind
theorem Na L f:∀l,l7 L l→je l→(∀k∈l,kT L k→k.Kind=1→GB k→∃a,f k=some a∧bI a=bI k∧GB a)→∃m,li f l=some m∧da m=da l∧je m∧m.length=l.length
 | [],_,_,_=>⟨[],rfl,rfl,trivial,rfl⟩
 | k::r,h,b,e=>by
  simp only[l7]at h;simp only[je]at b;obtain⟨m,i,j,c,n⟩:=Na L f r h.2 b.2 (fun q s=>e q (by grind));have g:∃a,(if (k.Kind == 1)=true then f k else some k)=some a∧bI a=bI k∧GB a:=by
   grind
  obtain⟨a,o,p,d⟩:=g;refine⟨a::m,?_,by grind[da],⟨d,c⟩,by grind⟩
  grind[li]
theorem Tt(l:dt)(i:l.length≤1000):∀(m:Nat) (b:ag),bI b≤m→kT l.length b→b.Kind=1→GB b→∃b',jr l m b=some b'∧bI b'=bI b∧GB b'∧b'.Node=b.Node∧(b.Node=10→b'.Kind=1)
 | 0,b,h,_,_,_=>by have:=jZ b;omega
 | m+1,b,h,D,r,C=>by
  obtain⟨q,A⟩:=Y8 D r;obtain⟨Q,x,y,z⟩:=jO.1 C;have E:=iR b;rcases z with c|B
  ·have n:=H6 (jr l m) b.Kids c.2.1;have d:(b.Kids.any fun k=>k.Kind == 1)=false:=by
    rw[ani];intro k j;rw[c.2.1 k j];decide
   obtain⟨b',p,f,⟨v,g⟩,w,a⟩:=ON l b b.Kids false q i;have e:b'.Kind=1:=by
    rcases a with a|⟨_,a,_⟩
    ·rw[a,r]
    ·cases a
   refine⟨b',?_,by rw[iR,f];omega,?_,w,fun _=>e⟩
   ·simp only[jr,n,go,d,p]
   ·rw[jO,e,f,v,g];exact⟨.inl rfl,x,y,.inl ⟨rfl,c.2.1,c.2.2.1,c.2.2.2⟩⟩
  ·obtain⟨G,n,p,f,N⟩:=Na l.length (jr l m) b.Kids A B (fun k j H I J=>by
    obtain⟨F,K,L,M,_⟩:=Tt l i m k (by have:=rL j;omega) H I J;exact⟨F,K,L,M⟩)
   obtain⟨b',O,P,⟨s,o⟩,t,u⟩:=ON l b G (b.Kids.any fun k=>k.Kind == 1) q i
   grind[iR,jr,jO]
theorem ag5(K:Kn)(n:Nat)(l:dt)(x:0<l.length)(y:l.length≤19)(A:l.length+2≤n)(k:∀s∈l,s.Text.size≤90):∃b,qq K n l=some b∧bI b≤l.length∧GB b∧b.Kind=1:=by
 have z:(l.map fL).length=l.length:=lp _;have g:∀s∈l.map fL,Im s:=fun s j=>by
  obtain⟨q,i,rfl⟩:=u6.1 j;refine⟨?_,by rw[adB];exact k q i⟩;unfold fL;split
  ·show(0:Int)≠2;decide
  ·rename_i h;simpa using h
 obtain⟨b,B,m,o,p,r,a,c,d,t⟩:=UT K n (l.map fL) (by omega) g (by omega) n 0 (by omega) (by omega);obtain⟨b',u,v,e,w,f⟩:=Tt (l.map fL) (by omega) n b (by omega) a c d;refine⟨b',?_,by omega,e,f (by grind)⟩;unfold qq
 grind[lH,fL,de,bi]
end Go.Proofs.YtocgkfoifehcbaaGreat
namespace Go.Proofs.YtocgkfoifehcbaaGreat.QRelayoutPlaces
set_option linter.all false
set_option maxRecDepth 20000
open Go.RowKit
theorem akf(K:Kn)(n:Nat)(l:dt)(c:fi)(B:0<l.length)(D:l.length≤100)(p:0≤c.At∧c.At<256)(t:Nat)(x:t≤1000)(o:∀s∈l,s.Text.size≤t)(C:c.Spec.Text.size≤t):∃l',xY K n l c=some l'∧0<l'.length∧l'.length≤l.length+1∧∀s∈l',s.Text.size≤t+1:=by
 have d:∀s∈l,s.Text.size≤t+1:=fun s b=>by have:=o s b;omega
 have g:c.Spec.Text.size≤t+1:=by omega
 unfold xY;simp only[Dy,ro,z5,List.length_singleton,kc,iN];rw[de (by omega) (by omega),bi];by_cases m:(l.length:Int)<2
 ·rw[iF (decide_eq_true m),dT (by omega) (by omega),bi,de (by omega) (by omega),bi];refine⟨_,rfl,by simp,by simp,fun s b=>?_⟩;rcases kb.1 b with b|b
  ·exact d s b
  ·simp only[l3,abM,amk]at b;subst b;exact n3 _
 ·have u:¬ decide ((l.length:Int)<2)=true:=by simpa using m
  rw[io u];have y:aa ((l.length:Int)-1)=(l.length:Int)-1:=bT (by omega) (by omega);have z:aa c.At=c.At:=bT (by omega) (by omega);have v:=Int.tmod_nonneg ((l.length:Int)-1) p.1;have w:=Int.tmod_lt_of_pos c.At (show 0<(l.length:Int)-1 by omega);rw[y,z,bT (by omega) (by omega)];have j:(((l.length:Int)-1) != 0)=true:=by simp[bne];omega
  rw[j,bi,go];generalize q:1+c.At.tmod ((l.length:Int)-1)=at_ at *;obtain⟨a,rfl⟩:∃a:Nat,at_=(a:Int):=⟨at_.toNat,by omega⟩;have h:1≤a:=by omega
  have e:a<l.length:=by omega
  have A:aa ((a:Int)+1)=((a+1:Nat):Int):=fB (by omega);have f:=o _ (gX (L:=l) (i:=((a:Nat):Int).toNat) (by simpa using e));simp only[dY e,bi,go,zl,A];split
  ·refine⟨_,rfl,by simp;omega,by simp,fun s b=>?_⟩;rcases al5 b with b|b
   ·exact d s b
   ·subst b;show c.Spec.Text.size≤t+1;omega
  ·split
   ·have k:(⟨#[120]⟩:ByteArray).size=1:=rfl;have b:ur (l.getD ((a:Nat):Int).toNat default).Text (⟨#[120]⟩:ByteArray)=true:=by
     unfold ur;have:=f;rw[k];exact decide_eq_true (by omega)
    rw[b,bi];refine⟨_,rfl,by simp;omega,by simp,fun s b=>?_⟩;rcases al5 b with b|b
    ·exact d s b
    ·subst b;have:=f;show((l.getD ((a:Nat):Int).toNat default).Text++(⟨#[120]⟩:ByteArray)).size≤t+1;rw[ByteArray.size_append,k];omega
   ·split
    ·rw[tR (by omega) (by omega) (by omega),bi,tR (by omega) (by omega) (by omega),bi];simp only[Int.toNat_natCast,show(0:Int).toNat=0 from rfl,aiE];have r:(Nat.ble 1 a&&(Nat.ble a (a+1)&&Nat.ble (a+1+(l.length-(a+1))) l.length))=true:=by
      simp only[g6];exact⟨ajT h,ajT (by omega),ajT (by omega)⟩
     rw[r,bi];refine⟨_,rfl,by rw[kc,Dj];omega,by rw[kc,Dj,Dj,ah0];omega,fun s b=>d s ?_⟩;rcases kb.1 b with b|b
     ·exact nk b
     ·exact tl (nk b)
    ·rw[tR (by omega) (by omega) (by omega),bi];simp only[Int.toNat_natCast,show(0:Int).toNat=0 from rfl,Do,Dj,ah0];rw[de (by omega) (by omega),bi,de (by omega) (by omega),bi,tR (by omega) (by omega) (by omega),bi,de (by omega) (by omega),bi];refine⟨_,rfl,by simp;omega,by simp;omega,fun s b=>?_⟩;rcases kb.1 b with b|b
     ·rcases kb.1 b with b|b
      ·exact d s (nk b)
      ·simp only[l3,abM,amk]at b;subst b;exact g
     ·exact d s (nk (tl b))
theorem Vo:∀d,(cY d false false).Layout.eu=true∧(cY d false false).Widths.eu=true∧(cY d false false).Lines.eu=true∧(cY d false false).Spread.eu=true
 | 0=>⟨rfl,rfl,rfl,rfl⟩
 | d+1=>by
  obtain⟨a,b,c,e⟩:=Vo d
  grind[cY,Fv.eu]
theorem ajE{N}{a}{w h}{F}(H:oS (KN N) N a w h (cY N false false) 0 0 []=some (F,0,0,[])):yD (KN N) N a w h=some F:=by
 grind[yD,tH,Vo,bi]
theorem aec(x:cU×ab)(s:BS):(tY x s).2.length≤s.2.length+ow x.2:=by
 have d:∀(l:b7) (s:BS),(tK l s).2.length≤s.2.length+(l.map fun k=>k.Text.size).sum:=by
  intro l
  induction l with
  | nil=>intro s;exact h7 _
  | cons k r a =>
   intro s;have b:=a (if (k.Kind == 3)=true then (true,s.2++fT k.Text) else s);simp only[tK,n5,al8];have c:(if (k.Kind == 3)=true then (true,s.2++fT k.Text) else s).2.length≤s.2.length+k.Text.size:=by
    split
    ·simp[fT]
    ·omega
   omega
 grind[tY,ow]
theorem ajs a b s:tF (a++b) s=tF b (tF a s):=List.foldl_append
theorem J6:∀(d n:Nat) (f:ab) (x y:Int),DF d f→d≤n→∃l,jT n f x y=some l∧(∀p∈l,p.2.Kids.length≤3000)∧∀s:BS,(tF l s).2.length≤s.2.length+tw n f
 | 0,n,f,x,y,h,_=>h.elim
 | d+1,0,f,x,y,h,z=>by omega
 | d+1,n+1,f,x,y,h,z=>by
  unfold DF at h;have w:∀(x y:Int) (l:b7),(∀k∈l,DF d k)→∃m,pC (fun k=>jT n k x y) l=some m∧(∀p∈m,p.2.Kids.length≤3000)∧∀s:BS,(tF m s).2.length≤s.2.length+cK n l:=by
   intro x y l
   induction l with
   | nil=>intro _;exact⟨[],rfl,fun p c=>(by cases c),fun s=>h7 _⟩
   | cons k r B =>
    intro e;obtain⟨a,g,i,j⟩:=J6 d n k x y (e k pe) (by omega);obtain⟨b,o,t,u⟩:=B (fun q A=>e q (nw _ A));refine⟨a++b,by simp only[pC,g,o,go],fun p c=>(kb.1 c).elim (i p) (t p),fun s=>?_⟩;rw[ajs,pW];have:=j s;have:=u (tF a s);omega
  obtain⟨m,C,D,E⟩:=w (fy f x y).X (fy f x y).Y f.Kids h.2;refine⟨(fy f x y,f)::m,?_,fun p c=>?_,fun s=>?_⟩
  ·simp only[jT,C,go];rw[de (by omega) (by omega),bi]
  ·rcases l3.1 c with rfl|c
   ·exact h.1
   ·exact D p c
  ·have v:=aec (fy f x y,f) s;have F:=E (tY (fy f x y,f) s);show(tF m (tY (fy f x y,f) s)).2.length≤s.2.length+(ow f+cK n f.Kids);simp only at v;omega
theorem Yo{d n}{K}{f}(h:DF d f)(b:d≤n) a:∃r,qQ K n f a=some r:=by
 obtain⟨l,c,_⟩:=J6 d n f 0 0 h b
 simp_all[qQ]
theorem aiF{d n}{K}{f}(h:DF d f)(c:d≤n)(j:tw n f≤CL*100):∃r,rm K n f=some r:=by
 obtain⟨l,a,e,g⟩:=J6 d n f 0 0 h c;unfold rm;have b:(l.all fun x=>decide (x.2.Kids.length<9223372036854775807))=true:=by
  grind
 have i:CL*100=40020000200100:=by rfl
 rw[a,go,b,bi,de (by grind) (by omega),bi]
 grind
theorem ab4(K:Kn)(n d:Nat)(L:dt)(p:L.length≤100)(R:ab×Int×Int×c6)(h:DF d R.1)(c:d≤n)(k:tw n R.1≤CL*100):∀(m i:Nat),i≤L.length→L.length<m+i→xb K n L R R.1 m ((10+i:Nat):Int)=some true:=by
 intro m
 induction m with
 | zero=>intro i e f;omega
 | succ m l =>
  intro i e f;have a:aa (10+(L.length:Int))=10+(L.length:Int):=bT (by omega) (by omega);simp only[xb,B7,go,a];by_cases q:i<L.length
  ·obtain⟨r,b⟩:=Yo (K:=K) h c ((10+i:Nat):Int);have o:=l (i+1) (by omega) (by omega);rw[iF (decide_eq_true (by omega)),b];have j:Gw r.1 r.1=true:=by simp[Gw]
   simp only[go,j,Ts,hH,rv,beq_self_eq_true,zG];rw[fB (by omega)];exact o
  ·obtain⟨r,b⟩:=aiF (K:=K) h c k;have g:¬ decide (((10+i:Nat):Int)<10+(L.length:Int))=true:=by simp;omega
   rw[io g,b];simp
theorem adJ(N:Nat)(Z:20300≤N)(cs:List fi)(H:cs.length≤6)(g:∀c∈cs,0≤c.At∧c.At<256)(j:∀c∈cs,c.Spec.Text.size≤60)(w:Int):∀(m i:Nat) (L:dt) (a b:Int) (f:ab) (S:ct),i≤cs.length→cs.length<m+i→0<L.length→L.length≤12+i→(∀s∈L,s.Text.size≤60+i)→S.length≤100*i→(∀x∈S,jY x) →
  y9 (KN (N+1)) (N+1) cs w m L ((i:Nat):Int) a b f S=some true:=by
 intro m
 induction m with
 | zero=>intro i L a b f S _ h;omega
 | succ m J =>
  intro i L a b f S V W p X q Y r;simp only[y9,DU];obtain⟨d,K,t2,M,O⟩:=ag5 (KN (N+1)) (N+1) L p (by omega) (by omega) (fun s l=>by have:=q s l;omega);obtain⟨F,P,⟨v,z⟩,_,_,⟨_,_,y⟩,e⟩:=akL d M O (by omega) w 0;obtain⟨n,T,o,A,Q,_⟩:=e N (by omega) S a b (by omega) r;rw[K];by_cases k:i<cs.length
  ·have t:=gX k;simp only[fP k,wl,dY k,bi,go,Int.toNat_natCast];rw[o,go];obtain⟨u,D,E,U,G⟩:=akf (KN (N+1)) (N+1) L (cs.getD i default) p (by omega) (g _ t) (60+i) (by omega) q (by have:=j _ t;omega);rw[D,go,fB (by omega)];obtain⟨R,B,C,_⟩:=B1 d (S++T) [];refine J (i+1) u _ _ _ _ (by omega) (by omega) E (by omega) (fun s l=>by have:=G s l;omega) ?_ (fun x I=>?_)
   ·simp only[ro,kc]at C;show(jU d [] (S++T)).length≤_;omega
   ·rcases B x I with h|h
    ·cases h
    ·rcases kb.1 h.1 with h|h
     ·exact r x h
     ·exact A x h
  ·simp only[ia (show cs.length≤i by omega),hH,rv,go];rw[o,go,ajE (y N (by omega)),go];refine ab4 (KN (N+1)) (N+1) (bI d+2) L (by omega) (F,(T.length:Int),n,jU d [] (S++T)) v (by omega) (oR (z (N+1)) (anB CL (by omega))) (N+1) 0 (n3 _) (by omega)
theorem abk{c:fi}(h:cZ Tryz.prog 39 (eF c)):0≤c.At∧c.At<256:=by
 have d:=h.gen;rw[Tryz.underlying39]at d;obtain⟨parts,b,a,j⟩:=d;have a:parts.length=3:=a;obtain⟨p0,r0,f,i⟩:=cV a;subst f;obtain⟨n,rfl,k⟩:=(j 0 _ p0 rfl rfl).int_inv Tryz.underlying5;have e:(eF c).head?=some (.int .u8 n):=by rw[b];rfl
 have g:(eF c).head?=some (.int .u8 c.At):=by kernel_rfl
 rw[g]at e;injection e with e;injection e with _ e
 rw[e];have:0≤n∧n≤255:=by simpa[Lit.wf,IntKind.min,IntKind.max,IntKind.signed,IntKind.bits]using k
 omega
theorem holds(d:dt)(a:List fi)(k:Int)(z:cZ Tryz.prog 22 ((tS aH) d))(A:cZ Tryz.prog 23 ((tS eF) a))(H:cZ Tryz.prog 3 ((ak .i64) k)):∃n,BQ (KN n) n d a k=some true:=by
 obtain⟨l,m,C,_⟩:=z.sl_inv Tryz.underlying22;simp only[tS,alt,AV.sl.injEq,and_true]at m;have o:l.length=d.length:=by rw[←m,lp]
 have D:l.length≤9223372036854775807:=C;obtain⟨q,e,j,_,h⟩:=A.sl_inv Tryz.underlying23;simp only[tS,alt,AV.sl.injEq,and_true]at e;have i:q.length=a.length:=by rw[←e,lp]
 have p:q.length≤9223372036854775807:=j;have f:∀c∈a,0≤c.At∧c.At<256:=fun c g=>abk (h _ (by rw[←e];exact anF g));refine⟨d.length+a.length+20400+30,?_⟩;unfold BQ;rw[adU (d.length+a.length+20400),go];obtain⟨N,B⟩:∃N,d.length+a.length+20400+30=N+1:=⟨d.length+a.length+20429,by omega⟩;rw[B];obtain⟨b,r,t⟩:=ajy (KN (N+1)) (N+1) d a (by omega) (by omega) (by omega) (by omega);rw[r,go];cases b with
 | false=>rfl
 | true =>
  obtain⟨⟨G,u,y⟩,v,w⟩:=t rfl;simp only[Ts,hH,rv];exact adJ N (by omega) a y f (fun c g=>by have:=(w c g).text;omega) k (N+1) 0 d 0 0 _ [] (n3 _) (by omega) u (by omega) (fun s E=>by have:=(v s E).text;omega) (n3 _) (fun x F=>by cases F)
end Go.Proofs.YtocgkfoifehcbaaGreat.QRelayoutPlaces
