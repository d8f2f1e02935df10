/- Layer 22, plain: a row as its items' runs, and a plain rest. No program in sight. -/
import Derived.Test.YtocgkfoifehcbaaGreatReZ13
import Derived.Test.YtocgkfoifehcbaaGreatReGop
namespace Go.Proofs.YtocgkfoifehcbaaGreat
set_option linter.all false
open Go.RowKit
abbrev es:=List R4
def amm:=@List.filter_eq_self
def amx:=@List.any_eq_false
def amY:=@ByteArray.toList.loop.eq_1
def am2:=@List.mem_of_find?_eq_some
def ano:=@List.find?_cons
def anx:=@List.mem_map_of_mem
namespace Fl
open QSort (wn cJ du dq ry qf sb)
open Fw
def eQ(W:ab→Int×Int)(c:Int)(k:ab):bH:=⟨eL k.Style.Basis c (eL k.Style.Width c (aa ((W k).2-ii (fS k.Style 0 0)))),k.Style.Grow,k.Style.Shrink,eL k.Style.MinWidth c 0,eL k.Style.MaxWidth c 1048576⟩
def dY(c:Int)(k:ab):Int:=ii (fS k.Style c 0)
def iU(W:ab→Int×Int)(c:Int)(k:ab):Int:=Rs.hyp (eQ W c k)+dY c k
theorem Nz W c k: -6291456≤iU W c k∧iU W c k≤7340032:=by
 have a:=Rs.Kx (eQ W c k);have b:=Ju k.Style c
 grind[iU,dY]
theorem Hx{α β:Type}[Inhabited α][Inhabited β](f:α→β){l:List α}{k}(a:k<l.length):(l.map f).getD k default=f (l.getD k default):=by
 grind
instance:Inhabited bH:=⟨kv⟩
section
variable(K:Kn)(n:Nat)(L:dO)(f:L.length≤19)(c:Int)(W:ab→Int×Int)(env:bB)(a d:Int)(S:cn)(e:∀k∈L,K.gI env.Widths k=some (W k))
include f e
theorem aj0(b:ab):∀(m i:Nat),i≤L.length→L.length<m+i →
  qM K n b c env a d S L m (i:Int) (mix i (L.map (eQ W c)) (List.replicate L.length kv)) (mix i (L.map (dY c)) (List.replicate L.length 0)) (mix i (L.map (iU W c)) (List.replicate L.length 0)) =
  if b.Style.Wrap=true then (qo K n (L.map (iU W c)) c).bind fun f=>lA K n c env a d S L (L.map (eQ W c)) (L.map (dY c)) f else lA K n c env a d S L (L.map (eQ W c)) (L.map (dY c)) [0]:=by
 have l:(L.map (eQ W c)).length=(List.replicate L.length kv).length:=by simp
 have g:(L.map (dY c)).length=(List.replicate L.length (0:Int)).length:=by simp
 have o:(L.map (iU W c)).length=(List.replicate L.length (0:Int)).length:=by simp
 have y:(List.replicate L.length kv).length=L.length:=by simp
 have p:(List.replicate L.length (0:Int)).length=L.length:=by simp
 intro m
 induction m with
 | zero=>intro i E F;omega
 | succ m I =>
  intro i E F;simp only[qM,Bx];by_cases h:i<L.length
  ·have G:=e _ (fU h);have J:=BN (i:=i) l;have v:=BN (i:=i) g;have M:=BN (i:=i) o;have z:=Gu l (i:=i) (by omega);have A:=Gu g (i:=i) (by omega);have B:=Gu o (i:=i) (by omega);have t:=acB g (i:=i) (by omega);have N:=BN (i:=i+1) g;rw[Hx (eQ W c) h]at z;rw[Hx (dY c) h]at A t;rw[Hx (iU W c) h]at B;have w:=Nz W c (L.getD i default);have C:aa ((i:Int)+1)=((i+1:Nat):Int):=wn (by omega) (by omega);rw[du (by omega)];have k:∀x,x=(eQ W c (L.getD i default)).aC→td K n b c env a d S L (i:Int) (mix i (L.map (eQ W c)) (List.replicate L.length kv)) (mix i (L.map (dY c)) (List.replicate L.length 0)) (mix i (L.map (iU W c)) (List.replicate L.length 0)) (dY c (L.getD i default)) (eL (L.getD i default).Style.MinWidth c 0) (eL (L.getD i default).Style.MaxWidth c 1048576) (L.getD i default).Style.Grow (L.getD i default).Style.Shrink (qM K n b c env a d S L m) x =
     (if b.Style.Wrap=true then (qo K n (L.map (iU W c)) c).bind fun f=>lA K n c env a d S L (L.map (eQ W c)) (L.map (dY c)) f else lA K n c env a d S L (L.map (eQ W c)) (L.map (dY c)) [0]):=by
    intro x H;subst H;unfold td;have D:(⟨(eQ W c (L.getD i default)).aC,(L.getD i default).Style.Grow,(L.getD i default).Style.Shrink,eL (L.getD i default).Style.MinWidth c 0,eL (L.getD i default).Style.MaxWidth c 1048576⟩:bH)=eQ W c (L.getD i default):=rfl;simp only[D,Rs.Gn,sb,eT,z,A,J,v,M,N,t,C,y,p,cJ (show(0:Int)≤(i:Int)∧(i:Int)<(L.length:Nat) by omega)];rw[bN (n:=Rs.hyp (eQ W c (L.getD i default))+dY c (L.getD i default)) (by unfold iU at w;omega) (by unfold iU at w;omega)];rw[show Rs.hyp (eQ W c (L.getD i default))+dY c (L.getD i default)=iU W c (L.getD i default) from rfl,B];exact I (i+1) (by omega) (by omega)
   simp only[cJ (show(0:Int)≤(i:Int)∧(i:Int)<(L.length:Nat) by omega),eT,vb,uH,sb,Ct,gn,v,p,z0];rw[show ii (fS (L.getD i default).Style c 0)=dY c (L.getD i default) from rfl];cases j:(cK (L.getD i default).Style.Basis c).2 with
   | true =>
    simp only[Do,il,ol];exact k _ (by unfold eQ eL;simp only[j,w3])
   | false =>
    simp only[amf,w3];cases u:(cK (L.getD i default).Style.Width c).2 with
    | true =>
     simp only[Do,il,ol];exact k _ (by unfold eQ eL;simp only[j,u,w3,il,ol])
    | false =>
     simp only[amf,w3];rw[G,sb];exact k _ (by unfold eQ eL;simp only[j,u,il,ol])
  ·obtain rfl:i=L.length:=by omega
   have q:=Hs l;have r:=Hs g;have s:=Hs o;rw[y]at q;rw[p]at r s;rw[dq (by omega),q,r,s]
end
def kE(b:ab)(c:Int)(W:ab→Int×Int)(L:dO):b7:=if b.Style.Wrap=true then mF c (L.map (iU W c)) else [0]
def hJ(b:ab)(c:Int)(W:ab→Int×Int)(L:dO):List (Nat×b7):=gX c L.length (L.map (eQ W c)) (L.map (dY c)) (kE b c W L) 0 (kE b c W L).length
theorem Mj b c W L:St L.length (kE b c W L):=by
 unfold kE;split
 ·have:=akN c (L.map (iU W c));grind
 grind[Xx]
theorem X4(N:Nat)(t:20010≤N)(b:ab)(L:dO)(m:L.length≤19)(z:k7 (KN N) N b=some L)(c:Int)(y:0≤c∧c≤8388608)(W:ab→Int×Int)(env:bB)(v:∀k∈L,(KN N).gI env.Widths k=some (W k))(a f:Int)(S:cn):
  Aj (KN N) N b c env a f S=(dj (fun b w=>(KN N).dp env.Layout b w) (gY c L (hJ b c W L)) a f S).bind fun r=>some ((jn (L.map (dY c)) (hJ b c W L) r.1 0 []).1,(jn (L.map (dY c)) (hJ b c W L) r.1 0 []).2,r.2.1,r.2.2.1,r.2.2.2):=by
 unfold Aj;rw[z,sb];have n:fG (L.length:Int) 40=true:=by simp[fG];omega
 have o:fG (L.length:Int) 8=true:=by simp[fG];omega
 rw[n,o];simp only[bc,sb,eT];have h:=aj0 (KN N) N L m c W env a f S v b N 0 (tl _) (by omega);have u:Small 7340032 (L.map (iU W c)):=fun x l=>by
  obtain⟨k,_,rfl⟩:=Dk.1 l;have:=Nz W c k;omega
 have s:Small 6291456 (L.map (dY c)):=fun x l=>by
  obtain⟨k,_,rfl⟩:=Dk.1 l;exact Ju k.Style c
 have p:qM (KN N) N b c env a f S L N 0 (List.replicate L.length kv) (List.replicate L.length 0) (List.replicate L.length 0)=_:=h;rw[p,aaB (KN N) c (by omega) u (by rw[nw];omega) (by omega)];have g:∀ST,kE b c W L=ST→lA (KN N) N c env a f S L (L.map (eQ W c)) (L.map (dY c)) ST=(dj (fun b w=>(KN N).dp env.Layout b w) (gY c L (hJ b c W L)) a f S).bind fun r=>some ((jn (L.map (dY c)) (hJ b c W L) r.1 0 []).1,(jn (L.map (dY c)) (hJ b c W L) r.1 0 []).2,r.2.1,r.2.2.1,r.2.2.2):=fun ST q=>by
  have d:=Mj b c W L;have j:=d.len;unfold lA hJ;rw[q]at d j⊢;have e:=Za N t c y env L m (L.map (eQ W c)) (L.map (dY c)) ST (by simp) (by simp) s d N 0 0 [] a f S (tl _) (by omega) (by simp);simpa using e
 by_cases i:b.Style.Wrap=true
 ·rw[kc i,sb];exact g _ (by unfold kE;rw[kc i])
 ·rw[kb i];exact g _ (by unfold kE;rw[kb i])
end Fl
namespace Fl
open QSort (wn cJ du dq ry qf sb)
open Fw
def xF(x:Int):Int:=min (max x (-1125899906842624)) 1125899906842624
theorem W0 N(a:20010≤N) l sp(b:l.length≤19):jy (KN N) N l sp=some (Rs.resolve l (xF sp)):=by
 rw[←Rs.mw (n:=N) (lvl:=N) l (sp:=xF sp) b (by grind[xF]) (by omega) a]
 grind[jy,xF]
def mb(c:Int)(k:ab):Int:=aa ((aa ((aa ((fS k.Style c 0).Border.a0+(fS k.Style c 0).Border.a2))+(fS k.Style c 0).Padding.a0))+(fS k.Style c 0).Padding.a2)
def nH(c:Int)(k:ab)(f:ae):bH:=⟨if (k.Style.Basis.Kind == 1)=true then eL k.Style.Basis 0 0 else aa (f.H-mb c k),k.Style.Grow,k.Style.Shrink,0,1048576⟩
def F2(c:Int)(k:ab)(f:ae):Int:=aa (aa (nj f.Before+pU f)+mb c k)
structure ph where
 space:Int
 gi:b7
 items:ee
 inner:b7
 edges:b7
 out:c6
def dQ(c:Int)(k:ab)(f:ae)(a:ph):ph :=
 ⟨aa (a.space-F2 c k f),a.gi++[Rs.hyp (nH c k f)],a.items++[nH c k f],a.inner++[mb c k],a.edges++[F2 c k f],a.out++[f]⟩
def dx(c:Int):dO→c6→ph→ph
 | k::l,f::r,a=>dx c l r (dQ c k f a)
 | _,_,a=>a
structure AE n(a:ph):Prop where
 s:a.gi.length=n
 i:a.items.length=n
 w:a.inner.length=n
 e:a.edges.length=n
 o:a.out.length=n
theorem TQ{c}{k}{f}{n}{a}(h:AE n a):AE (n+1) (dQ c k f a) :=
 ⟨by simp[dQ,h.s],by simp[dQ,h.i],by simp[dQ,h.w],by simp[dQ,h.e],by simp[dQ,h.o]⟩
theorem DT{c:Int}:∀(l:dO) (r:c6) {n:Nat} {a:ph},l.length=r.length→AE n a→AE (n+l.length) (dx c l r a)∧(dx c l r a).out=a.out++r
 | [],[],n,a,_,h=>⟨h,by simp[dx]⟩
 | k::l,f::r,n,a,d,h=>by
  simp only[la]at d;obtain⟨e,b⟩:=DT l r (by omega) (TQ (c:=c) (k:=k) (f:=f) h);refine⟨?_,by simp only[dx];rw[b];simp[dQ]⟩
  grind[dx]
 | [],_::_,_,_,h,_=>by grind
 | _::_,[],_,_,h,_=>by grind
theorem akK(K:Kn)(n:Nat)(b:ab)(c:Int)(env:bB)(L:dO)(C:L.length≤19):∀(m i:Nat) (a:ph) (f h:Int) (S:cn),i≤L.length→L.length<m+i→AE i a →
  lB K n b c env L m a.space (i:Int) a.gi a.items a.inner a.edges a.out f h S =
   (dj (fun b w=>K.dp env.Layout b w) ((L.drop i).map fun k=>(k,c)) f h S).bind fun r =>
    if (b.Style.Height.Kind == 1)=true then (jy K n (dx c (L.drop i) r.1 a).items (dx c (L.drop i) r.1 a).space).bind fun d=>jY K n (dx c (L.drop i) r.1 a).inner (dx c (L.drop i) r.1 a).edges (dx c (L.drop i) r.1 a).out r.2.1 r.2.2.1 r.2.2.2 d
    else jY K n (dx c (L.drop i) r.1 a).inner (dx c (L.drop i) r.1 a).edges (dx c (L.drop i) r.1 a).out r.2.1 r.2.2.1 r.2.2.2 (dx c (L.drop i) r.1 a).gi:=by
 intro m
 induction m with
 | zero=>intro i a f h S u v;omega
 | succ m A =>
  intro i a f h S u v e;simp only[lB,DM];by_cases j:i<L.length
  ·rw[drop_at' j];simp only[eH j,w3,dA j,bc,Int.toNat_natCast,rv,dj];cases D:K.dp env.Layout (L.getD i default) c f h S with
   | none=>rfl
   | some q =>
    have B:oA K n b c env L a.space (i:Int) a.gi a.items a.inner a.edges a.out q (mb c (L.getD i default)) (L.getD i default).Style.Grow (L.getD i default).Style.Shrink (lB K n b c env L m) (nH c (L.getD i default) q.1).aC=lB K n b c env L m (dQ c (L.getD i default) q.1 a).space ((i+1:Nat):Int) (dQ c (L.getD i default) q.1 a).gi (dQ c (L.getD i default) q.1 a).items (dQ c (L.getD i default) q.1 a).inner (dQ c (L.getD i default) q.1 a).edges (dQ c (L.getD i default) q.1 a).out q.2.1 q.2.2.1 q.2.2.2:=by
     unfold oA;have t:(⟨(nH c (L.getD i default) q.1).aC,(L.getD i default).Style.Grow,(L.getD i default).Style.Shrink,0,1048576⟩:bH)=nH c (L.getD i default) q.1:=rfl;have l:aa (((a.edges++[aa (aa (nj q.1.Before+pU q.1)+mb c (L.getD i default))]).length:Int)-1)=(i:Int):=by
      rw[mm,e.e];simp only[la,u3];rw[bN (by omega) (by omega)];omega
     simp only[t,Jl,T4,sb,Rs.Gn,l,List.length_singleton];rw[c7 (by rw[e.i];omega) (by omega),bc,c7 (by rw[e.w];omega) (by omega),bc,c7 (by rw[e.e];omega) (by omega),bc,dA (show i<(a.edges++[aa (aa (nj q.1.Before+pU q.1)+mb c (L.getD i default))]).length by simp[e.e]),bc,c7 (by rw[e.s];omega) (by omega),bc,c7 (by rw[e.o];omega) (by omega),bc,eB (by omega)];rw[show List.getD (a.edges++[aa (aa (nj q.1.Before+pU q.1)+mb c (L.getD i default))]) ((i:Int)).toNat default=F2 c (L.getD i default) q.1 by rw[Int.toNat_natCast];exact Ua e.e.symm];rfl
    simp only[sb,vb,Ct];have o:=B.trans (A (i+1) (dQ c (L.getD i default) q.1 a) q.2.1 q.2.2.1 q.2.2.2 (by omega) (by omega) (TQ e));have p:∀x,x=(nH c (L.getD i default) q.1).aC→oA K n b c env L a.space (i:Int) a.gi a.items a.inner a.edges a.out q (mb c (L.getD i default)) (L.getD i default).Style.Grow (L.getD i default).Style.Shrink (lB K n b c env L m) x=oA K n b c env L a.space (i:Int) a.gi a.items a.inner a.edges a.out q (mb c (L.getD i default)) (L.getD i default).Style.Grow (L.getD i default).Style.Shrink (lB K n b c env L m) (nH c (L.getD i default) q.1).aC:=fun x z=>by rw[z]
    have g:((dj (fun b w=>K.dp env.Layout b w) ((L.drop (i+1)).map fun k=>(k,c)) q.2.1 q.2.2.1 q.2.2.2).bind fun y=>some (q.1::y.1,y.2)).bind (fun r =>
      if (b.Style.Height.Kind == 1)=true then (jy K n (dx c (L.getD i default::L.drop (i+1)) r.1 a).items (dx c (L.getD i default::L.drop (i+1)) r.1 a).space).bind fun d=>jY K n (dx c (L.getD i default::L.drop (i+1)) r.1 a).inner (dx c (L.getD i default::L.drop (i+1)) r.1 a).edges (dx c (L.getD i default::L.drop (i+1)) r.1 a).out r.2.1 r.2.2.1 r.2.2.2 d
      else jY K n (dx c (L.getD i default::L.drop (i+1)) r.1 a).inner (dx c (L.getD i default::L.drop (i+1)) r.1 a).edges (dx c (L.getD i default::L.drop (i+1)) r.1 a).out r.2.1 r.2.2.1 r.2.2.2 (dx c (L.getD i default::L.drop (i+1)) r.1 a).gi) =
      (dj (fun b w=>K.dp env.Layout b w) ((L.drop (i+1)).map fun k=>(k,c)) q.2.1 q.2.2.1 q.2.2.2).bind (fun r =>
      if (b.Style.Height.Kind == 1)=true then (jy K n (dx c (L.drop (i+1)) r.1 (dQ c (L.getD i default) q.1 a)).items (dx c (L.drop (i+1)) r.1 (dQ c (L.getD i default) q.1 a)).space).bind fun d=>jY K n (dx c (L.drop (i+1)) r.1 (dQ c (L.getD i default) q.1 a)).inner (dx c (L.drop (i+1)) r.1 (dQ c (L.getD i default) q.1 a)).edges (dx c (L.drop (i+1)) r.1 (dQ c (L.getD i default) q.1 a)).out r.2.1 r.2.2.1 r.2.2.2 d
      else jY K n (dx c (L.drop (i+1)) r.1 (dQ c (L.getD i default) q.1 a)).inner (dx c (L.drop (i+1)) r.1 (dQ c (L.getD i default) q.1 a)).edges (dx c (L.drop (i+1)) r.1 (dQ c (L.getD i default) q.1 a)).out r.2.1 r.2.2.1 r.2.2.2 (dx c (L.drop (i+1)) r.1 (dQ c (L.getD i default) q.1 a)).gi):=by
     cases dj (fun b w=>K.dp env.Layout b w) ((L.drop (i+1)).map fun k=>(k,c)) q.2.1 q.2.2.1 q.2.2.2<;>rfl
    rw[g];cases s:((L.getD i default).Style.Basis.Kind == 1) with
    | true =>
     simp only[w3];exact(p (eL (L.getD i default).Style.Basis 0 0) (by simp only[nH,s,w3])).trans o
    | false =>
     simp only[il,ol];exact(p (aa (q.1.H-mb c (L.getD i default))) (by simp only[nH,s,il,ol])).trans o
  ·simp only[fd (show L.length≤i by omega),il,ol];rw[show L.drop i=[] from ll (by omega)];simp only[zt,dj,sb,dx]
end Fl
namespace Fl
open QSort (wn cJ du dq ry qf sb)
open Fw
def jI:b7→b7→b7→c6→Int→c6×Int
 | z::Z,i::I,e::E,f::a,y=>({ f with H:=aa (z+i),Y:=aa (y+nj f.Before) }::(jI Z I E a (aa (y+aa (z+e)))).1,(jI Z I E a (aa (y+aa (z+e)))).2)
 | _,_,_,_,y=>([],y)
theorem Kb:∀a Z I E y,(jI Z I E a y).1.length≤a.length∧∀f∈(jI Z I E a y).1,∃g∈a,f.Kids=g.Kids
 | [],Z,I,E,y=>by
  grind[jI]
 | f::a,[],I,E,y=>⟨tl _,fun f b=>by cases b⟩
 | f::a,z::Z,[],E,y=>⟨tl _,fun f b=>by cases b⟩
 | f::a,z::Z,i::I,[],y=>⟨tl _,fun f b=>by cases b⟩
 | f::a,z::Z,i::I,e::E,y=>by
  obtain⟨c,d⟩:=Kb a Z I E (aa (y+aa (z+e)))
  grind[jI]
theorem aeH(K:Kn)(n:Nat)(I E:b7)(a:c6)(b h:Int)(S:cn)(Z:b7)(o:Z.length=a.length)(l:I.length=a.length)(k:E.length=a.length)(p:a.length≤1000):∀(m:Nat) (A R:c6) (y:Int),A.length+R.length=a.length→R.length<m →
  wO K n I E a b h S Z m y (A.length:Int) (A++R)=some (A++(jI (Z.drop A.length) (I.drop A.length) (E.drop A.length) R y).1,(jI (Z.drop A.length) (I.drop A.length) (E.drop A.length) R y).2,b,h,S):=by
 intro m
 induction m with
 | zero=>intro A R y _ d;omega
 | succ m j =>
  intro A R y c d;simp only[wO,CT];cases R with
  | nil =>
   have e:A.length=a.length:=by simpa using c
   simp only[fd (show a.length≤A.length by omega),il,ol];rw[ll (by omega)];simp[jI]
  | cons f R =>
   simp only[la]at c d;have i:A.length<a.length:=by omega
   rw[drop_at' (show A.length<Z.length by omega),drop_at' (show A.length<I.length by omega),drop_at' (show A.length<E.length by omega)];simp only[jI];have g:=j (A++[({ f with H:=aa (Z.getD A.length default+I.getD A.length default),Y:=aa (y+nj f.Before) }:ae)]) R (aa (y+aa (Z.getD A.length default+E.getD A.length default))) (by simp;omega) (by omega);simp only[q7,alO,mm,la,u3,DO]at g;simp only[eH i,w3,Int.toNat_natCast,I8,K1,dA (show A.length<Z.length by omega),dA (show A.length<I.length by omega),dA (show A.length<E.length by omega),mm,la,dA (show A.length<A.length+(R.length+1) by omega),bc,sb,Jl,eB (show A.length<1000000000 by omega)];exact g
def nT(b:ab)(c:Int)(L:dO)(r:c6):c6×Int :=
 let a:=dx c L r ⟨max (eL b.Style.Height 0 0) 0,[],[],[],[],[]⟩
 jI (if (b.Style.Height.Kind == 1)=true then Rs.resolve a.items (xF a.space) else a.gi) a.inner a.edges a.out 0
theorem aat(N:Nat)(o:20010≤N)(b:ab)(L:dO)(m:L.length≤19)(p:k7 (KN N) N b=some L)(c:Int)(env:bB)(f i:Int)(S:cn):
  xp (KN N) N b c env f i S=(dj (fun b w=>(KN N).dp env.Layout b w) (L.map fun k=>(k,c)) f i S).bind fun r=>some ((nT b c L r.1).1,(nT b c L r.1).2,r.2.1,r.2.2.1,r.2.2.2):=by
 unfold xp;rw[Ct,sb,p,sb];have h:=akK (KN N) N b c env L m N 0 ⟨max (eL b.Style.Height 0 0) 0,[],[],[],[],[]⟩ f i S (tl _) (by omega) ⟨rfl,rfl,rfl,rfl,rfl⟩;have l:lB (KN N) N b c env L N (max (eL b.Style.Height 0 0) 0) 0 [] [] [] [] [] f i S=_:=h;rw[l,If];cases q:dj (fun b w=>(KN N).dp env.Layout b w) (L.map fun k=>(k,c)) f i S with
 | none=>rfl
 | some r =>
  have g:=tT q;rw[nw]at g;obtain⟨d,t⟩:=DT (c:=c) L r.1 (n:=0) (a:=⟨max (eL b.Style.Height 0 0) 0,[],[],[],[],[]⟩) g.symm ⟨rfl,rfl,rfl,rfl,rfl⟩;simp only[sb];unfold nT;simp only;generalize dx c L r.1 ⟨max (eL b.Style.Height 0 0) 0,[],[],[],[],[]⟩=a at *;have j:∀Z:b7,Z.length=L.length→jY (KN N) N a.inner a.edges a.out r.2.1 r.2.2.1 r.2.2.2 Z=some ((jI Z a.inner a.edges a.out 0).1,(jI Z a.inner a.edges a.out 0).2,r.2.1,r.2.2.1,r.2.2.2):=fun Z s=>by
   unfold jY;have e:=aeH (KN N) N a.inner a.edges a.out r.2.1 r.2.2.1 r.2.2.2 Z (by rw[d.o];omega) (by rw[d.w,d.o]) (by rw[d.e,d.o]) (by rw[d.o];omega) N [] a.out 0 (by simp) (by rw[d.o];omega);simpa using e
  split
  ·rw[W0 N o _ _ (by rw[d.i];omega),sb];exact j _ (by rw[Rs.Jv,d.i];omega)
  ·exact j _ (by rw[d.s];omega)
def oq(z:cf)(f:ae):ae:=rI { f with X:=aa (f.X+aa (z.Border.a3+z.Padding.a3)),Y:=aa (f.Y+aa (z.Border.a0+z.Padding.a0)) } z.Content
theorem YF z f:(oq z f).Kids=f.Kids:=by grind[oq,V3]
theorem adC(K:Kn)(n:Nat)(b:ab)(z:cf)(j k:bj)(L:c6)(p:L.length≤10000)(a i w h:Int)(S:cn):∀(m:Nat) (A R:c6),A.length+R.length=L.length→R.length<m →
  yf K n b z j k L a i S w h m (A.length:Int) (A++R)=some (⟨1,b.Node,z.Margin.a3,0,w,h,0,⟨#[]⟩,b.Style,j,k,false,A++R.map (oq z)⟩,a,i,S):=by
 intro m
 induction m with
 | zero=>intro A R _ d;omega
 | succ m o =>
  intro A R c d;simp only[yf,Ew];cases R with
  | nil =>
   have e:A.length=L.length:=by simpa using c
   simp only[fd (show L.length≤A.length by omega),il,ol,zt]
  | cons f R =>
   simp only[la]at c d;have l:A.length<L.length:=by omega
   have g:=o (A++[oq z f]) R (by simp;omega) (by omega);simp only[q7,alO,mm,la,u3,DO]at g;simp only[eH l,w3,Int.toNat_natCast,I8,K1,mm,la,dA (show A.length<A.length+(R.length+1) by omega),bc,sb,NS,eB (show A.length<1000000000 by omega),rv];exact g
def zY(b:ab)(z:cf)(a:c6)(h:Int):ae :=
 ⟨1,b.Node,z.Margin.a3,0,aa (aa (aa (aa (z.Content+z.Border.a1)+z.Border.a3)+z.Padding.a1)+z.Padding.a3),aa (aa (aa (aa ((if (b.Style.Height.Kind == 1)=true then max (eL b.Style.Height 0 0) 0 else max h 0)+z.Border.a0)+z.Border.a2)+z.Padding.a0)+z.Padding.a2),0,⟨#[]⟩,b.Style,iA z.Margin.a0,iA z.Margin.a2,false,a.map (oq z)⟩
theorem Nq(K:Kn)(n:Nat)(b:ab)(z:cf)(h:Int)(L:c6)(d:L.length≤10000)(f:L.length<n)(a c:Int)(S:cn):ub K n b z (iA z.Margin.a0) (iA z.Margin.a2) h L a c S=some (zY b z L h,a,c,S):=by
 have g:∀x,vh K n b z (iA z.Margin.a0) (iA z.Margin.a2) L a c S x=some (⟨1,b.Node,z.Margin.a3,0,aa (aa (aa (aa (z.Content+z.Border.a1)+z.Border.a3)+z.Padding.a1)+z.Padding.a3),aa (aa (aa (aa (x+z.Border.a0)+z.Border.a2)+z.Padding.a0)+z.Padding.a2),0,⟨#[]⟩,b.Style,iA z.Margin.a0,iA z.Margin.a2,false,L.map (oq z)⟩,a,c,S):=fun x=>by
  unfold vh;simp only[sb];have e:=adC K n b z (iA z.Margin.a0) (iA z.Margin.a2) L d a c (aa (aa (aa (aa (z.Content+z.Border.a1)+z.Border.a3)+z.Padding.a1)+z.Padding.a3)) (aa (aa (aa (aa (x+z.Border.a0)+z.Border.a2)+z.Padding.a0)+z.Padding.a2)) S n [] L (by simp) (by omega)
  grind
 grind[ub,zY,Ct,sb]
end Fl
def ey:hZ→Nat
 | []=>0
 | p::r=>bL p.1+ey r
theorem UA:∀l m,ey (l++m)=ey l+ey m
 | [],m=>by simp[ey]
 | p::r,m=>by simp only[aew,ey,UA r m];omega
theorem HJ:∀l,l.length≤ey l
 | []=>jf _
 | p::r=>by simp only[ey];have:=HJ r;grind[gV]
theorem aaO{l m}(h:l.Perm m):cZ l=cZ m:=by
 induction h with
 | nil=>rfl
 | cons x _ c=>grind[cZ]
 | swap x y l=>grind[cZ]
 | trans _ _ a b=>grind
theorem O9 p:∀l:dO,cZ (l.filter p)≤cZ l
 | []=>jf _
 | b::r=>by
  have:=O9 p r
  grind[cZ]
namespace Fl
open QSort (wn cJ du dq ry qf sb)
open Fw
theorem acg b z:bL (nQ b z)=bL b:=by rw[iD,iD b];rfl
theorem VJ c L:∀Z j,j+Z.length≤L.length→ey (ja c L j Z)+cZ (L.drop (j+Z.length))=cZ (L.drop j)
 | [],j,_=>by simp[ja,ey]
 | z::Z,j,h=>by
  simp only[la]at h⊢;have:=VJ c L Z (j+1) (by omega);rw[drop_at' (show j<L.length by omega)]
  grind[ja,ey,cZ,acg]
theorem G1{c:Int}{L:dO}{d:ee}{ED ST:b7}(l:d.length=L.length)(f:St L.length ST){k:Nat}(j:k<ST.length):∃a b:Nat,(ST++[(L.length:Int)]).getD k default=(a:Int)∧(ST++[(L.length:Int)]).getD (k+1) default=(b:Int)∧a≤b∧b≤L.length∧(ou c L.length d ED ST k).1=a∧(ou c L.length d ED ST k).2.length=b-a:=by
 obtain⟨a,b,e,g,h,i⟩:=f.get k j;refine⟨a,b,e,g,h,i,by unfold ou;rw[e];rfl,?_⟩;unfold ou;rw[e,g,Rs.Jv];exact Kq d h (by omega)
theorem Wn(c:Int)(L:dO)(d:ee)(ED ST:b7)(i:d.length=L.length)(b:St L.length ST):∀(m k:Nat),k+m=ST.length→0<m→∀e:Nat,(ST++[(L.length:Int)]).getD k default=(e:Int)→ey (gY c L (gX c L.length d ED ST k m))≤cZ (L.drop e)
 | 0,k,_,h,_,_=>by omega
 | m+1,k,h,_,e,p=>by
  obtain⟨a,f,l,n,s,t,o,g⟩:=G1 (c:=c) (ED:=ED) i b (show k<ST.length by omega);have j:a=e:=by rw[p]at l;omega
  subst j;simp only[gX,gY,UA,o];have q:=VJ c L (ou c L.length d ED ST k).2 a (by rw[g];omega);rw[g,show a+(f-a)=f by omega]at q;by_cases r:m=0
  ·subst r;simp only[gX,gY,ey];omega
  ·have:=Wn c L d ED ST i b m (k+1) (by omega) (by omega) f n;omega
theorem Mu(c:Int)(L:dO)(d:ee)(ED ST:b7)(e:d.length=L.length)(b:St L.length ST):∀(m k:Nat),k+m≤ST.length→∀p∈gY c L (gX c L.length d ED ST k m),p.2=c∧∃q∈L,∃z,p.1=nQ q z
 | 0,k,_,p,a=>by cases a
 | m+1,k,h,p,a=>by
  obtain⟨f,r,g,i,j,l,n,o⟩:=G1 (c:=c) (ED:=ED) e b (show k<ST.length by omega);simp only[gX]at a;rcases ls.1 a with a|a
  ·exact SP (by omega) a
  ·exact Mu c L d ED ST e b m (k+1) (by omega) p a
theorem Lw(ED:b7):∀(b:List (Nat×b7)) (r:c6) (y:Int) (a:c6),(b.map fun l=>l.2.length).sum≤r.length→(jn ED b r y a).1.length≤a.length+r.length∧∀f∈(jn ED b r y a).1,f∈a∨∃g∈r,f.Kids=g.Kids
 | [],r,y,a,_=>⟨by simp[jn],fun f c=>.inl c⟩
 | l::b,r,y,a,h=>by
  simp only[rv]at h;simp only[jn];have i:=GD y (jg ED l.1 l.2) (r.take l.2.length) (0,0,a) (by grind[Hl]);obtain⟨d,e⟩:=Lw ED b (r.drop l.2.length) (aa (y+(jB y (jg ED l.1 l.2) (r.take l.2.length) (0,0,a)).2.1)) (jB y (jg ED l.1 l.2) (r.take l.2.length) (0,0,a)).2.2 (by grind)
  grind
theorem DK c L:∀a:List (Nat×b7),(gY c L a).length=(a.map fun l=>l.2.length).sum
 | []=>rfl
 | l::a=>by simp only[gY,mm,Fe,DK c L a,rv,amq]
theorem Pp{d}{b}{z}{L r:c6}{h}(i:L.length≤3000)(e:∀f∈L,∃g∈r,f.Kids=g.Kids)(j:∀f∈r,DF d f):DF (d+1) (zY b z L h):=by
 refine⟨by show(L.map (oq z)).length≤3000;grind,fun k a=>?_⟩;have c:k∈L.map (oq z):=a
 grind[uM,YF]
theorem abX(b:ab)(hb:b.Kids.length≤19)(w:Int)(W:ab→Int×Int):
  ∃(P:hZ) (G:c6→ae),(∀p∈P,p.2=(ct b.Style w).Content∧∃k∈b.Kids,p.1=k∨∃z,p.1=nQ k z)∧ey P≤cZ b.Kids∧(∀(r:c6) (d:Nat),r.length=P.length→r.length≤2000→(∀f∈r,DF d f)→DF (d+1) (G r)) ∧
   ∀(N:Nat),20010≤N→∀env:bB,(∀k∈b.Kids,(KN N).gI env.Widths k=some (W k))→∀(j s:Int) (S:cn),oH (KN N) N b w env j s S =
    (dj (fun b w=>(KN N).dp env.Layout b w) P j s S).bind fun r=>some (G r.1,r.2.1,r.2.2.1,r.2.2.2):=by
 obtain⟨d,u,_⟩:=Od.mw b.Kids (by omega) (lvl:=20010) (n:=20010) (by omega) (by omega);have a0:=u.len;have U:(cC b d).length≤19:=by rw[vK];omega
 have C:cZ (cC b d)≤cZ b.Kids:=by rw[aaO (ZV u)];exact O9 _ _
 have B:∀N,20010≤N→k7 (KN N) N b=some (cC b d):=fun N y=>by
  obtain⟨d2,J,v⟩:=Od.mw b.Kids (by omega) (lvl:=N) (n:=N) (by omega) (by omega);rw[J.uniq u]at v;exact TN hb u v (by omega)
 have hc:=DR b.Style w;by_cases o:(b.Style.Direction == 1)=true
 ·refine⟨(cC b d).map fun k=>(k,(ct b.Style w).Content),fun r=>zY b (ct b.Style w) (nT b (ct b.Style w).Content (cC b d) r).1 (nT b (ct b.Style w).Content (cC b d) r).2,fun p O=>?_,?_,fun r e I v t=>?_,fun N y env V j s S=>?_⟩
  ·obtain⟨k,F,rfl⟩:=Dk.1 O;exact⟨rfl,k,DW u F,.inl rfl⟩
  ·have:∀l:dO,ey (l.map fun k=>(k,(ct b.Style w).Content))=cZ l:=by
    intro l;induction l with
    | nil=>rfl
    | cons x r R=>simp only[rv,ey,cZ,R]
   rw[this];exact C
  ·rw[nw]at I;obtain⟨_,H⟩:=DT (c:=(ct b.Style w).Content) (cC b d) r (n:=0) (a:=⟨max (eL b.Style.Height 0 0) 0,[],[],[],[],[]⟩) I.symm ⟨rfl,rfl,rfl,rfl,rfl⟩;unfold nT;simp only;have L:=Kb (dx (ct b.Style w).Content (cC b d) r ⟨max (eL b.Style.Height 0 0) 0,[],[],[],[],[]⟩).out;rw[H]at L;rw[H];exact Pp (r:=r) (aal (L _ _ _ _).1 (by simp;omega)) (by simpa using (L _ _ _ _).2) t
  ·unfold oH;have g:∀x,mY (KN N) N x=some (iA x):=fun x=>rfl;rw[xR,sb,g,sb,g,sb,kc o,aat N y b (cC b d) U (B N y) _ env j s S];cases M:dj (fun b w=>(KN N).dp env.Layout b w) ((cC b d).map fun k=>(k,(ct b.Style w).Content)) j s S with
   | none=>rfl
   | some r =>
    have i:=tT M;rw[nw]at i;obtain⟨_,H⟩:=DT (c:=(ct b.Style w).Content) (cC b d) r.1 (n:=0) (a:=⟨max (eL b.Style.Height 0 0) 0,[],[],[],[],[]⟩) i.symm ⟨rfl,rfl,rfl,rfl,rfl⟩;have X:(nT b (ct b.Style w).Content (cC b d) r.1).1.length≤19:=by
     unfold nT;simp only;refine aal (Kb _ _ _ _ _).1 ?_;rw[H];simp;omega
    simp only[sb];rw[Nq (KN N) N b _ _ _ (by omega) (by omega)]
 ·have K:((cC b d).map (eQ W (ct b.Style w).Content)).length=(cC b d).length:=nw _;have h:=Mj b (ct b.Style w).Content W (cC b d);refine⟨gY (ct b.Style w).Content (cC b d) (hJ b (ct b.Style w).Content W (cC b d)),fun r=>zY b (ct b.Style w) (jn ((cC b d).map (dY (ct b.Style w).Content)) (hJ b (ct b.Style w).Content W (cC b d)) r 0 []).1 (jn ((cC b d).map (dY (ct b.Style w).Content)) (hJ b (ct b.Style w).Content W (cC b d)) r 0 []).2,fun p O=>?_,?_,fun r e I v t=>?_,fun N y env V j s S=>?_⟩
  ·obtain⟨J,q,v,z,A⟩:=Mu _ _ _ _ _ K h _ 0 (by omega) p O;exact⟨J,q,DW u v,.inr ⟨z,A⟩⟩
  ·refine aal ?_ C;by_cases T:0<(kE b (ct b.Style w).Content W (cC b d)).length
   ·obtain⟨D,to,Y,_⟩:=h.get 0 T;have:=Wn (ct b.Style w).Content (cC b d) ((cC b d).map (eQ W (ct b.Style w).Content)) ((cC b d).map (dY (ct b.Style w).Content)) _ K h _ 0 (by omega) T D Y;refine aal this ?_;have e:=A5 ((cC b d).take D) ((cC b d).drop D);rw[aj8]at e;omega
   ·unfold hJ;rw[show(kE b (ct b.Style w).Content W (cC b d)).length=0 by omega];simp[gX,gY,ey]
  ·rw[DK]at I;obtain⟨A,h4⟩:=Lw ((cC b d).map (dY (ct b.Style w).Content)) (hJ b (ct b.Style w).Content W (cC b d)) r 0 [] (by omega);exact Pp (r:=r) (by simp at A;omega) (fun f hf=>by
    rcases h4 f hf with E|E
    ·cases E
    ·exact E) t
  ·unfold oH;have g:∀x,mY (KN N) N x=some (iA x):=fun x=>rfl;rw[xR,sb,g,sb,g,sb,kb o,X4 N y b (cC b d) U (B N y) _ hc W env (fun k F=>V k (DW u F)) j s S];cases M:dj (fun b w=>(KN N).dp env.Layout b w) (gY (ct b.Style w).Content (cC b d) (hJ b (ct b.Style w).Content W (cC b d))) j s S with
   | none=>rfl
   | some r =>
    have i:=tT M;have Q:(gY (ct b.Style w).Content (cC b d) (hJ b (ct b.Style w).Content W (cC b d))).length≤2000:=by
     rw[DK];have:∀(m k:Nat),k+m≤(kE b (ct b.Style w).Content W (cC b d)).length→((gX (ct b.Style w).Content (cC b d).length ((cC b d).map (eQ W (ct b.Style w).Content)) ((cC b d).map (dY (ct b.Style w).Content)) (kE b (ct b.Style w).Content W (cC b d)) k m).map fun l=>l.2.length).sum≤20*m:=by
      intro m
      induction m with
      | zero=>intro k _;simp[gX]
      | succ m R =>
       intro k F;obtain⟨D,to,_,_,g3,g4,_,Z⟩:=G1 (c:=(ct b.Style w).Content) (ED:=(cC b d).map (dY (ct b.Style w).Content)) K h (show k<_ by omega);have:=R (k+1) (by omega);simp only[gX,rv,amq,Z];omega
     have E:=this _ 0 (Nat.le_of_eq (DO _));have:=h.len;unfold hJ;omega
    rw[DK]at i Q;obtain⟨A,_⟩:=Lw ((cC b d).map (dY (ct b.Style w).Content)) (hJ b (ct b.Style w).Content W (cC b d)) r.1 0 [] (by omega);simp only[u3,DO]at A;simp only[sb];rw[Nq (KN N) N b _ _ _ (by omega) (by omega)]
end Fl
structure RT(s:aR):Prop where
 pos:s.Position≠2
 wi:s.Width=cm
 mn:s.MinWidth=cm
 mx:s.MaxWidth=cm
 ma:s.Margin=⟨cm,cm,cm,cm⟩
 pa:s.Padding=⟨cm,cm,cm,cm⟩
 bo:s.Border=⟨0,0,0,0⟩
mutual
/-- A block whose kids are texts,or blocks;their numbers run on. -/
def RB:Int→ab→Prop
 | lo,⟨k,n,s,_,_,_,a⟩=>k=1∧n=lo∧RT s∧a.length≤20∧((ge a∧(∀q∈a,q.Text.size≤90)∧(∀q∈a,q.Kids=[]))∨Di (lo+1) a)
def Di:Int→dO→Prop
 | _,[]=>True
 | lo,b::r=>RB lo b∧Di (lo+bL b) r
end
theorem aaa{lo}{b}(h:RB lo b):b.Kind=1∧b.Node=lo∧RT b.Style∧b.Kids.length≤20∧((ge b.Kids∧(∀q∈b.Kids,q.Text.size≤90)∧(∀q∈b.Kids,q.Kids=[]))∨Di (lo+1) b.Kids):=by
 cases b;grind[RB]
structure tU w old lo hi(bs:dO) fre(us us':Int)(S T:cn):Prop where
 ok:∀m∈T,agF w m∧lo≤m.Box.Node∧m.Box.Node<hi
 len:T.length≤bs.length
 first:(∀m∈S,m.Box.Node<lo)→us'=us∧T.length=bs.length∧∀k∈bs,∃m∈T,m.Box=k
 again:(∀k,fQ k old=true→k.Kind=1→11≤k.Node→∃m∈S,m.Width=w∧eJ m.Box k=true)→T.length≤fre
theorem tU.nil{w}{b}{lo d}{a}{c}{S}:tU w b lo d [] a c c S [] :=
 ⟨fun m f=>(by grind),jf _,fun _=>⟨rfl,rfl,fun k e=>(by grind)⟩,fun _=>tl _⟩
theorem tU.app{w:Int}{e:ab}{lo d l:Int}{n cs:dO}{f g:Nat}{q o p:Int}{S T U:cn}(h:tU w e lo d n f q o S T)(i:tU w e d l cs g o p (S++T) U)(z:lo≤d)(y:d≤l):tU w e lo l (n++cs) (f+g) q p S (T++U):=by
 refine⟨fun m hm=>?_,?_,fun j=>?_,fun j=>?_⟩
 ·rcases ls.1 hm with hm|hm
  ·obtain⟨a,b,c⟩:=h.ok m hm;exact⟨a,b,by omega⟩
  ·obtain⟨a,b,c⟩:=i.ok m hm;exact⟨a,by omega,c⟩
 ·have:=h.len;have:=i.len;simp only[mm];omega
 ·obtain⟨r,s,t⟩:=h.first j;obtain⟨u,v,x⟩:=i.first (fun m hm=>by
   rcases ls.1 hm with hm|hm
   ·have:=j m hm;omega
   ·exact(h.ok m hm).2.2)
  grind
 ·have a:=h.again j;have b:=i.again (fun k A B C=>by grind)
  grind
theorem NX{l}(a:∀q∈l,q.Text.size≤90):eG 1 l≤l.length*91:=by
 have:∀{l:dO},(∀q∈l,q.Text.size≤90)→(l.map fun b=>1+b.Text.size+eG 0 b.Kids).sum≤l.length*91:=by
  intro l
  induction l with
  | nil=>grind
  | cons b r c =>
   grind[eG]
 exact this a
noncomputable section
def dK:d6→dO
 | []=>[]
 | e::r=>bif e.Kind == 3 then e.Box::dK r else dK r
theorem QO{e}(h:(e.Kind == 3)=true) r:dK (e::r)=e.Box::dK r:=by
 show(bif e.Kind == 3 then e.Box::dK r else dK r)=_
 grind
theorem yA{e}(h:(e.Kind == 3)=false) r:dK (e::r)=dK r:=by
 show(bif e.Kind == 3 then e.Box::dK r else dK r)=_
 grind
theorem FC o:∀l a,dK (l.drop (jl o a l))=dK l
 | [],_=>rfl
 | b::r,a=>by
  unfold jl;cases c:(b.Kind == 1&&(b.Of == o&&!iZ a b)) with
  | false=>rfl
  | true =>
   simp only[amt,anu];rw[FC o r b];simp only[h8]at c;exact(yA (by grind) r).symm
def mC(w:Int):aB:={ cX with Width:=w }
section
variable{K:Kn}{n:Nat}{v2:bB}{L:d6}{W:ab→Int×Int}
theorem Xj(r:∀e∈L,km e)(H:L.length≤2000)(A:8010≤n)(i:Nat)(d:b7)(c:d4)(g:Bool)(C:Int→b7→d4→Option (d4×b7))(F:i<L.length):∀(m x:Nat),i<x→x≤L.length→L.length<m+x →
  s4 K n v2 L (i:Int) d c g C m (x:Int)=lM K n v2 L i c g C ((x+jl (L.getD i default).Of (L.getD (x-1) default) (L.drop x):Nat):Int) d (eR (sl L i (x+jl (L.getD i default).Of (L.getD (x-1) default) (L.drop x)))):=by
 have j:∀y:Nat,i<y→y≤L.length→∀(D:Int→Option (d4×b7)),lT K n v2 L (i:Int) d c g (y:Int) C D false=lM K n v2 L i c g C (y:Int) d (eR (sl L i y)):=fun y o k D=>by
  unfold lT;have s:List.drop i (List.take y L)=sl L i y:=rfl;have f:=Iu (L:=L) (a:=i) (b:=y) k;rw[kb (by simp),show cD (i:Int) (y:Int) L.length=true by simp only[cD,h8,qv];omega,bc];simp only[Int.toNat_natCast];rw[s,ID (by intro e;rw[e]at f;simp at f;omega) (by omega) (fun e z=>r e (Dt z)) A];rfl
 intro m
 induction m with
 | zero=>intro x o k u;omega
 | succ m E =>
  intro x o k u;show vW K n v2 L i d c g C (s4 K n v2 L i d c g C m) x=_;unfold vW;by_cases l:x<L.length
  ·have q:L.drop x=L.getD x default::L.drop (x+1):=by rw[lc l,ca l]
   have p:L.getD x default∈L:=by rw[ca l];exact n3 _
   have v:L.getD (x-1) default∈L:=by rw[ca (by omega)];exact n3 _
   have t:aa ((x:Int)-1)=((x-1:Nat):Int):=by rw[bN (by omega) (by omega)];omega
   rw[kc (by simpa using l),dg (by omega) (by omega)];simp only[bc,Int.toNat_natCast,t];rw[q];unfold jl;have h:∀{b:Bool},b=false→lT K n v2 L (i:Int) d c g (x:Int) C (s4 K n v2 L i d c g C m) false=lM K n v2 L i c g C ((x+(bif b then jl (L.getD i default).Of (L.getD x default) (L.drop (x+1))+1 else 0):Nat):Int) d (eR (sl L i (x+(bif b then jl (L.getD i default).Of (L.getD x default) (L.drop (x+1))+1 else 0)))):=fun {b} p=>by
    subst p;exact j x o k _
   cases G:((L.getD x default).Kind == 1) with
   | false=>rw[kb (by simp)];exact h rfl
   | true =>
    rw[kc rfl];cases B:((L.getD x default).Of == (L.getD i default).Of) with
    | false=>rw[kb (by simp)];exact h rfl
    | true =>
     rw[kc rfl,dg (by omega) (by omega),bc,sW K (by omega) (r _ v).ch (r _ p).ch];simp only[h7];cases w:iZ (L.getD (x-1) default) (L.getD x default) with
     | true=>exact h rfl
     | false =>
      unfold lT;rw[show(!false)=true from rfl,kc rfl,bN (by omega) (by omega),show(x:Int)+1=((x+1:Nat):Int) by omega,E (x+1) (by omega) (by omega) (by omega)];simp only[agh,amL,amt];rw[show x+1+jl (L.getD i default).Of (L.getD x default) (L.drop (x+1))=x+(jl (L.getD i default).Of (L.getD x default) (L.drop (x+1))+1) by omega]
  ·rw[kb (by simpa using l),ll (by omega)];unfold jl;exact j x o k _
theorem KI(i:Nat) c a g C(b:a.length≤1000000) y x:lM K n v2 L i a g C y c x=C y c (a++[runM x (L.getD i default) g]):=by
 unfold lM;simp only[h7];rw[c7 (by grind) (by omega),bc];rfl
theorem adE(t:∀e∈L,km e)(j:∀e∈L,e.Kind=1∨e.Kind=2∨e.Kind=3)(F:L.length≤2000)(G:8010≤n)(u:∀e∈L,e.Kind=3→K.gI v2.Widths e.Box=some (W e.Box)):∀(m i:Nat) (d:b7) (a:d4),i≤L.length→L.length<m+i→a.length≤i→d.length≤i →
  tS K n v2 L m (i:Int) d a=some (a++cM (fun b=>mC (W b).1) m (dN L i) (L.drop i),d++(dK (L.drop i)).map fun b=>(W b).2):=by
 intro m
 induction m with
 | zero=>intro i d a A B;omega
 | succ m w =>
  intro i d a A B J l;show wZ K n v2 L (tS K n v2 L m) i d a=_;unfold wZ;by_cases h:i<L.length
  ·have o:L.drop i=L.getD i default::L.drop (i+1):=by rw[lc h,ca h]
   have r:L.getD i default∈L:=by rw[ca h];exact n3 _
   rw[kc (by simpa using h),dg (by omega) (by omega)];simp only[bc,Int.toNat_natCast];rw[o];(try rw[o]at l);have v:aa ((i:Int)+1)=((i+1:Nat):Int):=by rw[bN (by omega) (by omega)];omega
   have f:dN L (i+1)=some (L.getD i default):=by unfold dN;rw[kb (by omega),agh]
   have key:∀g,g=t9 (dN L i) (L.getD i default)→qe K n v2 L (i:Int) d a (tS K n v2 L m) g=some (a++cM (fun b=>mC (W b).1) (m+1) (dN L i) (L.getD i default::L.drop (i+1)),d++(dK (L.getD i default::L.drop (i+1))).map fun b=>(W b).2):=by
    intro g D;unfold qe cM;simp only[h7,Int.toNat_natCast];rw[←D];cases y:((L.getD i default).Kind == 2) with
    | true =>
     have c:dK (L.getD i default::L.drop (i+1))=dK (L.drop (i+1)):=yA (by rw[show(L.getD i default).Kind=2 by simpa using y];rfl) _
     (try rw[c]);(try rw[c]at l)
     rw[kc rfl,KI i d a g _ (by omega),v,← f];simp only[amt];have:=w (i+1) d (a++[runM { cX with Forced:=true } (L.getD i default) g]) (by omega) (by omega) (by simp;omega) (by omega);exact this.trans (by simp[q7])
    | false =>
     rw[kb (by simp)];cases q:((L.getD i default).Kind == 3) with
     | true =>
      have c:dK (L.getD i default::L.drop (i+1))=(L.getD i default).Box::dK (L.drop (i+1)):=QO q _
      (try rw[c]);(try rw[c]at l)
      rw[kc rfl,← f];simp only[amt,amb];unfold D0;rw[u _ r (by simpa using q)];simp only[h7];rw[c7 (by simp;omega) (by omega),bc];simp only[h7];rw[v,KI i _ a g _ (by omega)];have:=w (i+1) (d++[(W (L.getD i default).Box).2]) (a++[runM (mC (W (L.getD i default).Box).1) (L.getD i default) g]) (by omega) (by omega) (by simp;omega) (by simp;omega);refine this.trans ?_;simp[q7]
     | false =>
      have M:(L.getD i default).Kind=1:=by
       have:=j _ r;have H:(L.getD i default).Kind≠2:=by simpa using y
       have I:(L.getD i default).Kind≠3:=by simpa using q
       omega
      have c:dK (L.getD i default::L.drop (i+1))=dK ((L.drop (i+1)).drop (jl (L.getD i default).Of (L.getD i default) (L.drop (i+1)))):=by
       rw[FC];exact yA q _
      (try rw[c]);(try rw[c]at l)
      rw[kb (by simp),v,Xj t F G i d a g _ h n (i+1) (by omega) (by omega) (by omega),agh];simp only[amb];have E:=D3 (L.getD i default).Of (L.drop (i+1)) (L.getD i default);rw[agk]at E;generalize jl (L.getD i default).Of (L.getD i default) (L.drop (i+1))=k at *;rw[KI i d a g _ (by omega),Jt h];have p:dN L (i+1+k)=some (L.getD (i+k) default):=by unfold dN;rw[kb (by omega)];congr 2;omega
      (try rw[al0]at l)
      rw[JW (by omega),← p,al0];have:=w (i+1+k) d (a++[runM (eR (L.getD i default::(L.drop (i+1)).take k)) (L.getD i default) g]) (by omega) (by omega) (by simp;omega) (by omega);exact this.trans (by simp[q7])
   by_cases x:i=0
   ·rw[kb (by simp;omega)];exact key false (by unfold dN;rw[kc x];rfl)
   ·have C:L.getD (i-1) default∈L:=by rw[ca (by omega)];exact n3 _
    have z:aa ((i:Int)-1)=((i-1:Nat):Int):=by rw[bN (by omega) (by omega)];omega
    have p:dN L i=some (L.getD (i-1) default):=by unfold dN;rw[kb x]
    rw[kc (by simp;omega),z,dg (by omega) (by omega)];simp only[bc,Int.toNat_natCast];by_cases j:((L.getD (i-1) default).Kind != 2)=true
    ·rw[kc j,sW K (by omega) (t _ C).ch (t _ r).ch];simp only[h7];exact key _ (by rw[p];show _=((L.getD (i-1) default).Kind != 2&&!iZ (L.getD (i-1) default) (L.getD i default));rw[j];rfl)
    ·rw[kb j];have s:((L.getD (i-1) default).Kind != 2)=false:=by simpa using j
     exact key false (by rw[p];show _=((L.getD (i-1) default).Kind != 2&&!iZ (L.getD (i-1) default) (L.getD i default));rw[s];rfl)
  grind[cM,dK]
theorem ae0(r:∀e∈L,km e)(H:L.length≤2000)(A:8010≤n)(i:Nat)(at_:Int)(d:b7)(c:d4)(g:Bool)(C:Int→Int→b7→d4→Option (d4×Int×b7))(F:i<L.length):∀(m x:Nat),i<x→x≤L.length→L.length<m+x →
  rJ K n L (i:Int) at_ d c g C m (x:Int)=mf K n L i c g C ((x+jl (L.getD i default).Of (L.getD (x-1) default) (L.drop x):Nat):Int) at_ d (eR (sl L i (x+jl (L.getD i default).Of (L.getD (x-1) default) (L.drop x)))):=by
 have j:∀y:Nat,i<y→y≤L.length→∀(D:Int→Option (d4×Int×b7)),md K n L (i:Int) at_ d c g (y:Int) C D false=mf K n L i c g C (y:Int) at_ d (eR (sl L i y)):=fun y o k D=>by
  unfold md;have s:List.drop i (List.take y L)=sl L i y:=rfl;have f:=Iu (L:=L) (a:=i) (b:=y) k;rw[kb (by simp),show cD (i:Int) (y:Int) L.length=true by simp only[cD,h8,qv];omega,bc];simp only[Int.toNat_natCast];rw[s,ID (by intro e;rw[e]at f;simp at f;omega) (by omega) (fun e z=>r e (Dt z)) A];rfl
 intro m
 induction m with
 | zero=>intro x o k u;omega
 | succ m E =>
  intro x o k u;show Az K n L i at_ d c g C (rJ K n L i at_ d c g C m) x=_;unfold Az;by_cases l:x<L.length
  ·have q:L.drop x=L.getD x default::L.drop (x+1):=by rw[lc l,ca l]
   have p:L.getD x default∈L:=by rw[ca l];exact n3 _
   have v:L.getD (x-1) default∈L:=by rw[ca (by omega)];exact n3 _
   have t:aa ((x:Int)-1)=((x-1:Nat):Int):=by rw[bN (by omega) (by omega)];omega
   rw[kc (by simpa using l),dg (by omega) (by omega)];simp only[bc,Int.toNat_natCast,t];rw[q];unfold jl;have h:∀{b:Bool},b=false→md K n L (i:Int) at_ d c g (x:Int) C (rJ K n L i at_ d c g C m) false=mf K n L i c g C ((x+(bif b then jl (L.getD i default).Of (L.getD x default) (L.drop (x+1))+1 else 0):Nat):Int) at_ d (eR (sl L i (x+(bif b then jl (L.getD i default).Of (L.getD x default) (L.drop (x+1))+1 else 0)))):=fun {b} p=>by
    subst p;exact j x o k _
   cases G:((L.getD x default).Kind == 1) with
   | false=>rw[kb (by simp)];exact h rfl
   | true =>
    rw[kc rfl];cases B:((L.getD x default).Of == (L.getD i default).Of) with
    | false=>rw[kb (by simp)];exact h rfl
    | true =>
     rw[kc rfl,dg (by omega) (by omega),bc,sW K (by omega) (r _ v).ch (r _ p).ch];simp only[h7];cases w:iZ (L.getD (x-1) default) (L.getD x default) with
     | true=>exact h rfl
     | false =>
      unfold md;rw[show(!false)=true from rfl,kc rfl,bN (by omega) (by omega),show(x:Int)+1=((x+1:Nat):Int) by omega,E (x+1) (by omega) (by omega) (by omega)];simp only[agh,amL,amt];rw[show x+1+jl (L.getD i default).Of (L.getD x default) (L.drop (x+1))=x+(jl (L.getD i default).Of (L.getD x default) (L.drop (x+1))+1) by omega]
  ·rw[kb (by simpa using l),ll (by omega)];unfold jl;exact j x o k _
theorem I0(i:Nat)(at_:Int)(b:b7)(a:d4)(g:Bool)(C:Int→Int→b7→d4→Option (d4×Int×b7))(c:a.length≤1000000)(y:Int)(x:aB):mf K n L (i:Int) a g C y at_ b x=C y at_ b (a++[runM x (L.getD i default) g]):=by
 unfold mf;simp only[h7,Int.toNat_natCast];rw[c7 (by simp;omega) (by omega),bc];rfl
theorem abD(u:∀e∈L,km e)(l:∀e∈L,e.Kind=1∨e.Kind=2∨e.Kind=3)(O:L.length≤2000)(P:8010≤n): ∀(m i:Nat) (at_:Int) (c:b7) (a:d4),i≤L.length→L.length<m+i→a.length≤i→(0≤at_∧at_≤i∧c.drop at_.toNat=(dK (L.drop i)).map fun b=>(W b).2) →
  ∃z,tH K n L m (i:Int) at_ c a=some (a++cM (fun b=>mC (W b).2) m (dN L i) (L.drop i),z):=by
 intro m
 induction m with
 | zero=>intro i at_ c a G H;omega
 | succ m w =>
  intro i at_ c a G H U h;show ∃z,yw K n L (tH K n L m) i at_ c a=some (a++cM (fun b=>mC (W b).2) (m+1) (dN L i) (L.drop i),z);unfold yw;by_cases j:i<L.length
  ·have p:L.drop i=L.getD i default::L.drop (i+1):=by rw[lc j,ca j]
   have A:L.getD i default∈L:=by rw[ca j];exact n3 _
   rw[kc (by simpa using j),dg (by omega) (by omega)];simp only[bc,Int.toNat_natCast];rw[p];(try rw[p]at h);have v:aa ((i:Int)+1)=((i+1:Nat):Int):=by rw[bN (by omega) (by omega)];omega
   have f:dN L (i+1)=some (L.getD i default):=by unfold dN;rw[kb (by omega),agh]
   have key:∀g,g=t9 (dN L i) (L.getD i default)→∃z,qQ K n L (i:Int) at_ c a (tH K n L m) g=some (a++cM (fun b=>mC (W b).2) (m+1) (dN L i) (L.getD i default::L.drop (i+1)),z):=by
    intro g M;unfold qQ cM;simp only[h7,Int.toNat_natCast];rw[←M];cases B:((L.getD i default).Kind == 2) with
    | true =>
     have d:dK (L.getD i default::L.drop (i+1))=dK (L.drop (i+1)):=yA (by rw[show(L.getD i default).Kind=2 by simpa using B];rfl) _
     (try rw[d]);(try rw[d]at h)
     rw[kc rfl,I0 i at_ c a g _ (by omega),v,← f];simp only[amt];have:=w (i+1) at_ c (a++[runM { cX with Forced:=true } (L.getD i default) g]) (by omega) (by omega) (by simp;omega) ⟨h.1,by omega,h.2.2⟩;obtain⟨z,q⟩:=this;exact⟨z,q.trans (by simp[q7])⟩
    | false =>
     rw[kb (by simp)];cases x:((L.getD i default).Kind == 3) with
     | true =>
      have d:dK (L.getD i default::L.drop (i+1))=(L.getD i default).Box::dK (L.drop (i+1)):=QO x _
      (try rw[d]);(try rw[d]at h)
      rw[kc rfl,← f];simp only[amt,amb];obtain⟨Q,R,s⟩:=h;have o:at_.toNat<c.length:=by
       have:=congrArg List.length s;rw[agk]at this;simp at this;omega
      have J:c.drop at_.toNat=c.getD at_.toNat default::c.drop (at_.toNat+1):=by rw[lc o,ca o]
      rw[J,rv]at s;injection s with C D
      have F:aa (at_+1)=at_+1:=bN (by omega) (by omega);unfold Ei;rw[F,show aa (at_+1-1)=at_ by rw[bN (by omega) (by omega)];omega,dg (by omega) (by omega),bc];simp only[h7];rw[v,I0 i _ _ a g _ (by omega),C];obtain⟨z,q⟩:=w (i+1) (at_+1) c (a++[runM (mC (W (L.getD i default).Box).2) (L.getD i default) g]) (by omega) (by omega) (by simp;omega) ⟨by omega,by omega,by rw[show(at_+1).toNat=at_.toNat+1 by omega];exact D⟩;exact⟨z,q.trans (by simp[q7])⟩
     | false =>
      have V:(L.getD i default).Kind=1:=by
       have:=l _ A;have S:(L.getD i default).Kind≠2:=by simpa using B
       have T:(L.getD i default).Kind≠3:=by simpa using x
       omega
      have d:dK (L.getD i default::L.drop (i+1))=dK ((L.drop (i+1)).drop (jl (L.getD i default).Of (L.getD i default) (L.drop (i+1)))):=by
       rw[FC];exact yA x _
      (try rw[d]);(try rw[d]at h)
      rw[kb (by simp),v,ae0 u O P i at_ c a g _ j n (i+1) (by omega) (by omega) (by omega),agh];simp only[amb];have N:=D3 (L.getD i default).Of (L.drop (i+1)) (L.getD i default);rw[agk]at N;generalize jl (L.getD i default).Of (L.getD i default) (L.drop (i+1))=k at *;rw[I0 i at_ c a g _ (by omega),Jt j];have r:dN L (i+1+k)=some (L.getD (i+k) default):=by unfold dN;rw[kb (by omega)];congr 2;omega
      (try rw[al0]at h)
      rw[JW (by omega),← r,al0];have:=w (i+1+k) at_ c (a++[runM (eR (L.getD i default::(L.drop (i+1)).take k)) (L.getD i default) g]) (by omega) (by omega) (by simp;omega) ⟨h.1,by omega,h.2.2⟩;obtain⟨z,q⟩:=this;exact⟨z,q.trans (by simp[q7])⟩
   by_cases y:i=0
   ·rw[kb (by simp;omega)];exact key false (by unfold dN;rw[kc y];rfl)
   ·have I:L.getD (i-1) default∈L:=by rw[ca (by omega)];exact n3 _
    have E:aa ((i:Int)-1)=((i-1:Nat):Int):=by rw[bN (by omega) (by omega)];omega
    have r:dN L i=some (L.getD (i-1) default):=by unfold dN;rw[kb y]
    rw[kc (by simp;omega),E,dg (by omega) (by omega)];simp only[bc,Int.toNat_natCast];by_cases l:((L.getD (i-1) default).Kind != 2)=true
    ·rw[kc l,sW K (by omega) (u _ I).ch (u _ A).ch];simp only[h7];exact key _ (by rw[r];show _=((L.getD (i-1) default).Kind != 2&&!iZ (L.getD (i-1) default) (L.getD i default));rw[l];rfl)
    ·rw[kb l];have t:((L.getD (i-1) default).Kind != 2)=false:=by simpa using l
     exact key false (by rw[r];show _=((L.getD (i-1) default).Kind != 2&&!iZ (L.getD (i-1) default) (L.getD i default));rw[t];rfl)
  ·rw[kb (by simpa using j),ll (by omega)];exact⟨(at_,c),by simp[cM]⟩
end
end
noncomputable section
def m6(l:es):Nat→Int→Nat→Int
 | 0,x,_=>x
 | m+1,x,a=>if a<l.length then m6 l m (max x (fP (sl l a (gr l (a+1))))) (gr l (a+1)) else x
def ef(l:es)(i:Nat):Nat:=min l.length (i+((l.drop i).takeWhile fun r=>!r.f).length+1)
theorem RH(l:es)(i:Nat):ef l i≤l.length:=by unfold ef;omega
theorem Ld{l:es}{i:Nat}(h:i<l.length):i<ef l i:=by unfold ef;omega
theorem aei{l:es}{i:Nat}(h:i<l.length)(a:l[i].f=true):ef l i=i+1:=by
 unfold ef;rw[lc h,al5,kb (by simp[a])];simp;omega
theorem YX{l:es}{i:Nat}(h:i+1=l.length):ef l i=i+1:=by
 have:=Ld (l:=l) (i:=i) (by omega);have:=RH l i;omega
theorem agH{l:es}{i:Nat}(h:i+1<l.length)(a:l[i].f=false):ef l i=ef l (i+1):=by
 unfold ef;rw[lc (show i<l.length by omega),al5,kc (by simp[a])];simp;omega
def l4(l:es):Nat→Int→Nat→Int
 | 0,x,_=>x
 | m+1,x,a=>if a<l.length then l4 l m (max x (fP (sl l a (ef l a)))) (ef l a) else x
theorem ajq(l:es):∀(m b:Nat) (x:Int) (a:Nat),l.length<m+a→l.length<b+a→m6 l m x a=m6 l b x a:=by
 intro m
 induction m with
 | zero =>
  intro b x a h c;cases b with
  | zero=>rfl
  | succ b=>unfold m6;rw[kb (by omega)]
 | succ m d =>
  intro b x a h c;cases b with
  | zero=>unfold m6;rw[kb (by omega)]
  | succ b =>
   unfold m6;split
   ·have:=m7 l (a+1);exact d b _ _ (by omega) (by omega)
   ·rfl
theorem agB(l:es):∀(m b:Nat) (x:Int) (a:Nat),l.length<m+a→l.length<b+a→l4 l m x a=l4 l b x a:=by
 intro m
 induction m with
 | zero =>
  intro b x a h c;cases b with
  | zero=>rfl
  | succ b=>unfold l4;rw[kb (by omega)]
 | succ m e =>
  intro b x a h c;cases b with
  | zero=>unfold l4;rw[kb (by omega)]
  | succ b =>
   unfold l4;split
   ·rename_i d;have:=Ld d;exact e b _ _ (by omega) (by omega)
   ·rfl
section
variable{K:Kn}{n:Nat}{V4:d4×b7}{V5:d4×Int×b7}
theorem XU(y:V5.1.length<n)(x:(V5.1.length:Int)≤1000000)(c b:Int)(a:Nat)(C:Int→Int→Option eg):∀(m e:Nat),1≤e→a<e→e≤V5.1.length→V5.1.length<m+e →
  zB K n V5 c b (a:Int) C m (e:Int)=C (max b (fP (sl (V5.1.map vI) a (ef (V5.1.map vI) (e-1))))) ((ef (V5.1.map vI) (e-1):Nat):Int):=by
 have f:∀(e:Nat) (D:Int→Option eg),a<e→e≤V5.1.length→ra K n V5 c b (a:Int) (e:Int) C D false=C (max b (fP (sl (V5.1.map vI) a e))) (e:Int):=fun e D j g=>by
  unfold ra AF;have u:List.drop a (List.take e V5.1)=sl V5.1 a e:=rfl;have v:=w5 V5.1 a e;rw[kb (by simp),show cD (a:Int) (e:Int) V5.1.length=true by simp only[cD,h8,qv];omega,bc];simp only[Int.toNat_natCast];rw[u,Cs (by omega) (by omega),KB];simp only[h7];by_cases r:fP (sl (V5.1.map vI) a e)>b
  ·rw[kc (by simpa using r),show max b (fP (sl (V5.1.map vI) a e))=fP (sl (V5.1.map vI) a e) by omega]
  ·rw[kb (by simpa using r),show max b (fP (sl (V5.1.map vI) a e))=b by omega]
 intro m
 induction m with
 | zero=>intro e j g h t;omega
 | succ m w =>
  intro e j g h t;show yZ K n V5 c b a C (zB K n V5 c b a C m) e=_;unfold yZ;have q:=xY (L:=V5.1) (k:=e-1) (by omega);have s:aa ((e:Int)-1)=((e-1:Nat):Int):=by rw[bN (by omega) (by omega)];omega
  by_cases o:e<V5.1.length
  ·rw[kc (by simpa using o),s,dg (by omega) (by omega),bc,Int.toNat_natCast];cases p:(V5.1.getD (e-1) default).Forced with
   | true =>
    have d:=aei (l:=V5.1.map vI) (i:=e-1) (by simp;omega) (by rw[q];exact p);rw[d,show e-1+1=e by omega,show(!true)=false from rfl];exact f e _ g h
   | false =>
    have d:=agH (l:=V5.1.map vI) (i:=e-1) (by simp;omega) (by rw[q];exact p);rw[d,show e-1+1=(e+1)-1 by omega,show(!false)=true from rfl];unfold ra;rw[kc rfl,show aa ((e:Int)+1)=((e+1:Nat):Int) by rw[bN (by omega) (by omega)];omega];exact w (e+1) (by omega) (by omega) (by omega) (by omega)
  ·rw[kb (by simpa using o)];have d:=YX (l:=V5.1.map vI) (i:=e-1) (by simp;omega);rw[d,show e-1+1=e by omega];exact f e _ g h
theorem abH(j:V5.1.length<n)(h:(V5.1.length:Int)≤1000000)(b:Int):∀(m a:Nat) (c:Int),a≤V5.1.length→V5.1.length<m+a→yO K n V5 b m c (a:Int)=some (b,l4 (V5.1.map vI) m c a):=by
 intro m
 induction m with
 | zero=>intro a c f g;omega
 | succ m k =>
  intro a c f g;show wb K n V5 b (yO K n V5 b m) c a=_;unfold wb l4;by_cases d:a<V5.1.length
  ·rw[kc (by simpa using d),kc (by simpa using d),show aa ((a:Int)+1)=((a+1:Nat):Int) by rw[bN (by omega) (by omega)];omega,XU j h b c a _ n (a+1) (by omega) (by omega) (by omega) (by omega),agh];have o:=Ld (l:=V5.1.map vI) (i:=a) (by simpa using d);have e:=RH (V5.1.map vI) a;rw[nw]at e;exact k _ _ e (by omega)
  ·rw[kb (by simpa using d),kb (by simpa using d)]
theorem afW(j:V4.1.length<n)(o:(V4.1.length:Int)≤1000000)(q:V5.1.length<n)(k:(V5.1.length:Int)≤1000000):∀(m a:Nat) (b:Int),a≤V4.1.length→V4.1.length<m+a→Ac K n V4 V5 m b (a:Int)=some (m6 (V4.1.map vI) m b a,l4 (V5.1.map vI) n 0 0):=by
 intro m
 induction m with
 | zero=>intro a b g h;omega
 | succ m f =>
  intro a b g h;show ya K n V4 V5 (Ac K n V4 V5 m) b a=_;unfold ya m6;by_cases c:a<V4.1.length
  ·have d:=zH (l:=V4.1.map vI) (i:=a+1) (by simp;omega);have p:=m7 (V4.1.map vI) (a+1);rw[nw]at d;have r:List.drop a (List.take (gr (V4.1.map vI) (a+1)) V4.1)=sl V4.1 a (gr (V4.1.map vI) (a+1)):=rfl;have s:=w5 V4.1 a (gr (V4.1.map vI) (a+1));rw[kc (by simpa using c),kc (by simpa using c),K5 (by omega) (by omega) j (by omega)];simp only[h7,Int.toNat_natCast];rw[show cD (a:Int) ((gr (V4.1.map vI) (a+1):Nat):Int) V4.1.length=true by simp only[cD,h8,qv];omega,bc,r,Cs (by omega) (by omega),KB];simp only[h7];unfold zD;by_cases e:fP (sl (V4.1.map vI) a (gr (V4.1.map vI) (a+1)))>b
   ·rw[kc (by simpa using e),show max b (fP (sl (V4.1.map vI) a (gr (V4.1.map vI) (a+1))))=fP (sl (V4.1.map vI) a (gr (V4.1.map vI) (a+1))) by omega];exact f _ _ d (by omega)
   ·rw[kb (by simpa using e),show max b (fP (sl (V4.1.map vI) a (gr (V4.1.map vI) (a+1))))=b by omega];exact f _ _ d (by omega)
  ·rw[kb (by simpa using c),kb (by simpa using c)];exact abH q k b n 0 0 (by omega) (by omega)
end
end
noncomputable section
theorem abe:∀L s,ge L→(∀x∈s.2,x.Kind=1∨x.Kind=2)→∀x∈(vM 1 L s).2,x.Kind=1∨x.Kind=2:=by
 intro L
 induction L with
 | nil=>intro s _ a;exact a
 | cons b r d =>
  intro s e a;rw[lX,al2,← lX];have f:=e b u6;refine d _ (fun c g=>e c (by grind)) ?_;unfold gW;rw[f];cases nl b with
  | false=>grind
  | true=>exact Bf (P:=fun x=>x.Kind=1∨x.Kind=2) b _ (fun _ _ _=>.inl rfl) (.inr rfl) (fun _=>.inl rfl) (fun _=>.inl rfl) _ _ GN a
def kM(a:dO):d4:=pw (fun _=>mC 0) (fu 1 a)
def wc(a:dO):Int×Int:=(m6 ((kM a).map vI) ((kM a).length+1) 0 0,l4 ((kM a).map vI) ((kM a).length+1) 0 0)
theorem WL{a:dO}(h:ge a)(t:a.length≤1000)(u:∀b∈a,b.Text.size≤1000)(y:eG 1 a≤2000){N:Nat}(w:9001≤N)(s:aR)(env:bB):xh (KN N) N a s env=some (wc a):=by
 have l:=DH 1 a;have k:∀e∈fu 1 a,e.Kind=1∨e.Kind=2∨e.Kind=3:=fun e g=>by
  rcases abe a (0,[]) h (fun x v=>by cases v) e g with q|q
  ·exact .inl q
  ·exact .inr (.inl q)
 have j:=NV h t u;have c:=adE (K:=KN N) (n:=N) (v2:=env) (W:=fun _=>(0,0)) (Ee 1 a) k (by omega) (by omega) (fun e g i=>absurd i (BR h e g)) N 0 [] [] (by omega) (by omega) (by simp) (by simp);obtain⟨z,f⟩:=abD (K:=KN N) (n:=N) (W:=fun _=>(0,0)) (Ee 1 a) k (by omega) (by omega) N 0 0 ((dK (fu 1 a)).map fun b=>0) [] (by omega) (by omega) (by simp) ⟨by omega,by omega,by simp⟩;rw[If,show dN (fu 1 a) 0=none from rfl,Dy]at c f;rw[Dy]at c;rw[Qo _ N ((fu 1 a).length+1) _ _ (by omega) (by omega)]at c f;have m:sq (KN N) N a env []=some (kM a,(dK (fu 1 a)).map fun b=>0):=by
  unfold sq;rw[FZ j (by omega) (by omega),h7];exact c
 have o:uf (KN N) N a 0 ((dK (fu 1 a)).map fun b=>0)=some (kM a,z):=by
  unfold uf;rw[FZ j (by omega) (by omega),h7];exact f
 have r:(kM a).length≤2000:=by
  unfold kM pw;have i:=Oz (fun _:ab=>mC 0) ((fu 1 a).length+1) none (fu 1 a);omega
 unfold xh;have d:sq (KN N) N a env ([]:b7)=_:=m;rw[d,h7,show uf (KN N) N a 0 (kM a,(dK (fu 1 a)).map fun b=>(0:Int)).2=_ from o,h7];have p:=afW (K:=KN N) (n:=N) (V4:=(kM a,(dK (fu 1 a)).map fun b=>(0:Int))) (V5:=(kM a,z)) (by simp only;omega) (by simp only;omega) (by simp only;omega) (by simp only;omega) N 0 0 (tl _) (by simp only;omega);unfold wc;rw[←ajq _ N _ 0 0 (by rw[nw];omega) (by rw[nw];omega),← agB _ N _ 0 0 (by rw[nw];omega) (by rw[nw];omega)];exact p
mutual
/-- Blocks and flex containers,and blocks of texts. -/
def GB:ab→Prop
 | ⟨k,_,s,t,_,_,a⟩=>(k=1∨k=6)∧(s.Position≠2∧t.size=0)∧a.length≤19∧((k=1∧ge a∧(∀q∈a,q.Text.size≤90)∧∀q∈a,q.Kids=[])∨iu a)
def iu:dO→Prop
 | []=>True
 | b::r=>GB b∧iu r
end
theorem i7{b:ab}:GB b↔((b.Kind=1∨b.Kind=6)∧(b.Style.Position≠2∧b.Text.size=0)∧b.Kids.length≤19∧((b.Kind=1∧ge b.Kids∧(∀q∈b.Kids,q.Text.size≤90)∧∀q∈b.Kids,q.Kids=[])∨iu b.Kids)):=by
 cases b;simp only[GB]
theorem kT:∀{l},iu l→∀k∈l,GB k
 | [],_,k,a=>by grind
 | b::r,h,k,a=>by
  simp only[iu]at h;rcases qk.1 a with rfl|a
  ·grind
  ·exact kT h.2 k a
theorem aeC{b} z(h:GB b):GB (Fl.nQ b z):=by rw[i7]at h⊢;exact h
def DC(s:Nat)(b:ab)(v:Int×Int):Prop:=∀N,20010+s≤N→∀c a,ql (KN N) N b (cR N c a)=some v
theorem Tc{s}{l:dO}(h:∀k∈l,∃v,DC s k v):∃W:ab→Int×Int,∀k∈l,DC s k (W k):=by
 classical
 refine⟨fun k=>if h:∃v,DC s k v then h.choose else (0,0),fun k a=>?_⟩
 grind
def Ce(W:ab→Int×Int):dO→Int→Int→Int×Int
 | [],a,b=>(dS a,dS b)
 | k::r,a,b=>Ce W r (max a (W k).1) (max b (W k).2)
theorem acf(K:Kn)(n:Nat)(env:bB)(v6:dO×Bool)(h:v6.1.length≤1000)(W:ab→Int×Int)(f:∀k∈v6.1,K.gI env.Widths k=some (W k)):∀(m i:Nat) (a b:Int),i≤v6.1.length→v6.1.length<m+i→zA K n env v6 m a b i=some (Ce W (v6.1.drop i) a b):=by
 intro m
 induction m with
 | zero=>intro i a b d e;omega
 | succ m g =>
  intro i a b d e;simp only[zA,Et];by_cases c:i<v6.1.length
  ·rw[drop_at' c];simp only[eH c,w3,dA c,bc,Int.toNat_natCast,f _ (fU c),h7,Ce];rw[eB (by omega)];exact g (i+1) _ _ (by omega) (by omega)
  ·simp only[fd (show v6.1.length≤i by omega)];rw[ll (by omega)];rfl
def nX(b:ab)(W:ab→Int×Int):dO→Int→Int→Int×Int
 | [],x,y=>(x,y)
 | k::r,x,y=>if (b.Style.Direction == 1)=true then nX b W r (max x (W k).1) (max y (W k).2) else if b.Style.Wrap=true then nX b W r (max x (W k).1) (aa (y+(W k).2)) else nX b W r (aa (x+(W k).1)) (aa (y+(W k).2))
theorem ZC(K:Kn)(n:Nat)(b:ab)(env:bB)(s:aR)(L:dO)(h:L.length≤1000)(W:ab→Int×Int)(f:∀k∈L,K.gI env.Widths k=some (W k)):∀(m i:Nat) (x y:Int),i≤L.length→L.length<m+i→AA K n b env s L m x y i=qm K n s (nX b W (L.drop i) x y).1 (nX b W (L.drop i) x y).2:=by
 intro m
 induction m with
 | zero=>intro i x y d e;omega
 | succ m g =>
  intro i x y d e;simp only[AA,D1];by_cases a:i<L.length
  ·rw[drop_at' a];have c:=fun x y=>g (i+1) x y (by omega) (by omega);simp only[eH a,w3,dA a,bc,Int.toNat_natCast,f _ (fU a),h7,nX,xH,yg,eB (show i<1000000000 by omega)];split
   ·exact c _ _
   ·split
    ·exact c _ _
    ·exact c _ _
  ·simp only[fd (show L.length≤i by omega),il,ol];rw[ll (by omega)];rfl
theorem Nl s x y:∃v,∀K n,qm K n s x y=some v :=
 ⟨(ii (fS s 0 (jb s 0 (min (max x 0) 1048576))),ii (fS s 0 (jb s 0 (min (max y 0) 1048576)))),fun K n=>by
  have a:∀q,iy K n q 1048576=some (min (max q 0) 1048576):=fun q=>rfl
  simp_all[qm,zp,DV,vb,uH]⟩
theorem QL:∀(s:Nat) (b:ab),bL b≤s→GB b→∃v,DC s b v
 | 0,b,h,_=>by have:=gV b;omega
 | s+1,b,h,Q=>by
  obtain⟨g,U,S,l⟩:=i7.1 Q;by_cases C:b.Kind=1∧ge b.Kids∧∀q∈b.Kids,q.Text.size≤90
  ·-- texts
   obtain⟨t,A,H⟩:=C;have I:=NX H;have f:eF b=b.Kids:=amm.2 fun k g=>by unfold gO;rw[A k g];rfl
   have F:(eF b).any eW=false:=by
    rw[f,amx];intro k g;unfold eW;rw[A k g];decide
   have m:∃p:Int×Int,∀N,20010≤N→∀c a,lL (KN (N+1)) (N+1) b (cR (N+1) c a)=some p:=by
    by_cases j:(cK (gv b.Style).Width 0).2=true
    ·exact⟨_,fun N i c a=>by unfold lL;rw[sN,h7,gn,h7,kc j,tv,h7]⟩
    ·refine⟨(dS (wc b.Kids).1,dS (wc b.Kids).2),fun N i c a=>?_⟩;unfold lL;rw[sN,h7,gn,h7,kb j,D9 (KN (N+1)) (N+1) (Eb N) b (by omega) (by omega),h7];simp only[F,amf,w3];have O:(KN (N+1)).xZ (cR (N+1) c a).Spread (eF b) b.Style=some (wc b.Kids):=by
      show Aa (KN N) N (eF b) b.Style (cR N c a)=_;unfold Aa;rw[f,WL A (by omega) (fun k r=>by have:=H k r;omega) (by omega) (by omega)];rfl
     rw[O,h7,tv,h7,tv,h7]
   obtain⟨p,o⟩:=m;refine⟨(ii (fS (gv b.Style) 0 (jb (gv b.Style) 0 p.1)),ii (fS (gv b.Style) 0 (jb (gv b.Style) 0 p.2))),fun N i c a=>?_⟩;obtain⟨M,rfl⟩:∃M,N=M+1:=⟨N-1,by omega⟩;unfold ql;rw[show(b.Kind == 6)=false by rw[t];rfl,show(b.Kind == 7)=false by rw[t];rfl];simp only[il,ol];unfold AQ;simp only[o M (by omega) c a,sN,DV,vb,uH,h7]
  ·have B:iu b.Kids:=by
    rcases l with l|l
    ·exact absurd ⟨l.1,l.2.1,l.2.2.1⟩ C
    ·exact l
   obtain⟨W,P⟩:=Tc (s:=s) (fun k g=>QL s k (by have:=mD g;omega) (kT B k g));have u:∀N,20010+s≤N→∀c a,∀k∈b.Kids,(KN (N+1)).gI (cR (N+1) c a).Widths k=some (W k):=fun N i c a k g=>P k g N i c a;rcases g with t|L
   ·-- a block of blocks
    have m:∃p:Int×Int,∀N,20010+s≤N→∀c a,lL (KN (N+1)) (N+1) b (cR (N+1) c a)=some p:=by
     have E:b.Kids≠[]:=fun e=>C ⟨t,fun k r=>(by rw[e]at r;cases r),fun k r=>(by rw[e]at r;cases r)⟩;have f:eF b=b.Kids:=amm.2 fun k g=>by
      have:=(i7.1 (kT B k g)).2.1.1;unfold gO;simp[bne,this]
     have w:(eF b).any eW=true:=by
      rw[aeq];obtain⟨x,J⟩:=amd _ E;refine⟨x,by rw[f];exact J,?_⟩;unfold eW;rcases (i7.1 (kT B x J)).1 with q|q<;>rw[q]<;>rfl
     by_cases j:(cK (gv b.Style).Width 0).2=true
     ·exact⟨_,fun N i c a=>by unfold lL;rw[sN,h7,gn,h7,kc j,tv,h7]⟩
     ·refine⟨Ce W b.Kids 0 0,fun N i c a=>?_⟩;unfold lL;rw[sN,h7,gn,h7,kb j,D9 (KN (N+1)) (N+1) (Eb N) b (by omega) (by omega),h7];simp only[w,Do,il,ol];have e:=acf (KN (N+1)) (N+1) (cR (N+1) c a) (eF b,true) (by simp only[f];omega) W (by rw[f];exact u N i c a) (N+1) 0 0 0 (tl _) (by simp only[f];omega);rw[If]at e;simp only at e;rw[f]at e⊢;exact e
    obtain⟨p,o⟩:=m;refine⟨(ii (fS (gv b.Style) 0 (jb (gv b.Style) 0 p.1)),ii (fS (gv b.Style) 0 (jb (gv b.Style) 0 p.2))),fun N i c a=>?_⟩;obtain⟨M,rfl⟩:∃M,N=M+1:=⟨N-1,by omega⟩;unfold ql;rw[show(b.Kind == 6)=false by rw[t];rfl,show(b.Kind == 7)=false by rw[t];rfl];simp only[il,ol];unfold AQ;simp only[o M (by omega) c a,sN,DV,vb,uH,h7]
   ·-- a flex container
    obtain⟨d,z,_⟩:=Od.mw b.Kids (by omega) (lvl:=20010) (n:=20010) (by omega) (by omega);have R:=z.len;have D:∀N,20010≤N→k7 (KN N) N b=some (Fw.cC b d):=fun N i=>by
     obtain⟨T,K,G⟩:=Od.mw b.Kids (by omega) (lvl:=N) (n:=N) (by omega) (by omega);rw[K.uniq z]at G;exact Fw.TN S z G (by omega)
    have key:∃v,∀N,20010+s≤N→∀c a,tZ (KN (N+1)) (N+1) b (cR (N+1) c a)=some v:=by
     by_cases j:(cK (gv b.Style).Width 0).2=true
     ·obtain⟨v,y⟩:=Nl (gv b.Style) (cK (gv b.Style).Width 0).1 (cK (gv b.Style).Width 0).1;exact⟨v,fun N i c a=>by unfold tZ;rw[Fw.Ov,h7,gn,h7,kc j,y]⟩
     ·obtain⟨v,y⟩:=Nl (gv b.Style) (nX b W (Fw.cC b d) 0 0).1 (nX b W (Fw.cC b d) 0 0).2;refine⟨v,fun N i c a=>?_⟩;unfold tZ;rw[Fw.Ov,h7,gn,h7,kb j,D (N+1) (by omega),h7];have e:=ZC (KN (N+1)) (N+1) b (cR (N+1) c a) (gv b.Style) (Fw.cC b d) (by rw[Fw.vK];omega) W (fun k g=>u N i c a k (Fw.DW z g)) (N+1) 0 0 0 (tl _) (by rw[Fw.vK];omega);rw[If]at e;exact e.trans (y _ _)
    obtain⟨v,y⟩:=key;refine⟨v,fun N i c a=>?_⟩;obtain⟨M,rfl⟩:∃M,N=M+1:=⟨N-1,by omega⟩;unfold ql;rw[show(b.Kind == 6)=true by rw[L];rfl,kc rfl,y M (by omega) c a];rfl
end
theorem akw(b:ByteArray):∀(k i:Nat) (r:List UInt8),b.size-i≤k→ByteArray.toList.loop b i r=r.reverse++b.data.toList.drop i:=by
 have j:b.data.toList.length=b.size:=by cases b;rfl
 intro k
 induction k with
 | zero =>
  intro i r h;rw[amY];have a:¬ i<b.size:=by omega
  rw[kb a,ll (by omega),Ts]
 | succ k e =>
  intro i r h;rw[amY];by_cases a:i<b.size
  ·have c:i<b.data.toList.length:=by omega
   rw[kc a,e (i+1) _ (by omega),lc c];have g:b.get! i=b.data.toList[i]:=by
    cases b with
    | mk d =>
     have f:i<d.size:=by grind
     show d[i]! = d.toList[i]
     grind
   grind
  ·rw[kb a,ll (by omega),Ts]
theorem P8(b:ByteArray):b.toList=b.data.toList:=by
 unfold ByteArray.toList;rw[akw b b.size 0 [] (by omega)];rfl
theorem CO{a b:ByteArray}(h:a.toList=b.toList):a=b:=by
 rw[P8,P8]at h;exact ByteArray.ext (alQ.1 h)
theorem Lo{α}{x y:V4 α}(a:x.a0=y.a0)(b:x.a1=y.a1)(c:x.a2=y.a2)(d:x.a3=y.a3):x=y:=by
 cases x;simp_all
theorem adP{x y:aR}(h:j8 x y=true):x=y:=by
 simp only[j8,Zl,h8,alJ,and_true]at h;have d:=Lo (x:=x.Margin) (y:=y.Margin);have e:=Lo (x:=x.Padding) (y:=y.Padding);have f:=Lo (x:=x.Border) (y:=y.Border);have a:=@CO x.BorderColor y.BorderColor;have b:=@CO x.Color y.Color;have c:=@CO x.Background y.Background;cases x;cases y
 simp_all
theorem afF{a b}(h:nL a b=true)(j:a.Kids=b.Kids):a=b:=by
 simp only[nL,h8,alJ]at h;obtain⟨e,f,c,d,g,i⟩:=h;have c:=adP c;have d:=CO d;cases a;cases b
 grind
mutual
theorem Qu:∀{a b},eJ a b=true→a=b
 | ⟨k,n,s,t,r,q,c⟩,b,h=>by
  rw[Co,h8]at h;exact afF h.1 (SB (l:=c) h.2)
theorem SB:∀{l m},gy l m=true→l=m
 | [],[],_=>rfl
 | a::r,b::q,h=>by
  simp only[gy,h8]at h;rw[Qu h.1,SB h.2]
 | [],_::_,h=>by cases h
 | _::_,[],h=>by cases h
end
theorem agl(K j:Kn)(n k:Nat)(L:c6)(w:L.length≤1000000):∀(m c:Nat) (i h:Int) (b:bj) (t:Bool) (g:bj) (l:c6),0≤i→i≤L.length→(L.length:Int)<m+i→(L.length:Int)<c+i →
  kp K n L m h t i b g l=kp j k L c h t i b g l:=by
 intro m
 induction m with
 | zero=>intro c i _ _ _ _ _ o p q _;omega
 | succ m u =>
  intro c i h b t g l o p q v;cases c with
  | zero=>omega
  | succ c =>
   by_cases r:i<(L.length:Int)
   ·have s:aa (i+1)=i+1:=bN (by omega) (by omega);have key:∀(e:Int) (f:Bool) (d a:bj) (l':c6),kp K n L m e f (i+1) d a l'=kp j k L c e f (i+1) d a l':=fun e f d a l'=>u c (i+1) e d f a l' (by omega) (by omega) (by omega) (by omega);simp only[kp,t8,kF,gC,h7,ud,va,um,ro,s,key]
   ·have:decide (i<(L.length:Int))=false:=by simpa using r
    simp only[kp,t8,this,il,ol,ro,gC,kF]
theorem YU K b n a L(c:L.length≤1000000)(e:L.length<n)(d:L.length<a):lY K n L=lY b a L :=
 agl K b n a L c n a 0 0 _ _ _ [] (by omega) (by omega) (by omega) (by omega)
noncomputable section
theorem agI(b:ab)(z:cf)(t m:Bool)(c:b.Kids.length≤20)(e:ge b.Kids)(u:∀k∈b.Kids,k.Text.size≤1000)(q:eG 1 b.Kids≤2000):
  ∃F:ae,DF 3 F∧∀(N:Nat),9100≤N→∀env:bB,(∃g i j l,env.Lines=.c52 g i j l)→∀(d f:Int) (S:cn),jP (KN (N+1)) (N+1) b z t m env d f S=some (F,d,f,S):=by
 have a:eF b=b.Kids:=amm.2 fun k c=>by unfold gO;rw[e k c];rfl
 have p:(eF b).any eW=false:=by
  rw[a,amx];intro k c;unfold eW;rw[e k c];decide
 obtain⟨s,o⟩:=ai5 e q b.Style z.Content;refine⟨ru b z t m false (nk b.Kids b.Style z.Content).2 (((nk b.Kids b.Style z.Content).1.length:Int) == 0) dJ dJ (nk b.Kids b.Style z.Content).1,RC (by omega) o,fun N v env n d f S=>?_⟩;obtain⟨g,i,j,l,n⟩:=n;unfold jP;rw[D9 (KN (N+1)) (N+1) (Eb N) b c (by omega),h7];simp only[p,il,ol];rw[a,n];have r:(KN (N+1)).wW (.c52 g i j l) b.Kids b.Style z.Content=some (nk b.Kids b.Style z.Content):=by
  show vP (KN N) N b.Kids b.Style z.Content ⟨g,i,j,l⟩=_;unfold vP;rw[ad5 e (by omega) u q (by omega)];rfl
 rw[r,h7,Kz _ _ _ (by omega),h7];exact QV (KN (N+1)) (N+1) b z _ (by omega) (by omega) d f S (b.Kids,false) (fun h=>by cases h) t m _ _ _ _
theorem ZE(b:ab)(z:cf)(t h:Bool)(B:b.Kids.length≤20)(D:(eF b).any eW=true)(l:∀k∈eF b,eW k=true):
  ∃G:c6→ae,(∀(r:c6) (d:Nat),r.length=(eF b).length→(∀f∈r,DF d f)→DF (d+1) (G r))∧∀(N:Nat),100≤N→∀(env:bB) (i j:Int) (S:cn),jP (KN (N+1)) (N+1) b z t h env i j S =
   (dj (fun k w=>(KN (N+1)).dp env.Layout k w) ((eF b).map fun k=>(k,z.Content)) i j S).bind fun r=>some (G r.1,r.2.1,r.2.2.1,r.2.2.2):=by
 have y:=NI (b:=b)
 let a:c6→c6×Int×bj×bj×Bool:=fun r=>(lY (KN 100) 100 r).getD ([],0,dJ,dJ,true)
 refine⟨fun r=>ru b z t h true (a r).2.1 (a r).2.2.2.2 (a r).2.2.1 (a r).2.2.2.1 (a r).1,fun r d p v=>?_,fun N E env i j S=>?_⟩
 ·obtain⟨q,m,s,o⟩:=UU (KN 100) 100 r (by omega) (by omega);have c:a r=q:=by show(lY (KN 100) 100 r).getD _=q;rw[m];rfl
  show DF (d+1) (ru b z t h true (a r).2.1 (a r).2.2.2.2 (a r).2.2.1 (a r).2.2.2.1 (a r).1);rw[c];refine RC (by omega) (fun f x=>?_);obtain⟨g,A,e⟩:=o f x;exact uM e (v g A)
 ·unfold jP;rw[D9 (KN (N+1)) (N+1) (Eb N) b B (by omega),h7];simp only[D,w3];have u:=ahH (KN (N+1)) (N+1) b z t h env (eF b,true) (by simp only;omega) (N+1) 0 [] i j S (tl _) (by simp only;omega) (by simp);have n:si (KN (N+1)) (N+1) b z t h env (eF b,true) (N+1) 0 [] i j S=_:=u;rw[n,If,SK (fun k w=>(KN (N+1)).dp env.Layout k w)];cases C:dj (fun k w=>(KN (N+1)).dp env.Layout k w) ((eF b).map fun k=>(k,z.Content)) i j S with
  | none=>rfl
  | some r =>
   have p:=tT C;rw[nw]at p;simp only[h7,Dy];obtain⟨q,m,s,o⟩:=UU (KN 100) 100 r.1 (by omega) (by omega);have c:a r.1=q:=by show(lY (KN 100) 100 r.1).getD _=q;rw[m];rfl
   rw[YU (KN (N+1)) (KN 100) (N+1) 100 r.1 (by omega) (by omega) (by omega),m,h7,c];exact QV (KN (N+1)) (N+1) b z q.1 (by omega) (by omega) _ _ _ (eF b,true) (fun _=>⟨by simp only;omega,l⟩) t h _ _ _ _
theorem ZR(b:ab)(w:Int):∃t g,∀(K:Kn) (n:Nat) (env:bB) (c d:Int) (S:cn),oW K n b w env c d S=(jP K n b (ct b.Style w) t g env c d S).bind fun a=>some (a.1,a.2.1,a.2.2.1,a.2.2.2):=by
 have j:∀t,∃g,∀(K:Kn) (n:Nat) (env:bB) (c d:Int) (S:cn),oZ K n b env c d S (ct b.Style w) t=(jP K n b (ct b.Style w) t g env c d S).bind fun a=>some (a.1,a.2.1,a.2.2.1,a.2.2.2):=fun t=>by
  unfold oZ;by_cases e:(b.Style.Overflow == 0)=true
  ·by_cases f:((ct b.Style w).Border.a2 == 0)=true
   ·by_cases h:((ct b.Style w).Padding.a2 == 0)=true
    ·exact⟨_,fun K n env c d S=>by rw[kc e,kc f,kc h];rfl⟩
    ·exact⟨_,fun K n env c d S=>by rw[kc e,kc f,kb h];rfl⟩
   ·exact⟨_,fun K n env c d S=>by rw[kc e,kb f];rfl⟩
  ·exact⟨_,fun K n env c d S=>by rw[kb e];rfl⟩
 have:∃t,∀(K:Kn) (n:Nat) (env:bB) (c d:Int) (S:cn),oW K n b w env c d S=oZ K n b env c d S (ct b.Style w) t:=by
  unfold oW;simp only[xR,h7];by_cases e:(b.Style.Overflow == 0)=true
  ·by_cases f:((ct b.Style w).Border.a0 == 0)=true
   ·exact⟨_,fun K n env c d S=>by rw[kc e,kc f]⟩
   ·exact⟨_,fun K n env c d S=>by rw[kc e,kb f]⟩
  ·exact⟨_,fun K n env c d S=>by rw[kb e]⟩
 obtain⟨t,k⟩:=this;obtain⟨g,i⟩:=j t;exact⟨t,g,fun K n env c d S=>by grind⟩
structure Qm b(f:Nat→Bool→Bool→Int→Int→cn→Option (ae×Int×Int×cn))(P:hZ)(G:c6→ae):Prop where
 good:∀p∈P,GB p.1∧bL p.1<bL b∧0≤p.2
 sz:ey P≤cZ b.Kids
 df:∀r d,2≤d→r.length=P.length→(∀x∈r,DF d x)→DF (d+1) (G r)
 run:∀N,20010+bL b≤N→∀lf kf fr us S,f (N+1) lf kf fr us S=(dj (fun k w=>jV (KN N) N k w lf (cR N lf kf) kf) P fr us S).bind fun r=>some (G r.1,r.2.1,r.2.2.1,r.2.2.2)
theorem ahw{b:ab}{P}:∀p∈P,bL p.1≤ey P:=by
 intro p a
 induction P with
 | nil=>grind
 | cons q r c =>
  grind[ey]
theorem O4(b:ab)(T:b.Kind=1)(M:GB b)(z:cf)(y:0≤z.Content)(t s:Bool):∃P G,Qm b (fun N o n=>jP (KN N) N b z t s (cR N o n)) P G∧(∀p∈P,p.1∈b.Kids∧p.2=z.Content)∧((∃k∈b.Kids,k.Kind≠3)→P=b.Kids.map fun k=>(k,z.Content)):=by
 obtain⟨_,g,U,j⟩:=i7.1 M;have Q:=iD b;by_cases i:ge b.Kids∧∀q∈b.Kids,q.Text.size≤90
 ·have C:=NX i.2;obtain⟨F,H,I⟩:=agI b z t s (by omega) i.1 (fun k h=>by have:=i.2 k h;omega) (by omega);refine⟨[],fun _=>F,⟨fun p g=>(by cases g),tl _,fun r d D _ _=>K2 H (by omega),fun N L o n u A S=>?_⟩,fun p g=>(by cases g),fun⟨k,c,K⟩=>absurd (i.1 k c) K⟩;show jP (KN (N+1)) (N+1) b z t s (cR (N+1) o n) u A S=_;rw[I N (by omega) _ ⟨_,_,_,_,rfl⟩];rfl
 ·have v:iu b.Kids:=by
   rcases j with j|j
   ·exact absurd ⟨j.2.1,j.2.2.1⟩ i
   ·exact j
  have w:b.Kids≠[]:=fun e=>i ⟨fun k h=>(by rw[e]at h;cases h),fun k h=>(by rw[e]at h;cases h)⟩;have a:eF b=b.Kids:=amm.2 fun k c=>by
   have:=(i7.1 (kT v k c)).2.1.1;unfold gO;simp[bne,this]
  have f:∀k∈eF b,eW k=true:=fun k c=>by
   rw[a]at c;unfold eW;rcases (i7.1 (kT v k c)).1 with q|q<;>rw[q]<;>rfl
  have m:(eF b).any eW=true:=by
   rw[aeq];obtain⟨x,E⟩:=amd _ w;exact⟨x,by rw[a];exact E,f x (by rw[a];exact E)⟩
  obtain⟨G,B,J⟩:=ZE b z t s (by omega) m f;rw[a]at B;refine⟨b.Kids.map fun k=>(k,z.Content),G,⟨fun p g=>?_,?_,fun r d _ O D=>B r d (by rw[O,nw]) D,fun N L o n u A S=>?_⟩,fun p g=>?_,fun _=>rfl⟩
  ·obtain⟨k,c,rfl⟩:=Dk.1 g;exact⟨kT v k c,mD c,y⟩
  ·have:∀l:dO,ey (l.map fun k=>(k,z.Content))=cZ l:=by
    intro l;induction l with
    | nil=>rfl
    | cons x r R=>simp only[rv,ey,cZ,R]
   rw[this];exact jf _
  ·have:=J N (by omega) (cR (N+1) o n) u A S;rw[a]at this;exact this
  ·obtain⟨k,c,rfl⟩:=Dk.1 g;exact⟨c,rfl⟩
theorem VP(b:ab)(z:GB b)(A:bL b≤1900)(w:Int):∃P G,Qm b (fun N c a=>if (b.Kind == 6)=true then oH (KN N) N b w (cR N c a) else oW (KN N) N b w (cR N c a)) P G:=by
 obtain⟨f,o,K,g⟩:=i7.1 z;rcases f with u|y
 ·obtain⟨t,C,e⟩:=ZR b w;obtain⟨P,G,j,_⟩:=O4 b u z (ct b.Style w) (Fl.DR b.Style w).1 t C;refine⟨P,G,j.good,j.sz,j.df,fun N n c a i l S=>?_⟩;rw[show(b.Kind == 6)=false by rw[u];rfl];simp only[il,ol];rw[e,j.run N n c a i l S];cases dj (fun k w=>jV (KN N) N k w c (cR N c a) a) P i l S<;>rfl
 ·have m:iu b.Kids:=by
   rcases g with g|g
   ·rw[y]at g;exact absurd g.1 (by decide)
   ·exact g
  obtain⟨W,I⟩:=Tc (s:=bL b) (fun k f=>by
   obtain⟨v,O⟩:=QL (bL k) k (jf _) (kT m k f);exact⟨v,fun N n c a=>O N (by have:=mD f;omega) c a⟩)
  obtain⟨P,G,D,E,F,H⟩:=Fl.abX b K w W;have M:=iD b;have B:=HJ P;refine⟨P,G,fun p o=>?_,E,fun r d _ L J=>F r d L (by omega) J,fun N n c a i l S=>?_⟩
  ·obtain⟨q,k,f,h⟩:=D p o;refine⟨?_,by have:=ahw (b:=b) p o;omega,by rw[q];exact(Fl.DR b.Style w).1⟩;rcases h with h|⟨x,h⟩
   ·rw[h];exact kT m k f
   ·rw[h];exact aeC x (kT m k f)
  ·rw[show(b.Kind == 6)=true by rw[y];rfl];simp only[w3];exact H (N+1) (by omega) (cR (N+1) c a) (fun k f=>I k f N (by omega) c a) i l S
end
noncomputable section
def mg(b:ab)(w:Int)(F:ae):Prop:=∀N,20011+bL b≤N→∀(a c:Int) (S:cn),jV (KN N) N b w false (cR N false false) false a c S=some (F,a,c,S)
theorem mg.uniq{b:ab}{w:Int}{F G:ae}(h:mg b w F)(g:mg b w G):F=G:=by
 have e:=(h (20011+bL b) (jf _) 0 0 []).symm.trans (g (20011+bL b) (jf _) 0 0 []);injection e with e
 exact(Prod.mk.inj e).1
inductive gQ (D:Nat):hZ→c6→Prop
 | nil:gQ D [] []
 | cons (p:ab×Int) (F:ae) (P:hZ) (r:c6) (h1:mg p.1 p.2 F) (h2:DF D F) (h3:DF (bL p.1+2) F) (t:gQ D P r):gQ D (p::P) (F::r)
theorem gQ.len{D:Nat}{P:hZ}{r:c6}(h:gQ D P r):r.length=P.length:=by
 induction h with
 | nil=>rfl
 | cons p F P r b c d t a=>simp[a]
theorem gQ.df{D:Nat}{P:hZ}{r:c6}(h:gQ D P r):∀x∈r,DF D x:=by
 induction h with
 | nil=>intro x a;cases a
 | cons p F P r d b e t c =>
  intro x a;rcases qk.1 a with rfl|a
  ·exact b
  ·exact c x a
theorem gQ.of{D:Nat}:∀(P:hZ),(∀p∈P,bL p.1+2≤D∧∃F,DF (bL p.1+2) F∧mg p.1 p.2 F)→∃r,gQ D P r
 | [],_=>⟨[],.nil⟩
 | p::P,h=>by
  obtain⟨b,F,a,c⟩:=h p u6;obtain⟨r,e⟩:=gQ.of P (fun q d=>h q (pt _ d));exact⟨F::r,.cons p F P r c (K2 a b) a e⟩
theorem gQ.pure{D:Nat}{P:hZ}{r:c6}(h:gQ D P r){N:Nat}(c:∀p∈P,20011+bL p.1≤N):∀(a b:Int) (S:cn),dj (fun k w=>jV (KN N) N k w false (cR N false false) false) P a b S=some (r,a,b,S):=by
 induction h with
 | nil=>intro a b S;rfl
 | cons p F P r d g i t f =>
  intro a b S;simp only[dj,d N (c p u6) a b S,h7,f (fun q e=>c q (pt _ e)) a b S]
theorem Lk(b:ab)(e:GB b)(w:Int)(N:Nat)(env:bB)(c:Bool)(a d:Int)(S:cn):uv (KN N) N b w env c a d S=((if (b.Kind == 6)=true then oH (KN N) N b w env else oW (KN N) N b w env) a d S).bind fun v=>uG (KN N) N b w c v.1 v.2.1 v.2.2.1 v.2.2.2:=by
 unfold uv;rcases (i7.1 e).1 with h|h
 ·rw[show(b.Kind == 6)=false by rw[h];rfl,show(b.Kind == 7)=false by rw[h];rfl,show(b.Kind == 5)=false by rw[h];rfl];simp only[il,ol]
 ·rw[show(b.Kind == 6)=true by rw[h];rfl];simp only[w3]
theorem H4:∀(s:Nat) (b:ab) (w:Int),bL b≤s→s≤1900→GB b→∃F,DF (bL b+2) F∧mg b w F
 | 0,b,_,h,_,_=>by have:=gV b;omega
 | s+1,b,w,h,l,e=>by
  obtain⟨P,G,a⟩:=VP b e (by omega) w;have f:=gV b;obtain⟨r,d⟩:=gQ.of (D:=bL b+1) P (fun p c=>by
   have i:=a.good p c;exact⟨by omega,H4 s p.1 p.2 (by omega) (by omega) i.1⟩)
  refine⟨G r,a.df r (bL b+1) (by omega) d.len d.df,fun N k g j S=>?_⟩;obtain⟨M,rfl⟩:∃M,N=M+1:=⟨N-1,by omega⟩;unfold jV;simp only[il,ol];rw[Lk b e,show _=_ from a.run M (by omega) false false g j S,d.pure (fun p c=>by have:=(a.good p c).2;omega)];rfl
structure gT(m:aA):Prop where
 sz:bL m.Box≤100
 df:DF (bL m.Box+2) m.Fragment
 pure:mg m.Box m.Width m.Fragment
 gb:GB m.Box
 wd:0≤m.Width
theorem afN(N:Nat)(b:ab)(w:Int)(f g:Int)(S:cn)(n:S.length≤100000)(l:3200≤N)(h:∀m∈S,gT m):∀(m i:Nat),i≤S.length→S.length<m+i →
  yh (KN N) N b w f g S m i=some (vm b w f g S (S.drop i)):=by
 intro m
 induction m with
 | zero=>intro i a c;omega
 | succ m j =>
  intro i a c;simp only[yh,Bk];by_cases e:i<S.length
  ·have k:=j (i+1) (by omega) (by omega);have d:=h _ (fU e);rw[drop_at' e];simp only[eH e,w3,dA e,bc,Int.toNat_natCast,wz];generalize S.getD i default=M at *;rw[Dl (bL M.Box) N M.Box b (jf _) (by have:=d.sz;omega) (by have:=d.sz;omega),h7,eB (by omega),k];cases a:(M.Width == w) with
   | false=>simp[vm,fC,ano,a]
   | true =>
    cases c:eJ M.Box b with
    | false=>simp[vm,fC,ano,a,c]
    | true =>
     rw[Cp _ N _ d.df (by have:=d.sz;omega)];simp[vm,fC,ano,a,c]
  ·simp only[fd (show S.length≤i by omega),il,ol];rw[ll (by omega)];rfl
theorem afe(N:Nat)(b:ab)(w:Int)(a c:Int)(S:cn)(f:S.length≤3000)(d:3200≤N)(e:∀m∈S,gT m):xw (KN N) N b w a c S=some (vm b w a c S S):=by
 unfold xw;have:=afN N b w a c S (by omega) d e N 0 (tl _) (by omega);simpa using this
theorem aeD(N:Nat)(b:ab)(w:Int)(a c:Int)(S:cn)(e:S.length≤3000)(d:3200≤N)(f:∀m∈S,gT m):z4 (KN N) N b w a c S =
  some (match S.find? (fC b w) with
   | some m=>(m.Fragment,true,a,aa (c+1),S)
   | none=>(bV,false,a,c,S)):=by
 unfold z4;rw[afe N b w a c S e d f,h7];unfold vm;cases S.find? (fC b w)<;>rfl
theorem akS{b:ab}{w:Int}{m:aA}(h:fC b w m=true):m.Width=w∧m.Box=b:=by
 simp only[fC,h8,alJ]at h;exact⟨h.1,Qu h.2⟩
theorem Zh{b:ab}{w:Int}{F:ae}{S:cn}(f:∀m∈S,gT m)(e:mg b w F){m:aA}(h:S.find? (fC b w)=some m):m.Fragment=F:=by
 have a:=(f m (am2 h)).pure;obtain⟨c,d⟩:=akS (List.find?_some h);rw[c,d]at a;exact a.uniq e
end
noncomputable section
def RU(N:Nat)(b:ab)(w:Int)(F:ae):Prop :=
 ∀(c d:Int) (S:cn),0≤c→c+(bL b:Int)≤2000→S.length+bL b≤2000→(∀m∈S,gT m) →
  ∃a T,jV (KN N) N b w true (cR N true true) true c d S=some (F,c+(T.length:Int),a,S++T)∧(∀m∈T,gT m)∧T.length≤bL b∧(∃m∈S++T,fC b w m=true)∧((∃m∈S,fC b w m=true)→T=[]∧a=aa (d+1))∧(¬ (∃m∈S,fC b w m=true)→0<T.length)∧∀m∈T,bL m.Box≤bL b
theorem PQ{D:Nat}{P:hZ}{r:c6}(h:gQ D P r)(N:Nat)(u:∀p∈P,∀F,mg p.1 p.2 F→DF (bL p.1+2) F→RU N p.1 p.2 F):∀(b d:Int) (S:cn),0≤b→b+(ey P:Int)≤2000→S.length+ey P≤2000→(∀m∈S,gT m) →
  ∃j T,dj (fun k w=>jV (KN N) N k w true (cR N true true) true) P b d S=some (r,b+(T.length:Int),j,S++T)∧(∀m∈T,gT m)∧T.length≤ey P∧(∀p∈P,∃m∈S++T,fC p.1 p.2 m=true)∧((∀p∈P,∃m∈S,fC p.1 p.2 m=true)→T=[]∧(0≤d→d+(P.length:Int)≤100000→j=d+(P.length:Int)))∧((∃p∈P,¬ ∃m∈S,fC p.1 p.2 m=true)→0<T.length)∧∀m∈T,bL m.Box≤ey P:=by
 induction h with
 | nil =>
  intro b d S _ _ _ _;exact⟨d,[],by simp[dj],fun m e=>(by cases e),tl _,fun p o=>(by cases o),fun _=>⟨rfl,fun _ _=>by simp⟩,fun⟨p,o,_⟩=>(by cases o),fun m e=>(by cases e)⟩
 | cons p F P r M h2 O t V =>
  intro b d S L R Q e;simp only[ey]at R Q⊢;obtain⟨Z,T,E,s,e3,G,H,I,J⟩:=u p u6 F M O b d S L (by omega) (by omega) e;have n:∀m∈S++T,gT m:=fun m a=>by
   rcases ls.1 a with a|a
   ·exact e m a
   ·exact s m a
  obtain⟨u2,U,x,y,d3,z,A,B,C⟩:=V (fun q a=>u q (pt _ a)) (b+(T.length:Int)) Z (S++T) (by omega) (by omega) (by simp only[mm];omega) n;refine⟨u2,T++U,?_,fun m a=>?_,by simp only[mm];omega,fun q a=>?_,fun c=>?_,fun⟨q,a,f⟩=>?_,fun m a=>(by
   rcases ls.1 a with a|a
   ·have:=J m a;omega
   ·have:=C m a;omega)⟩
  ·rw[show b+(((T++U).length:Nat):Int)=b+(T.length:Int)+(U.length:Int) by rw[mm];omega];simp only[dj,E,h7,x,q7]
  ·rcases ls.1 a with a|a
   ·exact s m a
   ·exact y m a
  ·rcases qk.1 a with rfl|a
   ·obtain⟨m,g,i⟩:=G;exact⟨m,by rw[←q7];exact amI _ g,i⟩
   ·obtain⟨m,g,i⟩:=z q a;exact⟨m,by rw[←q7];exact g,i⟩
  ·obtain⟨W,v⟩:=H (c p u6);subst W;obtain⟨X,Y⟩:=A (fun q a=>by
    obtain⟨m,g,i⟩:=c q (pt _ a);exact⟨m,by simpa using g,i⟩)
   refine⟨by rw[X];rfl,fun g1 K=>?_⟩;simp only[la]at K⊢;rw[bN (by omega) (by omega)]at v;rw[Y (by omega) (by omega),v];omega
  ·rw[mm];by_cases hT:0<T.length
   ·omega
   ·have l:T=[]:=nx (by omega);rcases qk.1 a with rfl|a
    ·have:=I f;omega
    ·have:=B ⟨q,a,by rw[l,Ts];exact f⟩;omega
theorem Mc:∀(s N:Nat) (b:ab) (w:Int) (F:ae),bL b≤s→s≤90→20011+bL b≤N→GB b→0≤w→DF (bL b+2) F→mg b w F→RU N b w F
 | 0,_,b,_,_,h,_,_,_,_,_,_=>by have:=gV b;omega
 | s+1,N,b,w,F,h,hs,O,q,A,n,y=>by
  intro i u S K hf hS j;have B:=gV b;obtain⟨M,rfl⟩:∃M,N=M+1:=⟨N-1,by omega⟩;unfold jV;simp only[w3,bc];rw[aeD (M+1) b w i u S (by omega) (by omega) j,h7];cases t:S.find? (fC b w) with
  | some m =>
   have f:=am2 t;have d:=List.find?_some t;have Q:=Zh j y t;simp only[w3];refine⟨aa (u+1),[],by simp[Q],fun m j=>(by cases j),tl _,⟨m,by simpa using f,d⟩,fun _=>⟨rfl,rfl⟩,fun k=>absurd ⟨m,f,d⟩ k,fun m j=>(by cases j)⟩
  | none =>
   have k:¬ ∃m∈S,fC b w m=true:=fun⟨m,W,X⟩=>by
    have:=List.find?_eq_none.1 t m W;exact this X
   simp only[il,ol];obtain⟨P,G,a⟩:=VP b q (by omega) w;obtain⟨r,C⟩:=gQ.of (D:=bL b+1) P (fun p g=>by
    have R:=a.good p g;exact⟨by omega,H4 s p.1 p.2 (by omega) (by omega) R.1⟩)
   have L:G r=F:=by
    have e:=y (M+1) O 0 0 [];unfold jV at e;simp only[il,ol]at e;rw[Lk b q,show _=_ from a.run M (by omega) false false 0 0 [],C.pure (fun p g=>by have:=(a.good p g).2;omega)]at e;have v:some (G r,(0:Int),(0:Int),([]:cn))=some (F,0,0,[]):=e;injection v with v
    exact(Prod.mk.inj v).1
   have V:=iD b;have U:=a.sz;obtain⟨l,T,H,I,Y,Z,e5,e6,J⟩:=PQ C M (fun p g E z x=>Mc s M p.1 p.2 E (by have:=(a.good p g).2;omega) (by omega) (by have:=(a.good p g).2;omega) (a.good p g).1 (a.good p g).2.2 x z) i u S K (by omega) (by omega) j;rw[Lk b q,show _=_ from a.run M (by omega) true true i u S,H];simp only[h7,L,uG,w3,bc];rw[af5 (M+1) b w F (i+(T.length:Int)) l (S++T) (by simp only[mm];omega) (by omega) (bL b+2) n (by omega) (by omega),h7];refine⟨l,T++[⟨b,w,F⟩],?_,fun m c=>?_,by simp only[mm,la,u3];omega,⟨⟨b,w,F⟩,by simp,by simp[fC,JM]⟩,fun o=>absurd o k,fun _=>by simp,fun m c=>(by
    rcases ls.1 c with c|c
    ·have:=J m c;omega
    ·simp only[qk,aiD,amy]at c;subst c;exact jf _)⟩
   ·rw[show i+(((T++[(⟨b,w,F⟩:aA)]).length:Nat):Int)=i+(T.length:Int)+1 by rw[mm];simp only[la,u3];omega];show some (F,i+(T.length:Int)+1,l,S++T++[(⟨b,w,F⟩:aA)])=_;rw[q7]
   ·rcases ls.1 c with c|c
    ·exact I m c
    ·simp only[qk,aiD,amy]at c;subst c;exact⟨by show bL b≤100;omega,n,y,q,A⟩
end
theorem Yo K n l(a:l.length≤100000):xk K n l=some l:=by
 unfold xk nY
 grind[fits,c7,bc]
theorem YA(K:Kn)(n:Nat)(p:ib)(b:ab)(ar:b7)(q:b.Kids.length<1000000)(h:∀k∈b.Kids,(k.Kind=3∨k.Style.Position≠2)∧K.rP p k ar=some ()):∀(m i:Nat),i≤b.Kids.length→b.Kids.length<m+i→sU K n p b ar m i=some ():=by
 intro m
 induction m with
 | zero=>intro i f g;omega
 | succ m j =>
  intro i f g;simp only[sU,BV];by_cases c:i<b.Kids.length
  ·obtain⟨a,o⟩:=h _ (fU c);have l:=j (i+1) (by omega) (by omega);have d:pV K n p b ar i (sU K n p b ar m) false=some ():=by
    unfold pV;simp only[il,ol,Int.toNat_natCast,o,h7];rw[eB (by omega),l]
   simp only[eH c,w3,dA c,bc,Int.toNat_natCast];split
   ·rename_i e;split
    ·rcases a with a|a
     ·rw[a]at e;exact absurd e (by decide)
     ·rw[show((b.Kids.getD i default).Style.Position == 2)=false by simpa using a];exact d
    ·exact d
   ·exact d
  grind
theorem Vz(K:Kn)(n:Nat)(p:ib)(b:ab)(ar:b7)(h:ar.length≤90000)(i:b.Kids.length<n)(d:b.Kids.length<1000000)(e:∀k∈b.Kids,(k.Kind=3∨k.Style.Position≠2)∧∀a:b7,a.length≤ar.length+1→K.rP p k a=some ()):oV K n p b ar=some ():=by
 have l:∀a:b7,a.length≤ar.length+1→vt K n p b a=some ():=fun a g=>by
  unfold vt;have:=YA K n p b a d (fun k f=>⟨(e k f).1,(e k f).2 a g⟩) n 0 (tl _) (by omega)
  grind
 have j:∀c,su K n p b ar c=some ():=fun c=>by
  grind[su,Yo,c7,bc]
 grind[oV]
def jr(m x:aA):Bool:=x.Width == m.Width&&eJ x.Box m.Box
theorem ajB(K:Kn)(n:Nat)(l:dt)(M:aA)(f:l.length<1000000)(d:∀k∈l,K.vc (Fv.c39 M) k=some (jr M k)):∀(m i:Nat),i≤l.length→l.length<m+i →
  ∃r,wV K n l (Fv.c39 M) m i=some r∧decide (r≥0)=(l.drop i).any (jr M):=by
 intro m
 induction m with
 | zero=>intro i b c;omega
 | succ m e =>
  intro i b c;simp only[wV,Eh];by_cases a:i<l.length
  ·rw[drop_at' a];simp only[eH a,w3,dA a,bc,Int.toNat_natCast,d _ (fU a),h7,List.any_cons];cases h:jr M (l.getD i default) with
   | true=>exact⟨_,rfl,by simp⟩
   | false =>
    simp only[il,ol,alR];rw[eB (by omega)];exact e (i+1) (by omega) (by omega)
  ·simp only[fd (show l.length≤i by omega),il,ol];rw[ll (by omega)];exact⟨_,rfl,rfl⟩
theorem ab4 N l M(g:l.length<5000)(d:6000≤N)(e:∀k∈l,bL k.Box≤100):wP (KN (N+1)) (N+1) l (Fv.c39 M)=some (l.any (jr M)):=by
 have a:∀k∈l,(KN (N+1)).vc (Fv.c39 M) k=some (jr M k):=fun k f=>by
  show Ap (KN N) N k M=_;unfold Ap jr;rw[Dl (bL k.Box) N k.Box M.Box (by omega) (by grind) (by grind),h7];cases (k.Width == M.Width)<;>rfl
 obtain⟨r,b,c⟩:=ajB (KN (N+1)) (N+1) l M (by omega) a (N+1) 0 (tl _) (by omega)
 grind[wP,CJ]
def fV(a:ab):cn→cn→cn
 | acc,[]=>acc
 | acc,m::r=>if acc.any (jr m)=true then fV a acc r else if fQ m.Box a=true then fV a (acc++[m]) r else fV a acc r
theorem B6(a:ab):∀(L b:cn),(∀x∈b,x∈fV a b L)∧(∀x∈fV a b L,x∈b∨(x∈L∧fQ x.Box a=true))∧(fV a b L).length≤b.length+L.length∧∀x∈L,fQ x.Box a=true→∃y∈fV a b L,jr x y=true
 | [],b=>⟨fun x h=>h,fun x h=>.inl h,by simp[fV],fun x h=>by cases h⟩
 | m::r,b=>by
  simp only[fV,la];split
  ·rename_i k;obtain⟨d,g,j,i⟩:=B6 a r b;refine⟨d,fun x c=>?_,by omega,fun x c f=>?_⟩
   ·rcases g x c with h|h
    ·exact .inl h
    ·exact .inr ⟨pt _ h.1,h.2⟩
   ·rcases qk.1 c with rfl|c
    ·obtain⟨y,l,n⟩:=aeq.1 k;exact⟨y,d y l,n⟩
    ·exact i x c f
  ·split
   ·rename_i e;obtain⟨d,g,j,i⟩:=B6 a r (b++[m]);refine⟨fun x c=>d x (amI _ c),fun x c=>?_,by simp only[mm,List.length_singleton]at j;omega,fun x c f=>?_⟩
    ·rcases g x c with h|h
     ·rcases ls.1 h with h|h
      ·exact .inl h
      ·simp only[qk,aiD,amy]at h;subst h;exact .inr ⟨u6,e⟩
     ·exact .inr ⟨pt _ h.1,h.2⟩
    ·rcases qk.1 c with rfl|c
     ·exact⟨x,d x (ang _ u6),by simp[jr,JM]⟩
     ·exact i x c f
   ·rename_i e;obtain⟨d,g,j,i⟩:=B6 a r b;refine⟨d,fun x c=>?_,by omega,fun x c f=>?_⟩
    ·rcases g x c with h|h
     ·exact .inl h
     ·exact .inr ⟨pt _ h.1,h.2⟩
    ·rcases qk.1 c with rfl|c
     ·exact absurd f e
     ·exact i x c f
def kC(a:ab):cn→cn→Prop
 | _,[]=>True
 | acc,m::r=>acc.any (jr m)=false∧fQ m.Box a=true∧kC a (acc++[m]) r
theorem VL(a:ab):∀(L b:cn) (m:aA),kC a b L→(b++L).any (jr m)=false→fQ m.Box a=true→kC a b (L++[m])
 | [],b,m,_,c,d=>⟨by simpa using c,d,trivial⟩
 | x::r,b,m,h,c,d=>by
  simp only[kC]at h;simp only[aew,kC];exact⟨h.1,h.2.1,VL a r (b++[x]) m h.2.2 (by simpa[q7]using c) d⟩
theorem BL(a:ab):∀(L b:cn),kC a [] b→kC a [] (fV a b L)
 | [],b,h=>h
 | m::r,b,h=>by
  simp only[fV];split
  ·exact BL a r b h
  ·rename_i c;split
   ·rename_i d;exact BL a r (b++[m]) (VL a b [] m h (by simpa using c) d)
   ·exact BL a r b h
theorem ajX(N:Nat)(b:ab)(F:ae)(g l:Int)(L:cn)(v:L.length≤3000)(z:bL b≤100)(q:6000≤N)(d:Nat)(r:DF d F)(h:d≤150)(t:∀m∈L,bL m.Box≤100):∀(m i:Nat) (a:cn),i≤L.length→L.length<m+i→a.length≤i→(∀x∈a,x∈L) →
  tF (KN (N+1)) (N+1) b (F,g,l,L) m i a=some (F,g,l,fV b a (L.drop i)):=by
 intro m
 induction m with
 | zero=>intro i a n o;omega
 | succ m j =>
  intro i a n o u f;simp only[tF,ER];by_cases e:i<L.length
  ·have p:=fU e;rw[drop_at' e];simp only[eH e,w3,dA e,bc,Int.toNat_natCast,Al,yl,fV];generalize L.getD i default=M at *;rw[ab4 N a M (by omega) q (fun k s=>t k (f k s)),h7,SS (bL b) (N+1) b M.Box (jf _) (by omega) (by omega),eB (by omega)];have skip:=j (i+1) a (by omega) (by omega) (by omega) f;cases w:a.any (jr M) with
   | true =>
    simp only[Do,il,ol,w3];exact skip
   | false =>
    simp only[amf,w3,h7,il,ol];cases y:fQ M.Box b with
    | false =>
     simp only[il,ol];exact skip
    | true =>
     simp only[w3,List.length_singleton];rw[c7 (by omega) (by omega),bc];exact j (i+1) (a++[M]) (by omega) (by omega) (by simp;omega) (fun x c=>by
      rcases ls.1 c with c|c
      ·exact f x c
      ·simp only[qk,aiD,amy]at c;subst c;exact p)
  ·simp only[fd (show L.length≤i by omega),il,ol];rw[Cp d (N+1) F r (by omega),h7,ll (by omega)];rfl
theorem akt{b:ab}(h:GB b):∀k∈b.Kids,(k.Kind=3∧k.Kids=[])∨(k.Style.Position≠2∧GB k):=fun k c=>by
 obtain⟨_,_,_,a⟩:=i7.1 h;rcases a with a|a
 ·exact .inl ⟨a.2.1 k c,a.2.2.2 k c⟩
 ·have:=kT a k c;exact .inr ⟨(i7.1 this).2.1.1,this⟩
theorem G5(p:ib):∀(s N:Nat) (b:ab) (ar:b7),bL b≤s→s<10000→s+2≤N→ar.length+s≤90000→GB b→oV (KN N) N p b ar=some ()
 | 0,_,b,_,h,_,_,_,_=>by have:=gV b;omega
 | s+1,0,_,_,_,_,h,_,_=>by omega
 | s+1,N+1,b,ar,r,t,u,v,i=>by
  have m:=iD b;have f:=Dh b.Kids;refine Vz (KN (N+1)) (N+1) p b ar (by omega) (by omega) (by omega) (fun k e=>?_);have j:=mD e;have l:=gV k;obtain⟨n,d⟩|⟨o,q⟩:=akt i k e
  ·refine⟨.inl n,fun a c=>?_⟩;show oV (KN N) N p k a=some ();exact Vz (KN N) N p k a (by omega) (by rw[d];simp;omega) (by rw[d];simp) (fun x g=>by rw[d]at g;cases g)
  ·exact⟨.inr o,fun a c=>G5 p s N k a (by omega) (by omega) (by omega) (by omega) q⟩
noncomputable section
theorem ahZ(c:ab)(w:GB c)(Q:c.Kind=1)(Z:bL c≤89)(d e:Int):
  ∃(F:ae) (P:hZ),DF (bL c+2) F∧(∀p∈P,p.1∈c.Kids)∧((∃k∈c.Kids,k.Kind≠3)→P.length=c.Kids.length)∧((∀p∈P,GB p.1)∧(∀k∈c.Kids,k.Kind≠3→(k,(ct c.Style d).Content)∈P)∧∀(N:Nat),20200≤N→nP (KN (N+1)) (N+1) c d e (cR (N+1) false false) 0 0 []=some (F,0,0,[])) ∧
   ∀(N:Nat),20200≤N→∀(S:cn) (a b:Int),S.length≤1500→(∀m∈S,gT m)→∃f T,qw (KN (N+1)) (N+1) c d e a b S=some (F,(T.length:Int),f,fV c [] (S++T))∧(∀m∈T,gT m)∧T.length≤bL c∧(∀p∈P,∃m∈S++T,fC p.1 p.2 m=true)∧((∀p∈P,∃m∈S,fC p.1 p.2 m=true)→T=[]∧f=(P.length:Int))∧((∃p∈P,¬ ∃m∈S,fC p.1 p.2 m=true)→0<T.length)∧∀m∈T,bL m.Box<bL c:=by
 obtain⟨P,G,h,v,l⟩:=O4 c Q w (ct c.Style (min (max d 0) 1048576)) (Fl.DR _ _).1 false false;have y:ct c.Style (min (max d 0) 1048576)=ct c.Style d:=by
  unfold ct;rw[show dS (min (max d 0) 1048576)=dS d by unfold dS;omega]
 have Y:=iD c;have X:=h.sz;have V:=HJ P;obtain⟨r,q⟩:=gQ.of (D:=bL c+1) P (fun p g=>by
  have W:=h.good p g;exact⟨by omega,H4 (bL p.1) p.1 p.2 (jf _) (by omega) W.1⟩)
 have E:=gV c;have n:DF (bL c+2) (G r):=h.df r (bL c+1) (by omega) q.len q.df;refine⟨{ (G r)with H:=max (G r).H (min (max e 0) 1048576) },P,uM rfl n,fun p g=>(v p g).1,fun o=>by rw[l o,nw],⟨fun p g=>(h.good p g).1,fun k o R=>by rw[l ⟨k,o,R⟩,y];exact anx o,fun N U=>?_⟩,fun N U S a b hS C=>?_⟩
 ·unfold nP;rw[xR,h7];unfold zG;rw[show _=_ from h.run N (by omega) false false 0 0 []];rw[q.pure (N:=N) (fun p g=>by have:=(h.good p g).2;omega) 0 0 [],h7];simp only[h7];rw[KC (bL c+2) (N+1) (G r) n (by omega),h7,G5 _ (bL c) (N+1) c [] (jf _) (by omega) (by omega) (by simp;omega) w,h7]
 obtain⟨f,T,J,A,e3,K,B,L,M⟩:=PQ q N (fun p g I u t=>Mc (bL p.1) N p.1 p.2 I (jf _) (by have:=(h.good p g).2;omega) (by have:=(h.good p g).2;omega) (h.good p g).1 (h.good p g).2.2 t u) 0 0 S (anH 0) (by omega) (by omega) C;have z:∀m∈S++T,gT m:=fun m i=>by
  rcases ls.1 i with i|i
  ·exact C m i
  ·exact A m i
 refine⟨f,T,?_,A,by omega,K,fun j=>⟨(B j).1,by have:=(B j).2 (anH 0) (by omega);omega⟩,L,fun m i=>by have:=M m i;omega⟩;have O:=ajX N c ({ (G r)with H:=max (G r).H (min (max e 0) 1048576) }:ae) (0+(T.length:Int)) f (S++T) (by simp only[mm];omega) (by omega) (by omega) (bL c+2) (uM rfl n) (by omega) (fun m i=>(z m i).sz) (N+1) 0 [] (tl _) (by simp only[mm];omega) (tl _) (fun x hx=>by cases hx);have s:tF (KN (N+1)) (N+1) c (({ (G r)with H:=max (G r).H (min (max e 0) 1048576) }:ae),0+(T.length:Int),f,S++T) (N+1) 0 []=_:=O;unfold qw oc;rw[h7];unfold nP;rw[xR,h7];unfold zG;rw[show _=_ from h.run N (by omega) true true 0 0 S,J,h7];simp only[h7];rw[KC (bL c+2) (N+1) (G r) n (by omega),h7,G5 _ (bL c) (N+1) c [] (jf _) (by omega) (by omega) (by simp;omega) w,h7,h7,s,If,Int.zero_add]
end
mutual
/-- The blocks' numbers are those of their descriptions. -/
def kw(L:Nat):ab→Prop
 | ⟨k,n,_,_,_,_,a⟩=>k=1→((10≤n∧n<10+L)∧lP L a)
def lP(L:Nat):dO→Prop
 | []=>True
 | b::r=>kw L b∧lP L r
end
theorem W2{L}{b}(h:kw L b)(a:b.Kind=1):(10≤b.Node∧b.Node<10+L)∧lP L b.Kids:=by
 cases b;grind[kw]
theorem FX{L}:∀{l m},lP L l→lP L m→lP L (l++m)
 | [],m,_,h=>h
 | b::r,m,a,c=>by simp only[lP]at a⊢;exact⟨a.1,FX a.2 c⟩
theorem pO{a b:Int}{n:Nat}(c:0≤a)(d:a≤b)(e:b≤n):cD a b n=true:=by grind[cD]
theorem Yy(K:Kn)(n:Nat)(l:d5)(cs:List dL)(A:l.length≤9223372036854775807)(z:cs.length≤9223372036854775807)(x:l.length<n)(g:1<n):∀(m:Nat) (i:Int),0≤i→i≤cs.length→(cs.length:Int)<m+i →
  ∃b,y7 K n l cs m i=some b∧(b=true→(l.length≤12∧0<l.length∧cs.length≤6)∧(∀s∈l,rE s)∧∀k,i.toNat≤k→k<cs.length→rE (cs.getD k default).Spec):=by
 intro m
 induction m with
 | zero=>intro i j t u;omega
 | succ m y =>
  intro i j t u;simp only[y7,CY];by_cases f:i<(cs.length:Int)
  ·rw[kc (decide_eq_true f),dg j f,bc];obtain⟨b,c,a⟩:=SA K n [(cs.getD i.toNat default).Spec] 1 (by simp) (by simpa using g);rw[c,h7];cases b with
   | false=>exact⟨false,rfl,fun h=>by cases h⟩
   | true =>
    obtain⟨q,r,d⟩:=y (i+1) (by omega) (by omega) (by omega);rw[kb (by simp),bN (by omega) (by omega)];refine⟨q,r,fun h=>⟨(d h).1,(d h).2.1,fun k v o=>?_⟩⟩;by_cases e:k=i.toNat
    ·subst e;exact(a rfl).2 _ (by simp)
    ·exact(d h).2.2 k (by omega) o
  ·have w:¬ decide (i<(cs.length:Int))=true:=by simpa using f
   rw[kb w];obtain⟨b,c,a⟩:=SA K n l 12 (by omega) x;rw[c,h7];cases b with
   | false=>exact⟨false,rfl,fun h=>by cases h⟩
   | true =>
    simp only[w3,tf];split
    ·rename_i p;have p:=jt p;refine⟨_,rfl,fun h=>⟨⟨by have:=(a rfl).1;omega,by omega,by have:=jt h;omega⟩,(a rfl).2,fun k v o=>by omega⟩⟩
    ·exact⟨false,rfl,fun h=>by cases h⟩
theorem ajb K n l cs(g:l.length≤9223372036854775807)(f:cs.length≤9223372036854775807)(i:l.length<n)(j:cs.length+1<n):
  ∃b,CW K n l cs=some b∧(b=true→(l.length≤12∧0<l.length∧cs.length≤6)∧(∀s∈l,rE s)∧∀c∈cs,rE c.Spec):=by
 obtain⟨b,e,d⟩:=Yy K n l cs g f i (by omega) n 0 (by omega) (by omega) (by omega);refine⟨b,e,fun h=>⟨(d h).1,(d h).2.1,fun c a=>?_⟩⟩;obtain⟨k,m,rfl⟩:=alF.1 a
 grind
theorem afg k:A1 (KN (k+30)) (k+30)=some true:=by kernel_rfl
theorem ae6 s:(fB s).Text=s.Text:=by grind[fB]
def ahG(l:dO):Prop:=ge l∧(∀q∈l,q.Text.size≤90)∧(∀q∈l,q.Kids=[])
theorem WZ(l:d5)(i:l.length≤1000)(f:∀s∈l,s.Rows=0)(b:ab)(c:Bool)(h:10≤b.Node∧b.Node<10+(l.length:Int)):jE l b b.Kids c=some b:=by
 have e:aa (b.Node-10)=b.Node-10:=bN (by omega) (by omega);have d:aN (aa (b.Node-10)) l.length=true:=by rw[e];exact dg (by omega) (by omega)
 have a:(⟨b.Kind,b.Node,b.Style,b.Text,b.Rows,b.Cols,b.Kids⟩:ab)=b:=by cases b;rfl
 have g:(l.getD (aa (b.Node-10)).toNat default).Rows=0:=f _ (fU (by rw[e];omega));unfold jE;cases c with
 | false=>exact congrArg some a
 | true =>
  simp only[d,bc,g];split
  ·rw[kb (by decide)];exact congrArg some a
  ·exact congrArg some a
mutual
theorem ajl(l:d5)(g:l.length≤1000)(c:∀s∈l,s.Rows=0):∀(m:Nat) (b:ab) (lo:Int),bL b≤m→RB lo b→10≤lo→lo+(bL b:Int)≤10+(l.length:Int)→iB l m b=some b
 | 0,b,_,h,_,_,_=>by have:=gV b;omega
 | m+1,b,lo,h,j,a,o=>by
  have v:=iD b;obtain⟨y,z,A,t,d⟩:=aaa j;have e:kS (iB l m) b.Kids=some b.Kids:=by
   rcases d with d|d
   ·exact Fj _ b.Kids d.1
   ·exact UM l g c m b.Kids (lo+1) (by omega) d (by omega) (by omega)
  simp only[iB,e,h7];exact WZ l g c b _ (by omega)
theorem Fj(f:ab→Option ab):∀(l:dO),ge l→kS f l=some l
 | [],_=>rfl
 | k::r,h=>by
  have e:=Fj f r (fun q u=>h q (pt _ u));have p:=h k u6;have n:¬ ((k.Kind == 1)=true):=by rw[p];decide
  simp only[kS,kb n,e,h7]
theorem UM(l:d5)(g:l.length≤1000)(c:∀s∈l,s.Rows=0):∀(m:Nat) (i:dO) (lo:Int),cZ i≤m→Di lo i→10≤lo→lo+(cZ i:Int)≤10+l.length→kS (iB l m) i=some i
 | m,[],_,_,_,_,_=>rfl
 | m,k::r,lo,h,j,a,o=>by
  simp only[cZ]at h o;have w:=ajl l g c m k lo (by omega) j.1 a (by omega);have x:=UM l g c m r (lo+bL k) (by omega) j.2 (by omega) (by omega)
  grind[kS]
end
theorem Rd:∀{l m:dO},iu l→iu m→iu (l++m)
 | [],m,_,h=>h
 | b::r,m,a,c=>by simp only[aew,iu]at a⊢;exact⟨a.1,Rd a.2 c⟩
def H3(s:aJ):Prop:=s.Style.Position≠2∧s.Text.size≤90
theorem ae9(K:Kn)(n:Nat)(L:d5)(J:L.length≤19)(t:∀s∈L,H3 s)(a:Nat)(g:Bool)(B:g=true→∀i,a<i→i<L.length→∃b e,K.kV L ((i:Nat):Int)=some (b,((e:Nat):Int))∧i<e∧e≤L.length∧bL b≤e - i∧kw L.length b∧b.Kind=1∧GB b):
  ∀(m i:Nat) (c:dO),a<i→i≤L.length→L.length<m+i→cZ c+a<i→lP L.length c→(g=true→iu c)→(g=false→ahG c) →
   ∃b e,nq K n L ((a:Nat):Int) g m ((i:Nat):Int) c=some (b,((e:Nat):Int))∧a<e∧e≤L.length∧bL b≤e - a∧kw L.length b∧b.Kind=1∧GB b∧b.Node=10+(a:Int):=by
 intro m
 induction m with
 | zero=>intro i c _ r z;omega
 | succ m l =>
  intro i c p r z I o k f;have u:=Dh c;have stop:∃b e,mS K n L ((a:Nat):Int) g ((i:Nat):Int) c (nq K n L ((a:Nat):Int) g m) false=some (b,((e:Nat):Int))∧a<e∧e≤L.length∧bL b≤e - a∧kw L.length b∧b.Kind=1∧GB b∧b.Node=10+(a:Int):=by
   simp only[mS,il,ol];refine⟨_,i,rfl,p,r,?_,?_,rfl,?_,bN (by omega) (by omega)⟩
   ·rw[iD];show cZ c+1≤i-a;omega
   ·simp only[kw];refine fun _=>⟨?_,o⟩;rw[bN (by omega) (by omega)];omega
   ·simp only[GB];refine⟨.inl (by first|rfl|trivial),⟨(t _ (fU (by simpa using (show a<L.length by omega)))).1,by first|rfl|trivial⟩,by omega,?_⟩;cases g with
    | true=>exact .inr (k rfl)
    | false=>exact .inl ⟨by first|rfl|trivial,(f rfl).1,(f rfl).2.1,(f rfl).2.2⟩
  simp only[nq,re];by_cases j:i<L.length
  ·simp only[eH j,w3,dA j,bc];cases M:decide ((L.getD ((i:Nat):Int).toNat default).Depth>(L.getD ((a:Nat):Int).toNat default).Depth) with
   | false=>exact stop
   | true =>
    simp only[mS,w3];cases g with
    | true =>
     obtain⟨b,e,v,F,w,G,x,H,y⟩:=B rfl i p j;simp only[w3,v,h7,la,u3];rw[c7 (by omega) (by omega),bc];exact l e (c++[b]) (by omega) w (by omega) (by rw[A5];simp only[cZ];omega) (FX o ⟨x,trivial⟩) (fun _=>Rd (k rfl) ⟨y,trivial⟩) (fun h=>by cases h)
    | false =>
     simp only[il,ol,dA j,bc,la,u3];rw[c7 (by omega) (by omega),bc,eB (by omega)];have A:=(t _ (fU j)).2;refine l (i+1) _ (by omega) (by omega) (by omega) (by rw[A5];simp only[cZ,bL];show cZ c+(cZ []+1+0)+a<i+1;simp only[cZ];omega) (FX o ⟨(by simp only[kw];intro h;exact absurd h (by decide)),trivial⟩) (fun h=>by cases h) (fun _=>?_);obtain⟨C,D,E⟩:=f rfl;refine⟨fun q d=>?_,fun q d=>?_,fun q d=>?_⟩
     ·rcases ls.1 d with d|d
      ·exact C q d
      ·simp only[qk,aiD,amy]at d;subst d;rfl
     ·rcases ls.1 d with d|d
      ·exact D q d
      ·simp only[qk,aiD,amy]at d;subst d;exact A
     ·rcases ls.1 d with d|d
      ·exact E q d
      ·simp only[qk,aiD,amy]at d;subst d;rfl
  ·simp only[fd (show L.length≤i by omega),il,ol];exact stop
theorem Pa(K:Kn)(n:Nat)(L:d5)(j:L.length≤19)(k:∀s∈L,H3 s)(p:L.length+2≤n):∀(d a:Nat),a<L.length→L.length-a≤d→∃b c,kW K n d L ((a:Nat):Int)=some (b,((c:Nat):Int))∧a<c∧c≤L.length∧bL b≤c - a∧kw L.length b∧b.Kind=1∧GB b∧b.Node=10+(a:Int)
 | 0,a,h,m=>by omega
 | d+1,a,h,m=>by
  have f:∀g:Bool,∃b c,nq { K with kV:=kW K n d } n L ((a:Nat):Int) g n ((a+1:Nat):Int) []=some (b,((c:Nat):Int))∧a<c∧c≤L.length∧bL b≤c - a∧kw L.length b∧b.Kind=1∧GB b∧b.Node=10+(a:Int):=fun g =>
   ae9 { K with kV:=kW K n d } n L j k a g (fun _ i y o=>by
    obtain⟨b,c,r,t,u,v,w,q6,x,_⟩:=Pa K n L j k p d i o (by omega);exact⟨b,c,r,t,u,v,w,q6,x⟩) n (a+1) [] (by omega) (by omega) (by omega) (by simp[cZ]) trivial (fun _=>trivial) (fun _=>⟨fun q e=>(by cases e),fun q e=>(by cases e),fun q e=>(by cases e)⟩)
  show ∃b c,o6 { K with kV:=kW K n d } n L ((a:Nat):Int)=some (b,((c:Nat):Int))∧_;unfold o6;simp only[dA h,bc,eB (show a<1000000000 by omega),o4];by_cases l:a+1<L.length
  ·simp only[eH l,w3,dA l,bc];split
   ·exact f _
   ·exact f _
  ·simp only[fd (show L.length≤a+1 by omega),il,ol];exact f _
theorem Mr(l:d5)(b:ab)(g:dO)(c:Bool)(h:10≤b.Node∧b.Node<10+(l.length:Int))(i:l.length≤1000):∃a,jE l b g c=some a∧a.Kids=g∧(a.Style=b.Style∧a.Text=b.Text)∧a.Node=b.Node∧(a.Kind=b.Kind∨(a.Kind=6∧c=true∧b.Node≠10)):=by
 have f:aa (b.Node-10)=b.Node-10:=bN (by omega) (by omega);have e:aN (aa (b.Node-10)) l.length=true:=by rw[f];exact dg (by omega) (by omega)
 unfold jE;cases c with
 | false=>exact⟨_,rfl,rfl,⟨rfl,rfl⟩,rfl,.inl rfl⟩
 | true =>
  simp only[e,bc];split
  ·rename_i d;have d:=jt d;rw[f]at d;split
   ·exact⟨_,rfl,rfl,⟨rfl,rfl⟩,rfl,.inr ⟨rfl,(by first|rfl|trivial),by omega⟩⟩
   ·exact⟨_,rfl,rfl,⟨rfl,rfl⟩,rfl,.inl rfl⟩
  ·exact⟨_,rfl,rfl,⟨rfl,rfl⟩,rfl,.inl rfl⟩
theorem Rq(L:Nat)(f:ab→Option ab):∀(l:dO),lP L l→iu l→(∀k∈l,kw L k→k.Kind=1→GB k→∃a,f k=some a∧bL a=bL k∧GB a)→∃m,kS f l=some m∧cZ m=cZ l∧iu m∧m.length=l.length
 | [],_,_,_=>⟨[],rfl,rfl,trivial,rfl⟩
 | k::r,h,b,d=>by
  simp only[lP]at h;simp only[iu]at b;obtain⟨m,e,p,g,i⟩:=Rq L f r h.2 b.2 (fun q o=>d q (pt _ o));have c:∃a,(if (k.Kind == 1)=true then f k else some k)=some a∧bL a=bL k∧GB a:=by
   split
   ·rename_i c;exact d k u6 h.1 (by simpa using c) b.1
   ·exact⟨k,rfl,rfl,b.1⟩
  obtain⟨a,j,s,n⟩:=c;refine⟨a::m,?_,by simp only[cZ];omega,⟨n,g⟩,by simp[i]⟩;simp only[kS,e,j,h7]
theorem Pi(l:d5)(u:l.length≤1000):∀(m:Nat) (b:ab),bL b≤m→kw l.length b→b.Kind=1→GB b→∃a,iB l m b=some a∧bL a=bL b∧GB a∧a.Node=b.Node∧(b.Node=10→a.Kind=1)
 | 0,b,h,_,_,_=>by have:=gV b;omega
 | m+1,b,h,I,o,H=>by
  obtain⟨z,F⟩:=W2 I o;obtain⟨T,y,D,E⟩:=i7.1 H;have J:=iD b;rcases E with g|G
  ·have p:=Fj (iB l m) b.Kids g.2.1;have i:(b.Kids.any fun k=>k.Kind == 1)=false:=by
    rw[amx];intro k v;rw[g.2.1 k v];decide
   obtain⟨a,w,n,⟨A,s⟩,B,f⟩:=Mr l b b.Kids false z u;have j:a.Kind=1:=by
    rcases f with f|⟨_,f,_⟩
    ·rw[f,o]
    ·cases f
   refine⟨a,?_,by rw[iD,n];omega,?_,B,fun _=>j⟩
   ·simp only[iB,p,h7,i,w]
   ·rw[i7,j,n,A,s];exact⟨.inl rfl,y,D,.inl ⟨rfl,g.2.1,g.2.2.1,g.2.2.2⟩⟩
  ·obtain⟨L,p,w,n,S⟩:=Rq l.length (iB l m) b.Kids F G (fun k v M N O=>by
    obtain⟨K,P,Q,R,_⟩:=Pi l u m k (by have:=mD v;omega) M N O;exact⟨K,P,Q,R⟩)
   obtain⟨a,C,x,⟨q,c⟩,r,d⟩:=Mr l b L (b.Kids.any fun k=>k.Kind == 1) z u;refine⟨a,?_,by rw[iD,x];omega,?_,r,fun t=>?_⟩
   ·simp only[iB,p,h7,C]
   ·rw[i7,x,q,c];refine⟨?_,y,by omega,.inr n⟩;rcases d with e|⟨e,_,_⟩
    ·exact .inl (e.trans o)
    ·exact .inr e
   ·rcases d with e|⟨_,_,e⟩
    ·exact e.trans o
    ·exact absurd t e
theorem acy(K:Kn)(n:Nat)(l:d5)(A:0<l.length)(B:l.length≤19)(D:l.length+2≤n)(t:∀s∈l,s.Text.size≤90):∃b,uY K n l=some b∧bL b≤l.length∧GB b∧b.Kind=1:=by
 have C:(l.map fB).length=l.length:=nw _;have m:∀s∈l.map fB,H3 s:=fun s r=>by
  obtain⟨q,p,rfl⟩:=Dk.1 r;refine⟨?_,by rw[ae6];exact t q p⟩;unfold fB;split
  ·show(0:Int)≠2;decide
  ·rename_i o;simpa using o
 obtain⟨b,u,d,v,w,x,e,f,g,h⟩:=Pa K n (l.map fB) (by omega) m (by omega) n 0 (by omega) (by omega);obtain⟨c,i,y,j,z,k⟩:=Pi (l.map fB) (by omega) n b (by omega) e f g;refine⟨c,?_,by omega,j,k (by simpa using h)⟩;unfold uY;have a:kW K n n (l.map fB) 0=some (b,((u:Nat):Int)):=d;rw[c7 (by omega) (by omega),bc,a,h7];exact i
theorem agJ(N n:Nat)(f:ae)(h:f.Kids.length≤3000)(d:∀k∈f.Kids,(KN N).wF k k=some true):∀(m i:Nat),i≤f.Kids.length→f.Kids.length<m+i→zJ (KN N) n f f m i=some true:=by
 intro m
 induction m with
 | zero=>intro i b c;omega
 | succ m g =>
  intro i b c;simp only[zJ,DY];by_cases a:i<f.Kids.length
  ·simp only[wI a,w3,qA a,bc,Int.toNat_natCast,d _ (fU a),h7,Do,il,ol,AM (show i<1000000 by omega)];exact g (i+1) (by omega) (by omega)
  ·have e:i=f.Kids.length:=by omega
   subst e;simp[C3 (jf _)]
theorem H7:∀(d N n:Nat) (f:ae),DF d f→3000<n→d+3010≤N→oh (KN N) n f f=some true
 | 0,_,_,_,h,_,_=>h.elim
 | d+1,N,n,f,h,e,a=>by
  unfold DF at h;have c:=agJ N n f h.1 (fun k b=>by
   match N,a with
   | N+1,a =>
    show oh (KN N) N k k=some true;exact H7 d N N k (h.2 k b) (by omega) (by omega)) n 0 (by omega) (by have:=h.1;omega)
  unfold oh;simp only[bne_self_eq_false,beq_self_eq_true,Do,il,ol,YY,aj6,iq];exact c
end Go.Proofs.YtocgkfoifehcbaaGreat
namespace Go.Proofs.YtocgkfoifehcbaaGreat.QRelayoutEquals
set_option linter.all false
set_option maxRecDepth 20000
open Go.RowKit
theorem aap(K:Kn)(n:Nat)(l:d5)(c:dL)(B:0<l.length)(D:l.length≤100)(p:0≤c.At∧c.At<256)(t:Nat)(x:t≤1000)(o:∀s∈l,s.Text.size≤t)(C:c.Spec.Text.size≤t):∃l',xE K n l c=some l'∧0<l'.length∧l'.length≤l.length+1∧∀s∈l',s.Text.size≤t+1:=by
 have d:∀s∈l,s.Text.size≤t+1:=fun s b=>by have:=o s b;omega
 have g:c.Spec.Text.size≤t+1:=by omega
 unfold xE;simp only[Dy,u3,DO,List.length_singleton,mm,la];rw[c7 (by omega) (by omega),bc];by_cases m:(l.length:Int)<2
 ·rw[kc (decide_eq_true m),dg (by omega) (by omega),bc,c7 (by omega) (by omega),bc];refine⟨_,rfl,by simp,by simp,fun s b=>?_⟩;rcases ls.1 b with b|b
  ·exact d s b
  ·simp only[qk,aiD,amy]at b;subst b;exact tl _
 ·have u:¬ decide ((l.length:Int)<2)=true:=by simpa using m
  rw[kb u];have y:aa ((l.length:Int)-1)=(l.length:Int)-1:=bN (by omega) (by omega);have z:aa c.At=c.At:=bN (by omega) (by omega);have v:=Int.tmod_nonneg ((l.length:Int)-1) p.1;have w:=Int.tmod_lt_of_pos c.At (show 0<(l.length:Int)-1 by omega);rw[y,z,bN (by omega) (by omega)];have j:(((l.length:Int)-1) != 0)=true:=by simp[bne];omega
  rw[j,bc,h7];generalize q:1+c.At.tmod ((l.length:Int)-1)=at_ at *;obtain⟨a,rfl⟩:∃a:Nat,at_=(a:Int):=⟨at_.toNat,by omega⟩;have h:1≤a:=by omega
  have e:a<l.length:=by omega
  have A:aa ((a:Int)+1)=((a+1:Nat):Int):=eB (by omega);have f:=o _ (fU (L:=l) (i:=((a:Nat):Int).toNat) (by simpa using e));simp only[dA e,bc,h7,yH,A];split
  ·refine⟨_,rfl,by simp;omega,by simp,fun s b=>?_⟩;rcases alZ b with b|b
   ·exact d s b
   ·subst b;show c.Spec.Text.size≤t+1;omega
  ·split
   ·have k:(⟨#[120]⟩:ByteArray).size=1:=rfl;have b:tL (l.getD ((a:Nat):Int).toNat default).Text (⟨#[120]⟩:ByteArray)=true:=by
     unfold tL;have:=f;rw[k];exact decide_eq_true (by omega)
    rw[b,bc];refine⟨_,rfl,by simp;omega,by simp,fun s b=>?_⟩;rcases alZ b with b|b
    ·exact d s b
    ·subst b;have:=f;show((l.getD ((a:Nat):Int).toNat default).Text++(⟨#[120]⟩:ByteArray)).size≤t+1;rw[ByteArray.size_append,k];omega
   ·split
    ·rw[pO (by omega) (by omega) (by omega),bc,pO (by omega) (by omega) (by omega),bc];simp only[Int.toNat_natCast,show(0:Int).toNat=0 from rfl,alH];have r:(Nat.ble 1 a&&(Nat.ble a (a+1)&&Nat.ble (a+1+(l.length-(a+1))) l.length))=true:=by
      simp only[h8];exact⟨alM h,alM (by omega),alM (by omega)⟩
     rw[r,bc];refine⟨_,rfl,by rw[mm,IN];omega,by rw[mm,IN,IN,agk];omega,fun s b=>d s ?_⟩;rcases ls.1 b with b|b
     ·exact oR b
     ·exact v9 (oR b)
    ·rw[pO (by omega) (by omega) (by omega),bc];simp only[Int.toNat_natCast,show(0:Int).toNat=0 from rfl,If,IN,agk];rw[c7 (by omega) (by omega),bc,c7 (by omega) (by omega),bc,pO (by omega) (by omega) (by omega),bc,c7 (by omega) (by omega),bc];refine⟨_,rfl,by simp;omega,by simp;omega,fun s b=>?_⟩;rcases ls.1 b with b|b
     ·rcases ls.1 b with b|b
      ·exact d s (oR b)
      ·simp only[qk,aiD,amy]at b;subst b;exact g
     ·exact d s (oR (v9 b))
theorem I2:∀d,(cR d false false).Layout.dX=true∧(cR d false false).Widths.dX=true∧(cR d false false).Lines.dX=true∧(cR d false false).Spread.dX=true
 | 0=>⟨rfl,rfl,rfl,rfl⟩
 | d+1=>by
  obtain⟨a,b,c,e⟩:=I2 d;refine⟨?_,?_,?_,?_⟩<;>simp only[cR,Fv.dX,a,b,c,e,amf,amL]
theorem aj4{N:Nat}{a:ab}{w h:Int}{F:ae}(H:nP (KN N) N a w h (cR N false false) 0 0 []=some (F,0,0,[])):yR (KN N) N a w h=some F:=by
 unfold yR oc;rw[h7,(I2 N).1,bc,H];rfl
theorem adK(N:Nat)(h:20300≤N)(s:bh)(j:s.List.length≤3000)(e:∀m∈s.List,gT m):∀(m i:Nat),i≤s.List.length→s.List.length<m+i→zl (KN (N+1)) (N+1) s (cR (N+1) false false) m (i:Int)=some true:=by
 intro m
 induction m with
 | zero=>intro i c d;omega
 | succ m f =>
  intro i c d;simp only[zl,A9];by_cases b:i<s.List.length
  ·have a:=e _ (fU b);simp only[eH b,w3,dA b,bc,Int.toNat_natCast];generalize s.List.getD i default=M at *;have k:=a.sz;have g:(KN (N+1)).dp (cR (N+1) false false).Layout M.Box M.Width 0 0 []=some (M.Fragment,0,0,[]):=a.pure N (by omega) 0 0 [];rw[(I2 (N+1)).1,bc,g,MO,h7,H7 _ (N+1) (N+1) _ a.df (by omega) (by omega),h7];simp only[Do,il,ol];rw[eB (by omega)];exact f (i+1) (by omega) (by omega)
  ·simp only[fd (show s.List.length≤i by omega),il,ol]
theorem Xm(N:Nat)(a:20300≤N)(s:bh)(b:s.List.length≤3000)(c:∀m∈s.List,gT m):wA (KN (N+1)) (N+1) s=some true:=by
 unfold wA oc;rw[h7];exact adK N a s b c (N+1) 0 (tl _) (by omega)
theorem IP(b:ab):∀(L a:cn),kC b a L→∀k,k<L.length→(a++L.take k).any (jr (L.getD k default))=false∧fQ (L.getD k default).Box b=true
 | [],_,_,k,h=>by simp at h
 | m::r,a,h,0,_=>by
  simp only[kC]at h;exact⟨by rw[alL,Ts];exact h.1,h.2.1⟩
 | m::r,a,h,k+1,c=>by
  simp only[kC]at h;have:=IP b r (a++[m]) h.2.2 k (by simpa using c);simpa[q7]using this
section
variable(N:Nat)(d:20300≤N)(cs:List dL)(sz:V2 Int)(L:d5)(i w:Int)(a:ab)(R:ae×Int×Int×dt)(f:R.2.2.2.length≤3000)(c:∀x∈R.2.2.2,bL x.Box≤100)(g:bL a≤100)(b:kC a [] R.2.2.2)(C:d5→Int→Int→Int→Int→dt→Option Bool)
include d f c b
theorem adb(k:Nat)(r:k<R.2.2.2.length)(D:Int→Option Bool):∀(m j:Nat),j≤k→k<m+j→w7 (KN (N+1)) (N+1) cs sz L i a w R (k:Int) C D m (k:Int) (j:Int)=D (aa ((k:Int)+1)):=by
 intro m
 induction m with
 | zero=>intro j h l;omega
 | succ m s =>
  intro j h l;simp only[w7,C4];by_cases f:j<k
  ·have g:=s (j+1) (by omega) (by omega);have e:=(IP a _ [] b k r).1;rw[Dy,amx]at e;have d:j<R.2.2.2.length:=by omega
   have n:=e (R.2.2.2.getD j default) (by
    rw[List.getD_eq_getElem?_getD,iN d];exact List.mem_take_iff_getElem.2 ⟨j,by omega,rfl⟩)
   have t:=c _ (fU d);simp only[eH f,w3,Int.toNat_natCast,show(0:Int).toNat=0 from rfl,alH,DO,dA f,bc,decide_eq_true d,h7];generalize R.2.2.2.getD j default=X at *;generalize R.2.2.2.getD k default=M at *;cases o:(X.Width == M.Width) with
   | false =>
    simp only[il,ol,vf];rw[eB (by omega)];exact g
   | true =>
    have p:eJ X.Box M.Box=false:=by
     cases q:eJ X.Box M.Box with
     | false=>rfl
     | true=>exact absurd (by simp[jr,o,q]) n
    simp only[w3];rw[Lg (bL X.Box) (N+1) X.Box M.Box (jf _) (by omega) (by omega),h7,p];simp only[il,ol,vf];rw[eB (by omega)];exact g
  ·simp only[fd (show k≤j by omega),il,ol]
include g
theorem Xw(g:rp (KN (N+1)) (N+1) cs sz L i a w R C (fun _=>none) (R.2.2.2.length:Int)=some true):∀(m k:Nat),k≤R.2.2.2.length→R.2.2.2.length<m+k→pN (KN (N+1)) (N+1) cs sz L i a w R C m (k:Int)=some true:=by
 intro m
 induction m with
 | zero=>intro k l n;omega
 | succ m p =>
  intro k l n;by_cases h:k<R.2.2.2.length
  ·have q:=p (k+1) (by omega) (by omega);have o:=(IP a _ [] b k h).2;have j:=adb N d cs sz L i w a R f c b C k h (pN (KN (N+1)) (N+1) cs sz L i a w R C m) (N+1) 0 (tl _) (by omega);simp only[pN,rp];simp only[eH h,w3,dA h,bc,Int.toNat_natCast];rw[Uk (bL a) (N+1) a _ (jf _) (by omega) (by omega),h7,o];simp only[Do,il,ol,show(0:Int).toNat=0 from rfl,alH];rw[pO (by omega) (by omega) (by omega),bc];rw[show((0:Nat):Int)=0 from rfl]at j;rw[j,eB (by omega)];exact q
  ·have e:k=R.2.2.2.length:=by omega
   subst e;simp only[pN,rp,fd (jf _),il,ol]at g⊢;exact g
end
theorem agn(N:Nat)(y:20300≤N)(cs:List dL)(R:cs.length≤6)(p:∀c∈cs,0≤c.At∧c.At<256)(r:∀c∈cs,c.Spec.Text.size≤60)(sz:V2 Int):∀(m i:Nat) (L:d5) (w a b:Int) (S:cn),i≤cs.length+1→cs.length+1<m+i→0<L.length→L.length≤12+i→(∀s∈L,s.Text.size≤60+i)→S.length≤100*i→(∀x∈S,gT x) →
  qz (KN (N+1)) (N+1) cs sz m L w ((i:Nat):Int) a b S=some true:=by
 intro m
 induction m with
 | zero=>intro i L w a b S _ h;omega
 | succ m A =>
  intro i L w a b S h1 h2 n h4 o h6 v;simp only[qz,BH];by_cases hi:i≤cs.length
  ·obtain⟨d,U,t2,V,W⟩:=acy (KN (N+1)) (N+1) L n (by omega) (by omega) (fun s k=>by have:=o s k;omega);rw[kc (decide_eq_true (by omega:(i:Int)≤(cs.length:Int))),U,h7];have key:∀w,vu (KN (N+1)) (N+1) cs sz L (i:Int) a b S d (qz (KN (N+1)) (N+1) cs sz m) w=some true:=fun w=>by
    obtain⟨F,P,C,_,_,⟨_,_,D⟩,j⟩:=ahZ d V W (by omega) w sz.a1;obtain⟨u,T,E,G,X,_⟩:=j N (by omega) S a b (by omega) v;obtain⟨Y,H,I,_⟩:=B6 d (S++T) [];have l:∀x∈fV d [] (S++T),gT x:=fun x t=>by
     rcases H x t with h|h
     ·cases h
     ·rcases ls.1 h.1 with h|h
      ·exact v x h
      ·exact G x h
    simp only[u3,mm]at I;unfold vu;rw[E,h7,aj4 (D N (by omega)),h7,H7 (bL d+2) (N+1) (N+1) F C (by omega) (by omega),h7];simp only[Do,il,ol];rw[Xm N y _ (by show(fV d [] (S++T)).length≤_;omega) l,h7];simp only[Do,zS,il,ol];refine Xw N y cs sz L (i:Int) w d (F,(T.length:Int),u,fV d [] (S++T)) (by show(fV d [] (S++T)).length≤_;omega) (fun x t=>(l x t).sz) (by omega) (BL d (S++T) [] trivial) _ ?_ (N+1) 0 (tl _) (by show(fV d [] (S++T)).length<_;omega);simp only[rp,fd (jf _),il,ol,Ae];have e:(fV d [] (S++T)).length≤100*(i+1):=by omega
    by_cases g:i<cs.length
    ·have z:=fU g;simp only[eH g,w3,dA g,bc,Int.toNat_natCast];obtain⟨B,J,K,Z,M⟩:=aap (KN (N+1)) (N+1) L (cs.getD i default) n (by omega) (p _ z) (60+i) (by omega) o (by have:=r _ z;omega);rw[J,h7,eB (by omega)];split
     ·rfl
     ·exact A (i+1) B _ _ _ _ (by omega) (by omega) K (by omega) (fun s k=>by have:=M s k;omega) e l
    ·simp only[fd (show cs.length≤i by omega),il,ol];rw[eB (by omega)];exact A (i+1) L _ _ _ _ (by omega) (by omega) n (by omega) (fun s k=>by have:=o s k;omega) e l
   have f:∀q,uE (KN (N+1)) (N+1) cs sz L (i:Int) a b S w d (qz (KN (N+1)) (N+1) cs sz m) q=some true:=fun q=>by
    unfold uE;split<;>exact key _
   split
   ·rename_i O;have Q:(0:Int)<(i:Int):=jt O;rw[bN (by omega) (by omega),dg (by omega) (by omega),bc];exact f _
   ·exact f _
  ·rw[kb (by simp;omega)]
theorem YP{c:dL}(h:cS Tryz.prog 39 (dw c)):0≤c.At∧c.At<256:=by
 have d:=h.gen;rw[Tryz.underlying39]at d;obtain⟨parts,b,a,j⟩:=d;have a:parts.length=3:=a;obtain⟨l,m,f,i⟩:=cO a;subst f;obtain⟨n,rfl,k⟩:=(j 0 _ l rfl rfl).int_inv Tryz.underlying5;have e:(dw c).head?=some (.int .u8 n):=by rw[b];rfl
 have g:(dw c).head?=some (.int .u8 c.At):=by kernel_rfl
 rw[g]at e;injection e with e;injection e with _ e
 rw[e];have:0≤n∧n≤255:=by simpa[Lit.wf,IntKind.min,IntKind.max,IntKind.signed,IntKind.bits]using k
 omega
theorem holds(d:d5)(a:List dL)(f:V2 Int)(z:cS Tryz.prog 22 ((t6 aK) d))(A:cS Tryz.prog 23 ((t6 dw) a))(H:cS Tryz.prog 24 (jN (ak .i64) f)):∃n,Ep (KN n) n d a f=some true:=by
 obtain⟨l,m,C,_⟩:=z.sl_inv Tryz.underlying22;simp only[t6,ald,AV.sl.injEq,and_true]at m;have o:l.length=d.length:=by rw[←m,nw]
 have D:l.length≤9223372036854775807:=C;obtain⟨q,e,k,_,i⟩:=A.sl_inv Tryz.underlying23;simp only[t6,ald,AV.sl.injEq,and_true]at e;have j:q.length=a.length:=by rw[←e,nw]
 have p:q.length≤9223372036854775807:=k;have g:∀c∈a,0≤c.At∧c.At<256:=fun c h=>YP (i _ (by rw[←e];exact anx h));refine⟨d.length+a.length+20400+30,?_⟩;unfold Ep;rw[afg (d.length+a.length+20400),h7];obtain⟨N,B⟩:∃N,d.length+a.length+20400+30=N+1:=⟨d.length+a.length+20429,by omega⟩;rw[B];obtain⟨b,r,t⟩:=ajb (KN (N+1)) (N+1) d a (by omega) (by omega) (by omega) (by omega);rw[r,h7];cases b with
 | false=>rfl
 | true =>
  obtain⟨⟨G,u,y⟩,v,w⟩:=t rfl;simp only[Do,il,ol];exact agn N (by omega) a y g (fun c h=>by have:=(w c h).text;omega) f (N+1) 0 d f.a0 0 0 [] (by omega) (by omega) u (by omega) (fun s E=>by have:=(v s E).text;omega) (tl _) (fun x F=>by cases F)
end Go.Proofs.YtocgkfoifehcbaaGreat.QRelayoutEquals
