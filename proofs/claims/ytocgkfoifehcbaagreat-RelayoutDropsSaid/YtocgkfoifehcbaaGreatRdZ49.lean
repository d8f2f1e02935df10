/- Layer 22, plain: the loops of a row, with what they hand on. No program in sight. -/
import Derived.Test.YtocgkfoifehcbaaGreatRdZ48
import Derived.Test.YtocgkfoifehcbaaGreatRdGop
namespace Go.Proofs.YtocgkfoifehcbaaGreat
set_option linter.all false
open Go.RowKit
open Fl
abbrev f6:=List R4
def akQ:=@List.filter_eq_self
def alM:=@Bool.not_false
def al9:=@ByteArray.toList.loop.eq_1
def amg:=@List.mem_of_find?_eq_some
def amo:=@List.any_eq_false
def amH:=@List.find?_cons
def iY(c:Int)(L:d6):Nat→ck→io
 | _,[]=>[]
 | j,z::Z=>(oN (L.getD j default) z,c)::iY c L (j+1) Z
def jo(ED:ck):Nat→ck→List eq
 | _,[]=>[]
 | j,z::Z=>(z,ED.getD j default)::jo ED (j+1) Z
theorem FB(c:Int)(L:d6):∀(Z:ck) (j:Nat),(iY c L j Z).length=Z.length
 | [],j=>rfl
 | z::Z,j=>by simp only[iY,ls,FB c L Z]
theorem Fr(ED:ck):∀(Z:ck) (j:Nat),(jo ED j Z).length=Z.length
 | [],j=>rfl
 | z::Z,j=>by simp only[jo,ls,Fr ED Z]
theorem SF{c:Int}{L:d6}:∀{Z:ck} {j:Nat} {p:ab×Int},j+Z.length≤L.length→p∈iY c L j Z→p.2=c∧∃k∈L,∃z,p.1=oN k z
 | [],j,p,_,h=>by cases h
 | z::Z,j,p,a,h=>by
  simp only[ls]at a;simp only[iY,ol]at h;rcases h with rfl|h
  ·exact⟨rfl,_,fp (show j<L.length by omega),z,rfl⟩
  ·exact SF (by omega) h
abbrev NW:=Int→Int→dn→Int→Int→cd→Option (dn×Int×Int×Int×cd)
theorem afO(K:Kn)(n:Nat)(c:Int)(env:bz)(L:d6)(l:em)(ED ST:ck)(y:Int)(k:Nat)(Z:ck)(j:NW)(a:Nat)(g:ST.getD k default=(a:Int))(z:a+Z.length≤L.length)(v:ED.length=L.length)(A:L.length≤1000):
  ∀(m i:Nat) (x h:Int) (d:dn) (e f:Int) (S:cd),i≤Z.length→Z.length<m+i→d.length+(Z.length-i)≤5000→pC K n c env L l ED ST y (k:Int) Z j m x h (i:Int) d e f S =
   (c9 (fun b w=>K.dr env.Layout b w) (iY c L (a+i) (Z.drop i)) e f S).bind fun r=>j (aa (y+(jG y (jo ED (a+i) (Z.drop i)) r.1 (x,h,d)).2.1)) (aa ((k:Int)+1)) (jG y (jo ED (a+i) (Z.drop i)) r.1 (x,h,d)).2.2 r.2.1 r.2.2.1 r.2.2.2:=by
 intro m
 induction m with
 | zero=>intro i x h d e f S p s;omega
 | succ m t =>
  intro i x h d e f S p s u;simp only[pC,xK];by_cases hi:i<Z.length
  ·have o:aa ((a:Int)+(i:Int))=((a+i:Nat):Int):=by rw[bK (by omega) (by omega)];omega
   rw[drop_at' hi];simp only[iY,jo,c9];simp only[eC hi,AT,dv hi,ba,Int.toNat_natCast,g,o,dv (show a+i<L.length by omega),dv (show a+i<ED.length by omega),af0,iN];cases B:K.dr env.Layout (oN (L.getD (a+i) default) (Z.getD i default)) c e f S with
   | none=>rfl
   | some q =>
    simp only[iN,Jd,PS,List.length_singleton];rw[dc (by omega) (by omega),ba,dL (by omega),t (i+1) _ _ _ _ _ _ (by omega) (by omega) (by rw[ne];simp only[List.length_singleton];omega)];rw[show a+(i+1)=a+i+1 by omega];cases c9 (fun b w=>K.dr env.Layout b w) (iY c L (a+i+1) (Z.drop (i+1))) q.2.1 q.2.2.1 q.2.2.2 with
    | none=>rfl
    | some r=>rfl
  ·simp only[eh (show Z.length≤i by omega),jf,pt];rw[mo (by omega)];rfl
def gp:Int→ck→Int
 | s,[]=>s
 | s,e::r=>gp (aa (s-e)) r
theorem Ox{B:Int}(a:0≤B∧B≤1073741824):∀(l:ck) (s A:Int),Small B l → -A≤s∧s≤A→A+l.length*B≤1125899906842624 → -(A+l.length*B)≤gp s l∧gp s l≤A+l.length*B
 | [],s,A,_,c,_=>by simpa[gp]using c
 | e::r,s,A,b,c,f=>by
  have i:=b e tl;have d:(((e::r).length:Nat):Int)*B=r.length*B+B:=by simp[amP]
  rw[d]at f⊢;have h:=ak7 (show(0:Int)≤(r.length:Int) by omega) a.1;have:=Ox a r (aa (s-e)) (A+B) (fun x g=>b x (oR _ g)) (by rw[bK (by omega) (by omega)];omega) (by omega);simp only[gp];omega
def dU{α:Type}(l:List α)(a b:Nat):List α:=List.drop a (List.take b l)
theorem Gn{α:Type}(l:List α){a b:Nat}(h:a≤b)(c:b≤l.length):(dU l a b).length=b-a:=by unfold dU;simp;omega
theorem ah6(K:Kn)(n:Nat)(c:Int)(env:bz)(L:d6)(b:em)(ED ST:ck)(y:Int)(k:Nat)(a:dn)(g h:Int)(S:cd)(e:Int)(f:NW)(G:ck)(p:G.length≤1000):∀(m j:Nat) (s:Int),j≤G.length→G.length<m+j →
  rD K n c env L b ED ST y (k:Int) a g h S e f m s G (G.length:Int) (j:Int)=aE (cF (ST.getD k default) e b.length) ((jy K n (List.drop (ST.getD k default).toNat (List.take e.toNat b)) (gp s (G.drop j))).bind fun Z=>pC K n c env L b ED ST y (k:Int) Z f n 0 0 0 a g h S):=by
 intro m
 induction m with
 | zero=>intro j s i l;omega
 | succ m o =>
  intro j s i l;simp only[rD,yo];by_cases d:j<G.length
  ·rw[drop_at' d];simp only[eC d,AT,dv d,ba,Int.toNat_natCast,gp];rw[dL (by omega)];exact o (j+1) _ (by omega) (by omega)
  ·simp only[eh (show G.length≤j by omega),jf,pt,Int.toNat_natCast];rw[show G.drop j=[] from mo (by omega)];rfl
def oA(c:Int)(n:Nat)(a:em)(ED ST:ck)(k:Nat):Nat×ck :=
 (((ST++[(n:Int)]).getD k default).toNat,Rs.resolve (dU a ((ST++[(n:Int)]).getD k default).toNat ((ST++[(n:Int)]).getD (k+1) default).toNat) (gp c (dU ED ((ST++[(n:Int)]).getD k default).toNat ((ST++[(n:Int)]).getD (k+1) default).toNat)))
def ip(c:Int)(n:Nat)(a:em)(ED ST:ck):Nat→Nat→List (Nat×ck)
 | _,0=>[]
 | k,m+1=>oA c n a ED ST k::ip c n a ED ST (k+1) m
def gM(c:Int)(L:d6):List (Nat×ck)→io
 | []=>[]
 | l::a=>iY c L l.1 l.2++gM c L a
def i9(ED:ck):List (Nat×ck)→dn→Int→dn→dn×Int
 | [],_,y,a=>(a,y)
 | l::b,r,y,a=>i9 ED b (r.drop l.2.length) (aa (y+(jG y (jo ED l.1 l.2) (r.take l.2.length) (0,0,a)).2.1)) (jG y (jo ED l.1 l.2) (r.take l.2.length) (0,0,a)).2.2
theorem ajN{B:Int}{l:ck}(h:Small B l)(a b:Nat):Small B (dU l a b):=fun x c=>h x (u6 (OR c))
theorem Vg{α:Type}{l:List α}{x d:α}{k:Nat}(h:k<l.length):(l++[x]).getD k d=l.getD k d:=by
 rw[List.getD_eq_getElem?_getD,List.getD_eq_getElem?_getD,zt h]
theorem UO{α:Type}{l:List α}{x d:α}{k:Nat}(h:k=l.length):(l++[x]).getD k d=x:=by
 subst h;simp[List.getD_eq_getElem?_getD]
theorem abq(N:Nat)(R:20010≤N)(c:Int)(hc:0≤c∧c≤8388608)(env:bz)(L:d6)(hl:L.length≤19)(e:em)(ED ST:ck)(hI:e.length=L.length)(Q:ED.length=L.length)(A:Small 6291456 ED)(o:St L.length ST):
  ∀(m k:Nat) (y:Int) (f:dn) (g h:Int) (S:cd),k≤ST.length→ST.length<m+k→f.length≤20*k→iZ (KN N) N c env L e ED ST m y (k:Int) f g h S =
   (c9 (fun b w=>(KN N).dr env.Layout b w) (gM c L (ip c L.length e ED ST k (ST.length-k))) g h S).bind fun r=>some ((i9 ED (ip c L.length e ED ST k (ST.length-k)) r.1 y f).1,(i9 ED (ip c L.length e ED ST k (ST.length-k)) r.1 y f).2,r.2.1,r.2.2.1,r.2.2.2):=by
 have T:=o.len;intro m
 induction m with
 | zero=>intro k y f g h S O P;omega
 | succ m W =>
  intro k y f g h S O P Z;simp only[iZ,xl];by_cases u:k<ST.length
  ·obtain⟨a,d,H,t,I,Y⟩:=o.get k u;have j:ST.getD k default=(a:Int):=by rw[←Vg (x:=(L.length:Int)) u];exact H
   have U:oA c L.length e ED ST k=(a,Rs.resolve (dU e a d) (gp c (dU ED a d))):=by unfold oA;rw[H,t];rfl
   have s:(dU ED a d).length=d-a:=Gn ED I (by omega);have E:(dU e a d).length=d-a:=Gn e I (by omega);have C:=Ox (B:=6291456) (by omega) (dU ED a d) c 8388608 (ajN A a d) (by omega) (by rw[s];omega);have J:(Rs.resolve (dU e a d) (gp c (dU ED a d))).length=d-a:=by rw[Rs.Ib,E]
   have p:aa ((k:Int)+1)=((k+1:Nat):Int):=dL (by omega);have X:mY (KN N) N c env L e ED ST y (k:Int) f g h S (iZ (KN N) N c env L e ED ST m) (d:Int) =
     (c9 (fun b w=>(KN N).dr env.Layout b w) (iY c L a (Rs.resolve (dU e a d) (gp c (dU ED a d)))) g h S).bind fun r=>iZ (KN N) N c env L e ED ST m (aa (y+(jG y (jo ED a (Rs.resolve (dU e a d) (gp c (dU ED a d)))) r.1 (0,0,f)).2.1)) ((k+1:Nat):Int) (jG y (jo ED a (Rs.resolve (dU e a d) (gp c (dU ED a d)))) r.1 (0,0,f)).2.2 r.2.1 r.2.2.1 r.2.2.2:=by
    unfold mY;simp only[Int.toNat_natCast,j];rw[show cF (a:Int) (d:Int) ED.length=true by simp[cF];omega,ba];have K:=ah6 (KN N) N c env L e ED ST y k f g h S (d:Int) (iZ (KN N) N c env L e ED ST m) (dU ED a d) (by omega) N 0 c (u4 _) (by omega);have v:rD (KN N) N c env L e ED ST y (k:Int) f g h S (d:Int) (iZ (KN N) N c env L e ED ST m) N c (List.drop a (List.take d ED)) ((List.drop a (List.take d ED)).length:Int) 0=_:=K;rw[v,j];simp only[Int.toNat_natCast,DO];rw[show cF (a:Int) (d:Int) e.length=true by simp[cF];omega,ba];have M:=Rs.nt (n:=N) (lvl:=N) (dU e a d) (sp:=gp c (dU ED a d)) (by omega) (by rw[s]at C;omega) (by omega) R;have z:jy (KN N) N (List.drop a (List.take d e)) (gp c (dU ED a d))=_:=M;rw[z,iN];have G:=afO (KN N) N c env L e ED ST y k (Rs.resolve (dU e a d) (gp c (dU ED a d))) (iZ (KN N) N c env L e ED ST m) a j (by rw[J];omega) Q (by omega) N 0 0 0 f g h S (u4 _) (by omega) (by omega)
    rw[p,ak5,DO]at G;exact G
   have F:(if (decide (aa ((k:Int)+1)<(ST.length:Int)))=true then
     aE (aO (aa ((k:Int)+1)) ST.length) (mY (KN N) N c env L e ED ST y (k:Int) f g h S (iZ (KN N) N c env L e ED ST m) (ST.getD (aa ((k:Int)+1)).toNat default))
     else mY (KN N) N c env L e ED ST y (k:Int) f g h S (iZ (KN N) N c env L e ED ST m) (L.length:Int))=mY (KN N) N c env L e ED ST y (k:Int) f g h S (iZ (KN N) N c env L e ED ST m) (d:Int):=by
    rw[p];by_cases l:k+1<ST.length
    ·rw[lp (eC l),dv l,ba,Int.toNat_natCast,← Vg (x:=(L.length:Int)) l,t]
    ·rw[eh (show ST.length≤k+1 by omega),kc (by simp)];rw[UO (by omega)]at t;rw[t]
   simp only[eC u,AT,dv u,ba,iN];rw[F,X,show ST.length-k=(ST.length-(k+1))+1 by omega];simp only[ip,gM,i9,U];rw[Ux];cases V:c9 (fun b w=>(KN N).dr env.Layout b w) (iY c L a (Rs.resolve (dU e a d) (gp c (dU ED a d)))) g h S with
   | none=>rfl
   | some r =>
    have i:=wJ V;rw[FB]at i;simp only[iN];have D:=Gt y (jo ED a (Rs.resolve (dU e a d) (gp c (dU ED a d)))) r.1 (0,0,f) (by rw[Fr,i]);rw[W (k+1) _ _ _ _ _ (by omega) (by omega) (by rw[D.1,i,J];simp only;omega)];cases c9 (fun b w=>(KN N).dr env.Layout b w) (gM c L (ip c L.length e ED ST (k+1) (ST.length-(k+1)))) r.2.1 r.2.2.1 r.2.2.2 with
    | none=>rfl
    | some q =>
     simp only[iN];rw[←i,List.take_left,amM]
  ·simp only[eh (show ST.length≤k by omega),jf,pt];rw[show ST.length-k=0 by omega];rfl
end Go.Proofs.YtocgkfoifehcbaaGreat
namespace Go.Proofs.YtocgkfoifehcbaaGreat
set_option linter.all false
open Go.RowKit
namespace Fl
open QSort (wn cD di dd qW pT sb)
open Fw
def eM(W:ab→Int×Int)(c:Int)(k:ab):bC:=⟨eH k.Style.Basis c (eH k.Style.Width c (aa ((W k).2-gV (fO k.Style 0 0)))),k.Style.Grow,k.Style.Shrink,eH k.Style.MinWidth c 0,eH k.Style.MaxWidth c 1048576⟩
def dQ(c:Int)(k:ab):Int:=gV (fO k.Style c 0)
def iA(W:ab→Int×Int)(c:Int)(k:ab):Int:=Rs.hyp (eM W c k)+dQ c k
theorem PM(W:ab→Int×Int)(c:Int)(k:ab): -6291456≤iA W c k∧iA W c k≤7340032:=by
 have a:=Rs.Gi (eM W c k);have b:=JM k.Style c;unfold iA dQ;omega
theorem K5{α β:Type}[Inhabited α][Inhabited β](f:α→β){l:List α}{k:Nat}(a:k<l.length):(l.map f).getD k default=f (l.getD k default):=by
 rw[bN (by simpa using a),ald,bN a]
instance:Inhabited bC:=⟨jP⟩
section
variable(K:Kn)(n:Nat)(L:d6)(f:L.length≤19)(c:Int)(W:ab→Int×Int)(env:bz)(a d:Int)(S:cd)(e:∀k∈L,K.gy env.Widths k=some (W k))
include f e
theorem W6(b:ab):∀(m i:Nat),i≤L.length→L.length<m+i →
  oW K n b c env a d S L m (i:Int) (mix i (L.map (eM W c)) (List.replicate L.length jP)) (mix i (L.map (dQ c)) (List.replicate L.length 0)) (mix i (L.map (iA W c)) (List.replicate L.length 0)) =
  if b.Style.Wrap=true then (rh K n (L.map (iA W c)) c).bind fun f=>mg K n c env a d S L (L.map (eM W c)) (L.map (dQ c)) f else mg K n c env a d S L (L.map (eM W c)) (L.map (dQ c)) [0]:=by
 have k:(L.map (eM W c)).length=(List.replicate L.length jP).length:=by simp
 have g:(L.map (dQ c)).length=(List.replicate L.length (0:Int)).length:=by simp
 have l:(L.map (iA W c)).length=(List.replicate L.length (0:Int)).length:=by simp
 have w:(List.replicate L.length jP).length=L.length:=by simp
 have o:(List.replicate L.length (0:Int)).length=L.length:=by simp
 intro m
 induction m with
 | zero=>intro i D E;omega
 | succ m H =>
  intro i D E;simp only[oW,xN];by_cases hi:i<L.length
  ·have F:=e _ (fp hi);have I:=EA (i:=i) k;have u:=EA (i:=i) g;have J:=EA (i:=i) l;have y:=Kl k (i:=i) (by omega);have z:=Kl g (i:=i) (by omega);have A:=Kl l (i:=i) (by omega);have s:=adm g (i:=i) (by omega);have M:=EA (i:=i+1) g;rw[K5 (eM W c) hi]at y;rw[K5 (dQ c) hi]at z s;rw[K5 (iA W c) hi]at A;have v:=PM W c (L.getD i default);have B:aa ((i:Int)+1)=((i+1:Nat):Int):=wn (by omega) (by omega);rw[di (by omega)];have j:∀x,x=(eM W c (L.getD i default)).aB→wv K n b c env a d S L (i:Int) (mix i (L.map (eM W c)) (List.replicate L.length jP)) (mix i (L.map (dQ c)) (List.replicate L.length 0)) (mix i (L.map (iA W c)) (List.replicate L.length 0)) (dQ c (L.getD i default)) (eH (L.getD i default).Style.MinWidth c 0) (eH (L.getD i default).Style.MaxWidth c 1048576) (L.getD i default).Style.Grow (L.getD i default).Style.Shrink (oW K n b c env a d S L m) x =
     (if b.Style.Wrap=true then (rh K n (L.map (iA W c)) c).bind fun f=>mg K n c env a d S L (L.map (eM W c)) (L.map (dQ c)) f else mg K n c env a d S L (L.map (eM W c)) (L.map (dQ c)) [0]):=by
    intro x G;subst G;unfold wv;have C:(⟨(eM W c (L.getD i default)).aB,(L.getD i default).Style.Grow,(L.getD i default).Style.Shrink,eH (L.getD i default).Style.MinWidth c 0,eH (L.getD i default).Style.MaxWidth c 1048576⟩:bC)=eM W c (L.getD i default):=rfl;simp only[C,Rs.GP,sb,eO,y,z,I,u,J,M,s,B,w,o,cD (show(0:Int)≤(i:Int)∧(i:Int)<(L.length:Nat) by omega)];rw[bK (n:=Rs.hyp (eM W c (L.getD i default))+dQ c (L.getD i default)) (by unfold iA at v;omega) (by unfold iA at v;omega)];rw[show Rs.hyp (eM W c (L.getD i default))+dQ c (L.getD i default)=iA W c (L.getD i default) from rfl,A];exact H (i+1) (by omega) (by omega)
   simp only[cD (show(0:Int)≤(i:Int)∧(i:Int)<(L.length:Nat) by omega),eO,sO,t7,sb,DM,gq,u,o,Ax];rw[show gV (fO (L.getD i default).Style c 0)=dQ c (L.getD i default) from rfl];cases h:(cH (L.getD i default).Style.Basis c).2 with
   | true =>
    simp only[abM,jf,pt];exact j _ (by unfold eM eH;simp only[h,AT])
   | false =>
    simp only[alM,AT];cases t:(cH (L.getD i default).Style.Width c).2 with
    | true =>
     simp only[abM,jf,pt];exact j _ (by unfold eM eH;simp only[h,t,AT,jf,pt])
    | false =>
     simp only[alM,AT];rw[F,sb];exact j _ (by unfold eM eH;simp only[h,t,jf,pt])
  ·obtain rfl:i=L.length:=by omega
   have p:=Jg k;have q:=Jg g;have r:=Jg l;rw[w]at p;rw[o]at q r;rw[dd (by omega),p,q,r]
end
def kV(b:ab)(c:Int)(W:ab→Int×Int)(L:d6):ck:=if b.Style.Wrap=true then m9 c (L.map (iA W c)) else [0]
def ik(b:ab)(c:Int)(W:ab→Int×Int)(L:d6):List (Nat×ck):=ip c L.length (L.map (eM W c)) (L.map (dQ c)) (kV b c W L) 0 (kV b c W L).length
theorem Lk(b:ab)(c:Int)(W:ab→Int×Int)(L:d6):St L.length (kV b c W L):=by
 unfold kV;split
 ·have:=YV c (L.map (iA W c));rwa[nw]at this
 ·exact aee _
theorem acy(N:Nat)(t:20010≤N)(b:ab)(L:d6)(m:L.length≤19)(hi:kU (KN N) N b=some L)(c:Int)(y:0≤c∧c≤8388608)(W:ab→Int×Int)(env:bz)(v:∀k∈L,(KN N).gy env.Widths k=some (W k))(a f:Int)(S:cd):
  Au (KN N) N b c env a f S=(c9 (fun b w=>(KN N).dr env.Layout b w) (gM c L (ik b c W L)) a f S).bind fun r=>some ((i9 (L.map (dQ c)) (ik b c W L) r.1 0 []).1,(i9 (L.map (dQ c)) (ik b c W L) r.1 0 []).2,r.2.1,r.2.2.1,r.2.2.2):=by
 unfold Au;rw[hi,sb];have n:fw (L.length:Int) 40=true:=by simp[fw];omega
 have o:fw (L.length:Int) 8=true:=by simp[fw];omega
 rw[n,o];simp only[ba,sb,eO];have h:=W6 (KN N) N L m c W env a f S v b N 0 (u4 _) (by omega);have u:Small 7340032 (L.map (iA W c)):=fun x l=>by
  obtain⟨k,_,rfl⟩:=Dy.1 l;have:=PM W c k;omega
 have s:Small 6291456 (L.map (dQ c)):=fun x l=>by
  obtain⟨k,_,rfl⟩:=Dy.1 l;exact JM k.Style c
 have p:oW (KN N) N b c env a f S L N 0 (List.replicate L.length jP) (List.replicate L.length 0) (List.replicate L.length 0)=_:=h;rw[p,Xy (KN N) c (by omega) u (by rw[nw];omega) (by omega)];have g:∀ST,kV b c W L=ST→mg (KN N) N c env a f S L (L.map (eM W c)) (L.map (dQ c)) ST=(c9 (fun b w=>(KN N).dr env.Layout b w) (gM c L (ik b c W L)) a f S).bind fun r=>some ((i9 (L.map (dQ c)) (ik b c W L) r.1 0 []).1,(i9 (L.map (dQ c)) (ik b c W L) r.1 0 []).2,r.2.1,r.2.2.1,r.2.2.2):=fun ST q=>by
  have d:=Lk b c W L;have j:=d.len;unfold mg ik;rw[q]at d j⊢;have e:=abq N t c y env L m (L.map (eM W c)) (L.map (dQ c)) ST (by simp) (by simp) s d N 0 0 [] a f S (u4 _) (by omega) (by simp);simpa using e
 by_cases i:b.Style.Wrap=true
 ·rw[lp i,sb];exact g _ (by unfold kV;rw[lp i])
 ·rw[kc i];exact g _ (by unfold kV;rw[kc i])
end Fl
namespace Fl
open QSort (wn cD di dd qW pT sb)
open Fw
def sF(x:Int):Int:=min (max x (-1125899906842624)) 1125899906842624
theorem agu(N:Nat)(a:20010≤N)(l:em)(sp:Int)(b:l.length≤19):jy (KN N) N l sp=some (Rs.resolve l (sF sp)):=by
 rw[←Rs.nt (n:=N) (lvl:=N) l (sp:=sF sp) b (by unfold sF;omega) (by omega) a];unfold jy;rw[show min (max (sF sp) (-1125899906842624)) 1125899906842624=min (max sp (-1125899906842624)) 1125899906842624 by unfold sF;omega]
def mr(c:Int)(k:ab):Int:=aa ((aa ((aa ((fO k.Style c 0).Border.a0+(fO k.Style c 0).Border.a2))+(fO k.Style c 0).Padding.a0))+(fO k.Style c 0).Padding.a2)
def nf(c:Int)(k:ab)(f:ae):bC:=⟨if (k.Style.Basis.Kind == 1)=true then eH k.Style.Basis 0 0 else aa (f.H-mr c k),k.Style.Grow,k.Style.Shrink,0,1048576⟩
def J2(c:Int)(k:ab)(f:ae):Int:=aa (aa (mZ f.Before+rB f)+mr c k)
structure nU where
 space:Int
 fY:ck
 items:em
 inner:ck
 edges:ck
 out:dn
def dJ(c:Int)(k:ab)(f:ae)(a:nU):nU :=
 ⟨aa (a.space-J2 c k f),a.fY++[Rs.hyp (nf c k f)],a.items++[nf c k f],a.inner++[mr c k],a.edges++[J2 c k f],a.out++[f]⟩
def dm(c:Int):d6→dn→nU→nU
 | k::l,f::r,a=>dm c l r (dJ c k f a)
 | _,_,a=>a
structure wR(n:Nat)(a:nU):Prop where
 s:a.fY.length=n
 i:a.items.length=n
 w:a.inner.length=n
 e:a.edges.length=n
 o:a.out.length=n
theorem QN{c:Int}{k:ab}{f:ae}{n:Nat}{a:nU}(h:wR n a):wR (n+1) (dJ c k f a) :=
 ⟨by simp[dJ,h.s],by simp[dJ,h.i],by simp[dJ,h.w],by simp[dJ,h.e],by simp[dJ,h.o]⟩
theorem BE{c:Int}:∀(l:d6) (r:dn) {n:Nat} {a:nU},l.length=r.length→wR n a→wR (n+l.length) (dm c l r a)∧(dm c l r a).out=a.out++r
 | [],[],n,a,_,h=>⟨h,by simp[dm]⟩
 | k::l,f::r,n,a,e,h=>by
  simp only[ls]at e;obtain⟨b,d⟩:=BE l r (by omega) (QN (c:=c) (k:=k) (f:=f) h);refine⟨?_,by simp only[dm];rw[d];simp[dJ]⟩;simp only[dm,ls];rw[show n+(l.length+1)=n+1+l.length by omega];exact b
 | [],_::_,_,_,h,_=>by simp at h
 | _::_,[],_,_,h,_=>by simp at h
theorem agv(K:Kn)(n:Nat)(b:ab)(c:Int)(env:bz)(L:d6)(B:L.length≤19):∀(m i:Nat) (a:nU) (f h:Int) (S:cd),i≤L.length→L.length<m+i→wR i a →
  kJ K n b c env L m a.space (i:Int) a.fY a.items a.inner a.edges a.out f h S =
   (c9 (fun b w=>K.dr env.Layout b w) ((L.drop i).map fun k=>(k,c)) f h S).bind fun r =>
    if (b.Style.Height.Kind == 1)=true then (jy K n (dm c (L.drop i) r.1 a).items (dm c (L.drop i) r.1 a).space).bind fun d=>kh K n (dm c (L.drop i) r.1 a).inner (dm c (L.drop i) r.1 a).edges (dm c (L.drop i) r.1 a).out r.2.1 r.2.2.1 r.2.2.2 d
    else kh K n (dm c (L.drop i) r.1 a).inner (dm c (L.drop i) r.1 a).edges (dm c (L.drop i) r.1 a).out r.2.1 r.2.2.1 r.2.2.2 (dm c (L.drop i) r.1 a).fY:=by
 intro m
 induction m with
 | zero=>intro i a f h S t u;omega
 | succ m z =>
  intro i a f h S t u e;simp only[kJ,yc];by_cases hi:i<L.length
  ·rw[drop_at' hi];simp only[eC hi,AT,dv hi,ba,Int.toNat_natCast,rl,c9];cases C:K.dr env.Layout (L.getD i default) c f h S with
   | none=>rfl
   | some q =>
    have A:oC K n b c env L a.space (i:Int) a.fY a.items a.inner a.edges a.out q (mr c (L.getD i default)) (L.getD i default).Style.Grow (L.getD i default).Style.Shrink (kJ K n b c env L m) (nf c (L.getD i default) q.1).aB=kJ K n b c env L m (dJ c (L.getD i default) q.1 a).space ((i+1:Nat):Int) (dJ c (L.getD i default) q.1 a).fY (dJ c (L.getD i default) q.1 a).items (dJ c (L.getD i default) q.1 a).inner (dJ c (L.getD i default) q.1 a).edges (dJ c (L.getD i default) q.1 a).out q.2.1 q.2.2.1 q.2.2.2:=by
     unfold oC;have s:(⟨(nf c (L.getD i default) q.1).aB,(L.getD i default).Style.Grow,(L.getD i default).Style.Shrink,0,1048576⟩:bC)=nf c (L.getD i default) q.1:=rfl;have j:aa (((a.edges++[aa (aa (mZ q.1.Before+rB q.1)+mr c (L.getD i default))]).length:Int)-1)=(i:Int):=by
      rw[ne,e.e];simp only[ls,ti];rw[bK (by omega) (by omega)];omega
     simp only[s,Jd,PS,sb,Rs.GP,j,List.length_singleton];rw[dc (by rw[e.i];omega) (by omega),ba,dc (by rw[e.w];omega) (by omega),ba,dc (by rw[e.e];omega) (by omega),ba,dv (show i<(a.edges++[aa (aa (mZ q.1.Before+rB q.1)+mr c (L.getD i default))]).length by simp[e.e]),ba,dc (by rw[e.s];omega) (by omega),ba,dc (by rw[e.o];omega) (by omega),ba,dL (by omega)];rw[show List.getD (a.edges++[aa (aa (mZ q.1.Before+rB q.1)+mr c (L.getD i default))]) ((i:Int)).toNat default=J2 c (L.getD i default) q.1 by rw[Int.toNat_natCast];exact UO e.e.symm];rfl
    simp only[sb,sO,DM];have l:=A.trans (z (i+1) (dJ c (L.getD i default) q.1 a) q.2.1 q.2.2.1 q.2.2.2 (by omega) (by omega) (QN e));have o:∀x,x=(nf c (L.getD i default) q.1).aB→oC K n b c env L a.space (i:Int) a.fY a.items a.inner a.edges a.out q (mr c (L.getD i default)) (L.getD i default).Style.Grow (L.getD i default).Style.Shrink (kJ K n b c env L m) x=oC K n b c env L a.space (i:Int) a.fY a.items a.inner a.edges a.out q (mr c (L.getD i default)) (L.getD i default).Style.Grow (L.getD i default).Style.Shrink (kJ K n b c env L m) (nf c (L.getD i default) q.1).aB:=fun x v=>by rw[v]
    have g:((c9 (fun b w=>K.dr env.Layout b w) ((L.drop (i+1)).map fun k=>(k,c)) q.2.1 q.2.2.1 q.2.2.2).bind fun y=>some (q.1::y.1,y.2)).bind (fun r =>
      if (b.Style.Height.Kind == 1)=true then (jy K n (dm c (L.getD i default::L.drop (i+1)) r.1 a).items (dm c (L.getD i default::L.drop (i+1)) r.1 a).space).bind fun d=>kh K n (dm c (L.getD i default::L.drop (i+1)) r.1 a).inner (dm c (L.getD i default::L.drop (i+1)) r.1 a).edges (dm c (L.getD i default::L.drop (i+1)) r.1 a).out r.2.1 r.2.2.1 r.2.2.2 d
      else kh K n (dm c (L.getD i default::L.drop (i+1)) r.1 a).inner (dm c (L.getD i default::L.drop (i+1)) r.1 a).edges (dm c (L.getD i default::L.drop (i+1)) r.1 a).out r.2.1 r.2.2.1 r.2.2.2 (dm c (L.getD i default::L.drop (i+1)) r.1 a).fY) =
      (c9 (fun b w=>K.dr env.Layout b w) ((L.drop (i+1)).map fun k=>(k,c)) q.2.1 q.2.2.1 q.2.2.2).bind (fun r =>
      if (b.Style.Height.Kind == 1)=true then (jy K n (dm c (L.drop (i+1)) r.1 (dJ c (L.getD i default) q.1 a)).items (dm c (L.drop (i+1)) r.1 (dJ c (L.getD i default) q.1 a)).space).bind fun d=>kh K n (dm c (L.drop (i+1)) r.1 (dJ c (L.getD i default) q.1 a)).inner (dm c (L.drop (i+1)) r.1 (dJ c (L.getD i default) q.1 a)).edges (dm c (L.drop (i+1)) r.1 (dJ c (L.getD i default) q.1 a)).out r.2.1 r.2.2.1 r.2.2.2 d
      else kh K n (dm c (L.drop (i+1)) r.1 (dJ c (L.getD i default) q.1 a)).inner (dm c (L.drop (i+1)) r.1 (dJ c (L.getD i default) q.1 a)).edges (dm c (L.drop (i+1)) r.1 (dJ c (L.getD i default) q.1 a)).out r.2.1 r.2.2.1 r.2.2.2 (dm c (L.drop (i+1)) r.1 (dJ c (L.getD i default) q.1 a)).fY):=by
     cases c9 (fun b w=>K.dr env.Layout b w) ((L.drop (i+1)).map fun k=>(k,c)) q.2.1 q.2.2.1 q.2.2.2<;>rfl
    rw[g];cases p:((L.getD i default).Style.Basis.Kind == 1) with
    | true =>
     simp only[AT];exact(o (eH (L.getD i default).Style.Basis 0 0) (by simp only[nf,p,AT])).trans l
    | false =>
     simp only[jf,pt];exact(o (aa (q.1.H-mr c (L.getD i default))) (by simp only[nf,p,jf,pt])).trans l
  ·simp only[eh (show L.length≤i by omega),jf,pt];rw[show L.drop i=[] from mo (by omega)];simp only[Db,c9,sb,dm]
end Fl
namespace Fl
open QSort (wn cD di dd qW pT sb)
open Fw
def jK:ck→ck→ck→dn→Int→dn×Int
 | z::Z,i::I,e::E,f::a,y=>(({ f with H:=aa (z+i),Y:=aa (y+mZ f.Before) }:ae)::(jK Z I E a (aa (y+aa (z+e)))).1,(jK Z I E a (aa (y+aa (z+e)))).2)
 | _,_,_,_,y=>([],y)
theorem Fj:∀(a:dn) (Z I E:ck) (y:Int),(jK Z I E a y).1.length≤a.length∧∀f∈(jK Z I E a y).1,∃g∈a,f.Kids=g.Kids
 | [],Z,I,E,y=>by
  have e:jK Z I E [] y=([],y):=by cases Z<;>cases I<;>cases E<;>rfl
  rw[e];exact⟨la _,fun f b=>by cases b⟩
 | f::a,[],I,E,y=>⟨u4 _,fun f b=>by cases b⟩
 | f::a,z::Z,[],E,y=>⟨u4 _,fun f b=>by cases b⟩
 | f::a,z::Z,i::I,[],y=>⟨u4 _,fun f b=>by cases b⟩
 | f::a,z::Z,i::I,e::E,y=>by
  obtain⟨k,j⟩:=Fj a Z I E (aa (y+aa (z+e)));simp only[jK,ls];refine⟨by omega,fun q c=>?_⟩;rcases ol.1 c with rfl|c
  ·exact⟨f,tl,rfl⟩
  ·obtain⟨g,d,h⟩:=j q c;exact⟨g,oR _ d,h⟩
theorem ajV(K:Kn)(n:Nat)(I E:ck)(a:dn)(b h:Int)(S:cd)(Z:ck)(o:Z.length=a.length)(l:I.length=a.length)(k:E.length=a.length)(p:a.length≤1000):∀(m:Nat) (A R:dn) (y:Int),A.length+R.length=a.length→R.length<m →
  rU K n I E a b h S Z m y (A.length:Int) (A++R)=some (A++(jK (Z.drop A.length) (I.drop A.length) (E.drop A.length) R y).1,(jK (Z.drop A.length) (I.drop A.length) (E.drop A.length) R y).2,b,h,S):=by
 intro m
 induction m with
 | zero=>intro A R y _ d;omega
 | succ m j =>
  intro A R y c d;simp only[rU,xG];cases R with
  | nil =>
   have e:A.length=a.length:=by simpa using c
   simp only[eh (show a.length≤A.length by omega),jf,pt];rw[mo (by omega)];simp[jK]
  | cons f R =>
   simp only[ls]at c d;have i:A.length<a.length:=by omega
   rw[drop_at' (show A.length<Z.length by omega),drop_at' (show A.length<I.length by omega),drop_at' (show A.length<E.length by omega)];simp only[jK];have g:=j (A++[({ f with H:=aa (Z.getD A.length default+I.getD A.length default),Y:=aa (y+mZ f.Before) }:ae)]) R (aa (y+aa (Z.getD A.length default+E.getD A.length default))) (by simp;omega) (by omega);simp only[u3,akS,ne,ls,ti,IF]at g;simp only[eC i,AT,Int.toNat_natCast,EV,FW,dv (show A.length<Z.length by omega),dv (show A.length<I.length by omega),dv (show A.length<E.length by omega),ne,ls,dv (show A.length<A.length+(R.length+1) by omega),ba,sb,Jd,dL (show A.length<1000000000 by omega)];exact g
def pf(b:ab)(c:Int)(L:d6)(r:dn):dn×Int :=
 let a:=dm c L r ⟨max (eH b.Style.Height 0 0) 0,[],[],[],[],[]⟩
 jK (if (b.Style.Height.Kind == 1)=true then Rs.resolve a.items (sF a.space) else a.fY) a.inner a.edges a.out 0
theorem adt(N:Nat)(o:20010≤N)(b:ab)(L:d6)(m:L.length≤19)(hi:kU (KN N) N b=some L)(c:Int)(env:bz)(f i:Int)(S:cd):
  Bh (KN N) N b c env f i S=(c9 (fun b w=>(KN N).dr env.Layout b w) (L.map fun k=>(k,c)) f i S).bind fun r=>some ((pf b c L r.1).1,(pf b c L r.1).2,r.2.1,r.2.2.1,r.2.2.2):=by
 unfold Bh;rw[DM,sb,hi,sb];have h:=agv (KN N) N b c env L m N 0 ⟨max (eH b.Style.Height 0 0) 0,[],[],[],[],[]⟩ f i S (u4 _) (by omega) ⟨rfl,rfl,rfl,rfl,rfl⟩;have l:kJ (KN N) N b c env L N (max (eH b.Style.Height 0 0) 0) 0 [] [] [] [] [] f i S=_:=h;rw[l,DO];cases p:c9 (fun b w=>(KN N).dr env.Layout b w) (L.map fun k=>(k,c)) f i S with
 | none=>rfl
 | some r =>
  have g:=wJ p;rw[nw]at g;obtain⟨d,s⟩:=BE (c:=c) L r.1 (n:=0) (a:=⟨max (eH b.Style.Height 0 0) 0,[],[],[],[],[]⟩) g.symm ⟨rfl,rfl,rfl,rfl,rfl⟩;simp only[sb];unfold pf;simp only;generalize dm c L r.1 ⟨max (eH b.Style.Height 0 0) 0,[],[],[],[],[]⟩=a at *;have j:∀Z:ck,Z.length=L.length→kh (KN N) N a.inner a.edges a.out r.2.1 r.2.2.1 r.2.2.2 Z=some ((jK Z a.inner a.edges a.out 0).1,(jK Z a.inner a.edges a.out 0).2,r.2.1,r.2.2.1,r.2.2.2):=fun Z q=>by
   unfold kh;have e:=ajV (KN N) N a.inner a.edges a.out r.2.1 r.2.2.1 r.2.2.2 Z (by rw[d.o];omega) (by rw[d.w,d.o]) (by rw[d.e,d.o]) (by rw[d.o];omega) N [] a.out 0 (by simp) (by rw[d.o];omega);simpa using e
  split
  ·rw[agu N o _ _ (by rw[d.i];omega),sb];exact j _ (by rw[Rs.Ib,d.i];omega)
  ·exact j _ (by rw[d.s];omega)
def oY(z:bW)(f:ae):ae:=sE { f with X:=aa (f.X+aa (z.Border.a3+z.Padding.a3)),Y:=aa (f.Y+aa (z.Border.a0+z.Padding.a0)) } z.Content
theorem afw(z:bW)(f:ae):(oY z f).Kids=f.Kids:=by unfold oY;rw[Sa]
theorem akc(K:Kn)(n:Nat)(b:ab)(z:bW)(j k:bc)(L:dn)(p:L.length≤10000)(a i w h:Int)(S:cd):∀(m:Nat) (A R:dn),A.length+R.length=L.length→R.length<m →
  tR K n b z j k L a i S w h m (A.length:Int) (A++R)=some (⟨1,b.Node,z.Margin.a3,0,w,h,0,⟨#[]⟩,b.Style,j,k,false,A++R.map (oY z)⟩,a,i,S):=by
 intro m
 induction m with
 | zero=>intro A R _ d;omega
 | succ m o =>
  intro A R c d;simp only[tR,xR];cases R with
  | nil =>
   have e:A.length=L.length:=by simpa using c
   simp only[eh (show L.length≤A.length by omega),jf,pt,Db]
  | cons f R =>
   simp only[ls]at c d;have l:A.length<L.length:=by omega
   have g:=o (A++[oY z f]) R (by simp;omega) (by omega);simp only[u3,akS,ne,ls,ti,IF]at g;simp only[eC l,AT,Int.toNat_natCast,EV,FW,ne,ls,dv (show A.length<A.length+(R.length+1) by omega),ba,sb,N1,dL (show A.length<1000000000 by omega),rl];exact g
def yz(b:ab)(z:bW)(a:dn)(h:Int):ae :=
 ⟨1,b.Node,z.Margin.a3,0,aa (aa (aa (aa (z.Content+z.Border.a1)+z.Border.a3)+z.Padding.a1)+z.Padding.a3),aa (aa (aa (aa ((if (b.Style.Height.Kind == 1)=true then max (eH b.Style.Height 0 0) 0 else max h 0)+z.Border.a0)+z.Border.a2)+z.Padding.a0)+z.Padding.a2),0,⟨#[]⟩,b.Style,iQ z.Margin.a0,iQ z.Margin.a2,false,a.map (oY z)⟩
theorem P2(K:Kn)(n:Nat)(b:ab)(z:bW)(h:Int)(L:dn)(g:L.length≤10000)(i:L.length<n)(a c:Int)(S:cd):uW K n b z (iQ z.Margin.a0) (iQ z.Margin.a2) h L a c S=some (yz b z L h,a,c,S):=by
 have f:∀x,tH K n b z (iQ z.Margin.a0) (iQ z.Margin.a2) L a c S x=some (⟨1,b.Node,z.Margin.a3,0,aa (aa (aa (aa (z.Content+z.Border.a1)+z.Border.a3)+z.Padding.a1)+z.Padding.a3),aa (aa (aa (aa (x+z.Border.a0)+z.Border.a2)+z.Padding.a0)+z.Padding.a2),0,⟨#[]⟩,b.Style,iQ z.Margin.a0,iQ z.Margin.a2,false,L.map (oY z)⟩,a,c,S):=fun x=>by
  unfold tH;simp only[sb];have e:=akc K n b z (iQ z.Margin.a0) (iQ z.Margin.a2) L g a c (aa (aa (aa (aa (z.Content+z.Border.a1)+z.Border.a3)+z.Padding.a1)+z.Padding.a3)) (aa (aa (aa (aa (x+z.Border.a0)+z.Border.a2)+z.Padding.a0)+z.Padding.a2)) S n [] L (by simp) (by omega);simpa using e
 unfold uW yz;by_cases d:(b.Style.Height.Kind == 1)=true
 ·rw[lp d,lp d,DM,sb,f]
 ·rw[kc d,kc d,f]
end Fl
def ec:io→Nat
 | []=>0
 | p::r=>bE p.1+ec r
theorem Ub:∀l m,ec (l++m)=ec l+ec m
 | [],m=>by simp[ec]
 | p::r,m=>by simp only[ahj,ec,Ub r m];omega
theorem KT:∀l,l.length≤ec l
 | []=>la _
 | p::r=>by simp only[ec];have:=KT r;grind[gn]
theorem Ys{l m}(h:l.Perm m):cV l=cV m:=by
 induction h with
 | nil=>rfl
 | cons x _ c=>grind[cV]
 | swap x y l=>grind[cV]
 | trans _ _ a b=>grind
theorem Nq p:∀l:d6,cV (l.filter p)≤cV l
 | []=>la _
 | b::r=>by
  have:=Nq p r
  grind[cV]
namespace Fl
open QSort (wn cD di dd qW pT sb)
open Fw
theorem Yp b z:bE (oN b z)=bE b:=by rw[gw,gw b];rfl
theorem U0 c L:∀Z j,j+Z.length≤L.length→ec (iY c L j Z)+cV (L.drop (j+Z.length))=cV (L.drop j)
 | [],j,_=>by simp[iY,ec]
 | z::Z,j,h=>by
  simp only[ls]at h⊢;have:=U0 c L Z (j+1) (by omega);rw[drop_at' (show j<L.length by omega)]
  grind[iY,ec,cV,Yp]
theorem Ht{c:Int}{L:d6}{d:em}{ED ST:ck}(l:d.length=L.length)(f:St L.length ST){k:Nat}(j:k<ST.length):∃a b:Nat,(ST++[(L.length:Int)]).getD k default=(a:Int)∧(ST++[(L.length:Int)]).getD (k+1) default=(b:Int)∧a≤b∧b≤L.length∧(oA c L.length d ED ST k).1=a∧(oA c L.length d ED ST k).2.length=b-a:=by
 obtain⟨a,b,e,g,h,i⟩:=f.get k j;refine⟨a,b,e,g,h,i,by unfold oA;rw[e];rfl,?_⟩;unfold oA;rw[e,g,Rs.Ib];exact Gn d h (by omega)
theorem OD(c:Int)(L:d6)(d:em)(ED ST:ck)(i:d.length=L.length)(b:St L.length ST):∀(m k:Nat),k+m=ST.length→0<m→∀e:Nat,(ST++[(L.length:Int)]).getD k default=(e:Int)→ec (gM c L (ip c L.length d ED ST k m))≤cV (L.drop e)
 | 0,k,_,h,_,_=>by omega
 | m+1,k,h,_,e,p=>by
  obtain⟨a,f,l,n,s,t,o,g⟩:=Ht (c:=c) (ED:=ED) i b (show k<ST.length by omega);have j:a=e:=by rw[p]at l;omega
  subst j;simp only[ip,gM,Ub,o];have q:=U0 c L (oA c L.length d ED ST k).2 a (by rw[g];omega);rw[g,show a+(f-a)=f by omega]at q;by_cases r:m=0
  ·subst r;simp only[ip,gM,ec];omega
  ·have:=OD c L d ED ST i b m (k+1) (by omega) (by omega) f n;omega
theorem RW(c:Int)(L:d6)(d:em)(ED ST:ck)(e:d.length=L.length)(b:St L.length ST):∀(m k:Nat),k+m≤ST.length→∀p∈gM c L (ip c L.length d ED ST k m),p.2=c∧∃q∈L,∃z,p.1=oN q z
 | 0,k,_,p,a=>by cases a
 | m+1,k,h,p,a=>by
  obtain⟨f,r,g,i,j,l,n,o⟩:=Ht (c:=c) (ED:=ED) e b (show k<ST.length by omega);simp only[ip]at a;rcases n5.1 a with a|a
  ·exact SF (by omega) a
  ·exact RW c L d ED ST e b m (k+1) (by omega) p a
theorem GN(ED:ck):∀(b:List (Nat×ck)) (r:dn) (y:Int) (a:dn),(b.map fun l=>l.2.length).sum≤r.length→(i9 ED b r y a).1.length≤a.length+r.length∧∀f∈(i9 ED b r y a).1,f∈a∨∃g∈r,f.Kids=g.Kids
 | [],r,y,a,_=>⟨by simp[i9],fun f c=>.inl c⟩
 | l::b,r,y,a,h=>by
  simp only[rl]at h;simp only[i9];have i:=Gt y (jo ED l.1 l.2) (r.take l.2.length) (0,0,a) (by grind[Fr]);obtain⟨d,e⟩:=GN ED b (r.drop l.2.length) (aa (y+(jG y (jo ED l.1 l.2) (r.take l.2.length) (0,0,a)).2.1)) (jG y (jo ED l.1 l.2) (r.take l.2.length) (0,0,a)).2.2 (by grind)
  grind
theorem Cs c L:∀a:List (Nat×ck),(gM c L a).length=(a.map fun l=>l.2.length).sum
 | []=>rfl
 | l::a=>by simp only[gM,ne,FB,Cs c L a,rl,alF]
theorem QH{d}{b}{z}{L r:dn}{h}(i:L.length≤3000)(e:∀f∈L,∃g∈r,f.Kids=g.Kids)(j:∀f∈r,DF d f):DF (d+1) (yz b z L h):=by
 refine⟨by show(L.map (oY z)).length≤3000;grind,fun k a=>?_⟩;have c:k∈L.map (oY z):=a
 grind[vp,afw]
theorem WA(b:ab)(hb:b.Kids.length≤19)(w:Int)(W:ab→Int×Int):
  ∃(P:io) (G:dn→ae),(∀p∈P,p.2=(cu b.Style w).Content∧∃k∈b.Kids,p.1=k∨∃z,p.1=oN k z)∧ec P≤cV b.Kids∧(∀(r:dn) (d:Nat),r.length=P.length→r.length≤2000→(∀f∈r,DF d f)→DF (d+1) (G r)) ∧
   ∀(N:Nat),20010≤N→∀env:bz,(∀k∈b.Kids,(KN N).gy env.Widths k=some (W k))→∀(j s:Int) (S:cd),nV (KN N) N b w env j s S =
    (c9 (fun b w=>(KN N).dr env.Layout b w) P j s S).bind fun r=>some (G r.1,r.2.1,r.2.2.1,r.2.2.2):=by
 obtain⟨d,u,_⟩:=Od.nt b.Kids (by omega) (lvl:=20010) (n:=20010) (by omega) (by omega);have a0:=u.len;have U:(cz b d).length≤19:=by rw[u0];omega
 have C:cV (cz b d)≤cV b.Kids:=by rw[Ys (aet u)];exact Nq _ _
 have B:∀N,20010≤N→kU (KN N) N b=some (cz b d):=fun N y=>by
  obtain⟨d2,J,v⟩:=Od.nt b.Kids (by omega) (lvl:=N) (n:=N) (by omega) (by omega);rw[J.uniq u]at v;exact Lh hb u v (by omega)
 have hc:=CP b.Style w;by_cases o:(b.Style.Direction == 1)=true
 ·refine⟨(cz b d).map fun k=>(k,(cu b.Style w).Content),fun r=>yz b (cu b.Style w) (pf b (cu b.Style w).Content (cz b d) r).1 (pf b (cu b.Style w).Content (cz b d) r).2,fun p O=>?_,?_,fun r e I v t=>?_,fun N y env V j s S=>?_⟩
  ·obtain⟨k,F,rfl⟩:=Dy.1 O;exact⟨rfl,k,Cc u F,.inl rfl⟩
  ·have:∀l:d6,ec (l.map fun k=>(k,(cu b.Style w).Content))=cV l:=by
    intro l;induction l with
    | nil=>rfl
    | cons x r R=>simp only[rl,ec,cV,R]
   rw[this];exact C
  ·rw[nw]at I;obtain⟨_,H⟩:=BE (c:=(cu b.Style w).Content) (cz b d) r (n:=0) (a:=⟨max (eH b.Style.Height 0 0) 0,[],[],[],[],[]⟩) I.symm ⟨rfl,rfl,rfl,rfl,rfl⟩;unfold pf;simp only;have L:=Fj (dm (cu b.Style w).Content (cz b d) r ⟨max (eH b.Style.Height 0 0) 0,[],[],[],[],[]⟩).out;rw[H]at L;rw[H];exact QH (r:=r) (RX (L _ _ _ _).1 (by simp;omega)) (by simpa using (L _ _ _ _).2) t
  ·unfold nV;have g:∀x,m5 (KN N) N x=some (iQ x):=fun x=>rfl;rw[DE,sb,g,sb,g,sb,lp o,adt N y b (cz b d) U (B N y) _ env j s S];cases M:c9 (fun b w=>(KN N).dr env.Layout b w) ((cz b d).map fun k=>(k,(cu b.Style w).Content)) j s S with
   | none=>rfl
   | some r =>
    have i:=wJ M;rw[nw]at i;obtain⟨_,H⟩:=BE (c:=(cu b.Style w).Content) (cz b d) r.1 (n:=0) (a:=⟨max (eH b.Style.Height 0 0) 0,[],[],[],[],[]⟩) i.symm ⟨rfl,rfl,rfl,rfl,rfl⟩;have X:(pf b (cu b.Style w).Content (cz b d) r.1).1.length≤19:=by
     unfold pf;simp only;refine RX (Fj _ _ _ _ _).1 ?_;rw[H];simp;omega
    simp only[sb];rw[P2 (KN N) N b _ _ _ (by omega) (by omega)]
 ·have K:((cz b d).map (eM W (cu b.Style w).Content)).length=(cz b d).length:=nw _;have h:=Lk b (cu b.Style w).Content W (cz b d);refine⟨gM (cu b.Style w).Content (cz b d) (ik b (cu b.Style w).Content W (cz b d)),fun r=>yz b (cu b.Style w) (i9 ((cz b d).map (dQ (cu b.Style w).Content)) (ik b (cu b.Style w).Content W (cz b d)) r 0 []).1 (i9 ((cz b d).map (dQ (cu b.Style w).Content)) (ik b (cu b.Style w).Content W (cz b d)) r 0 []).2,fun p O=>?_,?_,fun r e I v t=>?_,fun N y env V j s S=>?_⟩
  ·obtain⟨J,q,v,z,A⟩:=RW _ _ _ _ _ K h _ 0 (by omega) p O;exact⟨J,q,Cc u v,.inr ⟨z,A⟩⟩
  ·refine RX ?_ C;by_cases T:0<(kV b (cu b.Style w).Content W (cz b d)).length
   ·obtain⟨D,to,Y,_⟩:=h.get 0 T;have:=OD (cu b.Style w).Content (cz b d) ((cz b d).map (eM W (cu b.Style w).Content)) ((cz b d).map (dQ (cu b.Style w).Content)) _ K h _ 0 (by omega) T D Y;refine RX this ?_;have e:=Dn ((cz b d).take D) ((cz b d).drop D);rw[ak0]at e;omega
   ·unfold ik;rw[show(kV b (cu b.Style w).Content W (cz b d)).length=0 by omega];simp[ip,gM,ec]
  ·rw[Cs]at I;obtain⟨A,h4⟩:=GN ((cz b d).map (dQ (cu b.Style w).Content)) (ik b (cu b.Style w).Content W (cz b d)) r 0 [] (by omega);exact QH (r:=r) (by simp at A;omega) (fun f hf=>by
    rcases h4 f hf with E|E
    ·cases E
    ·exact E) t
  ·unfold nV;have g:∀x,m5 (KN N) N x=some (iQ x):=fun x=>rfl;rw[DE,sb,g,sb,g,sb,kc o,acy N y b (cz b d) U (B N y) _ hc W env (fun k F=>V k (Cc u F)) j s S];cases M:c9 (fun b w=>(KN N).dr env.Layout b w) (gM (cu b.Style w).Content (cz b d) (ik b (cu b.Style w).Content W (cz b d))) j s S with
   | none=>rfl
   | some r =>
    have i:=wJ M;have Q:(gM (cu b.Style w).Content (cz b d) (ik b (cu b.Style w).Content W (cz b d))).length≤2000:=by
     rw[Cs];have:∀(m k:Nat),k+m≤(kV b (cu b.Style w).Content W (cz b d)).length→((ip (cu b.Style w).Content (cz b d).length ((cz b d).map (eM W (cu b.Style w).Content)) ((cz b d).map (dQ (cu b.Style w).Content)) (kV b (cu b.Style w).Content W (cz b d)) k m).map fun l=>l.2.length).sum≤20*m:=by
      intro m
      induction m with
      | zero=>intro k _;simp[ip]
      | succ m R =>
       intro k F;obtain⟨D,to,_,_,g3,g4,_,Z⟩:=Ht (c:=(cu b.Style w).Content) (ED:=(cz b d).map (dQ (cu b.Style w).Content)) K h (show k<_ by omega);have:=R (k+1) (by omega);simp only[ip,rl,alF,Z];omega
     have E:=this _ 0 (Nat.le_of_eq (IF _));have:=h.len;unfold ik;omega
    rw[Cs]at i Q;obtain⟨A,_⟩:=GN ((cz b d).map (dQ (cu b.Style w).Content)) (ik b (cu b.Style w).Content W (cz b d)) r.1 0 [] (by omega);simp only[ti,IF]at A;simp only[sb];rw[P2 (KN N) N b _ _ _ (by omega) (by omega)]
end Fl
structure MA(s:aN):Prop where
 pos:s.Position≠2
 wi:s.Width=ci
 mn:s.MinWidth=ci
 mx:s.MaxWidth=ci
 ma:s.Margin=⟨ci,ci,ci,ci⟩
 pa:s.Padding=⟨ci,ci,ci,ci⟩
 bo:s.Border=⟨0,0,0,0⟩
mutual
/-- A block whose kids are texts,or blocks;their numbers run on. -/
def RB:Int→ab→Prop
 | lo,⟨k,n,s,_,_,_,a⟩=>k=1∧n=lo∧MA s∧a.length≤20∧((fS a∧(∀q∈a,q.Text.size≤90)∧(∀q∈a,q.Kids=[]))∨zh (lo+1) a)
def zh:Int→d6→Prop
 | _,[]=>True
 | lo,b::r=>RB lo b∧zh (lo+bE b) r
end
theorem Yn{lo}{b}(h:RB lo b):b.Kind=1∧b.Node=lo∧MA b.Style∧b.Kids.length≤20∧((fS b.Kids∧(∀q∈b.Kids,q.Text.size≤90)∧(∀q∈b.Kids,q.Kids=[]))∨zh (lo+1) b.Kids):=by
 cases b;grind[RB]
structure rZ w old lo hi(bs:d6) fre(us us':Int)(S T:cd):Prop where
 ok:∀m∈T,ai5 w m∧lo≤m.Box.Node∧m.Box.Node<hi
 len:T.length≤bs.length
 first:(∀m∈S,m.Box.Node<lo)→us'=us∧T.length=bs.length∧∀k∈bs,∃m∈T,m.Box=k
 again:(∀k,gF k old=true→k.Kind=1→11≤k.Node→∃m∈S,m.Width=w∧ga m.Box k=true)→T.length≤fre
theorem rZ.nil{w}{b}{lo hi}{a}{c}{S}:rZ w b lo hi [] a c c S [] :=
 ⟨fun m e=>(by grind),la _,fun _=>⟨rfl,rfl,fun k d=>(by grind)⟩,fun _=>u4 _⟩
theorem rZ.app{w:Int}{e:ab}{lo d hi:Int}{l cs:d6}{f g:Nat}{p n o:Int}{S T U:cd}(h:rZ w e lo d l f p n S T)(i:rZ w e d hi cs g n o (S++T) U)(y:lo≤d)(x:d≤hi):rZ w e lo hi (l++cs) (f+g) p o S (T++U):=by
 refine⟨fun m hm=>?_,?_,fun j=>?_,fun j=>?_⟩
 ·rcases n5.1 hm with hm|hm
  ·obtain⟨a,b,c⟩:=h.ok m hm;exact⟨a,b,by omega⟩
  ·obtain⟨a,b,c⟩:=i.ok m hm;exact⟨a,by omega,c⟩
 ·have:=h.len;have:=i.len;simp only[ne];omega
 ·obtain⟨q,r,s⟩:=h.first j;obtain⟨t,u,v⟩:=i.first (fun m hm=>by
   rcases n5.1 hm with hm|hm
   ·have:=j m hm;omega
   ·exact(h.ok m hm).2.2)
  grind
 ·have a:=h.again j;have b:=i.again (fun k z A B=>by grind)
  grind
theorem On{l}(a:∀q∈l,q.Text.size≤90):eF 1 l≤l.length*91:=by
 have:∀{l:d6},(∀q∈l,q.Text.size≤90)→(l.map fun b=>1+b.Text.size+eF 0 b.Kids).sum≤l.length*91:=by
  intro l
  induction l with
  | nil=>grind
  | cons b r c =>
   grind[eF]
 exact this a
noncomputable section
def dE:eb→d6
 | []=>[]
 | e::r=>bif e.Kind == 3 then e.Box::dE r else dE r
theorem T9{e}(h:(e.Kind == 3)=true) r:dE (e::r)=e.Box::dE r:=by
 show(bif e.Kind == 3 then e.Box::dE r else dE r)=_
 grind
theorem yU{e}(h:(e.Kind == 3)=false) r:dE (e::r)=dE r:=by
 show(bif e.Kind == 3 then e.Box::dE r else dE r)=_
 grind
theorem J8 o:∀l a,dE (l.drop (jl o a l))=dE l
 | [],_=>rfl
 | b::r,a=>by
  unfold jl;cases c:(b.Kind == 1&&(b.Of == o&&!iH a b)) with
  | false=>rfl
  | true =>
   simp only[alH,amR];rw[J8 o r b];simp only[iO]at c;exact(yU (by grind) r).symm
def mB(w:Int):az:={ cR with Width:=w }
section
variable{K:Kn}{n:Nat}{v2:bz}{L:eb}{W:ab→Int×Int}
theorem abr(r:∀e∈L,kp e)(G:L.length≤2000)(A:8010≤n)(i:Nat)(d:ck)(c:d7)(g:Bool)(C:Int→ck→d7→Option (d7×ck))(hi:i<L.length):∀(m x:Nat),i<x→x≤L.length→L.length<m+x →
  qq K n v2 L (i:Int) d c g C m (x:Int)=md K n v2 L i c g C ((x+jl (L.getD i default).Of (L.getD (x-1) default) (L.drop x):Nat):Int) d (eL (sl L i (x+jl (L.getD i default).Of (L.getD (x-1) default) (L.drop x)))):=by
 have j:∀y:Nat,i<y→y≤L.length→∀(D:Int→Option (d7×ck)),lU K n v2 L (i:Int) d c g (y:Int) C D false=md K n v2 L i c g C (y:Int) d (eL (sl L i y)):=fun y o k D=>by
  unfold lU;have s:List.drop i (List.take y L)=sl L i y:=rfl;have f:=Dr (L:=L) (a:=i) (b:=y) k;rw[kc (by simp),show cF (i:Int) (y:Int) L.length=true by simp only[cF,iO,q6];omega,ba];simp only[Int.toNat_natCast];rw[s,KW (by intro e;rw[e]at f;simp at f;omega) (by omega) (fun e z=>r e (BR z)) A];rfl
 intro m
 induction m with
 | zero=>intro x o k u;omega
 | succ m E =>
  intro x o k u;show tm K n v2 L i d c g C (qq K n v2 L i d c g C m) x=_;unfold tm;by_cases l:x<L.length
  ·have q:L.drop x=L.getD x default::L.drop (x+1):=by rw[l3 l,bN l]
   have p:L.getD x default∈L:=by rw[bN l];exact qv _
   have v:L.getD (x-1) default∈L:=by rw[bN (by omega)];exact qv _
   have t:aa ((x:Int)-1)=((x-1:Nat):Int):=by rw[bK (by omega) (by omega)];omega
   rw[lp (by simpa using l),dh (by omega) (by omega)];simp only[ba,Int.toNat_natCast,t];rw[q];unfold jl;have h:∀{b:Bool},b=false→lU K n v2 L (i:Int) d c g (x:Int) C (qq K n v2 L i d c g C m) false=md K n v2 L i c g C ((x+(bif b then jl (L.getD i default).Of (L.getD x default) (L.drop (x+1))+1 else 0):Nat):Int) d (eL (sl L i (x+(bif b then jl (L.getD i default).Of (L.getD x default) (L.drop (x+1))+1 else 0)))):=fun {b} p=>by
    subst p;exact j x o k _
   cases F:((L.getD x default).Kind == 1) with
   | false=>rw[kc (by simp)];exact h rfl
   | true =>
    rw[lp rfl];cases B:((L.getD x default).Of == (L.getD i default).Of) with
    | false=>rw[kc (by simp)];exact h rfl
    | true =>
     rw[lp rfl,dh (by omega) (by omega),ba,vr K (by omega) (r _ v).ch (r _ p).ch];simp only[iN];cases w:iH (L.getD (x-1) default) (L.getD x default) with
     | true=>exact h rfl
     | false =>
      unfold lU;rw[show(!false)=true from rfl,lp rfl,bK (by omega) (by omega),show(x:Int)+1=((x+1:Nat):Int) by omega,E (x+1) (by omega) (by omega) (by omega)];simp only[aiw,amr,alH];rw[show x+1+jl (L.getD i default).Of (L.getD x default) (L.drop (x+1))=x+(jl (L.getD i default).Of (L.getD x default) (L.drop (x+1))+1) by omega]
  ·rw[kc (by simpa using l),mo (by omega)];unfold jl;exact j x o k _
theorem I7(i:Nat) c a g C(b:a.length≤1000000) y x:md K n v2 L i a g C y c x=C y c (a++[runM x (L.getD i default) g]):=by
 unfold md;simp only[iN];rw[dc (by grind) (by omega),ba];rfl
theorem ZK(s:∀e∈L,kp e)(h:∀e∈L,e.Kind=1∨e.Kind=2∨e.Kind=3)(E:L.length≤2000)(F:8010≤n)(t:∀e∈L,e.Kind=3→K.gy v2.Widths e.Box=some (W e.Box)):∀(m i:Nat) (d:ck) (a:d7),i≤L.length→L.length<m+i→a.length≤i→d.length≤i →
  rR K n v2 L m (i:Int) d a=some (a++cM (fun b=>mB (W b).1) m (dG L i) (L.drop i),d++(dE (L.drop i)).map fun b=>(W b).2):=by
 intro m
 induction m with
 | zero=>intro i d a z A;omega
 | succ m v =>
  intro i d a z A I j;show vm K n v2 L (rR K n v2 L m) i d a=_;unfold vm;by_cases hi:i<L.length
  ·have l:L.drop i=L.getD i default::L.drop (i+1):=by rw[l3 hi,bN hi]
   have q:L.getD i default∈L:=by rw[bN hi];exact qv _
   rw[lp (by simpa using hi),dh (by omega) (by omega)];simp only[ba,Int.toNat_natCast];rw[l];(try rw[l]at j);have u:aa ((i:Int)+1)=((i+1:Nat):Int):=by rw[bK (by omega) (by omega)];omega
   have f:dG L (i+1)=some (L.getD i default):=by unfold dG;rw[kc (by omega),aiw]
   have key:∀g,g=we (dG L i) (L.getD i default)→qw K n v2 L (i:Int) d a (rR K n v2 L m) g=some (a++cM (fun b=>mB (W b).1) (m+1) (dG L i) (L.getD i default::L.drop (i+1)),d++(dE (L.getD i default::L.drop (i+1))).map fun b=>(W b).2):=by
    intro g C;unfold qw cM;simp only[iN,Int.toNat_natCast];rw[←C];cases x:((L.getD i default).Kind == 2) with
    | true =>
     have c:dE (L.getD i default::L.drop (i+1))=dE (L.drop (i+1)):=yU (by rw[show(L.getD i default).Kind=2 by simpa using x];rfl) _
     (try rw[c]);(try rw[c]at j)
     rw[lp rfl,I7 i d a g _ (by omega),u,← f];simp only[alH];have:=v (i+1) d (a++[runM { cR with Forced:=true } (L.getD i default) g]) (by omega) (by omega) (by simp;omega) (by omega);exact this.trans (by simp[u3])
    | false =>
     rw[kc (by simp)];cases p:((L.getD i default).Kind == 3) with
     | true =>
      have c:dE (L.getD i default::L.drop (i+1))=(L.getD i default).Box::dE (L.drop (i+1)):=T9 p _
      (try rw[c]);(try rw[c]at j)
      rw[lp rfl,← f];simp only[alH,alr];unfold D8;rw[t _ q (by simpa using p)];simp only[iN];rw[dc (by simp;omega) (by omega),ba];simp only[iN];rw[u,I7 i _ a g _ (by omega)];have:=v (i+1) (d++[(W (L.getD i default).Box).2]) (a++[runM (mB (W (L.getD i default).Box).1) (L.getD i default) g]) (by omega) (by omega) (by simp;omega) (by simp;omega);refine this.trans ?_;simp[u3]
     | false =>
      have J:(L.getD i default).Kind=1:=by
       have:=h _ q;have G:(L.getD i default).Kind≠2:=by simpa using x
       have H:(L.getD i default).Kind≠3:=by simpa using p
       omega
      have c:dE (L.getD i default::L.drop (i+1))=dE ((L.drop (i+1)).drop (jl (L.getD i default).Of (L.getD i default) (L.drop (i+1)))):=by
       rw[J8];exact yU p _
      (try rw[c]);(try rw[c]at j)
      rw[kc (by simp),u,abr s E F i d a g _ hi n (i+1) (by omega) (by omega) (by omega),aiw];simp only[alr];have D:=B4 (L.getD i default).Of (L.drop (i+1)) (L.getD i default);rw[ak2]at D;generalize jl (L.getD i default).Of (L.getD i default) (L.drop (i+1))=k at *;rw[I7 i d a g _ (by omega),Eo hi];have o:dG L (i+1+k)=some (L.getD (i+k) default):=by unfold dG;rw[kc (by omega)];congr 2;omega
      (try rw[akY]at j)
      rw[JV (by omega),← o,akY];have:=v (i+1+k) d (a++[runM (eL (L.getD i default::(L.drop (i+1)).take k)) (L.getD i default) g]) (by omega) (by omega) (by simp;omega) (by omega);exact this.trans (by simp[u3])
   by_cases w:i=0
   ·rw[kc (by simp;omega)];exact key false (by unfold dG;rw[lp w];rfl)
   ·have B:L.getD (i-1) default∈L:=by rw[bN (by omega)];exact qv _
    have y:aa ((i:Int)-1)=((i-1:Nat):Int):=by rw[bK (by omega) (by omega)];omega
    have o:dG L i=some (L.getD (i-1) default):=by unfold dG;rw[kc w]
    rw[lp (by simp;omega),y,dh (by omega) (by omega)];simp only[ba,Int.toNat_natCast];by_cases h:((L.getD (i-1) default).Kind != 2)=true
    ·rw[lp h,vr K (by omega) (s _ B).ch (s _ q).ch];simp only[iN];exact key _ (by rw[o];show _=((L.getD (i-1) default).Kind != 2&&!iH (L.getD (i-1) default) (L.getD i default));rw[h];rfl)
    ·rw[kc h];have r:((L.getD (i-1) default).Kind != 2)=false:=by simpa using h
     exact key false (by rw[o];show _=((L.getD (i-1) default).Kind != 2&&!iH (L.getD (i-1) default) (L.getD i default));rw[r];rfl)
  grind[cM,dE]
theorem abv(r:∀e∈L,kp e)(G:L.length≤2000)(A:8010≤n)(i:Nat)(at_:Int)(d:ck)(c:d7)(g:Bool)(C:Int→Int→ck→d7→Option (d7×Int×ck))(hi:i<L.length):∀(m x:Nat),i<x→x≤L.length→L.length<m+x →
  rH K n L (i:Int) at_ d c g C m (x:Int)=mh K n L i c g C ((x+jl (L.getD i default).Of (L.getD (x-1) default) (L.drop x):Nat):Int) at_ d (eL (sl L i (x+jl (L.getD i default).Of (L.getD (x-1) default) (L.drop x)))):=by
 have j:∀y:Nat,i<y→y≤L.length→∀(D:Int→Option (d7×Int×ck)),lQ K n L (i:Int) at_ d c g (y:Int) C D false=mh K n L i c g C (y:Int) at_ d (eL (sl L i y)):=fun y o k D=>by
  unfold lQ;have s:List.drop i (List.take y L)=sl L i y:=rfl;have f:=Dr (L:=L) (a:=i) (b:=y) k;rw[kc (by simp),show cF (i:Int) (y:Int) L.length=true by simp only[cF,iO,q6];omega,ba];simp only[Int.toNat_natCast];rw[s,KW (by intro e;rw[e]at f;simp at f;omega) (by omega) (fun e z=>r e (BR z)) A];rfl
 intro m
 induction m with
 | zero=>intro x o k u;omega
 | succ m E =>
  intro x o k u;show sX K n L i at_ d c g C (rH K n L i at_ d c g C m) x=_;unfold sX;by_cases l:x<L.length
  ·have q:L.drop x=L.getD x default::L.drop (x+1):=by rw[l3 l,bN l]
   have p:L.getD x default∈L:=by rw[bN l];exact qv _
   have v:L.getD (x-1) default∈L:=by rw[bN (by omega)];exact qv _
   have t:aa ((x:Int)-1)=((x-1:Nat):Int):=by rw[bK (by omega) (by omega)];omega
   rw[lp (by simpa using l),dh (by omega) (by omega)];simp only[ba,Int.toNat_natCast,t];rw[q];unfold jl;have h:∀{b:Bool},b=false→lQ K n L (i:Int) at_ d c g (x:Int) C (rH K n L i at_ d c g C m) false=mh K n L i c g C ((x+(bif b then jl (L.getD i default).Of (L.getD x default) (L.drop (x+1))+1 else 0):Nat):Int) at_ d (eL (sl L i (x+(bif b then jl (L.getD i default).Of (L.getD x default) (L.drop (x+1))+1 else 0)))):=fun {b} p=>by
    subst p;exact j x o k _
   cases F:((L.getD x default).Kind == 1) with
   | false=>rw[kc (by simp)];exact h rfl
   | true =>
    rw[lp rfl];cases B:((L.getD x default).Of == (L.getD i default).Of) with
    | false=>rw[kc (by simp)];exact h rfl
    | true =>
     rw[lp rfl,dh (by omega) (by omega),ba,vr K (by omega) (r _ v).ch (r _ p).ch];simp only[iN];cases w:iH (L.getD (x-1) default) (L.getD x default) with
     | true=>exact h rfl
     | false =>
      unfold lQ;rw[show(!false)=true from rfl,lp rfl,bK (by omega) (by omega),show(x:Int)+1=((x+1:Nat):Int) by omega,E (x+1) (by omega) (by omega) (by omega)];simp only[aiw,amr,alH];rw[show x+1+jl (L.getD i default).Of (L.getD x default) (L.drop (x+1))=x+(jl (L.getD i default).Of (L.getD x default) (L.drop (x+1))+1) by omega]
  ·rw[kc (by simpa using l),mo (by omega)];unfold jl;exact j x o k _
theorem IW(i:Nat)(at_:Int)(b:ck)(a:d7)(g:Bool)(C:Int→Int→ck→d7→Option (d7×Int×ck))(c:a.length≤1000000)(y:Int)(x:az):mh K n L (i:Int) a g C y at_ b x=C y at_ b (a++[runM x (L.getD i default) g]):=by
 unfold mh;simp only[iN,Int.toNat_natCast];rw[dc (by simp;omega) (by omega),ba];rfl
theorem ai4(t:∀e∈L,kp e)(j:∀e∈L,e.Kind=1∨e.Kind=2∨e.Kind=3)(N:L.length≤2000)(O:8010≤n): ∀(m i:Nat) (at_:Int) (c:ck) (a:d7),i≤L.length→L.length<m+i→a.length≤i→(0≤at_∧at_≤i∧c.drop at_.toNat=(dE (L.drop i)).map fun b=>(W b).2) →
  ∃z,pQ K n L m (i:Int) at_ c a=some (a++cM (fun b=>mB (W b).2) m (dG L i) (L.drop i),z):=by
 intro m
 induction m with
 | zero=>intro i at_ c a F G;omega
 | succ m v =>
  intro i at_ c a F G T h;show ∃z,uR K n L (pQ K n L m) i at_ c a=some (a++cM (fun b=>mB (W b).2) (m+1) (dG L i) (L.drop i),z);unfold uR;by_cases hi:i<L.length
  ·have o:L.drop i=L.getD i default::L.drop (i+1):=by rw[l3 hi,bN hi]
   have y:L.getD i default∈L:=by rw[bN hi];exact qv _
   rw[lp (by simpa using hi),dh (by omega) (by omega)];simp only[ba,Int.toNat_natCast];rw[o];(try rw[o]at h);have u:aa ((i:Int)+1)=((i+1:Nat):Int):=by rw[bK (by omega) (by omega)];omega
   have f:dG L (i+1)=some (L.getD i default):=by unfold dG;rw[kc (by omega),aiw]
   have key:∀g,g=we (dG L i) (L.getD i default)→∃z,pU K n L (i:Int) at_ c a (pQ K n L m) g=some (a++cM (fun b=>mB (W b).2) (m+1) (dG L i) (L.getD i default::L.drop (i+1)),z):=by
    intro g J;unfold pU cM;simp only[iN,Int.toNat_natCast];rw[←J];cases A:((L.getD i default).Kind == 2) with
    | true =>
     have d:dE (L.getD i default::L.drop (i+1))=dE (L.drop (i+1)):=yU (by rw[show(L.getD i default).Kind=2 by simpa using A];rfl) _
     (try rw[d]);(try rw[d]at h)
     rw[lp rfl,IW i at_ c a g _ (by omega),u,← f];simp only[alH];have:=v (i+1) at_ c (a++[runM { cR with Forced:=true } (L.getD i default) g]) (by omega) (by omega) (by simp;omega) ⟨h.1,by omega,h.2.2⟩;obtain⟨z,p⟩:=this;exact⟨z,p.trans (by simp[u3])⟩
    | false =>
     rw[kc (by simp)];cases w:((L.getD i default).Kind == 3) with
     | true =>
      have d:dE (L.getD i default::L.drop (i+1))=(L.getD i default).Box::dE (L.drop (i+1)):=T9 w _
      (try rw[d]);(try rw[d]at h)
      rw[lp rfl,← f];simp only[alH,alr];obtain⟨P,Q,r⟩:=h;have l:at_.toNat<c.length:=by
       have:=amI List.length r;rw[ak2]at this;simp at this;omega
      have I:c.drop at_.toNat=c.getD at_.toNat default::c.drop (at_.toNat+1):=by rw[l3 l,bN l]
      rw[I,rl]at r;injection r with B C
      have E:aa (at_+1)=at_+1:=bK (by omega) (by omega);unfold EE;rw[E,show aa (at_+1-1)=at_ by rw[bK (by omega) (by omega)];omega,dh (by omega) (by omega),ba];simp only[iN];rw[u,IW i _ _ a g _ (by omega),B];obtain⟨z,p⟩:=v (i+1) (at_+1) c (a++[runM (mB (W (L.getD i default).Box).2) (L.getD i default) g]) (by omega) (by omega) (by simp;omega) ⟨by omega,by omega,by rw[show(at_+1).toNat=at_.toNat+1 by omega];exact C⟩;exact⟨z,p.trans (by simp[u3])⟩
     | false =>
      have U:(L.getD i default).Kind=1:=by
       have:=j _ y;have R:(L.getD i default).Kind≠2:=by simpa using A
       have S:(L.getD i default).Kind≠3:=by simpa using w
       omega
      have d:dE (L.getD i default::L.drop (i+1))=dE ((L.drop (i+1)).drop (jl (L.getD i default).Of (L.getD i default) (L.drop (i+1)))):=by
       rw[J8];exact yU w _
      (try rw[d]);(try rw[d]at h)
      rw[kc (by simp),u,abv t N O i at_ c a g _ hi n (i+1) (by omega) (by omega) (by omega),aiw];simp only[alr];have M:=B4 (L.getD i default).Of (L.drop (i+1)) (L.getD i default);rw[ak2]at M;generalize jl (L.getD i default).Of (L.getD i default) (L.drop (i+1))=k at *;rw[IW i at_ c a g _ (by omega),Eo hi];have q:dG L (i+1+k)=some (L.getD (i+k) default):=by unfold dG;rw[kc (by omega)];congr 2;omega
      (try rw[akY]at h)
      rw[JV (by omega),← q,akY];have:=v (i+1+k) at_ c (a++[runM (eL (L.getD i default::(L.drop (i+1)).take k)) (L.getD i default) g]) (by omega) (by omega) (by simp;omega) ⟨h.1,by omega,h.2.2⟩;obtain⟨z,p⟩:=this;exact⟨z,p.trans (by simp[u3])⟩
   by_cases x:i=0
   ·rw[kc (by simp;omega)];exact key false (by unfold dG;rw[lp x];rfl)
   ·have H:L.getD (i-1) default∈L:=by rw[bN (by omega)];exact qv _
    have D:aa ((i:Int)-1)=((i-1:Nat):Int):=by rw[bK (by omega) (by omega)];omega
    have q:dG L i=some (L.getD (i-1) default):=by unfold dG;rw[kc x]
    rw[lp (by simp;omega),D,dh (by omega) (by omega)];simp only[ba,Int.toNat_natCast];by_cases j:((L.getD (i-1) default).Kind != 2)=true
    ·rw[lp j,vr K (by omega) (t _ H).ch (t _ y).ch];simp only[iN];exact key _ (by rw[q];show _=((L.getD (i-1) default).Kind != 2&&!iH (L.getD (i-1) default) (L.getD i default));rw[j];rfl)
    ·rw[kc j];have s:((L.getD (i-1) default).Kind != 2)=false:=by simpa using j
     exact key false (by rw[q];show _=((L.getD (i-1) default).Kind != 2&&!iH (L.getD (i-1) default) (L.getD i default));rw[s];rfl)
  ·rw[kc (by simpa using hi),mo (by omega)];exact⟨(at_,c),by simp[cM]⟩
end
end
noncomputable section
def nI(l:f6):Nat→Int→Nat→Int
 | 0,x,_=>x
 | m+1,x,a=>if a<l.length then nI l m (max x (fQ (sl l a (gr l (a+1))))) (gr l (a+1)) else x
def ef(l:f6)(i:Nat):Nat:=min l.length (i+((l.drop i).takeWhile fun r=>!r.f).length+1)
theorem M1(l:f6)(i:Nat):ef l i≤l.length:=by unfold ef;omega
theorem Iy{l:f6}{i:Nat}(h:i<l.length):i<ef l i:=by unfold ef;omega
theorem aab{l:f6}{i:Nat}(h:i<l.length)(a:l[i].f=true):ef l i=i+1:=by
 unfold ef;rw[l3 h,aln,kc (by simp[a])];simp;omega
theorem aha{l:f6}{i:Nat}(h:i+1=l.length):ef l i=i+1:=by
 have:=Iy (l:=l) (i:=i) (by omega);have:=M1 l i;omega
theorem Yx{l:f6}{i:Nat}(h:i+1<l.length)(a:l[i].f=false):ef l i=ef l (i+1):=by
 unfold ef;rw[l3 (show i<l.length by omega),aln,lp (by simp[a])];simp;omega
def l6(l:f6):Nat→Int→Nat→Int
 | 0,x,_=>x
 | m+1,x,a=>if a<l.length then l6 l m (max x (fQ (sl l a (ef l a)))) (ef l a) else x
theorem XX(l:f6):∀(m b:Nat) (x:Int) (a:Nat),l.length<m+a→l.length<b+a→nI l m x a=nI l b x a:=by
 intro m
 induction m with
 | zero =>
  intro b x a h c;cases b with
  | zero=>rfl
  | succ b=>unfold nI;rw[kc (by omega)]
 | succ m d =>
  intro b x a h c;cases b with
  | zero=>unfold nI;rw[kc (by omega)]
  | succ b =>
   unfold nI;split
   ·have:=mu l (a+1);exact d b _ _ (by omega) (by omega)
   ·rfl
theorem Zl(l:f6):∀(m b:Nat) (x:Int) (a:Nat),l.length<m+a→l.length<b+a→l6 l m x a=l6 l b x a:=by
 intro m
 induction m with
 | zero =>
  intro b x a h c;cases b with
  | zero=>rfl
  | succ b=>unfold l6;rw[kc (by omega)]
 | succ m e =>
  intro b x a h c;cases b with
  | zero=>unfold l6;rw[kc (by omega)]
  | succ b =>
   unfold l6;split
   ·rename_i d;have:=Iy d;exact e b _ _ (by omega) (by omega)
   ·rfl
section
variable{K:Kn}{n:Nat}{V4:d7×ck}{V5:d7×Int×ck}
theorem ajr(y:V5.1.length<n)(x:(V5.1.length:Int)≤1000000)(c b:Int)(a:Nat)(C:Int→Int→Option eq):∀(m e:Nat),1≤e→a<e→e≤V5.1.length→V5.1.length<m+e →
  vi K n V5 c b (a:Int) C m (e:Int)=C (max b (fQ (sl (V5.1.map vI) a (ef (V5.1.map vI) (e-1))))) ((ef (V5.1.map vI) (e-1):Nat):Int):=by
 have f:∀(e:Nat) (D:Int→Option eq),a<e→e≤V5.1.length→pH K n V5 c b (a:Int) (e:Int) C D false=C (max b (fQ (sl (V5.1.map vI) a e))) (e:Int):=fun e D j g=>by
  unfold pH xY;have u:List.drop a (List.take e V5.1)=sl V5.1 a e:=rfl;have v:=xO V5.1 a e;rw[kc (by simp),show cF (a:Int) (e:Int) V5.1.length=true by simp only[cF,iO,q6];omega,ba];simp only[Int.toNat_natCast];rw[u,Bp (by omega) (by omega),Iq];simp only[iN];by_cases r:fQ (sl (V5.1.map vI) a e)>b
  ·rw[lp (by simpa using r),show max b (fQ (sl (V5.1.map vI) a e))=fQ (sl (V5.1.map vI) a e) by omega]
  ·rw[kc (by simpa using r),show max b (fQ (sl (V5.1.map vI) a e))=b by omega]
 intro m
 induction m with
 | zero=>intro e j g h t;omega
 | succ m w =>
  intro e j g h t;show uv K n V5 c b a C (vi K n V5 c b a C m) e=_;unfold uv;have q:=yN (L:=V5.1) (k:=e-1) (by omega);have s:aa ((e:Int)-1)=((e-1:Nat):Int):=by rw[bK (by omega) (by omega)];omega
  by_cases o:e<V5.1.length
  ·rw[lp (by simpa using o),s,dh (by omega) (by omega),ba,Int.toNat_natCast];cases p:(V5.1.getD (e-1) default).Forced with
   | true =>
    have d:=aab (l:=V5.1.map vI) (i:=e-1) (by simp;omega) (by rw[q];exact p);rw[d,show e-1+1=e by omega,show(!true)=false from rfl];exact f e _ g h
   | false =>
    have d:=Yx (l:=V5.1.map vI) (i:=e-1) (by simp;omega) (by rw[q];exact p);rw[d,show e-1+1=(e+1)-1 by omega,show(!false)=true from rfl];unfold pH;rw[lp rfl,show aa ((e:Int)+1)=((e+1:Nat):Int) by rw[bK (by omega) (by omega)];omega];exact w (e+1) (by omega) (by omega) (by omega) (by omega)
  ·rw[kc (by simpa using o)];have d:=aha (l:=V5.1.map vI) (i:=e-1) (by simp;omega);rw[d,show e-1+1=e by omega];exact f e _ g h
theorem agw(j:V5.1.length<n)(h:(V5.1.length:Int)≤1000000)(b:Int):∀(m a:Nat) (c:Int),a≤V5.1.length→V5.1.length<m+a→uG K n V5 b m c (a:Int)=some (b,l6 (V5.1.map vI) m c a):=by
 intro m
 induction m with
 | zero=>intro a c f g;omega
 | succ m k =>
  intro a c f g;show wD K n V5 b (uG K n V5 b m) c a=_;unfold wD l6;by_cases d:a<V5.1.length
  ·rw[lp (by simpa using d),lp (by simpa using d),show aa ((a:Int)+1)=((a+1:Nat):Int) by rw[bK (by omega) (by omega)];omega,ajr j h b c a _ n (a+1) (by omega) (by omega) (by omega) (by omega),aiw];have o:=Iy (l:=V5.1.map vI) (i:=a) (by simpa using d);have e:=M1 (V5.1.map vI) a;rw[nw]at e;exact k _ _ e (by omega)
  ·rw[kc (by simpa using d),kc (by simpa using d)]
theorem akw(j:V4.1.length<n)(o:(V4.1.length:Int)≤1000000)(q:V5.1.length<n)(k:(V5.1.length:Int)≤1000000):∀(m a:Nat) (b:Int),a≤V4.1.length→V4.1.length<m+a→vb K n V4 V5 m b (a:Int)=some (nI (V4.1.map vI) m b a,l6 (V5.1.map vI) n 0 0):=by
 intro m
 induction m with
 | zero=>intro a b g h;omega
 | succ m f =>
  intro a b g h;show uz K n V4 V5 (vb K n V4 V5 m) b a=_;unfold uz nI;by_cases c:a<V4.1.length
  ·have d:=Ay (l:=V4.1.map vI) (i:=a+1) (by simp;omega);have p:=mu (V4.1.map vI) (a+1);rw[nw]at d;have r:List.drop a (List.take (gr (V4.1.map vI) (a+1)) V4.1)=sl V4.1 a (gr (V4.1.map vI) (a+1)):=rfl;have s:=xO V4.1 a (gr (V4.1.map vI) (a+1));rw[lp (by simpa using c),lp (by simpa using c),KL (by omega) (by omega) j (by omega)];simp only[iN,Int.toNat_natCast];rw[show cF (a:Int) ((gr (V4.1.map vI) (a+1):Nat):Int) V4.1.length=true by simp only[cF,iO,q6];omega,ba,r,Bp (by omega) (by omega),Iq];simp only[iN];unfold xd;by_cases e:fQ (sl (V4.1.map vI) a (gr (V4.1.map vI) (a+1)))>b
   ·rw[lp (by simpa using e),show max b (fQ (sl (V4.1.map vI) a (gr (V4.1.map vI) (a+1))))=fQ (sl (V4.1.map vI) a (gr (V4.1.map vI) (a+1))) by omega];exact f _ _ d (by omega)
   ·rw[kc (by simpa using e),show max b (fQ (sl (V4.1.map vI) a (gr (V4.1.map vI) (a+1))))=b by omega];exact f _ _ d (by omega)
  ·rw[kc (by simpa using c),kc (by simpa using c)];exact agw q k b n 0 0 (by omega) (by omega)
end
end
noncomputable section
theorem ZT:∀L s,fS L→(∀x∈s.2,x.Kind=1∨x.Kind=2)→∀x∈(vM 1 L s).2,x.Kind=1∨x.Kind=2:=by
 intro L
 induction L with
 | nil=>intro s _ a;exact a
 | cons b r d =>
  intro s e a;rw[lv,ala,← lv];have f:=e b tl;refine d _ (fun c g=>e c (by grind)) ?_;unfold ia;rw[f];cases mC b with
  | false=>grind
  | true=>exact C0 (P:=fun x=>x.Kind=1∨x.Kind=2) b _ (fun _ _ _=>.inl rfl) (.inr rfl) (fun _=>.inl rfl) (fun _=>.inl rfl) _ _ Jf a
def ky(a:d6):d7:=qL (fun _=>mB 0) (fm 1 a)
def zi(a:d6):Int×Int:=(nI ((ky a).map vI) ((ky a).length+1) 0 0,l6 ((ky a).map vI) ((ky a).length+1) 0 0)
theorem ag3{a:d6}(h:fS a)(t:a.length≤1000)(u:∀b∈a,b.Text.size≤1000)(y:eF 1 a≤2000){N:Nat}(w:9001≤N)(s:aN)(env:bz):yV (KN N) N a s env=some (zi a):=by
 have l:=Ej 1 a;have k:∀e∈fm 1 a,e.Kind=1∨e.Kind=2∨e.Kind=3:=fun e g=>by
  rcases ZT a (0,[]) h (fun x v=>by cases v) e g with q|q
  ·exact .inl q
  ·exact .inr (.inl q)
 have j:=OI h t u;have c:=ZK (K:=KN N) (n:=N) (v2:=env) (W:=fun _=>(0,0)) (DQ 1 a) k (by omega) (by omega) (fun e g i=>absurd i (Bm h e g)) N 0 [] [] (by omega) (by omega) (by simp) (by simp);obtain⟨z,f⟩:=ai4 (K:=KN N) (n:=N) (W:=fun _=>(0,0)) (DQ 1 a) k (by omega) (by omega) N 0 0 ((dE (fm 1 a)).map fun b=>0) [] (by omega) (by omega) (by simp) ⟨by omega,by omega,by simp⟩;rw[DO,show dG (fm 1 a) 0=none from rfl,IT]at c f;rw[IT]at c;rw[Om _ N ((fm 1 a).length+1) _ _ (by omega) (by omega)]at c f;have m:sq (KN N) N a env []=some (ky a,(dE (fm 1 a)).map fun b=>0):=by
  unfold sq;rw[HY j (by omega) (by omega),iN];exact c
 have o:sc (KN N) N a 0 ((dE (fm 1 a)).map fun b=>0)=some (ky a,z):=by
  unfold sc;rw[HY j (by omega) (by omega),iN];exact f
 have r:(ky a).length≤2000:=by
  unfold ky qL;have i:=OM (fun _:ab=>mB 0) ((fm 1 a).length+1) none (fm 1 a);omega
 unfold yV;have d:sq (KN N) N a env ([]:ck)=_:=m;rw[d,iN,show sc (KN N) N a 0 (ky a,(dE (fm 1 a)).map fun b=>(0:Int)).2=_ from o,iN];have p:=akw (K:=KN N) (n:=N) (V4:=(ky a,(dE (fm 1 a)).map fun b=>(0:Int))) (V5:=(ky a,z)) (by simp only;omega) (by simp only;omega) (by simp only;omega) (by simp only;omega) N 0 0 (u4 _) (by simp only;omega);unfold zi;rw[←XX _ N _ 0 0 (by rw[nw];omega) (by rw[nw];omega),← Zl _ N _ 0 0 (by rw[nw];omega) (by rw[nw];omega)];exact p
mutual
/-- Blocks and flex containers,and blocks of texts. -/
def GB:ab→Prop
 | ⟨k,_,s,t,_,_,a⟩=>(k=1∨k=6)∧(s.Position≠2∧t.size=0)∧a.length≤19∧((k=1∧fS a∧(∀q∈a,q.Text.size≤90)∧∀q∈a,q.Kids=[])∨gR a)
def gR:d6→Prop
 | []=>True
 | b::r=>GB b∧gR r
end
theorem gL{b:ab}:GB b↔((b.Kind=1∨b.Kind=6)∧(b.Style.Position≠2∧b.Text.size=0)∧b.Kids.length≤19∧((b.Kind=1∧fS b.Kids∧(∀q∈b.Kids,q.Text.size≤90)∧∀q∈b.Kids,q.Kids=[])∨gR b.Kids)):=by
 cases b;simp only[GB]
theorem kW:∀{l},gR l→∀k∈l,GB k
 | [],_,k,a=>by grind
 | b::r,h,k,a=>by
  simp only[gR]at h;rcases ol.1 a with rfl|a
  ·grind
  ·exact kW h.2 k a
theorem abR{b} z(h:GB b):GB (Fl.oN b z):=by rw[gL]at h⊢;exact h
def Dl(s:Nat)(b:ab)(v:Int×Int):Prop:=∀N,20010+s≤N→∀c a,pu (KN N) N b (db N c a)=some v
theorem Tw{s}{l:d6}(h:∀k∈l,∃v,Dl s k v):∃W:ab→Int×Int,∀k∈l,Dl s k (W k):=by
 classical
 refine⟨fun k=>if h:∃v,Dl s k v then h.choose else (0,0),fun k a=>?_⟩
 grind
def CU(W:ab→Int×Int):d6→Int→Int→Int×Int
 | [],a,b=>(dP a,dP b)
 | k::r,a,b=>CU W r (max a (W k).1) (max b (W k).2)
theorem agK(K:Kn)(n:Nat)(env:bz)(v6:d6×Bool)(g:v6.1.length≤1000)(W:ab→Int×Int)(e:∀k∈v6.1,K.gy env.Widths k=some (W k)):∀(m i:Nat) (a b:Int),i≤v6.1.length→v6.1.length<m+i→vU K n env v6 m a b i=some (CU W (v6.1.drop i) a b):=by
 intro m
 induction m with
 | zero=>intro i a b c d;omega
 | succ m f =>
  intro i a b c d;simp only[vU,Ar];by_cases hi:i<v6.1.length
  ·rw[drop_at' hi];simp only[eC hi,AT,dv hi,ba,Int.toNat_natCast,e _ (fp hi),iN,CU];rw[dL (by omega)];exact f (i+1) _ _ (by omega) (by omega)
  ·simp only[eh (show v6.1.length≤i by omega)];rw[mo (by omega)];rfl
def pb(b:ab)(W:ab→Int×Int):d6→Int→Int→Int×Int
 | [],x,y=>(x,y)
 | k::r,x,y=>if (b.Style.Direction == 1)=true then pb b W r (max x (W k).1) (max y (W k).2) else if b.Style.Wrap=true then pb b W r (max x (W k).1) (aa (y+(W k).2)) else pb b W r (aa (x+(W k).1)) (aa (y+(W k).2))
theorem afF(K:Kn)(n:Nat)(b:ab)(env:bz)(s:aN)(L:d6)(g:L.length≤1000)(W:ab→Int×Int)(e:∀k∈L,K.gy env.Widths k=some (W k)):∀(m i:Nat) (x y:Int),i≤L.length→L.length<m+i→rW K n b env s L m x y i=qD K n s (pb b W (L.drop i) x y).1 (pb b W (L.drop i) x y).2:=by
 intro m
 induction m with
 | zero=>intro i x y c d;omega
 | succ m f =>
  intro i x y c d;simp only[rW,yg];by_cases hi:i<L.length
  ·rw[drop_at' hi];have a:=fun x y=>f (i+1) x y (by omega) (by omega);simp only[eC hi,AT,dv hi,ba,Int.toNat_natCast,e _ (fp hi),iN,pb,z7,zO,dL (show i<1000000000 by omega)];split
   ·exact a _ _
   ·split
    ·exact a _ _
    ·exact a _ _
  ·simp only[eh (show L.length≤i by omega),jf,pt];rw[mo (by omega)];rfl
theorem P0 s x y:∃v,∀K n,qD K n s x y=some v :=
 ⟨(gV (fO s 0 (i7 s 0 (min (max x 0) 1048576))),gV (fO s 0 (i7 s 0 (min (max y 0) 1048576)))),fun K n=>by
  have a:∀q,iu K n q 1048576=some (min (max q 0) 1048576):=fun q=>rfl
  simp_all[qD,AB,Ep,sO,t7]⟩
theorem TT:∀(s:Nat) (b:ab),bE b≤s→GB b→∃v,Dl s b v
 | 0,b,h,_=>by have:=gn b;omega
 | s+1,b,h,Q=>by
  obtain⟨g,U,S,l⟩:=gL.1 Q;by_cases C:b.Kind=1∧fS b.Kids∧∀q∈b.Kids,q.Text.size≤90
  ·-- texts
   obtain⟨t,A,H⟩:=C;have I:=On H;have f:eD b=b.Kids:=akQ.2 fun k g=>by unfold hJ;rw[A k g];rfl
   have F:(eD b).any eP=false:=by
    rw[f,amo];intro k g;unfold eP;rw[A k g];decide
   have m:∃p:Int×Int,∀N,20010≤N→∀c a,lN (KN (N+1)) (N+1) b (db (N+1) c a)=some p:=by
    by_cases j:(cH (gl b.Style).Width 0).2=true
    ·exact⟨_,fun N i c a=>by unfold lN;rw[sL,iN,gq,iN,lp j,tF,iN]⟩
    ·refine⟨(dP (zi b.Kids).1,dP (zi b.Kids).2),fun N i c a=>?_⟩;unfold lN;rw[sL,iN,gq,iN,kc j,Cu (KN (N+1)) (N+1) (BH N) b (by omega) (by omega),iN];simp only[F,alM,AT];have O:(KN (N+1)).Ag (db (N+1) c a).Spread (eD b) b.Style=some (zi b.Kids):=by
      show z8 (KN N) N (eD b) b.Style (db N c a)=_;unfold z8;rw[f,ag3 A (by omega) (fun k r=>by have:=H k r;omega) (by omega) (by omega)];rfl
     rw[O,iN,tF,iN,tF,iN]
   obtain⟨p,o⟩:=m;refine⟨(gV (fO (gl b.Style) 0 (i7 (gl b.Style) 0 p.1)),gV (fO (gl b.Style) 0 (i7 (gl b.Style) 0 p.2))),fun N i c a=>?_⟩;obtain⟨M,rfl⟩:∃M,N=M+1:=⟨N-1,by omega⟩;unfold pu;rw[show(b.Kind == 6)=false by rw[t];rfl,show(b.Kind == 7)=false by rw[t];rfl];simp only[jf,pt];unfold zY;simp only[o M (by omega) c a,sL,Ep,sO,t7,iN]
  ·have B:gR b.Kids:=by
    rcases l with l|l
    ·exact absurd ⟨l.1,l.2.1,l.2.2.1⟩ C
    ·exact l
   obtain⟨W,P⟩:=Tw (s:=s) (fun k g=>TT s k (by have:=lw g;omega) (kW B k g));have u:∀N,20010+s≤N→∀c a,∀k∈b.Kids,(KN (N+1)).gy (db (N+1) c a).Widths k=some (W k):=fun N i c a k g=>P k g N i c a;rcases g with t|L
   ·-- a block of blocks
    have m:∃p:Int×Int,∀N,20010+s≤N→∀c a,lN (KN (N+1)) (N+1) b (db (N+1) c a)=some p:=by
     have E:b.Kids≠[]:=fun e=>C ⟨t,fun k r=>(by rw[e]at r;cases r),fun k r=>(by rw[e]at r;cases r)⟩;have f:eD b=b.Kids:=akQ.2 fun k g=>by
      have:=(gL.1 (kW B k g)).2.1.1;unfold hJ;simp[bne,this]
     have w:(eD b).any eP=true:=by
      rw[ahE];obtain⟨x,J⟩:=alx _ E;refine⟨x,by rw[f];exact J,?_⟩;unfold eP;rcases (gL.1 (kW B x J)).1 with q|q<;>rw[q]<;>rfl
     by_cases j:(cH (gl b.Style).Width 0).2=true
     ·exact⟨_,fun N i c a=>by unfold lN;rw[sL,iN,gq,iN,lp j,tF,iN]⟩
     ·refine⟨CU W b.Kids 0 0,fun N i c a=>?_⟩;unfold lN;rw[sL,iN,gq,iN,kc j,Cu (KN (N+1)) (N+1) (BH N) b (by omega) (by omega),iN];simp only[w,abM,jf,pt];have e:=agK (KN (N+1)) (N+1) (db (N+1) c a) (eD b,true) (by simp only[f];omega) W (by rw[f];exact u N i c a) (N+1) 0 0 0 (u4 _) (by simp only[f];omega);rw[DO]at e;simp only at e;rw[f]at e⊢;exact e
    obtain⟨p,o⟩:=m;refine⟨(gV (fO (gl b.Style) 0 (i7 (gl b.Style) 0 p.1)),gV (fO (gl b.Style) 0 (i7 (gl b.Style) 0 p.2))),fun N i c a=>?_⟩;obtain⟨M,rfl⟩:∃M,N=M+1:=⟨N-1,by omega⟩;unfold pu;rw[show(b.Kind == 6)=false by rw[t];rfl,show(b.Kind == 7)=false by rw[t];rfl];simp only[jf,pt];unfold zY;simp only[o M (by omega) c a,sL,Ep,sO,t7,iN]
   ·-- a flex container
    obtain⟨d,z,_⟩:=Od.nt b.Kids (by omega) (lvl:=20010) (n:=20010) (by omega) (by omega);have R:=z.len;have D:∀N,20010≤N→kU (KN N) N b=some (Fw.cz b d):=fun N i=>by
     obtain⟨T,K,G⟩:=Od.nt b.Kids (by omega) (lvl:=N) (n:=N) (by omega) (by omega);rw[K.uniq z]at G;exact Fw.Lh S z G (by omega)
    have key:∃v,∀N,20010+s≤N→∀c a,vq (KN (N+1)) (N+1) b (db (N+1) c a)=some v:=by
     by_cases j:(cH (gl b.Style).Width 0).2=true
     ·obtain⟨v,y⟩:=P0 (gl b.Style) (cH (gl b.Style).Width 0).1 (cH (gl b.Style).Width 0).1;exact⟨v,fun N i c a=>by unfold vq;rw[Fw.Vy,iN,gq,iN,lp j,y]⟩
     ·obtain⟨v,y⟩:=P0 (gl b.Style) (pb b W (Fw.cz b d) 0 0).1 (pb b W (Fw.cz b d) 0 0).2;refine⟨v,fun N i c a=>?_⟩;unfold vq;rw[Fw.Vy,iN,gq,iN,kc j,D (N+1) (by omega),iN];have e:=afF (KN (N+1)) (N+1) b (db (N+1) c a) (gl b.Style) (Fw.cz b d) (by rw[Fw.u0];omega) W (fun k g=>u N i c a k (Fw.Cc z g)) (N+1) 0 0 0 (u4 _) (by rw[Fw.u0];omega);rw[DO]at e;exact e.trans (y _ _)
    obtain⟨v,y⟩:=key;refine⟨v,fun N i c a=>?_⟩;obtain⟨M,rfl⟩:∃M,N=M+1:=⟨N-1,by omega⟩;unfold pu;rw[show(b.Kind == 6)=true by rw[L];rfl,lp rfl,y M (by omega) c a];rfl
end
theorem XZ(b:ByteArray):∀(k i:Nat) (r:List UInt8),b.size-i≤k→ByteArray.toList.loop b i r=r.reverse++b.data.toList.drop i:=by
 have j:b.data.toList.length=b.size:=by cases b;rfl
 intro k
 induction k with
 | zero =>
  intro i r h;rw[al9];have a:¬ i<b.size:=by omega
  rw[kc a,mo (by omega),Io]
 | succ k g =>
  intro i r h;rw[al9];by_cases a:i<b.size
  ·have c:i<b.data.toList.length:=by omega
   rw[lp a,g (i+1) _ (by omega),l3 c];have f:b.get! i=b.data.toList[i]:=by
    cases b with
    | mk d =>
     have e:i<d.size:=by simpa using c
     show d[i]! = d.toList[i];rw[amz d i e,Array.getElem_toList]
   rw[f,List.reverse_cons,u3,akS]
  ·rw[kc a,mo (by omega),Io]
theorem To(b:ByteArray):b.toList=b.data.toList:=by
 unfold ByteArray.toList;rw[XZ b b.size 0 [] (by omega)];rfl
theorem CV{a b:ByteArray}(h:a.toList=b.toList):a=b:=by
 rw[To,To]at h;exact ByteArray.ext (ak3.1 h)
theorem IL{α:Type}{x y:V4 α}(a:x.a0=y.a0)(b:x.a1=y.a1)(c:x.a2=y.a2)(d:x.a3=y.a3):x=y:=by
 cases x;cases y;simp_all
theorem acG{x y:aN}(h:lO x y=true):x=y:=by
 simp only[lO,YU,iO,ajC,and_true]at h;have d:=IL (x:=x.Margin) (y:=y.Margin);have e:=IL (x:=x.Padding) (y:=y.Padding);have f:=IL (x:=x.Border) (y:=y.Border);have a:=@CV x.BorderColor y.BorderColor;have b:=@CV x.Color y.Color;have c:=@CV x.Background y.Background;cases x;cases y
 simp_all
theorem aaJ{a b:ab}(h:pD a b=true)(j:a.Kids=b.Kids):a=b:=by
 simp only[pD,iO,ajC]at h;obtain⟨e,f,c,d,g,i⟩:=h;have c:=acG c;have d:=CV d;cases a;cases b
 simp_all
mutual
theorem A9:∀{a b:ab},ga a b=true→a=b
 | ⟨k,n,s,t,r,q,c⟩,b,h=>by
  rw[Ke,iO]at h;exact aaJ h.1 (TW (l:=c) h.2)
theorem TW:∀{l m:d6},iE l m=true→l=m
 | [],[],_=>rfl
 | a::r,b::q,h=>by
  simp only[iE,iO]at h;rw[A9 h.1,TW h.2]
 | [],_::_,h=>by cases h
 | _::_,[],h=>by cases h
end
theorem acY(K j:Kn)(n k:Nat)(L:dn)(v:L.length≤1000000):∀(m c:Nat) (i h:Int) (b:bc) (t:Bool) (g:bc) (l:dn),0≤i→i≤L.length→(L.length:Int)<m+i→(L.length:Int)<c+i →
  jM K n L m h t i b g l=jM j k L c h t i b g l:=by
 intro m
 induction m with
 | zero=>intro c i _ _ _ _ _ o p q _;omega
 | succ m s =>
  intro c i h b t g l o p q u;cases c with
  | zero=>omega
  | succ c =>
   by_cases hi:i<(L.length:Int)
   ·have r:aa (i+1)=i+1:=bK (by omega) (by omega);have key:∀(e:Int) (f:Bool) (d a:bc) (l':dn),jM K n L m e f (i+1) d a l'=jM j k L c e f (i+1) d a l':=fun e f d a l'=>s c (i+1) e d f a l' (by omega) (by omega) (by omega) (by omega);simp only[jM,ru,kD,gz,iN,ur,vT,uD,rq,r,key]
   ·have:decide (i<(L.length:Int))=false:=by simpa using hi
    simp only[jM,ru,this,jf,pt,rq,gz,kD]
theorem WQ(K b:Kn)(n a:Nat)(L:dn)(c:L.length≤1000000)(e:L.length<n)(d:L.length<a):mi K n L=mi b a L :=
 acY K b n a L c n a 0 0 _ _ _ [] (amq 0) (by omega) (by omega) (by omega)
noncomputable section
theorem agr(b:ab)(z:bW)(t m:Bool)(c:b.Kids.length≤20)(e:fS b.Kids)(u:∀k∈b.Kids,k.Text.size≤1000)(q:eF 1 b.Kids≤2000):
  ∃F:ae,DF 3 F∧∀(N:Nat),9100≤N→∀env:bz,(∃g i j l,env.Lines=.c52 g i j l)→∀(d f:Int) (S:cd),kj (KN (N+1)) (N+1) b z t m env d f S=some (F,d,f,S):=by
 have a:eD b=b.Kids:=akQ.2 fun k c=>by unfold hJ;rw[e k c];rfl
 have p:(eD b).any eP=false:=by
  rw[a,amo];intro k c;unfold eP;rw[e k c];decide
 obtain⟨s,o⟩:=Z0 e q b.Style z.Content;refine⟨rt b z t m false (nA b.Kids b.Style z.Content).2 (((nA b.Kids b.Style z.Content).1.length:Int) == 0) dB dB (nA b.Kids b.Style z.Content).1,SI (by omega) o,fun N v env n d f S=>?_⟩;obtain⟨g,i,j,l,n⟩:=n;unfold kj;rw[Cu (KN (N+1)) (N+1) (BH N) b c (by omega),iN];simp only[p,jf,pt];rw[a,n];have r:(KN (N+1)).yK (.c52 g i j l) b.Kids b.Style z.Content=some (nA b.Kids b.Style z.Content):=by
  show wU (KN N) N b.Kids b.Style z.Content ⟨g,i,j,l⟩=_;unfold wU;rw[acj e (by omega) u q (by omega)];rfl
 rw[r,iN,HG _ _ _ (by omega),iN];exact MR (KN (N+1)) (N+1) b z _ (by omega) (by omega) d f S (b.Kids,false) (fun h=>by cases h) t m _ _ _ _
theorem aaX(b:ab)(z:bW)(t h:Bool)(B:b.Kids.length≤20)(D:(eD b).any eP=true)(l:∀k∈eD b,eP k=true):
  ∃G:dn→ae,(∀(r:dn) (d:Nat),r.length=(eD b).length→(∀f∈r,DF d f)→DF (d+1) (G r))∧∀(N:Nat),100≤N→∀(env:bz) (i j:Int) (S:cd),kj (KN (N+1)) (N+1) b z t h env i j S =
   (c9 (fun k w=>(KN (N+1)).dr env.Layout k w) ((eD b).map fun k=>(k,z.Content)) i j S).bind fun r=>some (G r.1,r.2.1,r.2.2.1,r.2.2.2):=by
 have y:=Oq (b:=b)
 let a:dn→dn×Int×bc×bc×Bool:=fun r=>(mi (KN 100) 100 r).getD ([],0,dB,dB,true)
 refine⟨fun r=>rt b z t h true (a r).2.1 (a r).2.2.2.2 (a r).2.2.1 (a r).2.2.2.1 (a r).1,fun r d p v=>?_,fun N E env i j S=>?_⟩
 ·obtain⟨q,m,s,o⟩:=ON (KN 100) 100 r (by omega) (by omega);have c:a r=q:=by show(mi (KN 100) 100 r).getD _=q;rw[m];rfl
  show DF (d+1) (rt b z t h true (a r).2.1 (a r).2.2.2.2 (a r).2.2.1 (a r).2.2.2.1 (a r).1);rw[c];refine SI (by omega) (fun f x=>?_);obtain⟨g,A,e⟩:=o f x;exact vp e (v g A)
 ·unfold kj;rw[Cu (KN (N+1)) (N+1) (BH N) b B (by omega),iN];simp only[D,AT];have u:=We (KN (N+1)) (N+1) b z t h env (eD b,true) (by simp only;omega) (N+1) 0 [] i j S (u4 _) (by simp only;omega) (by simp);have n:qt (KN (N+1)) (N+1) b z t h env (eD b,true) (N+1) 0 [] i j S=_:=u;rw[n,DO,PT (fun k w=>(KN (N+1)).dr env.Layout k w)];cases C:c9 (fun k w=>(KN (N+1)).dr env.Layout k w) ((eD b).map fun k=>(k,z.Content)) i j S with
  | none=>rfl
  | some r =>
   have p:=wJ C;rw[nw]at p;simp only[iN,IT];obtain⟨q,m,s,o⟩:=ON (KN 100) 100 r.1 (by omega) (by omega);have c:a r.1=q:=by show(mi (KN 100) 100 r.1).getD _=q;rw[m];rfl
   rw[WQ (KN (N+1)) (KN 100) (N+1) 100 r.1 (by omega) (by omega) (by omega),m,iN,c];exact MR (KN (N+1)) (N+1) b z q.1 (by omega) (by omega) _ _ _ (eD b,true) (fun _=>⟨by simp only;omega,l⟩) t h _ _ _ _
theorem adk(b:ab)(w:Int):∃t g,∀(K:Kn) (n:Nat) (env:bz) (c d:Int) (S:cd),oc K n b w env c d S=(kj K n b (cu b.Style w) t g env c d S).bind fun a=>some (a.1,a.2.1,a.2.2.1,a.2.2.2):=by
 have k:∀t,∃g,∀(K:Kn) (n:Nat) (env:bz) (c d:Int) (S:cd),oL K n b env c d S (cu b.Style w) t=(kj K n b (cu b.Style w) t g env c d S).bind fun a=>some (a.1,a.2.1,a.2.2.1,a.2.2.2):=fun t=>by
  unfold oL;by_cases e:(b.Style.Overflow == 0)=true
  ·by_cases f:((cu b.Style w).Border.a2 == 0)=true
   ·by_cases i:((cu b.Style w).Padding.a2 == 0)=true
    ·exact⟨_,fun K n env c d S=>by rw[lp e,lp f,lp i];rfl⟩
    ·exact⟨_,fun K n env c d S=>by rw[lp e,lp f,kc i];rfl⟩
   ·exact⟨_,fun K n env c d S=>by rw[lp e,kc f];rfl⟩
  ·exact⟨_,fun K n env c d S=>by rw[kc e];rfl⟩
 have:∃t,∀(K:Kn) (n:Nat) (env:bz) (c d:Int) (S:cd),oc K n b w env c d S=oL K n b env c d S (cu b.Style w) t:=by
  unfold oc;simp only[DE,iN];by_cases e:(b.Style.Overflow == 0)=true
  ·by_cases f:((cu b.Style w).Border.a0 == 0)=true
   ·exact⟨_,fun K n env c d S=>by rw[lp e,lp f]⟩
   ·exact⟨_,fun K n env c d S=>by rw[lp e,kc f]⟩
  ·exact⟨_,fun K n env c d S=>by rw[kc e]⟩
 obtain⟨t,j⟩:=this;obtain⟨g,h⟩:=k t;exact⟨t,g,fun K n env c d S=>by rw[j,h]⟩
structure UF(b:ab)(f:Nat→Bool→Bool→Int→Int→cd→Option (ae×Int×Int×cd))(P:io)(G:dn→ae):Prop where
 good:∀p∈P,GB p.1∧bE p.1<bE b∧0≤p.2
 sz:ec P≤cV b.Kids
 df:∀(r:dn) (d:Nat),2≤d→r.length=P.length→(∀x∈r,DF d x)→DF (d+1) (G r)
 run:∀(N:Nat),20010+bE b≤N→∀(lf kf:Bool) (fr us:Int) (S:cd),f (N+1) lf kf fr us S=(c9 (fun k w=>jZ (KN N) N k w lf (db N lf kf) kf) P fr us S).bind fun r=>some (G r.1,r.2.1,r.2.2.1,r.2.2.2)
theorem Z8{b:ab}{P:io}:∀p∈P,bE p.1≤ec P:=by
 intro p a
 induction P with
 | nil=>cases a
 | cons q r c =>
  simp only[ec];rcases ol.1 a with rfl|a
  ·omega
  ·have:=c a;omega
theorem Sj(b:ab)(T:b.Kind=1)(M:GB b)(z:bW)(y:0≤z.Content)(t s:Bool):∃P G,UF b (fun N o n=>kj (KN N) N b z t s (db N o n)) P G∧(∀p∈P,p.1∈b.Kids∧p.2=z.Content)∧((∃k∈b.Kids,k.Kind≠3)→P=b.Kids.map fun k=>(k,z.Content)):=by
 obtain⟨_,g,U,j⟩:=gL.1 M;have Q:=gw b;by_cases i:fS b.Kids∧∀q∈b.Kids,q.Text.size≤90
 ·have C:=On i.2;obtain⟨F,H,I⟩:=agr b z t s (by omega) i.1 (fun k h=>by have:=i.2 k h;omega) (by omega);refine⟨[],fun _=>F,⟨fun p g=>(by cases g),u4 _,fun r d D _ _=>HW H (by omega),fun N L o n u A S=>?_⟩,fun p g=>(by cases g),fun⟨k,c,K⟩=>absurd (i.1 k c) K⟩;show kj (KN (N+1)) (N+1) b z t s (db (N+1) o n) u A S=_;rw[I N (by omega) _ ⟨_,_,_,_,rfl⟩];rfl
 ·have v:gR b.Kids:=by
   rcases j with j|j
   ·exact absurd ⟨j.2.1,j.2.2.1⟩ i
   ·exact j
  have w:b.Kids≠[]:=fun e=>i ⟨fun k h=>(by rw[e]at h;cases h),fun k h=>(by rw[e]at h;cases h)⟩;have a:eD b=b.Kids:=akQ.2 fun k c=>by
   have:=(gL.1 (kW v k c)).2.1.1;unfold hJ;simp[bne,this]
  have f:∀k∈eD b,eP k=true:=fun k c=>by
   rw[a]at c;unfold eP;rcases (gL.1 (kW v k c)).1 with q|q<;>rw[q]<;>rfl
  have m:(eD b).any eP=true:=by
   rw[ahE];obtain⟨x,E⟩:=alx _ w;exact⟨x,by rw[a];exact E,f x (by rw[a];exact E)⟩
  obtain⟨G,B,J⟩:=aaX b z t s (by omega) m f;rw[a]at B;refine⟨b.Kids.map fun k=>(k,z.Content),G,⟨fun p g=>?_,?_,fun r d _ O D=>B r d (by rw[O,nw]) D,fun N L o n u A S=>?_⟩,fun p g=>?_,fun _=>rfl⟩
  ·obtain⟨k,c,rfl⟩:=Dy.1 g;exact⟨kW v k c,lw c,y⟩
  ·have:∀l:d6,ec (l.map fun k=>(k,z.Content))=cV l:=by
    intro l;induction l with
    | nil=>rfl
    | cons x r R=>simp only[rl,ec,cV,R]
   rw[this];exact la _
  ·have:=J N (by omega) (db (N+1) o n) u A S;rw[a]at this;exact this
  ·obtain⟨k,c,rfl⟩:=Dy.1 g;exact⟨c,rfl⟩
theorem SL(b:ab)(z:GB b)(A:bE b≤1900)(w:Int):∃P G,UF b (fun N c a=>if (b.Kind == 6)=true then nV (KN N) N b w (db N c a) else oc (KN N) N b w (db N c a)) P G:=by
 obtain⟨f,o,K,g⟩:=gL.1 z;rcases f with u|y
 ·obtain⟨t,C,e⟩:=adk b w;obtain⟨P,G,j,_⟩:=Sj b u z (cu b.Style w) (Fl.CP b.Style w).1 t C;refine⟨P,G,j.good,j.sz,j.df,fun N n c a i l S=>?_⟩;rw[show(b.Kind == 6)=false by rw[u];rfl];simp only[jf,pt];rw[e,j.run N n c a i l S];cases c9 (fun k w=>jZ (KN N) N k w c (db N c a) a) P i l S<;>rfl
 ·have m:gR b.Kids:=by
   rcases g with g|g
   ·rw[y]at g;exact absurd g.1 (by decide)
   ·exact g
  obtain⟨W,I⟩:=Tw (s:=bE b) (fun k f=>by
   obtain⟨v,O⟩:=TT (bE k) k (la _) (kW m k f);exact⟨v,fun N n c a=>O N (by have:=lw f;omega) c a⟩)
  obtain⟨P,G,D,E,F,H⟩:=Fl.WA b K w W;have M:=gw b;have B:=KT P;refine⟨P,G,fun p o=>?_,E,fun r d _ L J=>F r d L (by omega) J,fun N n c a i l S=>?_⟩
  ·obtain⟨q,k,f,h⟩:=D p o;refine⟨?_,by have:=Z8 (b:=b) p o;omega,by rw[q];exact(Fl.CP b.Style w).1⟩;rcases h with h|⟨x,h⟩
   ·rw[h];exact kW m k f
   ·rw[h];exact abR x (kW m k f)
  ·rw[show(b.Kind == 6)=true by rw[y];rfl];simp only[AT];exact H (N+1) (by omega) (db (N+1) c a) (fun k f=>I k f N (by omega) c a) i l S
end
noncomputable section
def lB(b:ab)(w:Int)(F:ae):Prop:=∀N,20011+bE b≤N→∀(a c:Int) (S:cd),jZ (KN N) N b w false (db N false false) false a c S=some (F,a,c,S)
theorem lB.uniq{b:ab}{w:Int}{F G:ae}(h:lB b w F)(g:lB b w G):F=G:=by
 have e:=(h (20011+bE b) (la _) 0 0 []).symm.trans (g (20011+bE b) (la _) 0 0 []);injection e with e
 exact(Prod.mk.inj e).1
inductive iq (D:Nat):io→dn→Prop
 | nil:iq D [] []
 | cons (p:ab×Int) (F:ae) (P:io) (r:dn) (h1:lB p.1 p.2 F) (h2:DF D F) (h3:DF (bE p.1+2) F) (t:iq D P r):iq D (p::P) (F::r)
theorem iq.len{D:Nat}{P:io}{r:dn}(h:iq D P r):r.length=P.length:=by
 induction h with
 | nil=>rfl
 | cons p F P r b c d t a=>simp[a]
theorem iq.df{D:Nat}{P:io}{r:dn}(h:iq D P r):∀x∈r,DF D x:=by
 induction h with
 | nil=>intro x a;cases a
 | cons p F P r d b e t c =>
  intro x a;rcases ol.1 a with rfl|a
  ·exact b
  ·exact c x a
theorem iq.of{D:Nat}:∀(P:io),(∀p∈P,bE p.1+2≤D∧∃F,DF (bE p.1+2) F∧lB p.1 p.2 F)→∃r,iq D P r
 | [],_=>⟨[],.nil⟩
 | p::P,h=>by
  obtain⟨b,F,a,c⟩:=h p tl;obtain⟨r,e⟩:=iq.of P (fun q d=>h q (oR _ d));exact⟨F::r,.cons p F P r c (HW a b) a e⟩
theorem iq.pure{D:Nat}{P:io}{r:dn}(h:iq D P r){N:Nat}(c:∀p∈P,20011+bE p.1≤N):∀(a b:Int) (S:cd),c9 (fun k w=>jZ (KN N) N k w false (db N false false) false) P a b S=some (r,a,b,S):=by
 induction h with
 | nil=>intro a b S;rfl
 | cons p F P r d g i t f =>
  intro a b S;simp only[c9,d N (c p tl) a b S,iN,f (fun q e=>c q (oR _ e)) a b S]
theorem Jj(b:ab)(e:GB b)(w:Int)(N:Nat)(env:bz)(c:Bool)(a d:Int)(S:cd):vY (KN N) N b w env c a d S=((if (b.Kind == 6)=true then nV (KN N) N b w env else oc (KN N) N b w env) a d S).bind fun v=>wk (KN N) N b w c v.1 v.2.1 v.2.2.1 v.2.2.2:=by
 unfold vY;rcases (gL.1 e).1 with h|h
 ·rw[show(b.Kind == 6)=false by rw[h];rfl,show(b.Kind == 7)=false by rw[h];rfl,show(b.Kind == 5)=false by rw[h];rfl];simp only[jf,pt]
 ·rw[show(b.Kind == 6)=true by rw[h];rfl];simp only[AT]
theorem Kk:∀(s:Nat) (b:ab) (w:Int),bE b≤s→s≤1900→GB b→∃F,DF (bE b+2) F∧lB b w F
 | 0,b,_,h,_,_=>by have:=gn b;omega
 | s+1,b,w,h,l,e=>by
  obtain⟨P,G,a⟩:=SL b e (by omega) w;have f:=gn b;obtain⟨r,d⟩:=iq.of (D:=bE b+1) P (fun p c=>by
   have i:=a.good p c;exact⟨by omega,Kk s p.1 p.2 (by omega) (by omega) i.1⟩)
  refine⟨G r,a.df r (bE b+1) (by omega) d.len d.df,fun N k g j S=>?_⟩;obtain⟨M,rfl⟩:∃M,N=M+1:=⟨N-1,by omega⟩;unfold jZ;simp only[jf,pt];rw[Jj b e,show _=_ from a.run M (by omega) false false g j S,d.pure (fun p c=>by have:=(a.good p c).2;omega)];rfl
structure jr(m:aw):Prop where
 sz:bE m.Box≤100
 df:DF (bE m.Box+2) m.Fragment
 pure:lB m.Box m.Width m.Fragment
 gb:GB m.Box
 wd:0≤m.Width
theorem ake(N:Nat)(b:ab)(w:Int)(e f:Int)(S:cd)(l:S.length≤100000)(k:3200≤N)(g:∀m∈S,jr m):∀(m i:Nat),i≤S.length→S.length<m+i →
  sH (KN N) N b w e f S m i=some (vu b w e f S (S.drop i)):=by
 intro m
 induction m with
 | zero=>intro i a c;omega
 | succ m h =>
  intro i a c;simp only[sH,zx];by_cases hi:i<S.length
  ·have j:=h (i+1) (by omega) (by omega);have d:=g _ (fp hi);rw[drop_at' hi];simp only[eC hi,AT,dv hi,ba,Int.toNat_natCast,w7];generalize S.getD i default=M at *;rw[DU (bE M.Box) N M.Box b (la _) (by have:=d.sz;omega) (by have:=d.sz;omega),iN,dL (by omega),j];cases a:(M.Width == w) with
   | false=>simp[vu,eY,amH,a]
   | true =>
    cases c:ga M.Box b with
    | false=>simp[vu,eY,amH,a,c]
    | true =>
     rw[Ew _ N _ d.df (by have:=d.sz;omega)];simp[vu,eY,amH,a,c]
  ·simp only[eh (show S.length≤i by omega),jf,pt];rw[mo (by omega)];rfl
theorem adx(N:Nat)(b:ab)(w:Int)(a c:Int)(S:cd)(f:S.length≤3000)(d:3200≤N)(e:∀m∈S,jr m):Bb (KN N) N b w a c S=some (vu b w a c S S):=by
 unfold Bb;have:=ake N b w a c S (by omega) d e N 0 (u4 _) (by omega);simpa using this
theorem akf(N:Nat)(b:ab)(w:Int)(a c:Int)(S:cd)(e:S.length≤3000)(d:3200≤N)(f:∀m∈S,jr m):zZ (KN N) N b w a c S =
  some (match S.find? (eY b w) with
   | some m=>(m.Fragment,true,a,aa (c+1),S)
   | none=>(bT,false,a,c,S)):=by
 unfold zZ;rw[adx N b w a c S e d f,iN];unfold vu;cases S.find? (eY b w)<;>rfl
theorem DP{b:ab}{w:Int}{m:aw}(h:eY b w m=true):m.Width=w∧m.Box=b:=by
 simp only[eY,iO,ajC]at h;exact⟨h.1,A9 h.2⟩
theorem adE{b:ab}{w:Int}{F:ae}{S:cd}(f:∀m∈S,jr m)(e:lB b w F){m:aw}(h:S.find? (eY b w)=some m):m.Fragment=F:=by
 have a:=(f m (amg h)).pure;obtain⟨c,d⟩:=DP (List.find?_some h);rw[c,d]at a;exact a.uniq e
end
noncomputable section
def M5(N:Nat)(b:ab)(w:Int)(F:ae):Prop :=
 ∀(c d:Int) (S:cd),0≤c→c+(bE b:Int)≤2000→S.length+bE b≤2000→(∀m∈S,jr m) →
  ∃a T,jZ (KN N) N b w true (db N true true) true c d S=some (F,c+(T.length:Int),a,S++T)∧(∀m∈T,jr m)∧T.length≤bE b∧(∃m∈S++T,eY b w m=true)∧((∃m∈S,eY b w m=true)→T=[]∧a=aa (d+1))∧(¬ (∃m∈S,eY b w m=true)→0<T.length)∧∀m∈T,bE m.Box≤bE b
theorem Pz{D:Nat}{P:io}{r:dn}(h:iq D P r)(N:Nat)(u:∀p∈P,∀F,lB p.1 p.2 F→DF (bE p.1+2) F→M5 N p.1 p.2 F):∀(b d:Int) (S:cd),0≤b→b+(ec P:Int)≤2000→S.length+ec P≤2000→(∀m∈S,jr m) →
  ∃j T,c9 (fun k w=>jZ (KN N) N k w true (db N true true) true) P b d S=some (r,b+(T.length:Int),j,S++T)∧(∀m∈T,jr m)∧T.length≤ec P∧(∀p∈P,∃m∈S++T,eY p.1 p.2 m=true)∧((∀p∈P,∃m∈S,eY p.1 p.2 m=true)→T=[]∧(0≤d→d+(P.length:Int)≤100000→j=d+(P.length:Int)))∧((∃p∈P,¬ ∃m∈S,eY p.1 p.2 m=true)→0<T.length)∧∀m∈T,bE m.Box≤ec P:=by
 induction h with
 | nil =>
  intro b d S _ _ _ _;exact⟨d,[],by simp[c9],fun m e=>(by cases e),u4 _,fun p o=>(by cases o),fun _=>⟨rfl,fun _ _=>by simp⟩,fun⟨p,o,_⟩=>(by cases o),fun m e=>(by cases e)⟩
 | cons p F P r M h2 O t V =>
  intro b d S L R Q e;simp only[ec]at R Q⊢;obtain⟨Z,T,E,s,e3,G,H,I,J⟩:=u p tl F M O b d S L (by omega) (by omega) e;have n:∀m∈S++T,jr m:=fun m a=>by
   rcases n5.1 a with a|a
   ·exact e m a
   ·exact s m a
  obtain⟨u2,U,x,y,d3,z,A,B,C⟩:=V (fun q a=>u q (oR _ a)) (b+(T.length:Int)) Z (S++T) (by omega) (by omega) (by simp only[ne];omega) n;refine⟨u2,T++U,?_,fun m a=>?_,by simp only[ne];omega,fun q a=>?_,fun c=>?_,fun⟨q,a,f⟩=>?_,fun m a=>(by
   rcases n5.1 a with a|a
   ·have:=J m a;omega
   ·have:=C m a;omega)⟩
  ·rw[show b+(((T++U).length:Nat):Int)=b+(T.length:Int)+(U.length:Int) by rw[ne];omega];simp only[c9,E,iN,x,u3]
  ·rcases n5.1 a with a|a
   ·exact s m a
   ·exact y m a
  ·rcases ol.1 a with rfl|a
   ·obtain⟨m,g,i⟩:=G;exact⟨m,by rw[←u3];exact alU _ g,i⟩
   ·obtain⟨m,g,i⟩:=z q a;exact⟨m,by rw[←u3];exact g,i⟩
  ·obtain⟨W,v⟩:=H (c p tl);subst W;obtain⟨X,Y⟩:=A (fun q a=>by
    obtain⟨m,g,i⟩:=c q (oR _ a);exact⟨m,by simpa using g,i⟩)
   refine⟨by rw[X];rfl,fun g1 K=>?_⟩;simp only[ls]at K⊢;rw[bK (by omega) (by omega)]at v;rw[Y (by omega) (by omega),v];omega
  ·rw[ne];by_cases hT:0<T.length
   ·omega
   ·have l:T=[]:=qk (by omega);rcases ol.1 a with rfl|a
    ·have:=I f;omega
    ·have:=B ⟨q,a,by rw[l,Io];exact f⟩;omega
theorem Uk:∀(s N:Nat) (b:ab) (w:Int) (F:ae),bE b≤s→s≤90→20011+bE b≤N→GB b→0≤w→DF (bE b+2) F→lB b w F→M5 N b w F
 | 0,_,b,_,_,h,_,_,_,_,_,_=>by have:=gn b;omega
 | s+1,N,b,w,F,h,hs,O,q,A,n,y=>by
  intro i u S K hf hS j;have B:=gn b;obtain⟨M,rfl⟩:∃M,N=M+1:=⟨N-1,by omega⟩;unfold jZ;simp only[AT,ba];rw[akf (M+1) b w i u S (by omega) (by omega) j,iN];cases t:S.find? (eY b w) with
  | some m =>
   have f:=amg t;have d:=List.find?_some t;have Q:=adE j y t;simp only[AT];refine⟨aa (u+1),[],by simp[Q],fun m j=>(by cases j),u4 _,⟨m,by simpa using f,d⟩,fun _=>⟨rfl,rfl⟩,fun k=>absurd ⟨m,f,d⟩ k,fun m j=>(by cases j)⟩
  | none =>
   have k:¬ ∃m∈S,eY b w m=true:=fun⟨m,W,X⟩=>by
    have:=List.find?_eq_none.1 t m W;exact this X
   simp only[jf,pt];obtain⟨P,G,a⟩:=SL b q (by omega) w;obtain⟨r,C⟩:=iq.of (D:=bE b+1) P (fun p g=>by
    have R:=a.good p g;exact⟨by omega,Kk s p.1 p.2 (by omega) (by omega) R.1⟩)
   have L:G r=F:=by
    have e:=y (M+1) O 0 0 [];unfold jZ at e;simp only[jf,pt]at e;rw[Jj b q,show _=_ from a.run M (by omega) false false 0 0 [],C.pure (fun p g=>by have:=(a.good p g).2;omega)]at e;have v:some (G r,(0:Int),(0:Int),([]:cd))=some (F,0,0,[]):=e;injection v with v
    exact(Prod.mk.inj v).1
   have V:=gw b;have U:=a.sz;obtain⟨l,T,H,I,Y,Z,e5,e6,J⟩:=Pz C M (fun p g E z x=>Uk s M p.1 p.2 E (by have:=(a.good p g).2;omega) (by omega) (by have:=(a.good p g).2;omega) (a.good p g).1 (a.good p g).2.2 x z) i u S K (by omega) (by omega) j;rw[Jj b q,show _=_ from a.run M (by omega) true true i u S,H];simp only[iN,L,wk,AT,ba];rw[aa7 (M+1) b w F (i+(T.length:Int)) l (S++T) (by simp only[ne];omega) (by omega) (bE b+2) n (by omega) (by omega),iN];refine⟨l,T++[⟨b,w,F⟩],?_,fun m c=>?_,by simp only[ne,ls,ti];omega,⟨⟨b,w,F⟩,by simp,by simp[eY,Dm]⟩,fun o=>absurd o k,fun _=>by simp,fun m c=>(by
    rcases n5.1 c with c|c
    ·have:=J m c;omega
    ·simp only[ol,akP,alX]at c;subst c;exact la _)⟩
   ·rw[show i+(((T++[(⟨b,w,F⟩:aw)]).length:Nat):Int)=i+(T.length:Int)+1 by rw[ne];simp only[ls,ti];omega];show some (F,i+(T.length:Int)+1,l,S++T++[(⟨b,w,F⟩:aw)])=_;rw[u3]
   ·rcases n5.1 c with c|c
    ·exact I m c
    ·simp only[ol,akP,alX]at c;subst c;exact⟨by show bE b≤100;omega,n,y,q,A⟩
end
theorem YH(K:Kn)(n:Nat)(l:ck)(b:l.length≤100000):zE K n l=some l:=by
 unfold zE om;have a:fits (([]:ck).length+l.length) 8=true:=by rw[ti,IF];exact dc (by omega) (by omega)
 rw[a];cases l<;>simp[ba]
theorem aiE(K:Kn)(n:Nat)(p:ib)(b:ab)(ar:ck)(o:b.Kids.length<1000000)(g:∀k∈b.Kids,(k.Kind=3∨k.Style.Position≠2)∧K.tL p k ar=some ()):∀(m i:Nat),i≤b.Kids.length→b.Kids.length<m+i→qd K n p b ar m i=some ():=by
 intro m
 induction m with
 | zero=>intro i e f;omega
 | succ m h =>
  intro i e f;simp only[qd,A4];by_cases hi:i<b.Kids.length
  ·obtain⟨a,l⟩:=g _ (fp hi);have j:=h (i+1) (by omega) (by omega);have c:rb K n p b ar i (qd K n p b ar m) false=some ():=by
    unfold rb;simp only[jf,pt,Int.toNat_natCast,l,iN];rw[dL (by omega),j]
   simp only[eC hi,AT,dv hi,ba,Int.toNat_natCast];split
   ·rename_i d;split
    ·rcases a with a|a
     ·rw[a]at d;exact absurd d (by decide)
     ·rw[show((b.Kids.getD i default).Style.Position == 2)=false by simpa using a];exact c
    ·exact c
   ·exact c
  ·simp only[eh (show b.Kids.length≤i by omega),jf,pt]
theorem Vj(K:Kn)(n:Nat)(p:ib)(b:ab)(ar:ck)(j:ar.length≤90000)(l:b.Kids.length<n)(d:b.Kids.length<1000000)(e:∀k∈b.Kids,(k.Kind=3∨k.Style.Position≠2)∧∀a:ck,a.length≤ar.length+1→K.tL p k a=some ()):oB K n p b ar=some ():=by
 have g:∀a:ck,a.length≤ar.length+1→uH K n p b a=some ():=fun a h=>by
  unfold uH;have:=aiE K n p b a d (fun k f=>⟨(e k f).1,(e k f).2 a h⟩) n 0 (u4 _) (by omega);simpa using this
 have i:∀c,ve K n p b ar c=some ():=fun c=>by
  unfold ve;cases c with
  | false=>simpa using g ar (by omega)
  | true =>
   simp only[AT,YH K n ar (by omega),iN,List.length_singleton];rw[dc (by omega) (by omega),ba,g _ (by simp)]
 unfold oB;split<;>exact i _
def kT(m x:aw):Bool:=x.Width == m.Width&&ga x.Box m.Box
theorem YC(K:Kn)(n:Nat)(l:dO)(M:aw)(e:l.length<1000000)(c:∀k∈l,K.mw (Fv.c39 M) k=some (kT M k)):∀(m i:Nat),i≤l.length→l.length<m+i →
  ∃r,lS K n l (Fv.c39 M) m i=some r∧decide (r≥0)=(l.drop i).any (kT M):=by
 intro m
 induction m with
 | zero=>intro i a b;omega
 | succ m d =>
  intro i a b;simp only[lS,uP];by_cases hi:i<l.length
  ·rw[drop_at' hi];simp only[eC hi,AT,dv hi,ba,Int.toNat_natCast,c _ (fp hi),iN,List.any_cons];cases h:kT M (l.getD i default) with
   | true=>exact⟨_,rfl,by simp⟩
   | false =>
    simp only[jf,pt,alf];rw[dL (by omega)];exact d (i+1) (by omega) (by omega)
  ·simp only[eh (show l.length≤i by omega),jf,pt];rw[mo (by omega)];exact⟨_,rfl,rfl⟩
theorem acr(N:Nat)(l:dO)(M:aw)(h:l.length<5000)(g:6000≤N)(b:∀k∈l,bE k.Box≤100):zB (KN (N+1)) (N+1) l (Fv.c39 M)=some (l.any (kT M)):=by
 have f:∀k∈l,(KN (N+1)).mw (Fv.c39 M) k=some (kT M k):=fun k c=>by
  show yO (KN N) N k M=_;unfold yO kT;rw[DU (bE k.Box) N k.Box M.Box (la _) (by have:=b k c;omega) (by have:=b k c;omega),iN];cases (k.Width == M.Width)<;>rfl
 obtain⟨r,d,e⟩:=YC (KN (N+1)) (N+1) l M (by omega) f (N+1) 0 (u4 _) (by omega);have a:lS (KN (N+1)) (N+1) l (Fv.c39 M) (N+1) 0=some r:=d;unfold zB vA;rw[a,iN,e,DO]
def jx(a:ab):cd→cd→cd
 | acc,[]=>acc
 | acc,m::r=>if acc.any (kT m)=true then jx a acc r else if gF m.Box a=true then jx a (acc++[m]) r else jx a acc r
theorem Dt(a:ab):∀(L b:cd),(∀x∈b,x∈jx a b L)∧(∀x∈jx a b L,x∈b∨(x∈L∧gF x.Box a=true))∧(jx a b L).length≤b.length+L.length∧∀x∈L,gF x.Box a=true→∃y∈jx a b L,kT x y=true
 | [],b=>⟨fun x h=>h,fun x h=>.inl h,by simp[jx],fun x h=>by cases h⟩
 | m::r,b=>by
  simp only[jx,ls];split
  ·rename_i k;obtain⟨d,g,j,i⟩:=Dt a r b;refine⟨d,fun x c=>?_,by omega,fun x c f=>?_⟩
   ·rcases g x c with h|h
    ·exact .inl h
    ·exact .inr ⟨oR _ h.1,h.2⟩
   ·rcases ol.1 c with rfl|c
    ·obtain⟨y,l,n⟩:=ahE.1 k;exact⟨y,d y l,n⟩
    ·exact i x c f
  ·split
   ·rename_i e;obtain⟨d,g,j,i⟩:=Dt a r (b++[m]);refine⟨fun x c=>d x (alU _ c),fun x c=>?_,by simp only[ne,List.length_singleton]at j;omega,fun x c f=>?_⟩
    ·rcases g x c with h|h
     ·rcases n5.1 h with h|h
      ·exact .inl h
      ·simp only[ol,akP,alX]at h;subst h;exact .inr ⟨tl,e⟩
     ·exact .inr ⟨oR _ h.1,h.2⟩
    ·rcases ol.1 c with rfl|c
     ·exact⟨x,d x (amB _ tl),by simp[kT,Dm]⟩
     ·exact i x c f
   ·rename_i e;obtain⟨d,g,j,i⟩:=Dt a r b;refine⟨d,fun x c=>?_,by omega,fun x c f=>?_⟩
    ·rcases g x c with h|h
     ·exact .inl h
     ·exact .inr ⟨oR _ h.1,h.2⟩
    ·rcases ol.1 c with rfl|c
     ·exact absurd f e
     ·exact i x c f
theorem ab1(N:Nat)(b:ab)(F:ae)(f j:Int)(L:cd)(u:L.length≤3000)(y:bE b≤100)(p:6000≤N)(d:Nat)(q:DF d F)(g:d≤150)(s:∀m∈L,bE m.Box≤100):∀(m i:Nat) (a:cd),i≤L.length→L.length<m+i→a.length≤i→(∀x∈a,x∈L) →
  ri (KN (N+1)) (N+1) b (F,f,j,L) m i a=some (F,f,j,jx b a (L.drop i)):=by
 intro m
 induction m with
 | zero=>intro i a l n;omega
 | succ m h =>
  intro i a l n t e;simp only[ri,xn];by_cases hi:i<L.length
  ·have o:=fp hi;rw[drop_at' hi];simp only[eC hi,AT,dv hi,ba,Int.toNat_natCast,y7,yQ,jx];generalize L.getD i default=M at *;rw[acr N a M (by omega) p (fun k r=>s k (e k r)),iN,Ma (bE b) (N+1) b M.Box (la _) (by omega) (by omega),dL (by omega)];have skip:=h (i+1) a (by omega) (by omega) (by omega) e;cases v:a.any (kT M) with
   | true =>
    simp only[abM,jf,pt,AT];exact skip
   | false =>
    simp only[alM,AT,iN,jf,pt];cases w:gF M.Box b with
    | false =>
     simp only[jf,pt];exact skip
    | true =>
     simp only[AT,List.length_singleton];rw[dc (by omega) (by omega),ba];exact h (i+1) (a++[M]) (by omega) (by omega) (by simp;omega) (fun x c=>by
      rcases n5.1 c with c|c
      ·exact e x c
      ·simp only[ol,akP,alX]at c;subst c;exact o)
  ·simp only[eh (show L.length≤i by omega),jf,pt];rw[Ew d (N+1) F q (by omega),iN,mo (by omega)];rfl
theorem TI{b:ab}(h:GB b):∀k∈b.Kids,(k.Kind=3∧k.Kids=[])∨(k.Style.Position≠2∧GB k):=fun k c=>by
 obtain⟨_,_,_,a⟩:=gL.1 h;rcases a with a|a
 ·exact .inl ⟨a.2.1 k c,a.2.2.2 k c⟩
 ·have:=kW a k c;exact .inr ⟨(gL.1 this).2.1.1,this⟩
theorem Qs(p:ib):∀(s N:Nat) (b:ab) (ar:ck),bE b≤s→s<10000→s+2≤N→ar.length+s≤90000→GB b→oB (KN N) N p b ar=some ()
 | 0,_,b,_,h,_,_,_,_=>by have:=gn b;omega
 | s+1,0,_,_,_,_,h,_,_=>by omega
 | s+1,N+1,b,ar,r,t,u,v,i=>by
  have m:=gw b;have f:=sB b.Kids;refine Vj (KN (N+1)) (N+1) p b ar (by omega) (by omega) (by omega) (fun k e=>?_);have j:=lw e;have l:=gn k;obtain⟨n,d⟩|⟨o,q⟩:=TI i k e
  ·refine⟨.inl n,fun a c=>?_⟩;show oB (KN N) N p k a=some ();exact Vj (KN N) N p k a (by omega) (by rw[d];simp;omega) (by rw[d];simp) (fun x g=>by rw[d]at g;cases g)
  ·exact⟨.inr o,fun a c=>Qs p s N k a (by omega) (by omega) (by omega) (by omega) q⟩
noncomputable section
theorem aeg(c:ab)(B:GB c)(Q:c.Kind=1)(Y:bE c≤89)(d e:Int):
  ∃(F:ae) (P:io),DF (bE c+2) F∧(∀p∈P,p.1∈c.Kids)∧((∃k∈c.Kids,k.Kind≠3)→P.length=c.Kids.length)∧((∀p∈P,GB p.1)∧∀k∈c.Kids,k.Kind≠3→(k,(cu c.Style d).Content)∈P) ∧
   ∀(N:Nat),20200≤N→∀(S:cd) (a b:Int),S.length≤1500→(∀m∈S,jr m)→∃f T,o4 (KN (N+1)) (N+1) c d e a b S=some (F,(T.length:Int),f,jx c [] (S++T))∧(∀m∈T,jr m)∧T.length≤bE c∧(∀p∈P,∃m∈S++T,eY p.1 p.2 m=true)∧((∀p∈P,∃m∈S,eY p.1 p.2 m=true)→T=[]∧f=(P.length:Int))∧((∃p∈P,¬ ∃m∈S,eY p.1 p.2 m=true)→0<T.length)∧∀m∈T,bE m.Box<bE c:=by
 obtain⟨P,G,h,u,l⟩:=Sj c Q B (cu c.Style (min (max d 0) 1048576)) (Fl.CP _ _).1 false false;have v:cu c.Style (min (max d 0) 1048576)=cu c.Style d:=by
  unfold cu;rw[show dP (min (max d 0) 1048576)=dP d by unfold dP;omega]
 have X:=gw c;have W:=h.sz;have U:=KT P;obtain⟨r,y⟩:=iq.of (D:=bE c+1) P (fun p g=>by
  have V:=h.good p g;exact⟨by omega,Kk (bE p.1) p.1 p.2 (la _) (by omega) V.1⟩)
 have E:=gn c;have t:DF (bE c+2) (G r):=h.df r (bE c+1) (by omega) y.len y.df;refine⟨{ (G r)with H:=max (G r).H (min (max e 0) 1048576) },P,vp rfl t,fun p g=>(u p g).1,fun n=>by rw[l n,nw],⟨fun p g=>(h.good p g).1,fun k n R=>by rw[l ⟨k,n,R⟩,v];exact List.mem_map_of_mem n⟩,fun N hN S a b hS C=>?_⟩;obtain⟨f,T,J,z,e3,K,A,L,M⟩:=Pz y N (fun p g I s q=>Uk (bE p.1) N p.1 p.2 I (la _) (by have:=(h.good p g).2;omega) (by have:=(h.good p g).2;omega) (h.good p g).1 (h.good p g).2.2 q s) 0 0 S (amq 0) (by omega) (by omega) C;have w:∀m∈S++T,jr m:=fun m i=>by
  rcases n5.1 i with i|i
  ·exact C m i
  ·exact z m i
 refine⟨f,T,?_,z,by omega,K,fun j=>⟨(A j).1,by have:=(A j).2 (amq 0) (by omega);omega⟩,L,fun m i=>by have:=M m i;omega⟩;have O:=ab1 N c ({ (G r)with H:=max (G r).H (min (max e 0) 1048576) }:ae) (0+(T.length:Int)) f (S++T) (by simp only[ne];omega) (by omega) (by omega) (bE c+2) (vp rfl t) (by omega) (fun m i=>(w m i).sz) (N+1) 0 [] (u4 _) (by simp only[ne];omega) (u4 _) (fun x Z=>by cases Z);have o:ri (KN (N+1)) (N+1) c (({ (G r)with H:=max (G r).H (min (max e 0) 1048576) }:ae),0+(T.length:Int),f,S++T) (N+1) 0 []=_:=O;unfold o4 CN;rw[iN];unfold DW;rw[DE,iN];unfold Ct;rw[show _=_ from h.run N (by omega) true true 0 0 S,J,iN];simp only[iN];rw[Vp (bE c+2) (N+1) (G r) t (by omega),iN,Qs _ (bE c) (N+1) c [] (la _) (by omega) (by omega) (by simp;omega) B,iN,iN,o,DO,Int.zero_add]
end
mutual
/-- The blocks' numbers are those of their descriptions. -/
def j8(L:Nat):ab→Prop
 | ⟨k,n,_,_,_,_,a⟩=>k=1→((10≤n∧n<10+(L:Int))∧lg L a)
def lg(L:Nat):d6→Prop
 | []=>True
 | b::r=>j8 L b∧lg L r
end
theorem agC{L:Nat}{b:ab}(h:j8 L b)(a:b.Kind=1):(10≤b.Node∧b.Node<10+(L:Int))∧lg L b.Kids:=by
 cases b;simp only[j8]at h;exact h a
theorem IK{L:Nat}:∀{l m:d6},lg L l→lg L m→lg L (l++m)
 | [],m,_,h=>h
 | b::r,m,a,c=>by simp only[ahj,lg]at a⊢;exact⟨a.1,IK a.2 c⟩
theorem Kq{a b:Int}{n:Nat}(c:0≤a)(d:a≤b)(e:b≤n):cF a b n=true:=by grind[cF]
theorem ada(K:Kn)(n:Nat)(l:ek)(cs:List me)(z:l.length≤9223372036854775807)(y:cs.length≤9223372036854775807)(w:l.length<n)(f:1<n):∀(m:Nat) (i:Int),0≤i→i≤cs.length→(cs.length:Int)<m+i →
  ∃b,tD K n l cs m i=some b∧(b=true→(l.length≤12∧0<l.length∧cs.length≤6)∧(∀s∈l,pK s)∧∀k,i.toNat≤k→k<cs.length→pK (cs.getD k default).Spec):=by
 intro m
 induction m with
 | zero=>intro i g r t;omega
 | succ m x =>
  intro i g r t;simp only[tD,xH];by_cases hi:i<(cs.length:Int)
  ·rw[lp (decide_eq_true hi),dh g hi,ba];obtain⟨b,c,a⟩:=SN K n [(cs.getD i.toNat default).Spec] 1 (by simp) (by simpa using f);rw[c,iN];cases b with
   | false=>exact⟨false,rfl,fun h=>by cases h⟩
   | true =>
    obtain⟨p,q,d⟩:=x (i+1) (by omega) (by omega) (by omega);rw[kc (by simp),bK (by omega) (by omega)];refine⟨p,q,fun h=>⟨(d h).1,(d h).2.1,fun k u j=>?_⟩⟩;by_cases e:k=i.toNat
    ·subst e;exact(a rfl).2 _ (by simp)
    ·exact(d h).2.2 k (by omega) j
  ·have v:¬ decide (i<(cs.length:Int))=true:=by simpa using hi
   rw[kc v];obtain⟨b,c,a⟩:=SN K n l 12 (by omega) w;rw[c,iN];cases b with
   | false=>exact⟨false,rfl,fun h=>by cases h⟩
   | true =>
    simp only[AT,tG];split
    ·rename_i o;have o:=lc o;refine⟨_,rfl,fun h=>⟨⟨by have:=(a rfl).1;omega,by omega,by have:=lc h;omega⟩,(a rfl).2,fun k u j=>by omega⟩⟩
    ·exact⟨false,rfl,fun h=>by cases h⟩
theorem adq(K:Kn)(n:Nat)(l:ek)(cs:List me)(i:l.length≤9223372036854775807)(g:cs.length≤9223372036854775807)(j:l.length<n)(m:cs.length+1<n):
  ∃b,Bw K n l cs=some b∧(b=true→(l.length≤12∧0<l.length∧cs.length≤6)∧(∀s∈l,pK s)∧∀c∈cs,pK c.Spec):=by
 obtain⟨b,f,a⟩:=ada K n l cs i g j (by omega) n 0 (by omega) (by omega) (by omega);refine⟨b,f,fun h=>⟨(a h).1,(a h).2.1,fun c d=>?_⟩⟩;obtain⟨k,e,rfl⟩:=akV.1 d;have:=(a h).2.2 k (by simp) e;rwa[bN e]at this
theorem ako(k:Nat):Cf (KN (k+30)) (k+30)=some true:=by kernel_rfl
theorem Wq(s:ce):(fu s).Text=s.Text:=by unfold fu;split<;>rfl
def afv(l:d6):Prop:=fS l∧(∀q∈l,q.Text.size≤90)∧(∀q∈l,q.Kids=[])
theorem aae(l:ek)(i:l.length≤1000)(f:∀s∈l,s.Rows=0)(b:ab)(c:Bool)(h:10≤b.Node∧b.Node<10+(l.length:Int)):jI l b b.Kids c=some b:=by
 have e:aa (b.Node-10)=b.Node-10:=bK (by omega) (by omega);have d:aO (aa (b.Node-10)) l.length=true:=by rw[e];exact dh (by omega) (by omega)
 have a:(⟨b.Kind,b.Node,b.Style,b.Text,b.Rows,b.Cols,b.Kids⟩:ab)=b:=by cases b;rfl
 have g:(l.getD (aa (b.Node-10)).toNat default).Rows=0:=f _ (fp (by rw[e];omega));unfold jI;cases c with
 | false=>exact amI some a
 | true =>
  simp only[d,ba,g];split
  ·rw[kc (by decide)];exact amI some a
  ·exact amI some a
mutual
theorem ajM(l:ek)(i:l.length≤1000)(c:∀s∈l,s.Rows=0):∀(m:Nat) (b:ab) (lo:Int),bE b≤m→RB lo b→10≤lo→lo+(bE b:Int)≤10+(l.length:Int)→iw l m b=some b
 | 0,b,_,h,_,_,_=>by have:=gn b;omega
 | m+1,b,lo,h,d,a,o=>by
  have x:=gw b;obtain⟨y,z,B,v,g⟩:=Yn d;have e:kP (iw l m) b.Kids=some b.Kids:=by
   rcases g with g|g
   ·exact Hw _ b.Kids g.1
   ·exact TV l i c m b.Kids (lo+1) (by omega) g (by omega) (by omega)
  simp only[iw,e,iN];exact aae l i c b _ (by omega)
theorem Hw(f:ab→Option ab):∀(l:d6),fS l→kP f l=some l
 | [],_=>rfl
 | k::r,h=>by
  have e:=Hw f r (fun q w=>h q (oR _ w));have u:=h k tl;have n:¬ ((k.Kind == 1)=true):=by rw[u];decide
  simp only[kP,kc n,e,iN]
theorem TV(l:ek)(i:l.length≤1000)(c:∀s∈l,s.Rows=0):∀(m:Nat) (j:d6) (lo:Int),cV j≤m→zh lo j→10≤lo→lo+(cV j:Int)≤10+(l.length:Int)→kP (iw l m) j=some j
 | m,[],_,_,_,_,_=>rfl
 | m,k::r,lo,h,d,a,o=>by
  simp only[cV]at h o;simp only[zh]at d;have A:=gn k;have p:=ajM l i c m k lo (by omega) d.1 a (by omega);have t:=TV l i c m r (lo+(bE k:Int)) (by omega) d.2 (by omega) (by omega);simp only[kP,p,t,iN,ite_self]
end
theorem Ni:∀{l m:d6},gR l→gR m→gR (l++m)
 | [],m,_,h=>h
 | b::r,m,a,c=>by simp only[ahj,gR]at a⊢;exact⟨a.1,Ni a.2 c⟩
def Iw(s:ce):Prop:=s.Style.Position≠2∧s.Text.size≤90
theorem aeC(K:Kn)(n:Nat)(L:ek)(I:L.length≤19)(r:∀s∈L,Iw s)(a:Nat)(g:Bool)(A:g=true→∀i,a<i→i<L.length→∃b e,K.kI L ((i:Nat):Int)=some (b,((e:Nat):Int))∧i<e∧e≤L.length∧bE b≤e - i∧j8 L.length b∧b.Kind=1∧GB b):
  ∀(m i:Nat) (c:d6),a<i→i≤L.length→L.length<m+i→cV c+a<i→lg L.length c→(g=true→gR c)→(g=false→afv c) →
   ∃b e,ly K n L ((a:Nat):Int) g m ((i:Nat):Int) c=some (b,((e:Nat):Int))∧a<e∧e≤L.length∧bE b≤e - a∧j8 L.length b∧b.Kind=1∧GB b∧b.Node=10+(a:Int):=by
 intro m
 induction m with
 | zero=>intro i c _ p y;omega
 | succ m k =>
  intro i c o p y H l j f;have t:=sB c;have stop:∃b e,mH K n L ((a:Nat):Int) g ((i:Nat):Int) c (ly K n L ((a:Nat):Int) g m) false=some (b,((e:Nat):Int))∧a<e∧e≤L.length∧bE b≤e - a∧j8 L.length b∧b.Kind=1∧GB b∧b.Node=10+(a:Int):=by
   simp only[mH,jf,pt];refine⟨_,i,rfl,o,p,?_,?_,rfl,?_,bK (by omega) (by omega)⟩
   ·rw[gw];show cV c+1≤i-a;omega
   ·simp only[j8];refine fun _=>⟨?_,l⟩;rw[bK (by omega) (by omega)];omega
   ·simp only[GB];refine⟨.inl (by first|rfl|trivial),⟨(r _ (fp (by simpa using (show a<L.length by omega)))).1,by first|rfl|trivial⟩,by omega,?_⟩;cases g with
    | true=>exact .inr (j rfl)
    | false=>exact .inl ⟨by first|rfl|trivial,(f rfl).1,(f rfl).2.1,(f rfl).2.2⟩
  simp only[ly,oo];by_cases hi:i<L.length
  ·simp only[eC hi,AT,dv hi,ba];cases J:decide ((L.getD ((i:Nat):Int).toNat default).Depth>(L.getD ((a:Nat):Int).toNat default).Depth) with
   | false=>exact stop
   | true =>
    simp only[mH,AT];cases g with
    | true =>
     obtain⟨b,e,u,E,v,F,w,G,x⟩:=A rfl i o hi;simp only[AT,u,iN,ls,ti];rw[dc (by omega) (by omega),ba];exact k e (c++[b]) (by omega) v (by omega) (by rw[Dn];simp only[cV];omega) (IK l ⟨w,trivial⟩) (fun _=>Ni (j rfl) ⟨x,trivial⟩) (fun h=>by cases h)
    | false =>
     simp only[jf,pt,dv hi,ba,ls,ti];rw[dc (by omega) (by omega),ba,dL (by omega)];have z:=(r _ (fp hi)).2;refine k (i+1) _ (by omega) (by omega) (by omega) (by rw[Dn];simp only[cV,bE];show cV c+(cV []+1+0)+a<i+1;simp only[cV];omega) (IK l ⟨(by simp only[j8];intro h;exact absurd h (by decide)),trivial⟩) (fun h=>by cases h) (fun _=>?_);obtain⟨B,C,D⟩:=f rfl;refine⟨fun q d=>?_,fun q d=>?_,fun q d=>?_⟩
     ·rcases n5.1 d with d|d
      ·exact B q d
      ·simp only[ol,akP,alX]at d;subst d;rfl
     ·rcases n5.1 d with d|d
      ·exact C q d
      ·simp only[ol,akP,alX]at d;subst d;exact z
     ·rcases n5.1 d with d|d
      ·exact D q d
      ·simp only[ol,akP,alX]at d;subst d;rfl
  ·simp only[eh (show L.length≤i by omega),jf,pt];exact stop
theorem Mg(K:Kn)(n:Nat)(L:ek)(j:L.length≤19)(k:∀s∈L,Iw s)(o:L.length+2≤n):∀(d a:Nat),a<L.length→L.length-a≤d→∃b c,kZ K n d L ((a:Nat):Int)=some (b,((c:Nat):Int))∧a<c∧c≤L.length∧bE b≤c - a∧j8 L.length b∧b.Kind=1∧GB b∧b.Node=10+(a:Int)
 | 0,a,h,l=>by omega
 | d+1,a,h,l=>by
  have f:∀g:Bool,∃b c,ly { K with kI:=kZ K n d } n L ((a:Nat):Int) g n ((a+1:Nat):Int) []=some (b,((c:Nat):Int))∧a<c∧c≤L.length∧bE b≤c - a∧j8 L.length b∧b.Kind=1∧GB b∧b.Node=10+(a:Int):=fun g =>
   aeC { K with kI:=kZ K n d } n L j k a g (fun _ i y m=>by
    obtain⟨b,c,p,r,t,u,v,w,x,_⟩:=Mg K n L j k o d i m (by omega);exact⟨b,c,p,r,t,u,v,w,x⟩) n (a+1) [] (by omega) (by omega) (by omega) (by simp[cV]) trivial (fun _=>trivial) (fun _=>⟨fun q e=>(by cases e),fun q e=>(by cases e),fun q e=>(by cases e)⟩)
  show ∃b c,oG { K with kI:=kZ K n d } n L ((a:Nat):Int)=some (b,((c:Nat):Int))∧_;unfold oG;simp only[dv h,ba,dL (show a<1000000000 by omega),oZ];by_cases hi:a+1<L.length
  ·simp only[eC hi,AT,dv hi,ba];split
   ·exact f _
   ·exact f _
  ·simp only[eh (show L.length≤a+1 by omega),jf,pt];exact f _
theorem RT(l:ek)(b:ab)(g:d6)(c:Bool)(h:10≤b.Node∧b.Node<10+(l.length:Int))(i:l.length≤1000):∃a,jI l b g c=some a∧a.Kids=g∧(a.Style=b.Style∧a.Text=b.Text)∧a.Node=b.Node∧(a.Kind=b.Kind∨(a.Kind=6∧c=true∧b.Node≠10)):=by
 have f:aa (b.Node-10)=b.Node-10:=bK (by omega) (by omega);have e:aO (aa (b.Node-10)) l.length=true:=by rw[f];exact dh (by omega) (by omega)
 unfold jI;cases c with
 | false=>exact⟨_,rfl,rfl,⟨rfl,rfl⟩,rfl,.inl rfl⟩
 | true =>
  simp only[e,ba];split
  ·rename_i d;have d:=lc d;rw[f]at d;split
   ·exact⟨_,rfl,rfl,⟨rfl,rfl⟩,rfl,.inr ⟨rfl,(by first|rfl|trivial),by omega⟩⟩
   ·exact⟨_,rfl,rfl,⟨rfl,rfl⟩,rfl,.inl rfl⟩
  ·exact⟨_,rfl,rfl,⟨rfl,rfl⟩,rfl,.inl rfl⟩
theorem Mo(L:Nat)(f:ab→Option ab):∀(l:d6),lg L l→gR l→(∀k∈l,j8 L k→k.Kind=1→GB k→∃a,f k=some a∧bE a=bE k∧GB a)→∃m,kP f l=some m∧cV m=cV l∧gR m∧m.length=l.length
 | [],_,_,_=>⟨[],rfl,rfl,trivial,rfl⟩
 | k::r,h,b,d=>by
  simp only[lg]at h;simp only[gR]at b;obtain⟨m,e,p,g,i⟩:=Mo L f r h.2 b.2 (fun q o=>d q (oR _ o));have c:∃a,(if (k.Kind == 1)=true then f k else some k)=some a∧bE a=bE k∧GB a:=by
   split
   ·rename_i c;exact d k tl h.1 (by simpa using c) b.1
   ·exact⟨k,rfl,rfl,b.1⟩
  obtain⟨a,j,s,n⟩:=c;refine⟨a::m,?_,by simp only[cV];omega,⟨n,g⟩,by simp[i]⟩;simp only[kP,e,j,iN]
theorem VT(l:ek)(u:l.length≤1000):∀(m:Nat) (b:ab),bE b≤m→j8 l.length b→b.Kind=1→GB b→∃a,iw l m b=some a∧bE a=bE b∧GB a∧a.Node=b.Node∧(b.Node=10→a.Kind=1)
 | 0,b,h,_,_,_=>by have:=gn b;omega
 | m+1,b,h,I,o,H=>by
  obtain⟨z,F⟩:=agC I o;obtain⟨T,y,D,E⟩:=gL.1 H;have J:=gw b;rcases E with g|G
  ·have p:=Hw (iw l m) b.Kids g.2.1;have i:(b.Kids.any fun k=>k.Kind == 1)=false:=by
    rw[amo];intro k v;rw[g.2.1 k v];decide
   obtain⟨a,w,n,⟨A,s⟩,B,f⟩:=RT l b b.Kids false z u;have j:a.Kind=1:=by
    rcases f with f|⟨_,f,_⟩
    ·rw[f,o]
    ·cases f
   refine⟨a,?_,by rw[gw,n];omega,?_,B,fun _=>j⟩
   ·simp only[iw,p,iN,i,w]
   ·rw[gL,j,n,A,s];exact⟨.inl rfl,y,D,.inl ⟨rfl,g.2.1,g.2.2.1,g.2.2.2⟩⟩
  ·obtain⟨L,p,w,n,S⟩:=Mo l.length (iw l m) b.Kids F G (fun k v M N O=>by
    obtain⟨K,P,Q,R,_⟩:=VT l u m k (by have:=lw v;omega) M N O;exact⟨K,P,Q,R⟩)
   obtain⟨a,C,x,⟨q,c⟩,r,d⟩:=RT l b L (b.Kids.any fun k=>k.Kind == 1) z u;refine⟨a,?_,by rw[gw,x];omega,?_,r,fun t=>?_⟩
   ·simp only[iw,p,iN,C]
   ·rw[gL,x,q,c];refine⟨?_,y,by omega,.inr n⟩;rcases d with e|⟨e,_,_⟩
    ·exact .inl (e.trans o)
    ·exact .inr e
   ·rcases d with e|⟨_,_,e⟩
    ·exact e.trans o
    ·exact absurd t e
theorem aeh(K:Kn)(n:Nat)(l:ek)(A:0<l.length)(B:l.length≤19)(D:l.length+2≤n)(t:∀s∈l,s.Text.size≤90):∃b,sN K n l=some b∧bE b≤l.length∧GB b∧b.Kind=1:=by
 have C:(l.map fu).length=l.length:=nw _;have m:∀s∈l.map fu,Iw s:=fun s r=>by
  obtain⟨q,p,rfl⟩:=Dy.1 r;refine⟨?_,by rw[Wq];exact t q p⟩;unfold fu;split
  ·show(0:Int)≠2;decide
  ·rename_i o;simpa using o
 obtain⟨b,u,d,v,w,x,e,f,g,h⟩:=Mg K n (l.map fu) (by omega) m (by omega) n 0 (by omega) (by omega);obtain⟨c,i,y,j,z,k⟩:=VT (l.map fu) (by omega) n b (by omega) e f g;refine⟨c,?_,by omega,j,k (by simpa using h)⟩;unfold sN;have a:kZ K n n (l.map fu) 0=some (b,((u:Nat):Int)):=d;rw[dc (by omega) (by omega),ba,a,iN];exact i
theorem ah2(N n:Nat)(f:ae)(g:f.Kids.length≤3000)(c:∀k∈f.Kids,(KN N).yD k k=some true):∀(m i:Nat),i≤f.Kids.length→f.Kids.length<m+i→sQ (KN N) n f f m i=some true:=by
 intro m
 induction m with
 | zero=>intro i a b;omega
 | succ m d =>
  intro i a b;simp only[sQ,xw];by_cases hi:i<f.Kids.length
  ·simp only[xI hi,AT,qI hi,ba,Int.toNat_natCast,c _ (fp hi),iN,abM,jf,pt,xJ (show i<1000000 by omega)];exact d (i+1) (by omega) (by omega)
  ·have e:i=f.Kids.length:=by omega
   subst e;simp[C5 (la _)]
theorem Lx:∀(d N n:Nat) (f:ae),DF d f→3000<n→d+3010≤N→qM (KN N) n f f=some true
 | 0,_,_,_,h,_,_=>h.elim
 | d+1,N,n,f,h,e,a=>by
  unfold DF at h;have c:=ah2 N n f h.1 (fun k b=>by
   match N,a with
   | N+1,a =>
    show qM (KN N) N k k=some true;exact Lx d N N k (h.2 k b) (by omega) (by omega)) n 0 (by omega) (by have:=h.1;omega)
  unfold qM;simp only[aml,beq_self_eq_true,abM,jf,pt,agI,afT,gJ];exact c
mutual
def hasB:ab→Int→Bool
 | ⟨_,n,_,_,_,_,a⟩,h=>n == h||nJ a h
def nJ:d6→Int→Bool
 | [],_=>false
 | b::r,h=>hasB b h||nJ r h
end
theorem G1(b:ab)(h:Int):hasB b h=(b.Node == h||nJ b.Kids h):=by cases b;simp only[hasB]
theorem L6:∀{l:d6} {k:ab} {h:Int},k∈l→hasB k h=true→nJ l h=true
 | [],_,_,a,_=>by cases a
 | b::r,k,h,a,c=>by
  simp only[nJ,Dk];rcases ol.1 a with rfl|a
  ·exact .inl c
  ·exact .inr (L6 a c)
theorem Hp:∀{l:d6} {x:ab},jp x l=true→∃k∈l,gF x k=true
 | [],x,h=>by simp[jp]at h
 | b::r,x,h=>by
  simp only[jp,Dk]at h;rcases h with h|h
  ·exact⟨b,tl,h⟩
  ·obtain⟨k,a,c⟩:=Hp h;exact⟨k,oR _ a,c⟩
theorem Vq:∀(s:Nat) (b x:ab) (h:Int),bE b≤s→gF x b=true→hasB x h=true→hasB b h=true
 | 0,b,_,_,g,_,_=>by have:=gn b;omega
 | s+1,b,x,h,g,a,c=>by
  rw[vh,Dk]at a;rcases a with a|a
  ·rw[←A9 a]at c;exact c
  ·obtain⟨k,d,e⟩:=Hp a;have:=lw d;have f:=Vq s k x h (by omega) e c;rw[G1,L6 d f,amZ]
theorem Nm:∀(s N:Nat) (b:ab) (h:Int),bE b≤s→s<100000→s+2≤N→nS (KN N) N b h=some (hasB b h)
 | 0,_,b,_,g,_,_=>by have:=gn b;omega
 | s+1,0,_,_,_,_,f=>by omega
 | s+1,N+1,b,h,g,n,f=>by
  have j:=gw b;have a:=sB b.Kids;have l:∀(m i:Nat),i≤b.Kids.length→b.Kids.length<m+i→s8 (KN (N+1)) (N+1) b h m (i:Int)=some (nJ (b.Kids.drop i) h):=by
   intro m
   induction m with
   | zero=>intro i c d;omega
   | succ m k =>
    intro i c d;simp only[s8,z4];by_cases hi:i<b.Kids.length
    ·have o:=lw (fp hi);rw[drop_at' hi];simp only[eC hi,AT,dv hi,ba,Int.toNat_natCast,nJ];have e:(KN (N+1)).za (b.Kids.getD i default) h=some (hasB (b.Kids.getD i default) h):=Nm s N _ h (by omega) (by omega) (by omega);rw[e,iN,dL (by omega),k (i+1) (by omega) (by omega)];cases hasB (b.Kids.getD i default) h<;>simp
    ·simp only[eh (show b.Kids.length≤i by omega),jf,pt];rw[mo (by omega)];rfl
  unfold nS;rw[G1];cases p:(b.Node == h) with
  | true=>simp
  | false =>
   have:=l (N+1) 0 (u4 _) (by omega);simpa using this
theorem Nn:∀(s N:Nat) (b:ab) (h:Int),bE b≤s→s<100000→2*s+2≤N→pc (KN N) N b h=some (hasB b h)
 | 0,_,b,_,k,_,_=>by have:=gn b;omega
 | s+1,0,_,_,_,_,d=>by omega
 | s+1,1,_,_,_,_,d=>by omega
 | s+1,N+2,b,h,k,p,d=>by
  have l:=gw b;have f:=sB b.Kids;have o:∀(m i:Nat),i≤b.Kids.length→b.Kids.length<m+i→∃r:Int,jY (KN (N+2)) (N+2) b.Kids (Fv.c120 h) m (i:Int)=some r∧decide (r≥0)=nJ (b.Kids.drop i) h:=by
   intro m
   induction m with
   | zero=>intro i g j;omega
   | succ m n =>
    intro i g j;simp only[jY,qh];by_cases hi:i<b.Kids.length
    ·have q:=lw (fp hi);rw[drop_at' hi];simp only[eC hi,AT,dv hi,ba,Int.toNat_natCast,nJ];have e:(KN (N+2)).kR (Fv.c120 h) (b.Kids.getD i default)=some (hasB (b.Kids.getD i default) h):=by
      show(pc (KN N) N (b.Kids.getD i default) h).bind (fun v=>some v)=_;rw[Nn s N _ h (by omega) (by omega) (by omega)];rfl
     rw[e,iN];cases hasB (b.Kids.getD i default) h with
     | true=>exact⟨(i:Int),by simp,by simp⟩
     | false =>
      obtain⟨r,a,c⟩:=n (i+1) (by omega) (by omega);refine⟨r,?_,by simpa using c⟩;simp only[jf,pt];rw[dL (by omega)];exact a
    ·simp only[eh (show b.Kids.length≤i by omega),jf,pt];rw[mo (by omega)];exact⟨-1,rfl,rfl⟩
  unfold pc;rw[G1];cases t:(b.Node == h) with
  | true=>simp[sW]
  | false =>
   obtain⟨r,a,c⟩:=o (N+2) 0 (u4 _) (by omega);simp only[jf,pt,lu,wL,sW];rw[show((0:Nat):Int)=0 from rfl]at a;rw[a,iN,iN,c,DO,alf]
def fk(h:Int)(m:aw):Bool:=!hasB m.Box h
section
variable(K:Kn)(n:Nat)(f:Fv)(h:Int)(S:cd)(b:∀m∈S,K.mw f m=some (hasB m.Box h))(c:S.length≤3000)(d:S.length<n)
include b c d
theorem agN:∀(m i:Nat),i≤S.length→S.length<m+i→(∀x∈S.take i,fk h x=true)→(lS K n S f m (i:Int)=some (-1)∧∀x∈S,fk h x=true)∨∃j:Nat,lS K n S f m (i:Int)=some (j:Int)∧j<S.length∧(∀x∈S.take j,fk h x=true)∧fk h (S.getD j default)=false:=by
 intro m
 induction m with
 | zero=>intro i e g;omega
 | succ m l =>
  intro i e g c;simp only[lS,uP];by_cases hi:i<S.length
  ·have k:=fp hi;simp only[eC hi,AT,dv hi,ba,Int.toNat_natCast,b _ k,iN];cases d:hasB (S.getD i default).Box h with
   | true=>exact .inr ⟨i,by simp,hi,c,by unfold fk;rw[d];rfl⟩
   | false =>
    simp only[jf,pt];rw[dL (by omega)];refine l (i+1) (by omega) (by omega) (fun x a=>?_);rw[yk hi,← bN hi]at a;rcases n5.1 a with a|a
    ·exact c x a
    ·simp only[ol,akP,alX]at a;subst a;unfold fk;rw[d];rfl
  ·simp only[eh (show S.length≤i by omega),jf,pt];refine .inl ⟨by first|rfl|trivial,fun x a=>c x ?_⟩;rw[Dj (by omega)];exact a
theorem YA:∀(m j a:Nat) (X:cd),j≤S.length→S.length<m+j→X.length=S.length→a<j→X.take a=(S.take j).filter (fk h)→X.drop j=S.drop j →
  tB K n f m (a:Int) (j:Int) X=some (S.filter (fk h)):=by
 intro m
 induction m with
 | zero=>intro j a X v w;omega
 | succ m u =>
  intro j a X v w q B l r;simp only[tB,z0];by_cases o:j<S.length
  ·have d:j<X.length:=by omega
   have z:X.getD j default=S.getD j default:=by
    have k:=drop_at' d;rw[r,drop_at' o]at k;injection k with k;exact k.symm
   have x:=fp o;have s:X.drop (j+1)=S.drop (j+1):=by rw[←akY,r,akY]
   simp only[eC d,AT,dv d,ba,Int.toNat_natCast,z,b _ x,iN,xy];have c:(S.take (j+1)).filter (fk h)=(S.take j).filter (fk h)++if fk h (S.getD j default)=true then [S.getD j default] else []:=by
    rw[show S.take (j+1)=S.take j++[S.getD j default] by rw[yk o,bN o],akM];congr 1;generalize S.getD j default=y;cases A:fk h y<;>simp[akl,A]
   cases t:hasB (S.getD j default).Box h with
   | true =>
    have g:fk h (S.getD j default)=false:=by unfold fk;rw[t];rfl
    rw[g]at c;simp only[abM,jf,pt,Io]at c⊢;rw[dL (by omega)];exact u (j+1) a X (by omega) (by omega) q (by omega) (l.trans c.symm) s
   | false =>
    have g:fk h (S.getD j default)=true:=by unfold fk;rw[t];rfl
    rw[g]at c;have i:a<X.length:=by omega
    simp only[alM,AT,dv i,ba]at c⊢;rw[dL (by omega),dL (by omega)];refine u (j+1) (a+1) (X.set a (S.getD j default)) (by omega) (by omega) (by rw[akT];exact q) (by omega) ?_ ?_
    ·rw[c,← l];have:a<(X.set a (S.getD j default)).length:=by rw[akT];exact i
     rw[yk this,List.getElem_set_self,List.take_set_of_le (la _)]
    ·rw[List.drop_set_of_lt (by omega)];exact s
  ·have e:j=S.length:=by omega
   subst e;simp only[eh (show X.length≤S.length by omega),jf,pt];rw[akO]at l;have p:(X.take a).length=a:=by rw[afN];omega
   have c:(List.take (Int.toNat (a:Int)) X++List.replicate (X.length-a) Am).length=X.length:=by rw[Int.toNat_natCast,ne,p,List.length_replicate];omega
   rw[Kq (by omega) (by omega) (by omega),ba];simp only[Int.toNat_natCast]at c⊢;rw[show Nat.beq (a+(X.length-a)) X.length=true by rw[show a+(X.length-a)=X.length by omega];exact amc _,ba,iN,c];rw[show(decide ((0:Int)≤(a:Int))&&(decide ((a:Int)≤(X.length:Int))&&Nat.ble 1 X.length))=true by
    simp only[iO,q6];exact⟨by omega,by omega,alt (by omega)⟩,ba]
   rw[alQ (by omega),amL,am1,l]
theorem WP:wX K n f S=some (S.filter (fk h)):=by
 unfold wX vA;obtain⟨a,e⟩|⟨j,a,e,g,i⟩:=agN K n f h S b c d n 0 (u4 _) (by omega) (fun x k=>by simp at k)
 ·rw[show((0:Nat):Int)=0 from rfl]at a;rw[a,iN];simp only[beq_self_eq_true,AT];rw[akQ.2 e]
 ·rw[show((0:Nat):Int)=0 from rfl]at a;rw[a,iN];rw[kc (by rw[ajC];omega),dL (by omega)];refine YA K n f h S b c d n (j+1) j S (by omega) (by omega) rfl (by omega) ?_ rfl;rw[yk e,← bN e,akM,akQ.2 g];simp only[akl,i,jf,pt,al6,Io]
end
theorem adM(N:Nat)(h a c:Int)(S:cd)(f:S.length≤3000)(i:3300≤N)(e:∀m∈S,bE m.Box≤100):tp (KN (N+1)) (N+1) h a c S=some (if h=0 then ((0:Int),a,c,S) else (((S.length-(S.filter (fk h)).length:Nat):Int),a,c,S.filter (fk h))):=by
 unfold tp;by_cases b:h=0
 ·subst b;rfl
 ·rw[kc (by rw[ajC];exact b),kc b];have g:=alv (fk h) S;rw[WP (KN (N+1)) (N+1) (Fv.c67 h) h S (fun m d=>by
   show(pc (KN N) N m.Box h).bind (fun v=>some v)=_;rw[Nn (bE m.Box) N m.Box h (la _) (by have:=e m d;omega) (by have:=e m d;omega)];rfl) f (by omega),iN,bK (by omega) (by omega)]
  congr 2;omega
end Go.Proofs.YtocgkfoifehcbaaGreat
namespace Go.Proofs.YtocgkfoifehcbaaGreat.QRelayoutDrops
set_option linter.all false
set_option maxRecDepth 20000
open Go.RowKit
def gB(h:Int)(m:aw):Bool:=(h != 0)&&hasB m.Box h
def eT(h:Int)(m:aw):Bool:=!gB h m
theorem QW:∀{l:d6} {k:ab},k∈l→jp k l=true
 | [],k,h=>by cases h
 | b::r,k,h=>by
  simp only[jp,Dk];rcases ol.1 h with rfl|h
  ·exact .inl (by rw[vh,Dm,Bool.true_or])
  ·exact .inr (QW h)
theorem aiv(N:Nat)(h a c:Int)(S:cd)(f:S.length≤3000)(d:3300≤N)(g:∀m∈S,bE m.Box≤100):tp (KN (N+1)) (N+1) h a c S=some (((S.length-(S.filter (eT h)).length:Nat):Int),a,c,S.filter (eT h)):=by
 rw[adM N h a c S f d g];by_cases b:h=0
 ·subst b;have e:S.filter (eT 0)=S:=akQ.2 fun x _=>rfl;rw[lp rfl,e,amE];rfl
 ·rw[kc b];have e:fk h=eT h:=by
   funext m;unfold fk eT gB;rw[show(h != 0)=true by rw[bne_iff_ne];exact b,alw]
  rw[e]
theorem JI{α:Type}(p:α→Bool):∀l:List α,(l.filter p).length+(l.filter fun x=>!p x).length=l.length
 | []=>rfl
 | a::r=>by
  have:=JI p r;cases b:p a<;>simp[akl,b]<;>omega
section
variable(N:Nat)(g:20300≤N)(v2 w:Int)(c:ab)(L:cd)(h:L.length≤1000)(d:∀x∈L,bE x.Box≤100)
include g h d
theorem NO{β:Type}{m:aw}(a:m∈L)(f:Bool→Option β):(if ((Int.tmod (aa v2) 32) != 0)=true then (nS (KN (N+1)) (N+1) m.Box (Int.tmod (aa v2) 32)).bind f else f false)=f (gB (Int.tmod (aa v2) 32) m):=by
 unfold gB;cases b:((Int.tmod (aa v2) 32) != 0) with
 | true =>
  rw[lp rfl,Nm (bE m.Box) (N+1) m.Box _ (la _) (by have:=d m a;omega) (by have:=d m a;omega),iN,alw]
 | false=>rw[kc (by decide),amN]
theorem YI(n:ae×Int×Int×cd)(s:n.2.2.2=L)(f:pe (KN (N+1)) (N+1) v2 w c n (fun _ _ _=>none) ((L.filter (gB (Int.tmod (aa v2) 32))).length:Int) ((L.filter (eT (Int.tmod (aa v2) 32))).length:Int) (L.length:Int)=some true):∀(m i a b:Nat),i≤L.length→L.length<m+i→a=((L.take i).filter (gB (Int.tmod (aa v2) 32))).length→b=((L.take i).filter (eT (Int.tmod (aa v2) 32))).length →
  pg (KN (N+1)) (N+1) v2 w c n m (a:Int) (b:Int) (i:Int)=some true:=by
 intro m
 induction m with
 | zero=>intro i a b u x;omega
 | succ m t =>
  intro i a b u x j k;have q:=JI (gB (Int.tmod (aa v2) 32)) (L.take i);have l:a+b=(L.take i).length:=by rw[j,k];exact q
  rw[afN]at l;by_cases hi:i<L.length
  ·simp only[pg,pe,s];have z:=fp hi;simp only[eC hi,AT,dv hi,ba,Int.toNat_natCast];rw[NO N g v2 L h d z (fun v=>wB (KN (N+1)) (N+1) v2 w c n a b i (pg (KN (N+1)) (N+1) v2 w c n m) v)];have p:L.take (i+1)=L.take i++[L.getD i default]:=by rw[yk hi,bN hi]
   generalize L.getD i default=y at *;simp only[wB,AG];cases o:gB (Int.tmod (aa v2) 32) y with
   | true =>
    have r:eT (Int.tmod (aa v2) 32) y=false:=by unfold eT;rw[o];rfl
    rw[lp rfl,dL (by omega),dL (by omega)];refine t (i+1) (a+1) b (by omega) (by omega) ?_ ?_
    ·rw[p,akM,ne,← j];simp[akl,o]
    ·rw[p,akM,ne,← k];simp[akl,r]
   | false =>
    have r:eT (Int.tmod (aa v2) 32) y=true:=by unfold eT;rw[o];rfl
    rw[kc (by decide),dL (by omega),dL (by omega)];refine t (i+1) a (b+1) (by omega) (by omega) ?_ ?_
    ·rw[p,akM,ne,← j];simp[akl,o]
    ·rw[p,akM,ne,← k];simp[akl,r]
  ·have e:i=L.length:=by omega
   subst e;rw[akO]at j k;rw[←j,← k]at f;simp only[pg,pe,s,eh (la _),jf,pt]at f⊢;exact f
theorem adz(j:ae×Int×Int×cd)(b:Int)(a:Int×Int×Int×cd)(n:a.2.2.2=L)(k:∀x∈L,gB (Int.tmod (aa v2) 32) x=false)(f:nD (KN (N+1)) (N+1) v2 w c j b a (fun _=>none) (L.length:Int)=some true):∀(m i:Nat),i≤L.length→L.length<m+i →
  ox (KN (N+1)) (N+1) v2 w c j b a m (i:Int)=some true:=by
 intro m
 induction m with
 | zero=>intro i o p;omega
 | succ m q =>
  intro i o p;by_cases hi:i<L.length
  ·simp only[ox,nD,n];have l:=fp hi;simp only[eC hi,AT,dv hi,ba,Int.toNat_natCast];rw[NO N g v2 L h d l (fun v=>ss (KN (N+1)) (N+1) v2 w c j b a i (ox (KN (N+1)) (N+1) v2 w c j b a m) v),k _ l];simp only[ss,jf,pt];rw[dL (by omega)];exact q (i+1) (by omega) (by omega)
  ·have e:i=L.length:=by omega
   subst e;simp only[ox,nD,n,eh (la _),jf,pt]at f⊢;exact f
end
theorem holds(o:ek)(z A:Int)(h0:cX Tryz.prog 22 ((HP bp) o))(h1:cX Tryz.prog 5 ((ak .u8) z))(h2:cX Tryz.prog 3 ((ak .i64) A)):∃n,DV (KN n) n o z A=some true:=by
 obtain⟨l,hl,hm,_⟩:=h0.sl_inv Tryz.underlying22;simp only[HP,alm,AV.sl.injEq,and_true]at hl;have a0:l.length=o.length:=by rw[←hl,nw]
 have d0:l.length≤9223372036854775807:=hm;refine⟨o.length+20400+30,?_⟩;unfold DV;rw[ako (o.length+20400),iN];obtain⟨N,hN⟩:∃N,o.length+20400+30=N+1:=⟨o.length+20429,by omega⟩;rw[hN];obtain⟨b,e1,J⟩:=adq (KN (N+1)) (N+1) o [] (by omega) (by simp) (by omega) (by simp;omega);rw[e1,iN];cases b with
 | false=>rfl
 | true =>
  obtain⟨⟨f1,f2,_⟩,f3,_⟩:=J rfl;simp only[abM,jf,pt];obtain⟨a,t1,t2,t3,t4⟩:=aeh (KN (N+1)) (N+1) o f2 (by omega) (by omega) (fun s hs=>by have:=(f3 s hs).text;omega);rw[t1,iN];obtain⟨F,P,d1,d2,d3,⟨d4,d5⟩,r⟩:=aeg a t3 t4 (by omega) A 0;obtain⟨g,T,k1,k2,k3,k4,k5,_,k7⟩:=r N (by omega) [] 0 0 (u4 _) (fun x c=>by cases c);obtain⟨g1,Y,g3,Z⟩:=Dt a ([]++T) [];simp only[IT,ti,IF]at k1 k4 Y g3 Z;generalize b0:jx a [] T=L at *;have hT:∀x∈L,x∈T∧gF x.Box a=true:=fun x c=>by
   rcases Y x c with h|h
   ·cases h
   ·exact h
  have K:∀x∈L,jr x:=fun x c=>k2 x (hT x c).1;rw[k1,iN];have hL:L.length≤1000:=by omega
  have w:∀x∈L,bE x.Box≤100:=fun x c=>(K x c).sz;have C:∀p∈P,∃m∈L,eY p.1 p.2 m=true:=fun p H=>by
   obtain⟨x,W,E⟩:=k4 p H;have w1:=(DP E).1;have w2:=(DP E).2;have hc:gF x.Box a=true:=by rw[vh,w2,QW (d2 p H),amZ]
   obtain⟨y,X,G⟩:=Z x W hc;simp only[kT,iO,ajC]at G;exact⟨y,X,by simp only[eY,iO,ajC];exact⟨G.1.trans w1,by rw[←w2];exact G.2⟩⟩
  generalize Q:Int.tmod (aa z) 32=h at *;have i:∀x∈L.filter (eT h),x∈L∧gB h x=false:=fun x c=>by
   obtain⟨q1,I⟩:=akN.1 c;exact⟨q1,by unfold eT at I;simpa using I⟩
  have c0:=alv (eT h) L;have B:=JI (gB h) L;have O:(L.filter (gB h)).length+(L.filter (eT h)).length=L.length:=B;obtain⟨e0,T2,r1,r2,r3,r4,r5,r6,_⟩:=r N (by omega) (L.filter (eT h)) (T.length:Int) g (by omega) (fun x c=>K x (i x c).1);have key:(0<(L.filter (gB h)).length)↔0<T2.length:=by
   constructor
   ·intro d;obtain⟨x,c⟩:=List.exists_mem_of_length_pos d;obtain⟨D,j⟩:=akN.1 c;obtain⟨V,f⟩:=hT x D;have U:=k7 x V;rw[vh,Dk]at f;rcases f with f|f
    ·have:=A9 f;rw[←this]at U;omega
    ·obtain⟨k,hk,t⟩:=Hp f;unfold gB at j;rw[iO]at j;have S:=Vq (bE k) k x.Box h (la _) t j.2;have R:k.Kind≠3:=fun e=>by
      obtain⟨_,I⟩|⟨_,q⟩:=TI t3 k hk
      ·rw[vh,I]at t;have:ga k x.Box=true:=by simpa[jp]using t
       have J:=A9 this;rw[J]at e;rcases (gL.1 (K x D).gb).1 with q|q<;>rw[q]at e<;>cases e
      ·rcases (gL.1 q).1 with q|q<;>rw[q]at e<;>cases e
     refine r6 ⟨_,d5 k hk R,fun⟨y,X,G⟩=>?_⟩;have e3:y.Box=k:=(DP G).2;have:=(i y X).2;unfold gB at this;rw[e3,S,j.1]at this;cases this
   ·intro d;by_cases hz:0<(L.filter (gB h)).length
    ·exact hz
    ·exfalso;have v:∀x∈L,eT h x=true:=fun x c=>by
      cases hq:gB h x with
      | false=>unfold eT;rw[hq];rfl
      | true=>exact absurd (List.length_pos_of_mem (akN.2 ⟨c,hq⟩)) hz
     have M:L.filter (eT h)=L:=akQ.2 v;have:=(r5 (fun p H=>by rw[M];exact C p H)).1;rw[this]at d;simp at d
  have u:nD (KN (N+1)) (N+1) z A a (F,(T.length:Int),g,L) ((L.filter (gB h)).length:Int) (((L.filter (gB h)).length:Int),(T.length:Int),g,L.filter (eT h)) (fun _=>none) ((L.filter (eT h)).length:Int)=some true:=by
   simp only[nD,eh (la _),jf,pt];rw[r1,iN,Lx (bE a+2) (N+1) (N+1) F d1 (by omega) (by omega),iN,lp rfl];simp only[zM];congr 1;rw[ajC,decide_eq_decide];omega
  refine YI N (by omega) z A a L hL w (F,(T.length:Int),g,L) rfl ?_ (N+1) 0 0 0 (u4 _) (by omega) rfl rfl;rw[Q];simp only[pe,eh (la _),jf,pt];rw[Q,aiv N h (T.length:Int) g L (by omega) (by omega) w,iN];rw[show L.length-(L.filter (eT h)).length=(L.filter (gB h)).length by omega];simp only[aml,jf,pt,y8];exact adz N (by omega) z A a (L.filter (eT h)) (by omega) (fun x c=>w x (i x c).1) (F,(T.length:Int),g,L) _ _ rfl (fun x c=>by rw[Q];exact(i x c).2) u (N+1) 0 (u4 _) (by omega)
end Go.Proofs.YtocgkfoifehcbaaGreat.QRelayoutDrops
