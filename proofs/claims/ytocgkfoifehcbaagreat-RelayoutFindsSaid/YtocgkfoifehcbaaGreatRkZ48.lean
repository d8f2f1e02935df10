/- Layer 22, plain: the loops of a row, with what they hand on. No program in sight. -/
import Derived.Test.YtocgkfoifehcbaaGreatRkZ47
import Derived.Test.YtocgkfoifehcbaaGreatRkGop
namespace Go.Proofs.YtocgkfoifehcbaaGreat
set_option linter.all false
open Go.RowKit
open Fl
abbrev ew:=List R4
def ak0:=@Bool.not_false
def ak5:=@List.filter_eq_self
def alG:=@ByteArray.toList.loop.eq_1
def alK:=@List.find?_eq_none
def alN:=@List.mem_of_find?_eq_some
def alU:=@List.any_eq_false
def ama:=@List.find?_cons
def i9(c:Int)(L:d4):Nat→ck→il
 | _,[]=>[]
 | j,z::Z=>(oY (L.getD j default) z,c)::i9 c L (j+1) Z
def i8(ED:ck):Nat→ck→List em
 | _,[]=>[]
 | j,z::Z=>(z,ED.getD j default)::i8 ED (j+1) Z
theorem Hp(c:Int)(L:d4):∀(Z:ck) (j:Nat),(i9 c L j Z).length=Z.length
 | [],j=>rfl
 | z::Z,j=>by simp only[i9,lp,Hp c L Z]
theorem IJ(ED:ck):∀(Z:ck) (j:Nat),(i8 ED j Z).length=Z.length
 | [],j=>rfl
 | z::Z,j=>by simp only[i8,lp,IJ ED Z]
theorem T7{c:Int}{L:d4}:∀{Z:ck} {j:Nat} {p:ab×Int},j+Z.length≤L.length→p∈i9 c L j Z→p.2=c∧∃k∈L,∃z,p.1=oY k z
 | [],j,p,_,h=>by cases h
 | z::Z,j,p,a,h=>by
  simp only[lp]at a;simp only[i9,oR]at h;rcases h with rfl|h
  ·exact⟨rfl,_,ga (show j<L.length by omega),z,rfl⟩
  ·exact T7 (by omega) h
abbrev TP:=Int→Int→dn→Int→Int→ci→Option (dn×Int×Int×Int×ci)
theorem agB(K:Kn)(n:Nat)(c:Int)(env:bu)(L:d4)(o:ek)(ED ST:ck)(y:Int)(k:Nat)(Z:ck)(l:TP)(a:Nat)(j:ST.getD k default=(a:Int))(A:a+Z.length≤L.length)(z:ED.length=L.length)(B:L.length≤1000):
  ∀(m i:Nat) (x h:Int) (d:dn) (e f:Int) (S:ci),i≤Z.length→Z.length<m+i→d.length+(Z.length-i)≤5000→pN K n c env L o ED ST y (k:Int) Z l m x h (i:Int) d e f S =
   (dc (fun b w=>K.de env.Layout b w) (i9 c L (a+i) (Z.drop i)) e f S).bind fun r=>l (aa (y+(jy y (i8 ED (a+i) (Z.drop i)) r.1 (x,h,d)).2.1)) (aa ((k:Int)+1)) (jy y (i8 ED (a+i) (Z.drop i)) r.1 (x,h,d)).2.2 r.2.1 r.2.2.1 r.2.2.2:=by
 intro m
 induction m with
 | zero=>intro i x h d e f S s t;omega
 | succ m u =>
  intro i x h d e f S s t v;simp only[pN,xP];by_cases g:i<Z.length
  ·have p:aa ((a:Int)+(i:Int))=((a+i:Nat):Int):=by rw[bL (by omega) (by omega)];omega
   rw[drop_at' g];simp only[i9,i8,dc];simp only[fj g,zt,dP g,ba,Int.toNat_natCast,j,p,dP (show a+i<L.length by omega),dP (show a+i<ED.length by omega),ab1,iF];cases C:K.de env.Layout (oY (L.getD (a+i) default) (Z.getD i default)) c e f S with
   | none=>rfl
   | some q =>
    simp only[iF,F7,UI,List.length_singleton];rw[db (by omega) (by omega),ba,fe (by omega),u (i+1) _ _ _ _ _ _ (by omega) (by omega) (by rw[nw];simp only[List.length_singleton];omega)];rw[show a+(i+1)=a+i+1 by omega];cases dc (fun b w=>K.de env.Layout b w) (i9 c L (a+i+1) (Z.drop (i+1))) q.2.1 q.2.2.1 q.2.2.2 with
    | none=>rfl
    | some r=>rfl
  ·simp only[fB (show Z.length≤i by omega),iO,qv];rw[l3 (by omega)];rfl
def gc:Int→ck→Int
 | s,[]=>s
 | s,e::r=>gc (aa (s-e)) r
theorem Uw{B:Int}(a:0≤B∧B≤1073741824):∀(l:ck) (s A:Int),Small B l → -A≤s∧s≤A→A+l.length*B≤1125899906842624 → -(A+l.length*B)≤gc s l∧gc s l≤A+l.length*B
 | [],s,A,_,c,_=>by simpa[gc]using c
 | e::r,s,A,b,c,f=>by
  have i:=b e ti;have d:(((e::r).length:Nat):Int)*B=r.length*B+B:=by simp[amf]
  rw[d]at f⊢;have h:=akx (show(0:Int)≤(r.length:Int) by omega) a.1;have:=Uw a r (aa (s-e)) (A+B) (fun x g=>b x (ol _ g)) (by rw[bL (by omega) (by omega)];omega) (by omega);simp only[gc];omega
def dT{α:Type}(l:List α)(a b:Nat):List α:=List.drop a (List.take b l)
theorem H4{α:Type}(l:List α){a b:Nat}(h:a≤b)(c:b≤l.length):(dT l a b).length=b-a:=by unfold dT;simp;omega
theorem afL(K:Kn)(n:Nat)(c:Int)(env:bu)(L:d4)(b:ek)(ED ST:ck)(y:Int)(k:Nat)(a:dn)(g h:Int)(S:ci)(e:Int)(f:TP)(G:ck)(p:G.length≤1000):∀(m j:Nat) (s:Int),j≤G.length→G.length<m+j →
  qI K n c env L b ED ST y (k:Int) a g h S e f m s G (G.length:Int) (j:Int)=aE (cQ (ST.getD k default) e b.length) ((jH K n (List.drop (ST.getD k default).toNat (List.take e.toNat b)) (gc s (G.drop j))).bind fun Z=>pN K n c env L b ED ST y (k:Int) Z f n 0 0 0 a g h S):=by
 intro m
 induction m with
 | zero=>intro j s i l;omega
 | succ m o =>
  intro j s i l;simp only[qI,zE];by_cases d:j<G.length
  ·rw[drop_at' d];simp only[fj d,zt,dP d,ba,Int.toNat_natCast,gc];rw[fe (by omega)];exact o (j+1) _ (by omega) (by omega)
  ·simp only[fB (show G.length≤j by omega),iO,qv,Int.toNat_natCast];rw[show G.drop j=[] from l3 (by omega)];rfl
def o4(c:Int)(n:Nat)(a:ek)(ED ST:ck)(k:Nat):Nat×ck :=
 (((ST++[(n:Int)]).getD k default).toNat,Rs.resolve (dT a ((ST++[(n:Int)]).getD k default).toNat ((ST++[(n:Int)]).getD (k+1) default).toNat) (gc c (dT ED ((ST++[(n:Int)]).getD k default).toNat ((ST++[(n:Int)]).getD (k+1) default).toNat)))
def gQ(c:Int)(n:Nat)(a:ek)(ED ST:ck):Nat→Nat→List (Nat×ck)
 | _,0=>[]
 | k,m+1=>o4 c n a ED ST k::gQ c n a ED ST (k+1) m
def ig(c:Int)(L:d4):List (Nat×ck)→il
 | []=>[]
 | l::a=>i9 c L l.1 l.2++ig c L a
def jj(ED:ck):List (Nat×ck)→dn→Int→dn→dn×Int
 | [],_,y,a=>(a,y)
 | l::b,r,y,a=>jj ED b (r.drop l.2.length) (aa (y+(jy y (i8 ED l.1 l.2) (r.take l.2.length) (0,0,a)).2.1)) (jy y (i8 ED l.1 l.2) (r.take l.2.length) (0,0,a)).2.2
theorem aif{B:Int}{l:ck}(h:Small B l)(a b:Nat):Small B (dT l a b):=fun x c=>h x (wl (IN c))
theorem OI{α:Type}{l:List α}{x d:α}{k:Nat}(h:k<l.length):(l++[x]).getD k d=l.getD k d:=by
 rw[List.getD_eq_getElem?_getD,List.getD_eq_getElem?_getD,z3 h]
theorem SS{α:Type}{l:List α}{x d:α}{k:Nat}(h:k=l.length):(l++[x]).getD k d=x:=by
 subst h;simp[List.getD_eq_getElem?_getD]
theorem abi(N:Nat)(R:20010≤N)(c:Int)(hc:0≤c∧c≤8388608)(env:bu)(L:d4)(hl:L.length≤19)(e:ek)(ED ST:ck)(hI:e.length=L.length)(Q:ED.length=L.length)(A:Small 6291456 ED)(o:St L.length ST):
  ∀(m k:Nat) (y:Int) (f:dn) (g h:Int) (S:ci),k≤ST.length→ST.length<m+k→f.length≤20*k→je (KN N) N c env L e ED ST m y (k:Int) f g h S =
   (dc (fun b w=>(KN N).de env.Layout b w) (ig c L (gQ c L.length e ED ST k (ST.length-k))) g h S).bind fun r=>some ((jj ED (gQ c L.length e ED ST k (ST.length-k)) r.1 y f).1,(jj ED (gQ c L.length e ED ST k (ST.length-k)) r.1 y f).2,r.2.1,r.2.2.1,r.2.2.2):=by
 have T:=o.len;intro m
 induction m with
 | zero=>intro k y f g h S O P;omega
 | succ m W =>
  intro k y f g h S O P Z;simp only[je,yB];by_cases u:k<ST.length
  ·obtain⟨a,d,H,t,I,Y⟩:=o.get k u;have j:ST.getD k default=(a:Int):=by rw[←OI (x:=(L.length:Int)) u];exact H
   have U:o4 c L.length e ED ST k=(a,Rs.resolve (dT e a d) (gc c (dT ED a d))):=by unfold o4;rw[H,t];rfl
   have s:(dT ED a d).length=d-a:=H4 ED I (by omega);have E:(dT e a d).length=d-a:=H4 e I (by omega);have C:=Uw (B:=6291456) (by omega) (dT ED a d) c 8388608 (aif A a d) (by omega) (by rw[s];omega);have J:(Rs.resolve (dT e a d) (gc c (dT ED a d))).length=d-a:=by rw[Rs.IV,E]
   have p:aa ((k:Int)+1)=((k+1:Nat):Int):=fe (by omega);have X:mJ (KN N) N c env L e ED ST y (k:Int) f g h S (je (KN N) N c env L e ED ST m) (d:Int) =
     (dc (fun b w=>(KN N).de env.Layout b w) (i9 c L a (Rs.resolve (dT e a d) (gc c (dT ED a d)))) g h S).bind fun r=>je (KN N) N c env L e ED ST m (aa (y+(jy y (i8 ED a (Rs.resolve (dT e a d) (gc c (dT ED a d)))) r.1 (0,0,f)).2.1)) ((k+1:Nat):Int) (jy y (i8 ED a (Rs.resolve (dT e a d) (gc c (dT ED a d)))) r.1 (0,0,f)).2.2 r.2.1 r.2.2.1 r.2.2.2:=by
    unfold mJ;simp only[Int.toNat_natCast,j];rw[show cQ (a:Int) (d:Int) ED.length=true by simp[cQ];omega,ba];have K:=afL (KN N) N c env L e ED ST y k f g h S (d:Int) (je (KN N) N c env L e ED ST m) (dT ED a d) (by omega) N 0 c (u6 _) (by omega);have v:qI (KN N) N c env L e ED ST y (k:Int) f g h S (d:Int) (je (KN N) N c env L e ED ST m) N c (List.drop a (List.take d ED)) ((List.drop a (List.take d ED)).length:Int) 0=_:=K;rw[v,j];simp only[Int.toNat_natCast,DO];rw[show cQ (a:Int) (d:Int) e.length=true by simp[cQ];omega,ba];have M:=Rs.mF (n:=N) (lvl:=N) (dT e a d) (sp:=gc c (dT ED a d)) (by omega) (by rw[s]at C;omega) (by omega) R;have z:jH (KN N) N (List.drop a (List.take d e)) (gc c (dT ED a d))=_:=M;rw[z,iF];have G:=agB (KN N) N c env L e ED ST y k (Rs.resolve (dT e a d) (gc c (dT ED a d))) (je (KN N) N c env L e ED ST m) a j (by rw[J];omega) Q (by omega) N 0 0 0 f g h S (u6 _) (by omega) (by omega)
    rw[p,akF,DO]at G;exact G
   have F:(if (decide (aa ((k:Int)+1)<(ST.length:Int)))=true then
     aE (aP (aa ((k:Int)+1)) ST.length) (mJ (KN N) N c env L e ED ST y (k:Int) f g h S (je (KN N) N c env L e ED ST m) (ST.getD (aa ((k:Int)+1)).toNat default))
     else mJ (KN N) N c env L e ED ST y (k:Int) f g h S (je (KN N) N c env L e ED ST m) (L.length:Int))=mJ (KN N) N c env L e ED ST y (k:Int) f g h S (je (KN N) N c env L e ED ST m) (d:Int):=by
    rw[p];by_cases l:k+1<ST.length
    ·rw[lc (fj l),dP l,ba,Int.toNat_natCast,← OI (x:=(L.length:Int)) l,t]
    ·rw[fB (show ST.length≤k+1 by omega),kb (by simp)];rw[SS (by omega)]at t;rw[t]
   simp only[fj u,zt,dP u,ba,iF];rw[F,X,show ST.length-k=(ST.length-(k+1))+1 by omega];simp only[gQ,ig,jj,U];rw[RD];cases V:dc (fun b w=>(KN N).de env.Layout b w) (i9 c L a (Rs.resolve (dT e a d) (gc c (dT ED a d)))) g h S with
   | none=>rfl
   | some r =>
    have i:=uK V;rw[Hp]at i;simp only[iF];have D:=HF y (i8 ED a (Rs.resolve (dT e a d) (gc c (dT ED a d)))) r.1 (0,0,f) (by rw[IJ,i]);rw[W (k+1) _ _ _ _ _ (by omega) (by omega) (by rw[D.1,i,J];simp only;omega)];cases dc (fun b w=>(KN N).de env.Layout b w) (ig c L (gQ c L.length e ED ST (k+1) (ST.length-(k+1)))) r.2.1 r.2.2.1 r.2.2.2 with
    | none=>rfl
    | some q =>
     simp only[iF];rw[←i,List.take_left,amd]
  ·simp only[fB (show ST.length≤k by omega),iO,qv];rw[show ST.length-k=0 by omega];rfl
end Go.Proofs.YtocgkfoifehcbaaGreat
namespace Go.Proofs.YtocgkfoifehcbaaGreat
set_option linter.all false
open Go.RowKit
namespace Fl
open QSort (wn cD dh dd rk rf sb)
open Fw
def eC(W:ab→Int×Int)(c:Int)(k:ab):bC:=⟨eD k.Style.Basis c (eD k.Style.Width c (aa ((W k).2-gB (eW k.Style 0 0)))),k.Style.Grow,k.Style.Shrink,eD k.Style.MinWidth c 0,eD k.Style.MaxWidth c 1048576⟩
def dR(c:Int)(k:ab):Int:=gB (eW k.Style c 0)
def iT(W:ab→Int×Int)(c:Int)(k:ab):Int:=Rs.hyp (eC W c k)+dR c k
theorem Mh(W:ab→Int×Int)(c:Int)(k:ab): -6291456≤iT W c k∧iT W c k≤7340032:=by
 have a:=Rs.Fn (eC W c k);have b:=I3 k.Style c;unfold iT dR;omega
theorem Kq{α β:Type}[Inhabited α][Inhabited β](f:α→β){l:List α}{k:Nat}(a:k<l.length):(l.map f).getD k default=f (l.getD k default):=by
 rw[bR (by simpa using a),akE,bR a]
instance:Inhabited bC:=⟨ki⟩
section
variable(K:Kn)(n:Nat)(L:d4)(f:L.length≤19)(c:Int)(W:ab→Int×Int)(env:bu)(a d:Int)(S:ci)(e:∀k∈L,K.gm env.Widths k=some (W k))
include f e
theorem aeW(b:ab):∀(m i:Nat),i≤L.length→L.length<m+i →
  oy K n b c env a d S L m (i:Int) (mix i (L.map (eC W c)) (List.replicate L.length ki)) (mix i (L.map (dR c)) (List.replicate L.length 0)) (mix i (L.map (iT W c)) (List.replicate L.length 0)) =
  if b.Style.Wrap=true then (pQ K n (L.map (iT W c)) c).bind fun f=>kZ K n c env a d S L (L.map (eC W c)) (L.map (dR c)) f else kZ K n c env a d S L (L.map (eC W c)) (L.map (dR c)) [0]:=by
 have l:(L.map (eC W c)).length=(List.replicate L.length ki).length:=by simp
 have g:(L.map (dR c)).length=(List.replicate L.length (0:Int)).length:=by simp
 have o:(L.map (iT W c)).length=(List.replicate L.length (0:Int)).length:=by simp
 have y:(List.replicate L.length ki).length=L.length:=by simp
 have p:(List.replicate L.length (0:Int)).length=L.length:=by simp
 intro m
 induction m with
 | zero=>intro i E F;omega
 | succ m I =>
  intro i E F;simp only[oy,zl];by_cases h:i<L.length
  ·have G:=e _ (ga h);have J:=B3 (i:=i) l;have v:=B3 (i:=i) g;have M:=B3 (i:=i) o;have z:=HY l (i:=i) (by omega);have A:=HY g (i:=i) (by omega);have B:=HY o (i:=i) (by omega);have t:=aj2 g (i:=i) (by omega);have N:=B3 (i:=i+1) g;rw[Kq (eC W c) h]at z;rw[Kq (dR c) h]at A t;rw[Kq (iT W c) h]at B;have w:=Mh W c (L.getD i default);have C:aa ((i:Int)+1)=((i+1:Nat):Int):=wn (by omega) (by omega);rw[dh (by omega)];have k:∀x,x=(eC W c (L.getD i default)).aA→sV K n b c env a d S L (i:Int) (mix i (L.map (eC W c)) (List.replicate L.length ki)) (mix i (L.map (dR c)) (List.replicate L.length 0)) (mix i (L.map (iT W c)) (List.replicate L.length 0)) (dR c (L.getD i default)) (eD (L.getD i default).Style.MinWidth c 0) (eD (L.getD i default).Style.MaxWidth c 1048576) (L.getD i default).Style.Grow (L.getD i default).Style.Shrink (oy K n b c env a d S L m) x =
     (if b.Style.Wrap=true then (pQ K n (L.map (iT W c)) c).bind fun f=>kZ K n c env a d S L (L.map (eC W c)) (L.map (dR c)) f else kZ K n c env a d S L (L.map (eC W c)) (L.map (dR c)) [0]):=by
    intro x H;subst H;unfold sV;have D:(⟨(eC W c (L.getD i default)).aA,(L.getD i default).Style.Grow,(L.getD i default).Style.Shrink,eD (L.getD i default).Style.MinWidth c 0,eD (L.getD i default).Style.MaxWidth c 1048576⟩:bC)=eC W c (L.getD i default):=rfl;simp only[D,Rs.KP,sb,eN,z,A,J,v,M,N,t,C,y,p,cD (show(0:Int)≤(i:Int)∧(i:Int)<(L.length:Nat) by omega)];rw[bL (n:=Rs.hyp (eC W c (L.getD i default))+dR c (L.getD i default)) (by unfold iT at w;omega) (by unfold iT at w;omega)];rw[show Rs.hyp (eC W c (L.getD i default))+dR c (L.getD i default)=iT W c (L.getD i default) from rfl,B];exact I (i+1) (by omega) (by omega)
   simp only[cD (show(0:Int)≤(i:Int)∧(i:Int)<(L.length:Nat) by omega),eN,uH,rL,sb,Cm,gi,v,p,w5];rw[show gB (eW (L.getD i default).Style c 0)=dR c (L.getD i default) from rfl];cases j:(cz (L.getD i default).Style.Basis c).2 with
   | true =>
    simp only[OR,iO,qv];exact k _ (by unfold eC eD;simp only[j,zt])
   | false =>
    simp only[ak0,zt];cases u:(cz (L.getD i default).Style.Width c).2 with
    | true =>
     simp only[OR,iO,qv];exact k _ (by unfold eC eD;simp only[j,u,zt,iO,qv])
    | false =>
     simp only[ak0,zt];rw[G,sb];exact k _ (by unfold eC eD;simp only[j,u,iO,qv])
  ·obtain rfl:i=L.length:=by omega
   have q:=E4 l;have r:=E4 g;have s:=E4 o;rw[y]at q;rw[p]at r s;rw[dd (by omega),q,r,s]
end
def kC(b:ab)(c:Int)(W:ab→Int×Int)(L:d4):ck:=if b.Style.Wrap=true then mP c (L.map (iT W c)) else [0]
def g9(b:ab)(c:Int)(W:ab→Int×Int)(L:d4):List (Nat×ck):=gQ c L.length (L.map (eC W c)) (L.map (dR c)) (kC b c W L) 0 (kC b c W L).length
theorem Sq(b:ab)(c:Int)(W:ab→Int×Int)(L:d4):St L.length (kC b c W L):=by
 unfold kC;split
 ·have:=adh c (L.map (iT W c));rwa[nx]at this
 ·exact abb _
theorem ac3(N:Nat)(t:20010≤N)(b:ab)(L:d4)(m:L.length≤19)(z:kE (KN N) N b=some L)(c:Int)(y:0≤c∧c≤8388608)(W:ab→Int×Int)(env:bu)(v:∀k∈L,(KN N).gm env.Widths k=some (W k))(a f:Int)(S:ci):
  xv (KN N) N b c env a f S=(dc (fun b w=>(KN N).de env.Layout b w) (ig c L (g9 b c W L)) a f S).bind fun r=>some ((jj (L.map (dR c)) (g9 b c W L) r.1 0 []).1,(jj (L.map (dR c)) (g9 b c W L) r.1 0 []).2,r.2.1,r.2.2.1,r.2.2.2):=by
 unfold xv;rw[z,sb];have n:fA (L.length:Int) 40=true:=by simp[fA];omega
 have o:fA (L.length:Int) 8=true:=by simp[fA];omega
 rw[n,o];simp only[ba,sb,eN];have h:=aeW (KN N) N L m c W env a f S v b N 0 (u6 _) (by omega);have u:Small 7340032 (L.map (iT W c)):=fun x l=>by
  obtain⟨k,_,rfl⟩:=BY.1 l;have:=Mh W c k;omega
 have s:Small 6291456 (L.map (dR c)):=fun x l=>by
  obtain⟨k,_,rfl⟩:=BY.1 l;exact I3 k.Style c
 have p:oy (KN N) N b c env a f S L N 0 (List.replicate L.length ki) (List.replicate L.length 0) (List.replicate L.length 0)=_:=h;rw[p,adx (KN N) c (by omega) u (by rw[nx];omega) (by omega)];have g:∀ST,kC b c W L=ST→kZ (KN N) N c env a f S L (L.map (eC W c)) (L.map (dR c)) ST=(dc (fun b w=>(KN N).de env.Layout b w) (ig c L (g9 b c W L)) a f S).bind fun r=>some ((jj (L.map (dR c)) (g9 b c W L) r.1 0 []).1,(jj (L.map (dR c)) (g9 b c W L) r.1 0 []).2,r.2.1,r.2.2.1,r.2.2.2):=fun ST q=>by
  have d:=Sq b c W L;have j:=d.len;unfold kZ g9;rw[q]at d j⊢;have e:=abi N t c y env L m (L.map (eC W c)) (L.map (dR c)) ST (by simp) (by simp) s d N 0 0 [] a f S (u6 _) (by omega) (by simp);simpa using e
 by_cases i:b.Style.Wrap=true
 ·rw[lc i,sb];exact g _ (by unfold kC;rw[lc i])
 ·rw[kb i];exact g _ (by unfold kC;rw[kb i])
end Fl
namespace Fl
open QSort (wn cD dh dd rk rf sb)
open Fw
def sf(x:Int):Int:=min (max x (-1125899906842624)) 1125899906842624
theorem Wn(N:Nat)(a:20010≤N)(l:ek)(sp:Int)(b:l.length≤19):jH (KN N) N l sp=some (Rs.resolve l (sf sp)):=by
 rw[←Rs.mF (n:=N) (lvl:=N) l (sp:=sf sp) b (by unfold sf;omega) (by omega) a];unfold jH;rw[show min (max (sf sp) (-1125899906842624)) 1125899906842624=min (max sp (-1125899906842624)) 1125899906842624 by unfold sf;omega]
def lr(c:Int)(k:ab):Int:=aa ((aa ((aa ((eW k.Style c 0).Border.a0+(eW k.Style c 0).Border.a2))+(eW k.Style c 0).Padding.a0))+(eW k.Style c 0).Padding.a2)
def nh(c:Int)(k:ab)(f:ae):bC:=⟨if (k.Style.Basis.Kind == 1)=true then eD k.Style.Basis 0 0 else aa (f.H-lr c k),k.Style.Grow,k.Style.Shrink,0,1048576⟩
def HB(c:Int)(k:ab)(f:ae):Int:=aa (aa (nn f.Before+qX f)+lr c k)
structure ou where
 space:Int
 fW:ck
 items:ek
 inner:ck
 edges:ck
 out:dn
def dL(c:Int)(k:ab)(f:ae)(a:ou):ou :=
 ⟨aa (a.space-HB c k f),a.fW++[Rs.hyp (nh c k f)],a.items++[nh c k f],a.inner++[lr c k],a.edges++[HB c k f],a.out++[f]⟩
def dm(c:Int):d4→dn→ou→ou
 | k::l,f::r,a=>dm c l r (dL c k f a)
 | _,_,a=>a
structure w9(n:Nat)(a:ou):Prop where
 s:a.fW.length=n
 i:a.items.length=n
 w:a.inner.length=n
 e:a.edges.length=n
 o:a.out.length=n
theorem S4{c:Int}{k:ab}{f:ae}{n:Nat}{a:ou}(h:w9 n a):w9 (n+1) (dL c k f a) :=
 ⟨by simp[dL,h.s],by simp[dL,h.i],by simp[dL,h.w],by simp[dL,h.e],by simp[dL,h.o]⟩
theorem BZ{c:Int}:∀(l:d4) (r:dn) {n:Nat} {a:ou},l.length=r.length→w9 n a→w9 (n+l.length) (dm c l r a)∧(dm c l r a).out=a.out++r
 | [],[],n,a,_,h=>⟨h,by simp[dm]⟩
 | k::l,f::r,n,a,e,h=>by
  simp only[lp]at e;obtain⟨b,d⟩:=BZ l r (by omega) (S4 (c:=c) (k:=k) (f:=f) h);refine⟨?_,by simp only[dm];rw[d];simp[dL]⟩;simp only[dm,lp];rw[show n+(l.length+1)=n+1+l.length by omega];exact b
 | [],_::_,_,_,h,_=>by simp at h
 | _::_,[],_,_,h,_=>by simp at h
theorem ah1(K:Kn)(n:Nat)(b:ab)(c:Int)(env:bu)(L:d4)(C:L.length≤19):∀(m i:Nat) (a:ou) (f h:Int) (S:ci),i≤L.length→L.length<m+i→w9 i a →
  kU K n b c env L m a.space (i:Int) a.fW a.items a.inner a.edges a.out f h S =
   (dc (fun b w=>K.de env.Layout b w) ((L.drop i).map fun k=>(k,c)) f h S).bind fun r =>
    if (b.Style.Height.Kind == 1)=true then (jH K n (dm c (L.drop i) r.1 a).items (dm c (L.drop i) r.1 a).space).bind fun d=>kn K n (dm c (L.drop i) r.1 a).inner (dm c (L.drop i) r.1 a).edges (dm c (L.drop i) r.1 a).out r.2.1 r.2.2.1 r.2.2.2 d
    else kn K n (dm c (L.drop i) r.1 a).inner (dm c (L.drop i) r.1 a).edges (dm c (L.drop i) r.1 a).out r.2.1 r.2.2.1 r.2.2.2 (dm c (L.drop i) r.1 a).fW:=by
 intro m
 induction m with
 | zero=>intro i a f h S u v;omega
 | succ m A =>
  intro i a f h S u v e;simp only[kU,zm];by_cases j:i<L.length
  ·rw[drop_at' j];simp only[fj j,zt,dP j,ba,Int.toNat_natCast,q6,dc];cases D:K.de env.Layout (L.getD i default) c f h S with
   | none=>rfl
   | some q =>
    have B:oh K n b c env L a.space (i:Int) a.fW a.items a.inner a.edges a.out q (lr c (L.getD i default)) (L.getD i default).Style.Grow (L.getD i default).Style.Shrink (kU K n b c env L m) (nh c (L.getD i default) q.1).aA=kU K n b c env L m (dL c (L.getD i default) q.1 a).space ((i+1:Nat):Int) (dL c (L.getD i default) q.1 a).fW (dL c (L.getD i default) q.1 a).items (dL c (L.getD i default) q.1 a).inner (dL c (L.getD i default) q.1 a).edges (dL c (L.getD i default) q.1 a).out q.2.1 q.2.2.1 q.2.2.2:=by
     unfold oh;have t:(⟨(nh c (L.getD i default) q.1).aA,(L.getD i default).Style.Grow,(L.getD i default).Style.Shrink,0,1048576⟩:bC)=nh c (L.getD i default) q.1:=rfl;have l:aa (((a.edges++[aa (aa (nn q.1.Before+qX q.1)+lr c (L.getD i default))]).length:Int)-1)=(i:Int):=by
      rw[nw,e.e];simp only[lp,th];rw[bL (by omega) (by omega)];omega
     simp only[t,F7,UI,sb,Rs.KP,l,List.length_singleton];rw[db (by rw[e.i];omega) (by omega),ba,db (by rw[e.w];omega) (by omega),ba,db (by rw[e.e];omega) (by omega),ba,dP (show i<(a.edges++[aa (aa (nn q.1.Before+qX q.1)+lr c (L.getD i default))]).length by simp[e.e]),ba,db (by rw[e.s];omega) (by omega),ba,db (by rw[e.o];omega) (by omega),ba,fe (by omega)];rw[show List.getD (a.edges++[aa (aa (nn q.1.Before+qX q.1)+lr c (L.getD i default))]) ((i:Int)).toNat default=HB c (L.getD i default) q.1 by rw[Int.toNat_natCast];exact SS e.e.symm];rfl
    simp only[sb,uH,Cm];have o:=B.trans (A (i+1) (dL c (L.getD i default) q.1 a) q.2.1 q.2.2.1 q.2.2.2 (by omega) (by omega) (S4 e));have p:∀x,x=(nh c (L.getD i default) q.1).aA→oh K n b c env L a.space (i:Int) a.fW a.items a.inner a.edges a.out q (lr c (L.getD i default)) (L.getD i default).Style.Grow (L.getD i default).Style.Shrink (kU K n b c env L m) x=oh K n b c env L a.space (i:Int) a.fW a.items a.inner a.edges a.out q (lr c (L.getD i default)) (L.getD i default).Style.Grow (L.getD i default).Style.Shrink (kU K n b c env L m) (nh c (L.getD i default) q.1).aA:=fun x z=>by rw[z]
    have g:((dc (fun b w=>K.de env.Layout b w) ((L.drop (i+1)).map fun k=>(k,c)) q.2.1 q.2.2.1 q.2.2.2).bind fun y=>some (q.1::y.1,y.2)).bind (fun r =>
      if (b.Style.Height.Kind == 1)=true then (jH K n (dm c (L.getD i default::L.drop (i+1)) r.1 a).items (dm c (L.getD i default::L.drop (i+1)) r.1 a).space).bind fun d=>kn K n (dm c (L.getD i default::L.drop (i+1)) r.1 a).inner (dm c (L.getD i default::L.drop (i+1)) r.1 a).edges (dm c (L.getD i default::L.drop (i+1)) r.1 a).out r.2.1 r.2.2.1 r.2.2.2 d
      else kn K n (dm c (L.getD i default::L.drop (i+1)) r.1 a).inner (dm c (L.getD i default::L.drop (i+1)) r.1 a).edges (dm c (L.getD i default::L.drop (i+1)) r.1 a).out r.2.1 r.2.2.1 r.2.2.2 (dm c (L.getD i default::L.drop (i+1)) r.1 a).fW) =
      (dc (fun b w=>K.de env.Layout b w) ((L.drop (i+1)).map fun k=>(k,c)) q.2.1 q.2.2.1 q.2.2.2).bind (fun r =>
      if (b.Style.Height.Kind == 1)=true then (jH K n (dm c (L.drop (i+1)) r.1 (dL c (L.getD i default) q.1 a)).items (dm c (L.drop (i+1)) r.1 (dL c (L.getD i default) q.1 a)).space).bind fun d=>kn K n (dm c (L.drop (i+1)) r.1 (dL c (L.getD i default) q.1 a)).inner (dm c (L.drop (i+1)) r.1 (dL c (L.getD i default) q.1 a)).edges (dm c (L.drop (i+1)) r.1 (dL c (L.getD i default) q.1 a)).out r.2.1 r.2.2.1 r.2.2.2 d
      else kn K n (dm c (L.drop (i+1)) r.1 (dL c (L.getD i default) q.1 a)).inner (dm c (L.drop (i+1)) r.1 (dL c (L.getD i default) q.1 a)).edges (dm c (L.drop (i+1)) r.1 (dL c (L.getD i default) q.1 a)).out r.2.1 r.2.2.1 r.2.2.2 (dm c (L.drop (i+1)) r.1 (dL c (L.getD i default) q.1 a)).fW):=by
     cases dc (fun b w=>K.de env.Layout b w) ((L.drop (i+1)).map fun k=>(k,c)) q.2.1 q.2.2.1 q.2.2.2<;>rfl
    rw[g];cases s:((L.getD i default).Style.Basis.Kind == 1) with
    | true =>
     simp only[zt];exact(p (eD (L.getD i default).Style.Basis 0 0) (by simp only[nh,s,zt])).trans o
    | false =>
     simp only[iO,qv];exact(p (aa (q.1.H-lr c (L.getD i default))) (by simp only[nh,s,iO,qv])).trans o
  ·simp only[fB (show L.length≤i by omega),iO,qv];rw[show L.drop i=[] from l3 (by omega)];simp only[yk,dc,sb,dm]
end Fl
namespace Fl
open QSort (wn cD dh dd rk rf sb)
open Fw
def jB:ck→ck→ck→dn→Int→dn×Int
 | z::Z,i::I,e::E,f::a,y=>(({ f with H:=aa (z+i),Y:=aa (y+nn f.Before) }:ae)::(jB Z I E a (aa (y+aa (z+e)))).1,(jB Z I E a (aa (y+aa (z+e)))).2)
 | _,_,_,_,y=>([],y)
theorem Fe:∀(a:dn) (Z I E:ck) (y:Int),(jB Z I E a y).1.length≤a.length∧∀f∈(jB Z I E a y).1,∃g∈a,f.Kids=g.Kids
 | [],Z,I,E,y=>by
  have e:jB Z I E [] y=([],y):=by cases Z<;>cases I<;>cases E<;>rfl
  rw[e];exact⟨ll _,fun f b=>by cases b⟩
 | f::a,[],I,E,y=>⟨u6 _,fun f b=>by cases b⟩
 | f::a,z::Z,[],E,y=>⟨u6 _,fun f b=>by cases b⟩
 | f::a,z::Z,i::I,[],y=>⟨u6 _,fun f b=>by cases b⟩
 | f::a,z::Z,i::I,e::E,y=>by
  obtain⟨k,j⟩:=Fe a Z I E (aa (y+aa (z+e)));simp only[jB,lp];refine⟨by omega,fun q c=>?_⟩;rcases oR.1 c with rfl|c
  ·exact⟨f,ti,rfl⟩
  ·obtain⟨g,d,h⟩:=j q c;exact⟨g,ol _ d,h⟩
theorem ahG(K:Kn)(n:Nat)(I E:ck)(a:dn)(b h:Int)(S:ci)(Z:ck)(o:Z.length=a.length)(l:I.length=a.length)(k:E.length=a.length)(p:a.length≤1000):∀(m:Nat) (A R:dn) (y:Int),A.length+R.length=a.length→R.length<m →
  uA K n I E a b h S Z m y (A.length:Int) (A++R)=some (A++(jB (Z.drop A.length) (I.drop A.length) (E.drop A.length) R y).1,(jB (Z.drop A.length) (I.drop A.length) (E.drop A.length) R y).2,b,h,S):=by
 intro m
 induction m with
 | zero=>intro A R y _ d;omega
 | succ m j =>
  intro A R y c d;simp only[uA,AN];cases R with
  | nil =>
   have e:A.length=a.length:=by simpa using c
   simp only[fB (show a.length≤A.length by omega),iO,qv];rw[l3 (by omega)];simp[jB]
  | cons f R =>
   simp only[lp]at c d;have i:A.length<a.length:=by omega
   rw[drop_at' (show A.length<Z.length by omega),drop_at' (show A.length<I.length by omega),drop_at' (show A.length<E.length by omega)];simp only[jB];have g:=j (A++[({ f with H:=aa (Z.getD A.length default+I.getD A.length default),Y:=aa (y+nn f.Before) }:ae)]) R (aa (y+aa (Z.getD A.length default+E.getD A.length default))) (by simp;omega) (by omega);simp only[tl,aiO,nw,lp,th,Dy]at g;simp only[fj i,zt,Int.toNat_natCast,HL,EJ,dP (show A.length<Z.length by omega),dP (show A.length<I.length by omega),dP (show A.length<E.length by omega),nw,lp,dP (show A.length<A.length+(R.length+1) by omega),ba,sb,F7,fe (show A.length<1000000000 by omega)];exact g
def nT(b:ab)(c:Int)(L:d4)(r:dn):dn×Int :=
 let a:=dm c L r ⟨max (eD b.Style.Height 0 0) 0,[],[],[],[],[]⟩
 jB (if (b.Style.Height.Kind == 1)=true then Rs.resolve a.items (sf a.space) else a.fW) a.inner a.edges a.out 0
theorem ai4(N:Nat)(o:20010≤N)(b:ab)(L:d4)(m:L.length≤19)(p:kE (KN N) N b=some L)(c:Int)(env:bu)(f i:Int)(S:ci):
  zy (KN N) N b c env f i S=(dc (fun b w=>(KN N).de env.Layout b w) (L.map fun k=>(k,c)) f i S).bind fun r=>some ((nT b c L r.1).1,(nT b c L r.1).2,r.2.1,r.2.2.1,r.2.2.2):=by
 unfold zy;rw[Cm,sb,p,sb];have h:=ah1 (KN N) N b c env L m N 0 ⟨max (eD b.Style.Height 0 0) 0,[],[],[],[],[]⟩ f i S (u6 _) (by omega) ⟨rfl,rfl,rfl,rfl,rfl⟩;have l:kU (KN N) N b c env L N (max (eD b.Style.Height 0 0) 0) 0 [] [] [] [] [] f i S=_:=h;rw[l,DO];cases q:dc (fun b w=>(KN N).de env.Layout b w) (L.map fun k=>(k,c)) f i S with
 | none=>rfl
 | some r =>
  have g:=uK q;rw[nx]at g;obtain⟨d,t⟩:=BZ (c:=c) L r.1 (n:=0) (a:=⟨max (eD b.Style.Height 0 0) 0,[],[],[],[],[]⟩) g.symm ⟨rfl,rfl,rfl,rfl,rfl⟩;simp only[sb];unfold nT;simp only;generalize dm c L r.1 ⟨max (eD b.Style.Height 0 0) 0,[],[],[],[],[]⟩=a at *;have j:∀Z:ck,Z.length=L.length→kn (KN N) N a.inner a.edges a.out r.2.1 r.2.2.1 r.2.2.2 Z=some ((jB Z a.inner a.edges a.out 0).1,(jB Z a.inner a.edges a.out 0).2,r.2.1,r.2.2.1,r.2.2.2):=fun Z s=>by
   unfold kn;have e:=ahG (KN N) N a.inner a.edges a.out r.2.1 r.2.2.1 r.2.2.2 Z (by rw[d.o];omega) (by rw[d.w,d.o]) (by rw[d.e,d.o]) (by rw[d.o];omega) N [] a.out 0 (by simp) (by rw[d.o];omega);simpa using e
  split
  ·rw[Wn N o _ _ (by rw[d.i];omega),sb];exact j _ (by rw[Rs.IV,d.i];omega)
  ·exact j _ (by rw[d.s];omega)
def oA(z:bD)(f:ae):ae:=ui { f with X:=aa (f.X+aa (z.Border.a3+z.Padding.a3)),Y:=aa (f.Y+aa (z.Border.a0+z.Padding.a0)) } z.Content
theorem akj(z:bD)(f:ae):(oA z f).Kids=f.Kids:=by unfold oA;rw[RP]
theorem Zm(K:Kn)(n:Nat)(b:ab)(z:bD)(j k:bc)(L:dn)(p:L.length≤10000)(a i w h:Int)(S:ci):∀(m:Nat) (A R:dn),A.length+R.length=L.length→R.length<m →
  tm K n b z j k L a i S w h m (A.length:Int) (A++R)=some (⟨1,b.Node,z.Margin.a3,0,w,h,0,⟨#[]⟩,b.Style,j,k,false,A++R.map (oA z)⟩,a,i,S):=by
 intro m
 induction m with
 | zero=>intro A R _ d;omega
 | succ m o =>
  intro A R c d;simp only[tm,zH];cases R with
  | nil =>
   have e:A.length=L.length:=by simpa using c
   simp only[fB (show L.length≤A.length by omega),iO,qv,yk]
  | cons f R =>
   simp only[lp]at c d;have l:A.length<L.length:=by omega
   have g:=o (A++[oA z f]) R (by simp;omega) (by omega);simp only[tl,aiO,nw,lp,th,Dy]at g;simp only[fj l,zt,Int.toNat_natCast,HL,EJ,nw,lp,dP (show A.length<A.length+(R.length+1) by omega),ba,sb,Ry,fe (show A.length<1000000000 by omega),q6];exact g
def wL(b:ab)(z:bD)(a:dn)(h:Int):ae :=
 ⟨1,b.Node,z.Margin.a3,0,aa (aa (aa (aa (z.Content+z.Border.a1)+z.Border.a3)+z.Padding.a1)+z.Padding.a3),aa (aa (aa (aa ((if (b.Style.Height.Kind == 1)=true then max (eD b.Style.Height 0 0) 0 else max h 0)+z.Border.a0)+z.Border.a2)+z.Padding.a0)+z.Padding.a2),0,⟨#[]⟩,b.Style,ir z.Margin.a0,ir z.Margin.a2,false,a.map (oA z)⟩
theorem Mv(K:Kn)(n:Nat)(b:ab)(z:bD)(h:Int)(L:dn)(g:L.length≤10000)(i:L.length<n)(a c:Int)(S:ci):sC K n b z (ir z.Margin.a0) (ir z.Margin.a2) h L a c S=some (wL b z L h,a,c,S):=by
 have f:∀x,ww K n b z (ir z.Margin.a0) (ir z.Margin.a2) L a c S x=some (⟨1,b.Node,z.Margin.a3,0,aa (aa (aa (aa (z.Content+z.Border.a1)+z.Border.a3)+z.Padding.a1)+z.Padding.a3),aa (aa (aa (aa (x+z.Border.a0)+z.Border.a2)+z.Padding.a0)+z.Padding.a2),0,⟨#[]⟩,b.Style,ir z.Margin.a0,ir z.Margin.a2,false,L.map (oA z)⟩,a,c,S):=fun x=>by
  unfold ww;simp only[sb];have e:=Zm K n b z (ir z.Margin.a0) (ir z.Margin.a2) L g a c (aa (aa (aa (aa (z.Content+z.Border.a1)+z.Border.a3)+z.Padding.a1)+z.Padding.a3)) (aa (aa (aa (aa (x+z.Border.a0)+z.Border.a2)+z.Padding.a0)+z.Padding.a2)) S n [] L (by simp) (by omega);simpa using e
 unfold sC wL;by_cases d:(b.Style.Height.Kind == 1)=true
 ·rw[lc d,lc d,Cm,sb,f]
 ·rw[kb d,kb d,f]
end Fl
def ep:il→Nat
 | []=>0
 | p::r=>bU p.1+ep r
theorem RC:∀l m,ep (l++m)=ep l+ep m
 | [],m=>by simp[ep]
 | p::r,m=>by simp only[ack,ep,RC r m];omega
theorem GN:∀l,l.length≤ep l
 | []=>ll _
 | p::r=>by simp only[ep];have:=GN r;grind[iP]
theorem aef{l m}(h:l.Perm m):cW l=cW m:=by
 induction h with
 | nil=>rfl
 | cons x _ c=>grind[cW]
 | swap x y l=>grind[cW]
 | trans _ _ a b=>grind
theorem Oz p:∀l:d4,cW (l.filter p)≤cW l
 | []=>ll _
 | b::r=>by
  have:=Oz p r
  grind[cW]
namespace Fl
open QSort (wn cD dh dd rk rf sb)
open Fw
theorem Y3 b z:bU (oY b z)=bU b:=by rw[gY,gY b];rfl
theorem Vz c L:∀Z j,j+Z.length≤L.length→ep (i9 c L j Z)+cW (L.drop (j+Z.length))=cW (L.drop j)
 | [],j,_=>by simp[i9,ep]
 | z::Z,j,h=>by
  simp only[lp]at h⊢;have:=Vz c L Z (j+1) (by omega);rw[drop_at' (show j<L.length by omega)]
  grind[i9,ep,cW,Y3]
theorem JJ{c:Int}{L:d4}{d:ek}{ED ST:ck}(l:d.length=L.length)(f:St L.length ST){k:Nat}(j:k<ST.length):∃a b:Nat,(ST++[(L.length:Int)]).getD k default=(a:Int)∧(ST++[(L.length:Int)]).getD (k+1) default=(b:Int)∧a≤b∧b≤L.length∧(o4 c L.length d ED ST k).1=a∧(o4 c L.length d ED ST k).2.length=b-a:=by
 obtain⟨a,b,e,g,h,i⟩:=f.get k j;refine⟨a,b,e,g,h,i,by unfold o4;rw[e];rfl,?_⟩;unfold o4;rw[e,g,Rs.IV];exact H4 d h (by omega)
theorem Tk(c:Int)(L:d4)(d:ek)(ED ST:ck)(i:d.length=L.length)(b:St L.length ST):∀(m k:Nat),k+m=ST.length→0<m→∀e:Nat,(ST++[(L.length:Int)]).getD k default=(e:Int)→ep (ig c L (gQ c L.length d ED ST k m))≤cW (L.drop e)
 | 0,k,_,h,_,_=>by omega
 | m+1,k,h,_,e,p=>by
  obtain⟨a,f,l,n,s,t,o,g⟩:=JJ (c:=c) (ED:=ED) i b (show k<ST.length by omega);have j:a=e:=by rw[p]at l;omega
  subst j;simp only[gQ,ig,RC,o];have q:=Vz c L (o4 c L.length d ED ST k).2 a (by rw[g];omega);rw[g,show a+(f-a)=f by omega]at q;by_cases r:m=0
  ·subst r;simp only[gQ,ig,ep];omega
  ·have:=Tk c L d ED ST i b m (k+1) (by omega) (by omega) f n;omega
theorem RM(c:Int)(L:d4)(d:ek)(ED ST:ck)(e:d.length=L.length)(b:St L.length ST):∀(m k:Nat),k+m≤ST.length→∀p∈ig c L (gQ c L.length d ED ST k m),p.2=c∧∃q∈L,∃z,p.1=oY q z
 | 0,k,_,p,a=>by cases a
 | m+1,k,h,p,a=>by
  obtain⟨f,r,g,i,j,l,n,o⟩:=JJ (c:=c) (ED:=ED) e b (show k<ST.length by omega);simp only[gQ]at a;rcases n5.1 a with a|a
  ·exact T7 (by omega) a
  ·exact RM c L d ED ST e b m (k+1) (by omega) p a
theorem Jk(ED:ck):∀(b:List (Nat×ck)) (r:dn) (y:Int) (a:dn),(b.map fun l=>l.2.length).sum≤r.length→(jj ED b r y a).1.length≤a.length+r.length∧∀f∈(jj ED b r y a).1,f∈a∨∃g∈r,f.Kids=g.Kids
 | [],r,y,a,_=>⟨by simp[jj],fun f c=>.inl c⟩
 | l::b,r,y,a,h=>by
  simp only[q6]at h;simp only[jj];have i:=HF y (i8 ED l.1 l.2) (r.take l.2.length) (0,0,a) (by grind[IJ]);obtain⟨d,e⟩:=Jk ED b (r.drop l.2.length) (aa (y+(jy y (i8 ED l.1 l.2) (r.take l.2.length) (0,0,a)).2.1)) (jy y (i8 ED l.1 l.2) (r.take l.2.length) (0,0,a)).2.2 (by grind)
  grind
theorem C5 c L:∀a:List (Nat×ck),(ig c L a).length=(a.map fun l=>l.2.length).sum
 | []=>rfl
 | l::a=>by simp only[ig,nw,Hp,C5 c L a,q6,ak9]
theorem Pv{d}{b}{z}{L r:dn}{h}(i:L.length≤3000)(e:∀f∈L,∃g∈r,f.Kids=g.Kids)(j:∀f∈r,DF d f):DF (d+1) (wL b z L h):=by
 refine⟨by show(L.map (oA z)).length≤3000;grind,fun k a=>?_⟩;have c:k∈L.map (oA z):=a
 grind[wx,akj]
theorem aem(b:ab)(hb:b.Kids.length≤19)(w:Int)(W:ab→Int×Int):
  ∃(P:il) (G:dn→ae),(∀p∈P,p.2=(cm b.Style w).Content∧∃k∈b.Kids,p.1=k∨∃z,p.1=oY k z)∧ep P≤cW b.Kids∧(∀(r:dn) (d:Nat),r.length=P.length→r.length≤2000→(∀f∈r,DF d f)→DF (d+1) (G r)) ∧
   ∀(N:Nat),20010≤N→∀env:bu,(∀k∈b.Kids,(KN N).gm env.Widths k=some (W k))→∀(j s:Int) (S:ci),oH (KN N) N b w env j s S =
    (dc (fun b w=>(KN N).de env.Layout b w) P j s S).bind fun r=>some (G r.1,r.2.1,r.2.2.1,r.2.2.2):=by
 obtain⟨d,u,_⟩:=Od.mF b.Kids (by omega) (lvl:=20010) (n:=20010) (by omega) (by omega);have a0:=u.len;have U:(cA b d).length≤19:=by rw[wy];omega
 have C:cW (cA b d)≤cW b.Kids:=by rw[aef (aaJ u)];exact Oz _ _
 have B:∀N,20010≤N→kE (KN N) N b=some (cA b d):=fun N y=>by
  obtain⟨d2,J,v⟩:=Od.mF b.Kids (by omega) (lvl:=N) (n:=N) (by omega) (by omega);rw[J.uniq u]at v;exact Qu hb u v (by omega)
 have hc:=Ch b.Style w;by_cases o:(b.Style.Direction == 1)=true
 ·refine⟨(cA b d).map fun k=>(k,(cm b.Style w).Content),fun r=>wL b (cm b.Style w) (nT b (cm b.Style w).Content (cA b d) r).1 (nT b (cm b.Style w).Content (cA b d) r).2,fun p O=>?_,?_,fun r e I v t=>?_,fun N y env V j s S=>?_⟩
  ·obtain⟨k,F,rfl⟩:=BY.1 O;exact⟨rfl,k,BJ u F,.inl rfl⟩
  ·have:∀l:d4,ep (l.map fun k=>(k,(cm b.Style w).Content))=cW l:=by
    intro l;induction l with
    | nil=>rfl
    | cons x r R=>simp only[q6,ep,cW,R]
   rw[this];exact C
  ·rw[nx]at I;obtain⟨_,H⟩:=BZ (c:=(cm b.Style w).Content) (cA b d) r (n:=0) (a:=⟨max (eD b.Style.Height 0 0) 0,[],[],[],[],[]⟩) I.symm ⟨rfl,rfl,rfl,rfl,rfl⟩;unfold nT;simp only;have L:=Fe (dm (cm b.Style w).Content (cA b d) r ⟨max (eD b.Style.Height 0 0) 0,[],[],[],[],[]⟩).out;rw[H]at L;rw[H];exact Pv (r:=r) (RX (L _ _ _ _).1 (by simp;omega)) (by simpa using (L _ _ _ _).2) t
  ·unfold oH;have g:∀x,mK (KN N) N x=some (ir x):=fun x=>rfl;rw[DX,sb,g,sb,g,sb,lc o,ai4 N y b (cA b d) U (B N y) _ env j s S];cases M:dc (fun b w=>(KN N).de env.Layout b w) ((cA b d).map fun k=>(k,(cm b.Style w).Content)) j s S with
   | none=>rfl
   | some r =>
    have i:=uK M;rw[nx]at i;obtain⟨_,H⟩:=BZ (c:=(cm b.Style w).Content) (cA b d) r.1 (n:=0) (a:=⟨max (eD b.Style.Height 0 0) 0,[],[],[],[],[]⟩) i.symm ⟨rfl,rfl,rfl,rfl,rfl⟩;have X:(nT b (cm b.Style w).Content (cA b d) r.1).1.length≤19:=by
     unfold nT;simp only;refine RX (Fe _ _ _ _ _).1 ?_;rw[H];simp;omega
    simp only[sb];rw[Mv (KN N) N b _ _ _ (by omega) (by omega)]
 ·have K:((cA b d).map (eC W (cm b.Style w).Content)).length=(cA b d).length:=nx _;have h:=Sq b (cm b.Style w).Content W (cA b d);refine⟨ig (cm b.Style w).Content (cA b d) (g9 b (cm b.Style w).Content W (cA b d)),fun r=>wL b (cm b.Style w) (jj ((cA b d).map (dR (cm b.Style w).Content)) (g9 b (cm b.Style w).Content W (cA b d)) r 0 []).1 (jj ((cA b d).map (dR (cm b.Style w).Content)) (g9 b (cm b.Style w).Content W (cA b d)) r 0 []).2,fun p O=>?_,?_,fun r e I v t=>?_,fun N y env V j s S=>?_⟩
  ·obtain⟨J,q,v,z,A⟩:=RM _ _ _ _ _ K h _ 0 (by omega) p O;exact⟨J,q,BJ u v,.inr ⟨z,A⟩⟩
  ·refine RX ?_ C;by_cases T:0<(kC b (cm b.Style w).Content W (cA b d)).length
   ·obtain⟨D,to,Y,_⟩:=h.get 0 T;have:=Tk (cm b.Style w).Content (cA b d) ((cA b d).map (eC W (cm b.Style w).Content)) ((cA b d).map (dR (cm b.Style w).Content)) _ K h _ 0 (by omega) T D Y;refine RX this ?_;have e:=B5 ((cA b d).take D) ((cA b d).drop D);rw[akr]at e;omega
   ·unfold g9;rw[show(kC b (cm b.Style w).Content W (cA b d)).length=0 by omega];simp[gQ,ig,ep]
  ·rw[C5]at I;obtain⟨A,h4⟩:=Jk ((cA b d).map (dR (cm b.Style w).Content)) (g9 b (cm b.Style w).Content W (cA b d)) r 0 [] (by omega);exact Pv (r:=r) (by simp at A;omega) (fun f hf=>by
    rcases h4 f hf with E|E
    ·cases E
    ·exact E) t
  ·unfold oH;have g:∀x,mK (KN N) N x=some (ir x):=fun x=>rfl;rw[DX,sb,g,sb,g,sb,kb o,ac3 N y b (cA b d) U (B N y) _ hc W env (fun k F=>V k (BJ u F)) j s S];cases M:dc (fun b w=>(KN N).de env.Layout b w) (ig (cm b.Style w).Content (cA b d) (g9 b (cm b.Style w).Content W (cA b d))) j s S with
   | none=>rfl
   | some r =>
    have i:=uK M;have Q:(ig (cm b.Style w).Content (cA b d) (g9 b (cm b.Style w).Content W (cA b d))).length≤2000:=by
     rw[C5];have:∀(m k:Nat),k+m≤(kC b (cm b.Style w).Content W (cA b d)).length→((gQ (cm b.Style w).Content (cA b d).length ((cA b d).map (eC W (cm b.Style w).Content)) ((cA b d).map (dR (cm b.Style w).Content)) (kC b (cm b.Style w).Content W (cA b d)) k m).map fun l=>l.2.length).sum≤20*m:=by
      intro m
      induction m with
      | zero=>intro k _;simp[gQ]
      | succ m R =>
       intro k F;obtain⟨D,to,_,_,g3,g4,_,Z⟩:=JJ (c:=(cm b.Style w).Content) (ED:=(cA b d).map (dR (cm b.Style w).Content)) K h (show k<_ by omega);have:=R (k+1) (by omega);simp only[gQ,q6,ak9,Z];omega
     have E:=this _ 0 (Nat.le_of_eq (Dy _));have:=h.len;unfold g9;omega
    rw[C5]at i Q;obtain⟨A,_⟩:=Jk ((cA b d).map (dR (cm b.Style w).Content)) (g9 b (cm b.Style w).Content W (cA b d)) r.1 0 [] (by omega);simp only[th,Dy]at A;simp only[sb];rw[Mv (KN N) N b _ _ _ (by omega) (by omega)]
end Fl
structure O6(s:aI):Prop where
 pos:s.Position≠2
 wi:s.Width=cj
 mn:s.MinWidth=cj
 mx:s.MaxWidth=cj
 ma:s.Margin=⟨cj,cj,cj,cj⟩
 pa:s.Padding=⟨cj,cj,cj,cj⟩
 bo:s.Border=⟨0,0,0,0⟩
mutual
/-- A block whose kids are texts,or blocks;their numbers run on. -/
def RB:Int→ab→Prop
 | lo,⟨k,n,s,_,_,_,a⟩=>k=1∧n=lo∧O6 s∧a.length≤20∧((fT a∧(∀q∈a,q.Text.size≤90)∧(∀q∈a,q.Kids=[]))∨zn (lo+1) a)
def zn:Int→d4→Prop
 | _,[]=>True
 | lo,b::r=>RB lo b∧zn (lo+bU b) r
end
theorem afB{lo}{b}(h:RB lo b):b.Kind=1∧b.Node=lo∧O6 b.Style∧b.Kids.length≤20∧((fT b.Kids∧(∀q∈b.Kids,q.Text.size≤90)∧(∀q∈b.Kids,q.Kids=[]))∨zn (lo+1) b.Kids):=by
 cases b;grind[RB]
structure vr w old lo hi(bs:d4) fre(us us':Int)(S T:ci):Prop where
 ok:∀m∈T,Wa w m∧lo≤m.Box.Node∧m.Box.Node<hi
 len:T.length≤bs.length
 first:(∀m∈S,m.Box.Node<lo)→us'=us∧T.length=bs.length∧∀k∈bs,∃m∈T,m.Box=k
 again:(∀k,ji k old=true→k.Kind=1→11≤k.Node→∃m∈S,m.Width=w∧fZ m.Box k=true)→T.length≤fre
theorem vr.nil{w}{b}{lo d}{a}{c}{S}:vr w b lo d [] a c c S [] :=
 ⟨fun m f=>(by grind),ll _,fun _=>⟨rfl,rfl,fun k e=>(by grind)⟩,fun _=>u6 _⟩
theorem vr.app{w:Int}{e:ab}{lo d l:Int}{n cs:d4}{f g:Nat}{q o p:Int}{S T U:ci}(h:vr w e lo d n f q o S T)(i:vr w e d l cs g o p (S++T) U)(z:lo≤d)(y:d≤l):vr w e lo l (n++cs) (f+g) q p S (T++U):=by
 refine⟨fun m hm=>?_,?_,fun j=>?_,fun j=>?_⟩
 ·rcases n5.1 hm with hm|hm
  ·obtain⟨a,b,c⟩:=h.ok m hm;exact⟨a,b,by omega⟩
  ·obtain⟨a,b,c⟩:=i.ok m hm;exact⟨a,by omega,c⟩
 ·have:=h.len;have:=i.len;simp only[nw];omega
 ·obtain⟨r,s,t⟩:=h.first j;obtain⟨u,v,x⟩:=i.first (fun m hm=>by
   rcases n5.1 hm with hm|hm
   ·have:=j m hm;omega
   ·exact(h.ok m hm).2.2)
  grind
 ·have a:=h.again j;have b:=i.again (fun k A B C=>by grind)
  grind
theorem OE{l}(a:∀q∈l,q.Text.size≤90):eA 1 l≤l.length*91:=by
 have:∀{l:d4},(∀q∈l,q.Text.size≤90)→(l.map fun b=>1+b.Text.size+eA 0 b.Kids).sum≤l.length*91:=by
  intro l
  induction l with
  | nil=>grind
  | cons b r c =>
   grind[eA]
 exact this a
noncomputable section
def dE:d6→d4
 | []=>[]
 | e::r=>bif e.Kind == 3 then e.Box::dE r else dE r
theorem Tf{e}(h:(e.Kind == 3)=true) r:dE (e::r)=e.Box::dE r:=by
 show(bif e.Kind == 3 then e.Box::dE r else dE r)=_
 grind
theorem yK{e}(h:(e.Kind == 3)=false) r:dE (e::r)=dE r:=by
 show(bif e.Kind == 3 then e.Box::dE r else dE r)=_
 grind
theorem Fa o:∀l a,dE (l.drop (jl o a l))=dE l
 | [],_=>rfl
 | b::r,a=>by
  unfold jl;cases c:(b.Kind == 1&&(b.Of == o&&!iB a b)) with
  | false=>rfl
  | true =>
   simp only[alb,amh];rw[Fa o r b];simp only[iN]at c;exact(yK (by grind) r).symm
def nG(w:Int):az:={ cR with Width:=w }
section
variable{K:Kn}{n:Nat}{v2:bu}{L:d6}{W:ab→Int×Int}
theorem aep(r:∀e∈L,j0 e)(H:L.length≤2000)(A:8010≤n)(i:Nat)(d:ck)(c:d5)(g:Bool)(C:Int→ck→d5→Option (d5×ck))(F:i<L.length):∀(m x:Nat),i<x→x≤L.length→L.length<m+x →
  qe K n v2 L (i:Int) d c g C m (x:Int)=lS K n v2 L i c g C ((x+jl (L.getD i default).Of (L.getD (x-1) default) (L.drop x):Nat):Int) d (eF (sl L i (x+jl (L.getD i default).Of (L.getD (x-1) default) (L.drop x)))):=by
 have j:∀y:Nat,i<y→y≤L.length→∀(D:Int→Option (d5×ck)),lw K n v2 L (i:Int) d c g (y:Int) C D false=lS K n v2 L i c g C (y:Int) d (eF (sl L i y)):=fun y o k D=>by
  unfold lw;have s:List.drop i (List.take y L)=sl L i y:=rfl;have f:=Bn (L:=L) (a:=i) (b:=y) k;rw[kb (by simp),show cQ (i:Int) (y:Int) L.length=true by simp only[cQ,iN,q7];omega,ba];simp only[Int.toNat_natCast];rw[s,GR (by intro e;rw[e]at f;simp at f;omega) (by omega) (fun e z=>r e (Bw z)) A];rfl
 intro m
 induction m with
 | zero=>intro x o k u;omega
 | succ m E =>
  intro x o k u;show s4 K n v2 L i d c g C (qe K n v2 L i d c g C m) x=_;unfold s4;by_cases l:x<L.length
  ·have q:L.drop x=L.getD x default::L.drop (x+1):=by rw[ls l,bR l]
   have p:L.getD x default∈L:=by rw[bR l];exact ob _
   have v:L.getD (x-1) default∈L:=by rw[bR (by omega)];exact ob _
   have t:aa ((x:Int)-1)=((x-1:Nat):Int):=by rw[bL (by omega) (by omega)];omega
   rw[lc (by simpa using l),di (by omega) (by omega)];simp only[ba,Int.toNat_natCast,t];rw[q];unfold jl;have h:∀{b:Bool},b=false→lw K n v2 L (i:Int) d c g (x:Int) C (qe K n v2 L i d c g C m) false=lS K n v2 L i c g C ((x+(bif b then jl (L.getD i default).Of (L.getD x default) (L.drop (x+1))+1 else 0):Nat):Int) d (eF (sl L i (x+(bif b then jl (L.getD i default).Of (L.getD x default) (L.drop (x+1))+1 else 0)))):=fun {b} p=>by
    subst p;exact j x o k _
   cases G:((L.getD x default).Kind == 1) with
   | false=>rw[kb (by simp)];exact h rfl
   | true =>
    rw[lc rfl];cases B:((L.getD x default).Of == (L.getD i default).Of) with
    | false=>rw[kb (by simp)];exact h rfl
    | true =>
     rw[lc rfl,di (by omega) (by omega),ba,rQ K (by omega) (r _ v).ch (r _ p).ch];simp only[iF];cases w:iB (L.getD (x-1) default) (L.getD x default) with
     | true=>exact h rfl
     | false =>
      unfold lw;rw[show(!false)=true from rfl,lc rfl,bL (by omega) (by omega),show(x:Int)+1=((x+1:Nat):Int) by omega,E (x+1) (by omega) (by omega) (by omega)];simp only[aeD,alt,alb];rw[show x+1+jl (L.getD i default).Of (L.getD x default) (L.drop (x+1))=x+(jl (L.getD i default).Of (L.getD x default) (L.drop (x+1))+1) by omega]
  ·rw[kb (by simpa using l),l3 (by omega)];unfold jl;exact j x o k _
theorem KF(i:Nat) c a g C(b:a.length≤1000000) y x:lS K n v2 L i a g C y c x=C y c (a++[runM x (L.getD i default) g]):=by
 unfold lS;simp only[iF];rw[db (by grind) (by omega),ba];rfl
theorem VW(t:∀e∈L,j0 e)(j:∀e∈L,e.Kind=1∨e.Kind=2∨e.Kind=3)(F:L.length≤2000)(G:8010≤n)(u:∀e∈L,e.Kind=3→K.gm v2.Widths e.Box=some (W e.Box)):∀(m i:Nat) (d:ck) (a:d5),i≤L.length→L.length<m+i→a.length≤i→d.length≤i →
  qE K n v2 L m (i:Int) d a=some (a++cM (fun b=>nG (W b).1) m (dH L i) (L.drop i),d++(dE (L.drop i)).map fun b=>(W b).2):=by
 intro m
 induction m with
 | zero=>intro i d a A B;omega
 | succ m w =>
  intro i d a A B J l;show tk K n v2 L (qE K n v2 L m) i d a=_;unfold tk;by_cases h:i<L.length
  ·have o:L.drop i=L.getD i default::L.drop (i+1):=by rw[ls h,bR h]
   have r:L.getD i default∈L:=by rw[bR h];exact ob _
   rw[lc (by simpa using h),di (by omega) (by omega)];simp only[ba,Int.toNat_natCast];rw[o];(try rw[o]at l);have v:aa ((i:Int)+1)=((i+1:Nat):Int):=by rw[bL (by omega) (by omega)];omega
   have f:dH L (i+1)=some (L.getD i default):=by unfold dH;rw[kb (by omega),aeD]
   have key:∀g,g=su (dH L i) (L.getD i default)→rH K n v2 L (i:Int) d a (qE K n v2 L m) g=some (a++cM (fun b=>nG (W b).1) (m+1) (dH L i) (L.getD i default::L.drop (i+1)),d++(dE (L.getD i default::L.drop (i+1))).map fun b=>(W b).2):=by
    intro g D;unfold rH cM;simp only[iF,Int.toNat_natCast];rw[←D];cases y:((L.getD i default).Kind == 2) with
    | true =>
     have c:dE (L.getD i default::L.drop (i+1))=dE (L.drop (i+1)):=yK (by rw[show(L.getD i default).Kind=2 by simpa using y];rfl) _
     (try rw[c]);(try rw[c]at l)
     rw[lc rfl,KF i d a g _ (by omega),v,← f];simp only[alb];have:=w (i+1) d (a++[runM { cR with Forced:=true } (L.getD i default) g]) (by omega) (by omega) (by simp;omega) (by omega);exact this.trans (by simp[tl])
    | false =>
     rw[kb (by simp)];cases q:((L.getD i default).Kind == 3) with
     | true =>
      have c:dE (L.getD i default::L.drop (i+1))=(L.getD i default).Box::dE (L.drop (i+1)):=Tf q _
      (try rw[c]);(try rw[c]at l)
      rw[lc rfl,← f];simp only[alb,akT];unfold CK;rw[u _ r (by simpa using q)];simp only[iF];rw[db (by simp;omega) (by omega),ba];simp only[iF];rw[v,KF i _ a g _ (by omega)];have:=w (i+1) (d++[(W (L.getD i default).Box).2]) (a++[runM (nG (W (L.getD i default).Box).1) (L.getD i default) g]) (by omega) (by omega) (by simp;omega) (by simp;omega);refine this.trans ?_;simp[tl]
     | false =>
      have M:(L.getD i default).Kind=1:=by
       have:=j _ r;have H:(L.getD i default).Kind≠2:=by simpa using y
       have I:(L.getD i default).Kind≠3:=by simpa using q
       omega
      have c:dE (L.getD i default::L.drop (i+1))=dE ((L.drop (i+1)).drop (jl (L.getD i default).Of (L.getD i default) (L.drop (i+1)))):=by
       rw[Fa];exact yK q _
      (try rw[c]);(try rw[c]at l)
      rw[kb (by simp),v,aep t F G i d a g _ h n (i+1) (by omega) (by omega) (by omega),aeD];simp only[akT];have E:=DQ (L.getD i default).Of (L.drop (i+1)) (L.getD i default);rw[aku]at E;generalize jl (L.getD i default).Of (L.getD i default) (L.drop (i+1))=k at *;rw[KF i d a g _ (by omega),Dt h];have p:dH L (i+1+k)=some (L.getD (i+k) default):=by unfold dH;rw[kb (by omega)];congr 2;omega
      (try rw[akJ]at l)
      rw[HW (by omega),← p,akJ];have:=w (i+1+k) d (a++[runM (eF (L.getD i default::(L.drop (i+1)).take k)) (L.getD i default) g]) (by omega) (by omega) (by simp;omega) (by omega);exact this.trans (by simp[tl])
   by_cases x:i=0
   ·rw[kb (by simp;omega)];exact key false (by unfold dH;rw[lc x];rfl)
   ·have C:L.getD (i-1) default∈L:=by rw[bR (by omega)];exact ob _
    have z:aa ((i:Int)-1)=((i-1:Nat):Int):=by rw[bL (by omega) (by omega)];omega
    have p:dH L i=some (L.getD (i-1) default):=by unfold dH;rw[kb x]
    rw[lc (by simp;omega),z,di (by omega) (by omega)];simp only[ba,Int.toNat_natCast];by_cases j:((L.getD (i-1) default).Kind != 2)=true
    ·rw[lc j,rQ K (by omega) (t _ C).ch (t _ r).ch];simp only[iF];exact key _ (by rw[p];show _=((L.getD (i-1) default).Kind != 2&&!iB (L.getD (i-1) default) (L.getD i default));rw[j];rfl)
    ·rw[kb j];have s:((L.getD (i-1) default).Kind != 2)=false:=by simpa using j
     exact key false (by rw[p];show _=((L.getD (i-1) default).Kind != 2&&!iB (L.getD (i-1) default) (L.getD i default));rw[s];rfl)
  grind[cM,dE]
theorem afH(r:∀e∈L,j0 e)(H:L.length≤2000)(A:8010≤n)(i:Nat)(at_:Int)(d:ck)(c:d5)(g:Bool)(C:Int→Int→ck→d5→Option (d5×Int×ck))(F:i<L.length):∀(m x:Nat),i<x→x≤L.length→L.length<m+x →
  pO K n L (i:Int) at_ d c g C m (x:Int)=lR K n L i c g C ((x+jl (L.getD i default).Of (L.getD (x-1) default) (L.drop x):Nat):Int) at_ d (eF (sl L i (x+jl (L.getD i default).Of (L.getD (x-1) default) (L.drop x)))):=by
 have j:∀y:Nat,i<y→y≤L.length→∀(D:Int→Option (d5×Int×ck)),lQ K n L (i:Int) at_ d c g (y:Int) C D false=lR K n L i c g C (y:Int) at_ d (eF (sl L i y)):=fun y o k D=>by
  unfold lQ;have s:List.drop i (List.take y L)=sl L i y:=rfl;have f:=Bn (L:=L) (a:=i) (b:=y) k;rw[kb (by simp),show cQ (i:Int) (y:Int) L.length=true by simp only[cQ,iN,q7];omega,ba];simp only[Int.toNat_natCast];rw[s,GR (by intro e;rw[e]at f;simp at f;omega) (by omega) (fun e z=>r e (Bw z)) A];rfl
 intro m
 induction m with
 | zero=>intro x o k u;omega
 | succ m E =>
  intro x o k u;show sn K n L i at_ d c g C (pO K n L i at_ d c g C m) x=_;unfold sn;by_cases l:x<L.length
  ·have q:L.drop x=L.getD x default::L.drop (x+1):=by rw[ls l,bR l]
   have p:L.getD x default∈L:=by rw[bR l];exact ob _
   have v:L.getD (x-1) default∈L:=by rw[bR (by omega)];exact ob _
   have t:aa ((x:Int)-1)=((x-1:Nat):Int):=by rw[bL (by omega) (by omega)];omega
   rw[lc (by simpa using l),di (by omega) (by omega)];simp only[ba,Int.toNat_natCast,t];rw[q];unfold jl;have h:∀{b:Bool},b=false→lQ K n L (i:Int) at_ d c g (x:Int) C (pO K n L i at_ d c g C m) false=lR K n L i c g C ((x+(bif b then jl (L.getD i default).Of (L.getD x default) (L.drop (x+1))+1 else 0):Nat):Int) at_ d (eF (sl L i (x+(bif b then jl (L.getD i default).Of (L.getD x default) (L.drop (x+1))+1 else 0)))):=fun {b} p=>by
    subst p;exact j x o k _
   cases G:((L.getD x default).Kind == 1) with
   | false=>rw[kb (by simp)];exact h rfl
   | true =>
    rw[lc rfl];cases B:((L.getD x default).Of == (L.getD i default).Of) with
    | false=>rw[kb (by simp)];exact h rfl
    | true =>
     rw[lc rfl,di (by omega) (by omega),ba,rQ K (by omega) (r _ v).ch (r _ p).ch];simp only[iF];cases w:iB (L.getD (x-1) default) (L.getD x default) with
     | true=>exact h rfl
     | false =>
      unfold lQ;rw[show(!false)=true from rfl,lc rfl,bL (by omega) (by omega),show(x:Int)+1=((x+1:Nat):Int) by omega,E (x+1) (by omega) (by omega) (by omega)];simp only[aeD,alt,alb];rw[show x+1+jl (L.getD i default).Of (L.getD x default) (L.drop (x+1))=x+(jl (L.getD i default).Of (L.getD x default) (L.drop (x+1))+1) by omega]
  ·rw[kb (by simpa using l),l3 (by omega)];unfold jl;exact j x o k _
theorem G2(i:Nat)(at_:Int)(b:ck)(a:d5)(g:Bool)(C:Int→Int→ck→d5→Option (d5×Int×ck))(c:a.length≤1000000)(y:Int)(x:az):lR K n L (i:Int) a g C y at_ b x=C y at_ b (a++[runM x (L.getD i default) g]):=by
 unfold lR;simp only[iF,Int.toNat_natCast];rw[db (by simp;omega) (by omega),ba];rfl
theorem Yx(u:∀e∈L,j0 e)(l:∀e∈L,e.Kind=1∨e.Kind=2∨e.Kind=3)(O:L.length≤2000)(P:8010≤n): ∀(m i:Nat) (at_:Int) (c:ck) (a:d5),i≤L.length→L.length<m+i→a.length≤i→(0≤at_∧at_≤i∧c.drop at_.toNat=(dE (L.drop i)).map fun b=>(W b).2) →
  ∃z,qV K n L m (i:Int) at_ c a=some (a++cM (fun b=>nG (W b).2) m (dH L i) (L.drop i),z):=by
 intro m
 induction m with
 | zero=>intro i at_ c a G H;omega
 | succ m w =>
  intro i at_ c a G H U h;show ∃z,vx K n L (qV K n L m) i at_ c a=some (a++cM (fun b=>nG (W b).2) (m+1) (dH L i) (L.drop i),z);unfold vx;by_cases j:i<L.length
  ·have p:L.drop i=L.getD i default::L.drop (i+1):=by rw[ls j,bR j]
   have A:L.getD i default∈L:=by rw[bR j];exact ob _
   rw[lc (by simpa using j),di (by omega) (by omega)];simp only[ba,Int.toNat_natCast];rw[p];(try rw[p]at h);have v:aa ((i:Int)+1)=((i+1:Nat):Int):=by rw[bL (by omega) (by omega)];omega
   have f:dH L (i+1)=some (L.getD i default):=by unfold dH;rw[kb (by omega),aeD]
   have key:∀g,g=su (dH L i) (L.getD i default)→∃z,pe K n L (i:Int) at_ c a (qV K n L m) g=some (a++cM (fun b=>nG (W b).2) (m+1) (dH L i) (L.getD i default::L.drop (i+1)),z):=by
    intro g M;unfold pe cM;simp only[iF,Int.toNat_natCast];rw[←M];cases B:((L.getD i default).Kind == 2) with
    | true =>
     have d:dE (L.getD i default::L.drop (i+1))=dE (L.drop (i+1)):=yK (by rw[show(L.getD i default).Kind=2 by simpa using B];rfl) _
     (try rw[d]);(try rw[d]at h)
     rw[lc rfl,G2 i at_ c a g _ (by omega),v,← f];simp only[alb];have:=w (i+1) at_ c (a++[runM { cR with Forced:=true } (L.getD i default) g]) (by omega) (by omega) (by simp;omega) ⟨h.1,by omega,h.2.2⟩;obtain⟨z,q⟩:=this;exact⟨z,q.trans (by simp[tl])⟩
    | false =>
     rw[kb (by simp)];cases x:((L.getD i default).Kind == 3) with
     | true =>
      have d:dE (L.getD i default::L.drop (i+1))=(L.getD i default).Box::dE (L.drop (i+1)):=Tf x _
      (try rw[d]);(try rw[d]at h)
      rw[lc rfl,← f];simp only[alb,akT];obtain⟨Q,R,s⟩:=h;have o:at_.toNat<c.length:=by
       have:=congrArg List.length s;rw[aku]at this;simp at this;omega
      have J:c.drop at_.toNat=c.getD at_.toNat default::c.drop (at_.toNat+1):=by rw[ls o,bR o]
      rw[J,q6]at s;injection s with C D
      have F:aa (at_+1)=at_+1:=bL (by omega) (by omega);unfold DJ;rw[F,show aa (at_+1-1)=at_ by rw[bL (by omega) (by omega)];omega,di (by omega) (by omega),ba];simp only[iF];rw[v,G2 i _ _ a g _ (by omega),C];obtain⟨z,q⟩:=w (i+1) (at_+1) c (a++[runM (nG (W (L.getD i default).Box).2) (L.getD i default) g]) (by omega) (by omega) (by simp;omega) ⟨by omega,by omega,by rw[show(at_+1).toNat=at_.toNat+1 by omega];exact D⟩;exact⟨z,q.trans (by simp[tl])⟩
     | false =>
      have V:(L.getD i default).Kind=1:=by
       have:=l _ A;have S:(L.getD i default).Kind≠2:=by simpa using B
       have T:(L.getD i default).Kind≠3:=by simpa using x
       omega
      have d:dE (L.getD i default::L.drop (i+1))=dE ((L.drop (i+1)).drop (jl (L.getD i default).Of (L.getD i default) (L.drop (i+1)))):=by
       rw[Fa];exact yK x _
      (try rw[d]);(try rw[d]at h)
      rw[kb (by simp),v,afH u O P i at_ c a g _ j n (i+1) (by omega) (by omega) (by omega),aeD];simp only[akT];have N:=DQ (L.getD i default).Of (L.drop (i+1)) (L.getD i default);rw[aku]at N;generalize jl (L.getD i default).Of (L.getD i default) (L.drop (i+1))=k at *;rw[G2 i at_ c a g _ (by omega),Dt j];have r:dH L (i+1+k)=some (L.getD (i+k) default):=by unfold dH;rw[kb (by omega)];congr 2;omega
      (try rw[akJ]at h)
      rw[HW (by omega),← r,akJ];have:=w (i+1+k) at_ c (a++[runM (eF (L.getD i default::(L.drop (i+1)).take k)) (L.getD i default) g]) (by omega) (by omega) (by simp;omega) ⟨h.1,by omega,h.2.2⟩;obtain⟨z,q⟩:=this;exact⟨z,q.trans (by simp[tl])⟩
   by_cases y:i=0
   ·rw[kb (by simp;omega)];exact key false (by unfold dH;rw[lc y];rfl)
   ·have I:L.getD (i-1) default∈L:=by rw[bR (by omega)];exact ob _
    have E:aa ((i:Int)-1)=((i-1:Nat):Int):=by rw[bL (by omega) (by omega)];omega
    have r:dH L i=some (L.getD (i-1) default):=by unfold dH;rw[kb y]
    rw[lc (by simp;omega),E,di (by omega) (by omega)];simp only[ba,Int.toNat_natCast];by_cases l:((L.getD (i-1) default).Kind != 2)=true
    ·rw[lc l,rQ K (by omega) (u _ I).ch (u _ A).ch];simp only[iF];exact key _ (by rw[r];show _=((L.getD (i-1) default).Kind != 2&&!iB (L.getD (i-1) default) (L.getD i default));rw[l];rfl)
    ·rw[kb l];have t:((L.getD (i-1) default).Kind != 2)=false:=by simpa using l
     exact key false (by rw[r];show _=((L.getD (i-1) default).Kind != 2&&!iB (L.getD (i-1) default) (L.getD i default));rw[t];rfl)
  ·rw[kb (by simpa using j),l3 (by omega)];exact⟨(at_,c),by simp[cM]⟩
end
end
noncomputable section
def mE(l:ew):Nat→Int→Nat→Int
 | 0,x,_=>x
 | m+1,x,a=>if a<l.length then mE l m (max x (fE (sl l a (gr l (a+1))))) (gr l (a+1)) else x
def ef(l:ew)(i:Nat):Nat:=min l.length (i+((l.drop i).takeWhile fun r=>!r.f).length+1)
theorem K0(l:ew)(i:Nat):ef l i≤l.length:=by unfold ef;omega
theorem Kd{l:ew}{i:Nat}(h:i<l.length):i<ef l i:=by unfold ef;omega
theorem afZ{l:ew}{i:Nat}(h:i<l.length)(a:l[i].f=true):ef l i=i+1:=by
 unfold ef;rw[ls h,akQ,kb (by simp[a])];simp;omega
theorem afm{l:ew}{i:Nat}(h:i+1=l.length):ef l i=i+1:=by
 have:=Kd (l:=l) (i:=i) (by omega);have:=K0 l i;omega
theorem ZU{l:ew}{i:Nat}(h:i+1<l.length)(a:l[i].f=false):ef l i=ef l (i+1):=by
 unfold ef;rw[ls (show i<l.length by omega),akQ,lc (by simp[a])];simp;omega
def lY(l:ew):Nat→Int→Nat→Int
 | 0,x,_=>x
 | m+1,x,a=>if a<l.length then lY l m (max x (fE (sl l a (ef l a)))) (ef l a) else x
theorem ad6(l:ew):∀(m b:Nat) (x:Int) (a:Nat),l.length<m+a→l.length<b+a→mE l m x a=mE l b x a:=by
 intro m
 induction m with
 | zero =>
  intro b x a h c;cases b with
  | zero=>rfl
  | succ b=>unfold mE;rw[kb (by omega)]
 | succ m d =>
  intro b x a h c;cases b with
  | zero=>unfold mE;rw[kb (by omega)]
  | succ b =>
   unfold mE;split
   ·have:=mQ l (a+1);exact d b _ _ (by omega) (by omega)
   ·rfl
theorem afn(l:ew):∀(m b:Nat) (x:Int) (a:Nat),l.length<m+a→l.length<b+a→lY l m x a=lY l b x a:=by
 intro m
 induction m with
 | zero =>
  intro b x a h c;cases b with
  | zero=>rfl
  | succ b=>unfold lY;rw[kb (by omega)]
 | succ m e =>
  intro b x a h c;cases b with
  | zero=>unfold lY;rw[kb (by omega)]
  | succ b =>
   unfold lY;split
   ·rename_i d;have:=Kd d;exact e b _ _ (by omega) (by omega)
   ·rfl
section
variable{K:Kn}{n:Nat}{V4:d5×ck}{V5:d5×Int×ck}
theorem ajZ(y:V5.1.length<n)(x:(V5.1.length:Int)≤1000000)(c b:Int)(a:Nat)(C:Int→Int→Option em):∀(m e:Nat),1≤e→a<e→e≤V5.1.length→V5.1.length<m+e →
  tO K n V5 c b (a:Int) C m (e:Int)=C (max b (fE (sl (V5.1.map vI) a (ef (V5.1.map vI) (e-1))))) ((ef (V5.1.map vI) (e-1):Nat):Int):=by
 have f:∀(e:Nat) (D:Int→Option em),a<e→e≤V5.1.length→qj K n V5 c b (a:Int) (e:Int) C D false=C (max b (fE (sl (V5.1.map vI) a e))) (e:Int):=fun e D j g=>by
  unfold qj Ax;have u:List.drop a (List.take e V5.1)=sl V5.1 a e:=rfl;have v:=xw V5.1 a e;rw[kb (by simp),show cQ (a:Int) (e:Int) V5.1.length=true by simp only[cQ,iN,q7];omega,ba];simp only[Int.toNat_natCast];rw[u,D3 (by omega) (by omega),Kh];simp only[iF];by_cases r:fE (sl (V5.1.map vI) a e)>b
  ·rw[lc (by simpa using r),show max b (fE (sl (V5.1.map vI) a e))=fE (sl (V5.1.map vI) a e) by omega]
  ·rw[kb (by simpa using r),show max b (fE (sl (V5.1.map vI) a e))=b by omega]
 intro m
 induction m with
 | zero=>intro e j g h t;omega
 | succ m w =>
  intro e j g h t;show tu K n V5 c b a C (tO K n V5 c b a C m) e=_;unfold tu;have q:=Ac (L:=V5.1) (k:=e-1) (by omega);have s:aa ((e:Int)-1)=((e-1:Nat):Int):=by rw[bL (by omega) (by omega)];omega
  by_cases o:e<V5.1.length
  ·rw[lc (by simpa using o),s,di (by omega) (by omega),ba,Int.toNat_natCast];cases p:(V5.1.getD (e-1) default).Forced with
   | true =>
    have d:=afZ (l:=V5.1.map vI) (i:=e-1) (by simp;omega) (by rw[q];exact p);rw[d,show e-1+1=e by omega,show(!true)=false from rfl];exact f e _ g h
   | false =>
    have d:=ZU (l:=V5.1.map vI) (i:=e-1) (by simp;omega) (by rw[q];exact p);rw[d,show e-1+1=(e+1)-1 by omega,show(!false)=true from rfl];unfold qj;rw[lc rfl,show aa ((e:Int)+1)=((e+1:Nat):Int) by rw[bL (by omega) (by omega)];omega];exact w (e+1) (by omega) (by omega) (by omega) (by omega)
  ·rw[kb (by simpa using o)];have d:=afm (l:=V5.1.map vI) (i:=e-1) (by simp;omega);rw[d,show e-1+1=e by omega];exact f e _ g h
theorem agI(j:V5.1.length<n)(h:(V5.1.length:Int)≤1000000)(b:Int):∀(m a:Nat) (c:Int),a≤V5.1.length→V5.1.length<m+a→vX K n V5 b m c (a:Int)=some (b,lY (V5.1.map vI) m c a):=by
 intro m
 induction m with
 | zero=>intro a c f g;omega
 | succ m k =>
  intro a c f g;show sh K n V5 b (vX K n V5 b m) c a=_;unfold sh lY;by_cases d:a<V5.1.length
  ·rw[lc (by simpa using d),lc (by simpa using d),show aa ((a:Int)+1)=((a+1:Nat):Int) by rw[bL (by omega) (by omega)];omega,ajZ j h b c a _ n (a+1) (by omega) (by omega) (by omega) (by omega),aeD];have o:=Kd (l:=V5.1.map vI) (i:=a) (by simpa using d);have e:=K0 (V5.1.map vI) a;rw[nx]at e;exact k _ _ e (by omega)
  ·rw[kb (by simpa using d),kb (by simpa using d)]
theorem agu(j:V4.1.length<n)(o:(V4.1.length:Int)≤1000000)(q:V5.1.length<n)(k:(V5.1.length:Int)≤1000000):∀(m a:Nat) (b:Int),a≤V4.1.length→V4.1.length<m+a→ud K n V4 V5 m b (a:Int)=some (mE (V4.1.map vI) m b a,lY (V5.1.map vI) n 0 0):=by
 intro m
 induction m with
 | zero=>intro a b g h;omega
 | succ m f =>
  intro a b g h;show tz K n V4 V5 (ud K n V4 V5 m) b a=_;unfold tz mE;by_cases c:a<V4.1.length
  ·have d:=zi (l:=V4.1.map vI) (i:=a+1) (by simp;omega);have p:=mQ (V4.1.map vI) (a+1);rw[nx]at d;have r:List.drop a (List.take (gr (V4.1.map vI) (a+1)) V4.1)=sl V4.1 a (gr (V4.1.map vI) (a+1)):=rfl;have s:=xw V4.1 a (gr (V4.1.map vI) (a+1));rw[lc (by simpa using c),lc (by simpa using c),FW (by omega) (by omega) j (by omega)];simp only[iF,Int.toNat_natCast];rw[show cQ (a:Int) ((gr (V4.1.map vI) (a+1):Nat):Int) V4.1.length=true by simp only[cQ,iN,q7];omega,ba,r,D3 (by omega) (by omega),Kh];simp only[iF];unfold xy;by_cases e:fE (sl (V4.1.map vI) a (gr (V4.1.map vI) (a+1)))>b
   ·rw[lc (by simpa using e),show max b (fE (sl (V4.1.map vI) a (gr (V4.1.map vI) (a+1))))=fE (sl (V4.1.map vI) a (gr (V4.1.map vI) (a+1))) by omega];exact f _ _ d (by omega)
   ·rw[kb (by simpa using e),show max b (fE (sl (V4.1.map vI) a (gr (V4.1.map vI) (a+1))))=b by omega];exact f _ _ d (by omega)
  ·rw[kb (by simpa using c),kb (by simpa using c)];exact agI q k b n 0 0 (by omega) (by omega)
end
end
noncomputable section
theorem ajM:∀L s,fT L→(∀x∈s.2,x.Kind=1∨x.Kind=2)→∀x∈(vM 1 L s).2,x.Kind=1∨x.Kind=2:=by
 intro L
 induction L with
 | nil=>intro s _ a;exact a
 | cons b r d =>
  intro s e a;rw[k8,akA,← k8];have f:=e b ti;refine d _ (fun c g=>e c (by grind)) ?_;unfold gJ;rw[f];cases mf b with
  | false=>grind
  | true=>exact CD (P:=fun x=>x.Kind=1∨x.Kind=2) b _ (fun _ _ _=>.inl rfl) (.inr rfl) (fun _=>.inl rfl) (fun _=>.inl rfl) _ _ Gv a
def kt(a:d4):d5:=rx (fun _=>nG 0) (eU 1 a)
def AH(a:d4):Int×Int:=(mE ((kt a).map vI) ((kt a).length+1) 0 0,lY ((kt a).map vI) ((kt a).length+1) 0 0)
theorem acw{a:d4}(h:fT a)(t:a.length≤1000)(u:∀b∈a,b.Text.size≤1000)(y:eA 1 a≤2000){N:Nat}(w:9001≤N)(s:aI)(env:bu):xm (KN N) N a s env=some (AH a):=by
 have l:=Cs 1 a;have k:∀e∈eU 1 a,e.Kind=1∨e.Kind=2∨e.Kind=3:=fun e g=>by
  rcases ajM a (0,[]) h (fun x v=>by cases v) e g with q|q
  ·exact .inl q
  ·exact .inr (.inl q)
 have j:=Tc h t u;have c:=VW (K:=KN N) (n:=N) (v2:=env) (W:=fun _=>(0,0)) (Ei 1 a) k (by omega) (by omega) (fun e g i=>absurd i (CO h e g)) N 0 [] [] (by omega) (by omega) (by simp) (by simp);obtain⟨z,f⟩:=Yx (K:=KN N) (n:=N) (W:=fun _=>(0,0)) (Ei 1 a) k (by omega) (by omega) N 0 0 ((dE (eU 1 a)).map fun b=>0) [] (by omega) (by omega) (by simp) ⟨by omega,by omega,by simp⟩;rw[DO,show dH (eU 1 a) 0=none from rfl,Db]at c f;rw[Db]at c;rw[Ra _ N ((eU 1 a).length+1) _ _ (by omega) (by omega)]at c f;have m:ux (KN N) N a env []=some (kt a,(dE (eU 1 a)).map fun b=>0):=by
  unfold ux;rw[IM j (by omega) (by omega),iF];exact c
 have o:sB (KN N) N a 0 ((dE (eU 1 a)).map fun b=>0)=some (kt a,z):=by
  unfold sB;rw[IM j (by omega) (by omega),iF];exact f
 have r:(kt a).length≤2000:=by
  unfold kt rx;have i:=RW (fun _:ab=>nG 0) ((eU 1 a).length+1) none (eU 1 a);omega
 unfold xm;have d:ux (KN N) N a env ([]:ck)=_:=m;rw[d,iF,show sB (KN N) N a 0 (kt a,(dE (eU 1 a)).map fun b=>(0:Int)).2=_ from o,iF];have p:=agu (K:=KN N) (n:=N) (V4:=(kt a,(dE (eU 1 a)).map fun b=>(0:Int))) (V5:=(kt a,z)) (by simp only;omega) (by simp only;omega) (by simp only;omega) (by simp only;omega) N 0 0 (u6 _) (by simp only;omega);unfold AH;rw[←ad6 _ N _ 0 0 (by rw[nx];omega) (by rw[nx];omega),← afn _ N _ 0 0 (by rw[nx];omega) (by rw[nx];omega)];exact p
mutual
/-- Blocks and flex containers,and blocks of texts. -/
def GB:ab→Prop
 | ⟨k,_,s,t,_,_,a⟩=>(k=1∨k=6)∧(s.Position≠2∧t.size=0)∧a.length≤19∧((k=1∧fT a∧(∀q∈a,q.Text.size≤90)∧∀q∈a,q.Kids=[])∨ip a)
def ip:d4→Prop
 | []=>True
 | b::r=>GB b∧ip r
end
theorem gC{b:ab}:GB b↔((b.Kind=1∨b.Kind=6)∧(b.Style.Position≠2∧b.Text.size=0)∧b.Kids.length≤19∧((b.Kind=1∧fT b.Kids∧(∀q∈b.Kids,q.Text.size≤90)∧∀q∈b.Kids,q.Kids=[])∨ip b.Kids)):=by
 cases b;simp only[GB]
theorem kA:∀{l},ip l→∀k∈l,GB k
 | [],_,k,a=>by grind
 | b::r,h,k,a=>by
  simp only[ip]at h;rcases oR.1 a with rfl|a
  ·grind
  ·exact kA h.2 k a
theorem afh{b} z(h:GB b):GB (Fl.oY b z):=by rw[gC]at h⊢;exact h
def Bt(s:Nat)(b:ab)(v:Int×Int):Prop:=∀N,20010+s≤N→∀c a,py (KN N) N b (cO N c a)=some v
theorem ME{s}{l:d4}(h:∀k∈l,∃v,Bt s k v):∃W:ab→Int×Int,∀k∈l,Bt s k (W k):=by
 classical
 refine⟨fun k=>if h:∃v,Bt s k v then h.choose else (0,0),fun k a=>?_⟩
 grind
def CH(W:ab→Int×Int):d4→Int→Int→Int×Int
 | [],a,b=>(dI a,dI b)
 | k::r,a,b=>CH W r (max a (W k).1) (max b (W k).2)
theorem ahR(K:Kn)(n:Nat)(env:bu)(v6:d4×Bool)(h:v6.1.length≤1000)(W:ab→Int×Int)(f:∀k∈v6.1,K.gm env.Widths k=some (W k)):∀(m i:Nat) (a b:Int),i≤v6.1.length→v6.1.length<m+i→uy K n env v6 m a b i=some (CH W (v6.1.drop i) a b):=by
 intro m
 induction m with
 | zero=>intro i a b d e;omega
 | succ m g =>
  intro i a b d e;simp only[uy,xa];by_cases c:i<v6.1.length
  ·rw[drop_at' c];simp only[fj c,zt,dP c,ba,Int.toNat_natCast,f _ (ga c),iF,CH];rw[fe (by omega)];exact g (i+1) _ _ (by omega) (by omega)
  ·simp only[fB (show v6.1.length≤i by omega)];rw[l3 (by omega)];rfl
def nW(b:ab)(W:ab→Int×Int):d4→Int→Int→Int×Int
 | [],x,y=>(x,y)
 | k::r,x,y=>if (b.Style.Direction == 1)=true then nW b W r (max x (W k).1) (max y (W k).2) else if b.Style.Wrap=true then nW b W r (max x (W k).1) (aa (y+(W k).2)) else nW b W r (aa (x+(W k).1)) (aa (y+(W k).2))
theorem Z2(K:Kn)(n:Nat)(b:ab)(env:bu)(s:aI)(L:d4)(h:L.length≤1000)(W:ab→Int×Int)(f:∀k∈L,K.gm env.Widths k=some (W k)):∀(m i:Nat) (x y:Int),i≤L.length→L.length<m+i→vS K n b env s L m x y i=pZ K n s (nW b W (L.drop i) x y).1 (nW b W (L.drop i) x y).2:=by
 intro m
 induction m with
 | zero=>intro i x y d e;omega
 | succ m g =>
  intro i x y d e;simp only[vS,xV];by_cases a:i<L.length
  ·rw[drop_at' a];have c:=fun x y=>g (i+1) x y (by omega) (by omega);simp only[fj a,zt,dP a,ba,Int.toNat_natCast,f _ (ga a),iF,nW,xO,Be,fe (show i<1000000000 by omega)];split
   ·exact c _ _
   ·split
    ·exact c _ _
    ·exact c _ _
  ·simp only[fB (show L.length≤i by omega),iO,qv];rw[l3 (by omega)];rfl
theorem LH s x y:∃v,∀K n,pZ K n s x y=some v :=
 ⟨(gB (eW s 0 (gp s 0 (min (max x 0) 1048576))),gB (eW s 0 (gp s 0 (min (max y 0) 1048576)))),fun K n=>by
  have a:∀q,iG K n q 1048576=some (min (max q 0) 1048576):=fun q=>rfl
  simp_all[pZ,xF,C1,uH,rL]⟩
theorem Nd:∀(s:Nat) (b:ab),bU b≤s→GB b→∃v,Bt s b v
 | 0,b,h,_=>by have:=iP b;omega
 | s+1,b,h,Q=>by
  obtain⟨g,U,S,l⟩:=gC.1 Q;by_cases C:b.Kind=1∧fT b.Kids∧∀q∈b.Kids,q.Text.size≤90
  ·-- texts
   obtain⟨t,A,H⟩:=C;have I:=OE H;have f:eB b=b.Kids:=ak5.2 fun k g=>by unfold gR;rw[A k g];rfl
   have F:(eB b).any eM=false:=by
    rw[f,alU];intro k g;unfold eM;rw[A k g];decide
   have m:∃p:Int×Int,∀N,20010≤N→∀c a,lP (KN (N+1)) (N+1) b (cO (N+1) c a)=some p:=by
    by_cases j:(cz (gj b.Style).Width 0).2=true
    ·exact⟨_,fun N i c a=>by unfold lP;rw[rZ,iF,gi,iF,lc j,we,iF]⟩
    ·refine⟨(dI (AH b.Kids).1,dI (AH b.Kids).2),fun N i c a=>?_⟩;unfold lP;rw[rZ,iF,gi,iF,kb j,Bq (KN (N+1)) (N+1) (Dq N) b (by omega) (by omega),iF];simp only[F,ak0,zt];have O:(KN (N+1)).y7 (cO (N+1) c a).Spread (eB b) b.Style=some (AH b.Kids):=by
      show z8 (KN N) N (eB b) b.Style (cO N c a)=_;unfold z8;rw[f,acw A (by omega) (fun k r=>by have:=H k r;omega) (by omega) (by omega)];rfl
     rw[O,iF,we,iF,we,iF]
   obtain⟨p,o⟩:=m;refine⟨(gB (eW (gj b.Style) 0 (gp (gj b.Style) 0 p.1)),gB (eW (gj b.Style) 0 (gp (gj b.Style) 0 p.2))),fun N i c a=>?_⟩;obtain⟨M,rfl⟩:∃M,N=M+1:=⟨N-1,by omega⟩;unfold py;rw[show(b.Kind == 6)=false by rw[t];rfl,show(b.Kind == 7)=false by rw[t];rfl];simp only[iO,qv];unfold yc;simp only[o M (by omega) c a,rZ,C1,uH,rL,iF]
  ·have B:ip b.Kids:=by
    rcases l with l|l
    ·exact absurd ⟨l.1,l.2.1,l.2.2.1⟩ C
    ·exact l
   obtain⟨W,P⟩:=ME (s:=s) (fun k g=>Nd s k (by have:=rG g;omega) (kA B k g));have u:∀N,20010+s≤N→∀c a,∀k∈b.Kids,(KN (N+1)).gm (cO (N+1) c a).Widths k=some (W k):=fun N i c a k g=>P k g N i c a;rcases g with t|L
   ·-- a block of blocks
    have m:∃p:Int×Int,∀N,20010+s≤N→∀c a,lP (KN (N+1)) (N+1) b (cO (N+1) c a)=some p:=by
     have E:b.Kids≠[]:=fun e=>C ⟨t,fun k r=>(by rw[e]at r;cases r),fun k r=>(by rw[e]at r;cases r)⟩;have f:eB b=b.Kids:=ak5.2 fun k g=>by
      have:=(gC.1 (kA B k g)).2.1.1;unfold gR;simp[bne,this]
     have w:(eB b).any eM=true:=by
      rw[adz];obtain⟨x,J⟩:=akY _ E;refine⟨x,by rw[f];exact J,?_⟩;unfold eM;rcases (gC.1 (kA B x J)).1 with q|q<;>rw[q]<;>rfl
     by_cases j:(cz (gj b.Style).Width 0).2=true
     ·exact⟨_,fun N i c a=>by unfold lP;rw[rZ,iF,gi,iF,lc j,we,iF]⟩
     ·refine⟨CH W b.Kids 0 0,fun N i c a=>?_⟩;unfold lP;rw[rZ,iF,gi,iF,kb j,Bq (KN (N+1)) (N+1) (Dq N) b (by omega) (by omega),iF];simp only[w,OR,iO,qv];have e:=ahR (KN (N+1)) (N+1) (cO (N+1) c a) (eB b,true) (by simp only[f];omega) W (by rw[f];exact u N i c a) (N+1) 0 0 0 (u6 _) (by simp only[f];omega);rw[DO]at e;simp only at e;rw[f]at e⊢;exact e
    obtain⟨p,o⟩:=m;refine⟨(gB (eW (gj b.Style) 0 (gp (gj b.Style) 0 p.1)),gB (eW (gj b.Style) 0 (gp (gj b.Style) 0 p.2))),fun N i c a=>?_⟩;obtain⟨M,rfl⟩:∃M,N=M+1:=⟨N-1,by omega⟩;unfold py;rw[show(b.Kind == 6)=false by rw[t];rfl,show(b.Kind == 7)=false by rw[t];rfl];simp only[iO,qv];unfold yc;simp only[o M (by omega) c a,rZ,C1,uH,rL,iF]
   ·-- a flex container
    obtain⟨d,z,_⟩:=Od.mF b.Kids (by omega) (lvl:=20010) (n:=20010) (by omega) (by omega);have R:=z.len;have D:∀N,20010≤N→kE (KN N) N b=some (Fw.cA b d):=fun N i=>by
     obtain⟨T,K,G⟩:=Od.mF b.Kids (by omega) (lvl:=N) (n:=N) (by omega) (by omega);rw[K.uniq z]at G;exact Fw.Qu S z G (by omega)
    have key:∃v,∀N,20010+s≤N→∀c a,vY (KN (N+1)) (N+1) b (cO (N+1) c a)=some v:=by
     by_cases j:(cz (gj b.Style).Width 0).2=true
     ·obtain⟨v,y⟩:=LH (gj b.Style) (cz (gj b.Style).Width 0).1 (cz (gj b.Style).Width 0).1;exact⟨v,fun N i c a=>by unfold vY;rw[Fw.T9,iF,gi,iF,lc j,y]⟩
     ·obtain⟨v,y⟩:=LH (gj b.Style) (nW b W (Fw.cA b d) 0 0).1 (nW b W (Fw.cA b d) 0 0).2;refine⟨v,fun N i c a=>?_⟩;unfold vY;rw[Fw.T9,iF,gi,iF,kb j,D (N+1) (by omega),iF];have e:=Z2 (KN (N+1)) (N+1) b (cO (N+1) c a) (gj b.Style) (Fw.cA b d) (by rw[Fw.wy];omega) W (fun k g=>u N i c a k (Fw.BJ z g)) (N+1) 0 0 0 (u6 _) (by rw[Fw.wy];omega);rw[DO]at e;exact e.trans (y _ _)
    obtain⟨v,y⟩:=key;refine⟨v,fun N i c a=>?_⟩;obtain⟨M,rfl⟩:∃M,N=M+1:=⟨N-1,by omega⟩;unfold py;rw[show(b.Kind == 6)=true by rw[L];rfl,lc rfl,y M (by omega) c a];rfl
end
theorem adb(b:ByteArray):∀(k i:Nat) (r:List UInt8),b.size-i≤k→ByteArray.toList.loop b i r=r.reverse++b.data.toList.drop i:=by
 have j:b.data.toList.length=b.size:=by cases b;rfl
 intro k
 induction k with
 | zero =>
  intro i r h;rw[alG];have a:¬ i<b.size:=by omega
  rw[kb a,l3 (by omega),Qf]
 | succ k g =>
  intro i r h;rw[alG];by_cases a:i<b.size
  ·have c:i<b.data.toList.length:=by omega
   rw[lc a,g (i+1) _ (by omega),ls c];have f:b.get! i=b.data.toList[i]:=by
    cases b with
    | mk d =>
     have e:i<d.size:=by simpa using c
     show d[i]! = d.toList[i];rw[amq d i e,Array.getElem_toList]
   rw[f,List.reverse_cons,tl,aiO]
  ·rw[kb a,l3 (by omega),Qf]
theorem ON(b:ByteArray):b.toList=b.data.toList:=by
 unfold ByteArray.toList;rw[adb b b.size 0 [] (by omega)];rfl
theorem Dg{a b:ByteArray}(h:a.toList=b.toList):a=b:=by
 rw[ON,ON]at h;exact ByteArray.ext (akv.1 h)
theorem Ic{α:Type}{x y:V4 α}(a:x.a0=y.a0)(b:x.a1=y.a1)(c:x.a2=y.a2)(d:x.a3=y.a3):x=y:=by
 cases x;cases y;simp_all
theorem aab{x y:aI}(h:ly x y=true):x=y:=by
 simp only[ly,agl,iN,agA,and_true]at h;have d:=Ic (x:=x.Margin) (y:=y.Margin);have e:=Ic (x:=x.Padding) (y:=y.Padding);have f:=Ic (x:=x.Border) (y:=y.Border);have a:=@Dg x.BorderColor y.BorderColor;have b:=@Dg x.Color y.Color;have c:=@Dg x.Background y.Background;cases x;cases y
 simp_all
theorem aie{a b:ab}(h:qp a b=true)(j:a.Kids=b.Kids):a=b:=by
 simp only[qp,iN,agA]at h;obtain⟨e,f,c,d,g,i⟩:=h;have c:=aab c;have d:=Dg d;cases a;cases b
 simp_all
mutual
theorem Oa:∀{a b:ab},fZ a b=true→a=b
 | ⟨k,n,s,t,r,q,c⟩,b,h=>by
  rw[Ja,iN]at h;exact aie h.1 (QF (l:=c) h.2)
theorem QF:∀{l m:d4},iC l m=true→l=m
 | [],[],_=>rfl
 | a::r,b::q,h=>by
  simp only[iC,iN]at h;rw[Oa h.1,QF h.2]
 | [],_::_,h=>by cases h
 | _::_,[],h=>by cases h
end
theorem ajJ(K j:Kn)(n k:Nat)(L:dn)(w:L.length≤1000000):∀(m c:Nat) (i h:Int) (b:bc) (t:Bool) (g:bc) (l:dn),0≤i→i≤L.length→(L.length:Int)<m+i→(L.length:Int)<c+i →
  jK K n L m h t i b g l=jK j k L c h t i b g l:=by
 intro m
 induction m with
 | zero=>intro c i _ _ _ _ _ o p q _;omega
 | succ m u =>
  intro c i h b t g l o p q v;cases c with
  | zero=>omega
  | succ c =>
   by_cases r:i<(L.length:Int)
   ·have s:aa (i+1)=i+1:=bL (by omega) (by omega);have key:∀(e:Int) (f:Bool) (d a:bc) (l':dn),jK K n L m e f (i+1) d a l'=jK j k L c e f (i+1) d a l':=fun e f d a l'=>u c (i+1) e d f a l' (by omega) (by omega) (by omega) (by omega);simp only[jK,qo,kv,gI,iF,sa,vG,vA,re,s,key]
   ·have:decide (i<(L.length:Int))=false:=by simpa using r
    simp only[jK,qo,this,iO,qv,re,gI,kv]
theorem aki(K b:Kn)(n a:Nat)(L:dn)(c:L.length≤1000000)(e:L.length<n)(d:L.length<a):lN K n L=lN b a L :=
 ajJ K b n a L c n a 0 0 _ _ _ [] (amk 0) (by omega) (by omega) (by omega)
noncomputable section
theorem afp(b:ab)(z:bD)(t m:Bool)(c:b.Kids.length≤20)(e:fT b.Kids)(u:∀k∈b.Kids,k.Text.size≤1000)(q:eA 1 b.Kids≤2000):
  ∃F:ae,DF 3 F∧∀(N:Nat),9100≤N→∀env:bu,(∃g i j l,env.Lines=.c52 g i j l)→∀(d f:Int) (S:ci),jU (KN (N+1)) (N+1) b z t m env d f S=some (F,d,f,S):=by
 have a:eB b=b.Kids:=ak5.2 fun k c=>by unfold gR;rw[e k c];rfl
 have p:(eB b).any eM=false:=by
  rw[a,alU];intro k c;unfold eM;rw[e k c];decide
 obtain⟨s,o⟩:=ajL e q b.Style z.Content;refine⟨pR b z t m false (m7 b.Kids b.Style z.Content).2 (((m7 b.Kids b.Style z.Content).1.length:Int) == 0) dA dA (m7 b.Kids b.Style z.Content).1,Si (by omega) o,fun N v env n d f S=>?_⟩;obtain⟨g,i,j,l,n⟩:=n;unfold jU;rw[Bq (KN (N+1)) (N+1) (Dq N) b c (by omega),iF];simp only[p,iO,qv];rw[a,n];have r:(KN (N+1)).A9 (.c52 g i j l) b.Kids b.Style z.Content=some (m7 b.Kids b.Style z.Content):=by
  show yt (KN N) N b.Kids b.Style z.Content ⟨g,i,j,l⟩=_;unfold yt;rw[agE e (by omega) u q (by omega)];rfl
 rw[r,iF,KI _ _ _ (by omega),iF];exact TL (KN (N+1)) (N+1) b z _ (by omega) (by omega) d f S (b.Kids,false) (fun h=>by cases h) t m _ _ _ _
theorem W7(b:ab)(z:bD)(t h:Bool)(B:b.Kids.length≤20)(D:(eB b).any eM=true)(l:∀k∈eB b,eM k=true):
  ∃G:dn→ae,(∀(r:dn) (d:Nat),r.length=(eB b).length→(∀f∈r,DF d f)→DF (d+1) (G r))∧∀(N:Nat),100≤N→∀(env:bu) (i j:Int) (S:ci),jU (KN (N+1)) (N+1) b z t h env i j S =
   (dc (fun k w=>(KN (N+1)).de env.Layout k w) ((eB b).map fun k=>(k,z.Content)) i j S).bind fun r=>some (G r.1,r.2.1,r.2.2.1,r.2.2.2):=by
 have y:=Om (b:=b)
 let a:dn→dn×Int×bc×bc×Bool:=fun r=>(lN (KN 100) 100 r).getD ([],0,dA,dA,true)
 refine⟨fun r=>pR b z t h true (a r).2.1 (a r).2.2.2.2 (a r).2.2.1 (a r).2.2.2.1 (a r).1,fun r d p v=>?_,fun N E env i j S=>?_⟩
 ·obtain⟨q,m,s,o⟩:=US (KN 100) 100 r (by omega) (by omega);have c:a r=q:=by show(lN (KN 100) 100 r).getD _=q;rw[m];rfl
  show DF (d+1) (pR b z t h true (a r).2.1 (a r).2.2.2.2 (a r).2.2.1 (a r).2.2.2.1 (a r).1);rw[c];refine Si (by omega) (fun f x=>?_);obtain⟨g,A,e⟩:=o f x;exact wx e (v g A)
 ·unfold jU;rw[Bq (KN (N+1)) (N+1) (Dq N) b B (by omega),iF];simp only[D,zt];have u:=aiv (KN (N+1)) (N+1) b z t h env (eB b,true) (by simp only;omega) (N+1) 0 [] i j S (u6 _) (by simp only;omega) (by simp);have n:qz (KN (N+1)) (N+1) b z t h env (eB b,true) (N+1) 0 [] i j S=_:=u;rw[n,DO,O5 (fun k w=>(KN (N+1)).de env.Layout k w)];cases C:dc (fun k w=>(KN (N+1)).de env.Layout k w) ((eB b).map fun k=>(k,z.Content)) i j S with
  | none=>rfl
  | some r =>
   have p:=uK C;rw[nx]at p;simp only[iF,Db];obtain⟨q,m,s,o⟩:=US (KN 100) 100 r.1 (by omega) (by omega);have c:a r.1=q:=by show(lN (KN 100) 100 r.1).getD _=q;rw[m];rfl
   rw[aki (KN (N+1)) (KN 100) (N+1) 100 r.1 (by omega) (by omega) (by omega),m,iF,c];exact TL (KN (N+1)) (N+1) b z q.1 (by omega) (by omega) _ _ _ (eB b,true) (fun _=>⟨by simp only;omega,l⟩) t h _ _ _ _
theorem ac8(b:ab)(w:Int):∃t g,∀(K:Kn) (n:Nat) (env:bu) (c d:Int) (S:ci),nJ K n b w env c d S=(jU K n b (cm b.Style w) t g env c d S).bind fun a=>some (a.1,a.2.1,a.2.2.1,a.2.2.2):=by
 have k:∀t,∃g,∀(K:Kn) (n:Nat) (env:bu) (c d:Int) (S:ci),oZ K n b env c d S (cm b.Style w) t=(jU K n b (cm b.Style w) t g env c d S).bind fun a=>some (a.1,a.2.1,a.2.2.1,a.2.2.2):=fun t=>by
  unfold oZ;by_cases e:(b.Style.Overflow == 0)=true
  ·by_cases f:((cm b.Style w).Border.a2 == 0)=true
   ·by_cases i:((cm b.Style w).Padding.a2 == 0)=true
    ·exact⟨_,fun K n env c d S=>by rw[lc e,lc f,lc i];rfl⟩
    ·exact⟨_,fun K n env c d S=>by rw[lc e,lc f,kb i];rfl⟩
   ·exact⟨_,fun K n env c d S=>by rw[lc e,kb f];rfl⟩
  ·exact⟨_,fun K n env c d S=>by rw[kb e];rfl⟩
 have:∃t,∀(K:Kn) (n:Nat) (env:bu) (c d:Int) (S:ci),nJ K n b w env c d S=oZ K n b env c d S (cm b.Style w) t:=by
  unfold nJ;simp only[DX,iF];by_cases e:(b.Style.Overflow == 0)=true
  ·by_cases f:((cm b.Style w).Border.a0 == 0)=true
   ·exact⟨_,fun K n env c d S=>by rw[lc e,lc f]⟩
   ·exact⟨_,fun K n env c d S=>by rw[lc e,kb f]⟩
  ·exact⟨_,fun K n env c d S=>by rw[kb e]⟩
 obtain⟨t,j⟩:=this;obtain⟨g,h⟩:=k t;exact⟨t,g,fun K n env c d S=>by rw[j,h]⟩
structure PY(b:ab)(f:Nat→Bool→Bool→Int→Int→ci→Option (ae×Int×Int×ci))(P:il)(G:dn→ae):Prop where
 good:∀p∈P,GB p.1∧bU p.1<bU b∧0≤p.2
 sz:ep P≤cW b.Kids
 df:∀(r:dn) (d:Nat),2≤d→r.length=P.length→(∀x∈r,DF d x)→DF (d+1) (G r)
 run:∀(N:Nat),20010+bU b≤N→∀(lf kf:Bool) (fr us:Int) (S:ci),f (N+1) lf kf fr us S=(dc (fun k w=>jM (KN N) N k w lf (cO N lf kf) kf) P fr us S).bind fun r=>some (G r.1,r.2.1,r.2.2.1,r.2.2.2)
theorem agF{b:ab}{P:il}:∀p∈P,bU p.1≤ep P:=by
 intro p a
 induction P with
 | nil=>cases a
 | cons q r c =>
  simp only[ep];rcases oR.1 a with rfl|a
  ·omega
  ·have:=c a;omega
theorem RF(b:ab)(T:b.Kind=1)(M:GB b)(z:bD)(y:0≤z.Content)(t s:Bool):∃P G,PY b (fun N o n=>jU (KN N) N b z t s (cO N o n)) P G∧(∀p∈P,p.1∈b.Kids∧p.2=z.Content)∧((∃k∈b.Kids,k.Kind≠3)→P=b.Kids.map fun k=>(k,z.Content)):=by
 obtain⟨_,g,U,j⟩:=gC.1 M;have Q:=gY b;by_cases i:fT b.Kids∧∀q∈b.Kids,q.Text.size≤90
 ·have C:=OE i.2;obtain⟨F,H,I⟩:=afp b z t s (by omega) i.1 (fun k h=>by have:=i.2 k h;omega) (by omega);refine⟨[],fun _=>F,⟨fun p g=>(by cases g),u6 _,fun r d D _ _=>Gz H (by omega),fun N L o n u A S=>?_⟩,fun p g=>(by cases g),fun⟨k,c,K⟩=>absurd (i.1 k c) K⟩;show jU (KN (N+1)) (N+1) b z t s (cO (N+1) o n) u A S=_;rw[I N (by omega) _ ⟨_,_,_,_,rfl⟩];rfl
 ·have v:ip b.Kids:=by
   rcases j with j|j
   ·exact absurd ⟨j.2.1,j.2.2.1⟩ i
   ·exact j
  have w:b.Kids≠[]:=fun e=>i ⟨fun k h=>(by rw[e]at h;cases h),fun k h=>(by rw[e]at h;cases h)⟩;have a:eB b=b.Kids:=ak5.2 fun k c=>by
   have:=(gC.1 (kA v k c)).2.1.1;unfold gR;simp[bne,this]
  have f:∀k∈eB b,eM k=true:=fun k c=>by
   rw[a]at c;unfold eM;rcases (gC.1 (kA v k c)).1 with q|q<;>rw[q]<;>rfl
  have m:(eB b).any eM=true:=by
   rw[adz];obtain⟨x,E⟩:=akY _ w;exact⟨x,by rw[a];exact E,f x (by rw[a];exact E)⟩
  obtain⟨G,B,J⟩:=W7 b z t s (by omega) m f;rw[a]at B;refine⟨b.Kids.map fun k=>(k,z.Content),G,⟨fun p g=>?_,?_,fun r d _ O D=>B r d (by rw[O,nx]) D,fun N L o n u A S=>?_⟩,fun p g=>?_,fun _=>rfl⟩
  ·obtain⟨k,c,rfl⟩:=BY.1 g;exact⟨kA v k c,rG c,y⟩
  ·have:∀l:d4,ep (l.map fun k=>(k,z.Content))=cW l:=by
    intro l;induction l with
    | nil=>rfl
    | cons x r R=>simp only[q6,ep,cW,R]
   rw[this];exact ll _
  ·have:=J N (by omega) (cO (N+1) o n) u A S;rw[a]at this;exact this
  ·obtain⟨k,c,rfl⟩:=BY.1 g;exact⟨c,rfl⟩
theorem M2(b:ab)(z:GB b)(A:bU b≤1900)(w:Int):∃P G,PY b (fun N c a=>if (b.Kind == 6)=true then oH (KN N) N b w (cO N c a) else nJ (KN N) N b w (cO N c a)) P G:=by
 obtain⟨f,o,K,g⟩:=gC.1 z;rcases f with u|y
 ·obtain⟨t,C,e⟩:=ac8 b w;obtain⟨P,G,j,_⟩:=RF b u z (cm b.Style w) (Fl.Ch b.Style w).1 t C;refine⟨P,G,j.good,j.sz,j.df,fun N n c a i l S=>?_⟩;rw[show(b.Kind == 6)=false by rw[u];rfl];simp only[iO,qv];rw[e,j.run N n c a i l S];cases dc (fun k w=>jM (KN N) N k w c (cO N c a) a) P i l S<;>rfl
 ·have m:ip b.Kids:=by
   rcases g with g|g
   ·rw[y]at g;exact absurd g.1 (by decide)
   ·exact g
  obtain⟨W,I⟩:=ME (s:=bU b) (fun k f=>by
   obtain⟨v,O⟩:=Nd (bU k) k (ll _) (kA m k f);exact⟨v,fun N n c a=>O N (by have:=rG f;omega) c a⟩)
  obtain⟨P,G,D,E,F,H⟩:=Fl.aem b K w W;have M:=gY b;have B:=GN P;refine⟨P,G,fun p o=>?_,E,fun r d _ L J=>F r d L (by omega) J,fun N n c a i l S=>?_⟩
  ·obtain⟨q,k,f,h⟩:=D p o;refine⟨?_,by have:=agF (b:=b) p o;omega,by rw[q];exact(Fl.Ch b.Style w).1⟩;rcases h with h|⟨x,h⟩
   ·rw[h];exact kA m k f
   ·rw[h];exact afh x (kA m k f)
  ·rw[show(b.Kind == 6)=true by rw[y];rfl];simp only[zt];exact H (N+1) (by omega) (cO (N+1) c a) (fun k f=>I k f N (by omega) c a) i l S
end
noncomputable section
def lM(b:ab)(w:Int)(F:ae):Prop:=∀N,20011+bU b≤N→∀(a c:Int) (S:ci),jM (KN N) N b w false (cO N false false) false a c S=some (F,a,c,S)
theorem lM.uniq{b:ab}{w:Int}{F G:ae}(h:lM b w F)(g:lM b w G):F=G:=by
 have e:=(h (20011+bU b) (ll _) 0 0 []).symm.trans (g (20011+bU b) (ll _) 0 0 []);injection e with e
 exact(Prod.mk.inj e).1
inductive gK (D:Nat):il→dn→Prop
 | nil:gK D [] []
 | cons (p:ab×Int) (F:ae) (P:il) (r:dn) (h1:lM p.1 p.2 F) (h2:DF D F) (h3:DF (bU p.1+2) F) (t:gK D P r):gK D (p::P) (F::r)
theorem gK.len{D:Nat}{P:il}{r:dn}(h:gK D P r):r.length=P.length:=by
 induction h with
 | nil=>rfl
 | cons p F P r b c d t a=>simp[a]
theorem gK.df{D:Nat}{P:il}{r:dn}(h:gK D P r):∀x∈r,DF D x:=by
 induction h with
 | nil=>intro x a;cases a
 | cons p F P r d b e t c =>
  intro x a;rcases oR.1 a with rfl|a
  ·exact b
  ·exact c x a
theorem gK.of{D:Nat}:∀(P:il),(∀p∈P,bU p.1+2≤D∧∃F,DF (bU p.1+2) F∧lM p.1 p.2 F)→∃r,gK D P r
 | [],_=>⟨[],.nil⟩
 | p::P,h=>by
  obtain⟨b,F,a,c⟩:=h p ti;obtain⟨r,e⟩:=gK.of P (fun q d=>h q (ol _ d));exact⟨F::r,.cons p F P r c (Gz a b) a e⟩
theorem gK.pure{D:Nat}{P:il}{r:dn}(h:gK D P r){N:Nat}(c:∀p∈P,20011+bU p.1≤N):∀(a b:Int) (S:ci),dc (fun k w=>jM (KN N) N k w false (cO N false false) false) P a b S=some (r,a,b,S):=by
 induction h with
 | nil=>intro a b S;rfl
 | cons p F P r d g i t f =>
  intro a b S;simp only[dc,d N (c p ti) a b S,iF,f (fun q e=>c q (ol _ e)) a b S]
theorem ET(b:ab)(e:GB b)(w:Int)(N:Nat)(env:bu)(c:Bool)(a d:Int)(S:ci):tp (KN N) N b w env c a d S=((if (b.Kind == 6)=true then oH (KN N) N b w env else nJ (KN N) N b w env) a d S).bind fun v=>uq (KN N) N b w c v.1 v.2.1 v.2.2.1 v.2.2.2:=by
 unfold tp;rcases (gC.1 e).1 with h|h
 ·rw[show(b.Kind == 6)=false by rw[h];rfl,show(b.Kind == 7)=false by rw[h];rfl,show(b.Kind == 5)=false by rw[h];rfl];simp only[iO,qv]
 ·rw[show(b.Kind == 6)=true by rw[h];rfl];simp only[zt]
theorem Ia:∀(s:Nat) (b:ab) (w:Int),bU b≤s→s≤1900→GB b→∃F,DF (bU b+2) F∧lM b w F
 | 0,b,_,h,_,_=>by have:=iP b;omega
 | s+1,b,w,h,l,e=>by
  obtain⟨P,G,a⟩:=M2 b e (by omega) w;have f:=iP b;obtain⟨r,d⟩:=gK.of (D:=bU b+1) P (fun p c=>by
   have i:=a.good p c;exact⟨by omega,Ia s p.1 p.2 (by omega) (by omega) i.1⟩)
  refine⟨G r,a.df r (bU b+1) (by omega) d.len d.df,fun N k g j S=>?_⟩;obtain⟨M,rfl⟩:∃M,N=M+1:=⟨N-1,by omega⟩;unfold jM;simp only[iO,qv];rw[ET b e,show _=_ from a.run M (by omega) false false g j S,d.pure (fun p c=>by have:=(a.good p c).2;omega)];rfl
structure jp(m:ay):Prop where
 sz:bU m.Box≤100
 df:DF (bU m.Box+2) m.Fragment
 pure:lM m.Box m.Width m.Fragment
 gb:GB m.Box
 wd:0≤m.Width
theorem Xg(N:Nat)(b:ab)(w:Int)(f g:Int)(S:ci)(n:S.length≤100000)(l:3200≤N)(h:∀m∈S,jp m):∀(m i:Nat),i≤S.length→S.length<m+i →
  vj (KN N) N b w f g S m i=some (oQ b w f g S (S.drop i)):=by
 intro m
 induction m with
 | zero=>intro i a c;omega
 | succ m j =>
  intro i a c;simp only[vj,yP];by_cases e:i<S.length
  ·have k:=j (i+1) (by omega) (by omega);have d:=h _ (ga e);rw[drop_at' e];simp only[fj e,zt,dP e,ba,Int.toNat_natCast,yG];generalize S.getD i default=M at *;rw[Bk (bU M.Box) N M.Box b (ll _) (by have:=d.sz;omega) (by have:=d.sz;omega),iF,fe (by omega),k];cases a:(M.Width == w) with
   | false=>simp[oQ,dD,ama,a]
   | true =>
    cases c:fZ M.Box b with
    | false=>simp[oQ,dD,ama,a,c]
    | true =>
     rw[C2 _ N _ d.df (by have:=d.sz;omega)];simp[oQ,dD,ama,a,c]
  ·simp only[fB (show S.length≤i by omega),iO,qv];rw[l3 (by omega)];rfl
theorem Kv(N:Nat)(b:ab)(w:Int)(a c:Int)(S:ci)(f:S.length≤3000)(d:3200≤N)(e:∀m∈S,jp m):kO (KN N) N b w a c S=some (oQ b w a c S S):=by
 unfold kO;have:=Xg N b w a c S (by omega) d e N 0 (u6 _) (by omega);simpa using this
theorem ai5(N:Nat)(b:ab)(w:Int)(a c:Int)(S:ci)(e:S.length≤3000)(d:3200≤N)(f:∀m∈S,jp m):ye (KN N) N b w a c S =
  some (match S.find? (dD b w) with
   | some m=>(m.Fragment,true,a,aa (c+1),S)
   | none=>(bT,false,a,c,S)):=by
 unfold ye;rw[Kv N b w a c S e d f,iF];unfold oQ;cases S.find? (dD b w)<;>rfl
theorem zC{b:ab}{w:Int}{m:ay}(h:dD b w m=true):m.Width=w∧m.Box=b:=by
 simp only[dD,iN,agA]at h;exact⟨h.1,Oa h.2⟩
theorem Mz{b:ab}{w:Int}{F:ae}{S:ci}(f:∀m∈S,jp m)(e:lM b w F){m:ay}(h:S.find? (dD b w)=some m):m.Fragment=F:=by
 have a:=(f m (alN h)).pure;obtain⟨c,d⟩:=zC (List.find?_some h);rw[c,d]at a;exact a.uniq e
end
noncomputable section
def S3(N:Nat)(b:ab)(w:Int)(F:ae):Prop :=
 ∀(c d:Int) (S:ci),0≤c→c+(bU b:Int)≤2000→S.length+bU b≤2000→(∀m∈S,jp m) →
  ∃a T,jM (KN N) N b w true (cO N true true) true c d S=some (F,c+(T.length:Int),a,S++T)∧(∀m∈T,jp m)∧T.length≤bU b∧(∃m∈S++T,dD b w m=true)∧((∃m∈S,dD b w m=true)→T=[]∧a=aa (d+1))∧(¬ (∃m∈S,dD b w m=true)→0<T.length)
theorem Q9{D:Nat}{P:il}{r:dn}(h:gK D P r)(N:Nat)(u:∀p∈P,∀F,lM p.1 p.2 F→DF (bU p.1+2) F→S3 N p.1 p.2 F):∀(b d:Int) (S:ci),0≤b→b+(ep P:Int)≤2000→S.length+ep P≤2000→(∀m∈S,jp m) →
  ∃i T,dc (fun k w=>jM (KN N) N k w true (cO N true true) true) P b d S=some (r,b+(T.length:Int),i,S++T)∧(∀m∈T,jp m)∧T.length≤ep P∧(∀p∈P,∃m∈S++T,dD p.1 p.2 m=true)∧((∀p∈P,∃m∈S,dD p.1 p.2 m=true)→T=[]∧(0≤d→d+(P.length:Int)≤100000→i=d+(P.length:Int)))∧((∃p∈P,¬ ∃m∈S,dD p.1 p.2 m=true)→0<T.length):=by
 induction h with
 | nil =>
  intro b d S _ _ _ _;exact⟨d,[],by simp[dc],fun m j=>(by cases j),u6 _,fun p o=>(by cases o),fun _=>⟨rfl,fun _ _=>by simp⟩,fun⟨p,o,_⟩=>(by cases o)⟩
 | cons p F P r K h2 L t Q =>
  intro b d S J O M j;simp only[ep]at O M⊢;obtain⟨X,T,C,s,e3,E,G,H⟩:=u p ti F K L b d S J (by omega) (by omega) j;have n:∀m∈S++T,jp m:=fun m a=>by
   rcases n5.1 a with a|a
   ·exact j m a
   ·exact s m a
  obtain⟨Y,U,x,y,Z,z,A,B⟩:=Q (fun q a=>u q (ol _ a)) (b+(T.length:Int)) X (S++T) (by omega) (by omega) (by simp only[nw];omega) n;refine⟨Y,T++U,?_,fun m a=>?_,by simp only[nw];omega,fun q a=>?_,fun c=>?_,fun⟨q,a,e⟩=>?_⟩
  ·rw[show b+(((T++U).length:Nat):Int)=b+(T.length:Int)+(U.length:Int) by rw[nw];omega];simp only[dc,C,iF,x,tl]
  ·rcases n5.1 a with a|a
   ·exact s m a
   ·exact y m a
  ·rcases oR.1 a with rfl|a
   ·obtain⟨m,f,g⟩:=E;exact⟨m,by rw[←tl];exact akX _ f,g⟩
   ·obtain⟨m,f,g⟩:=z q a;exact⟨m,by rw[←tl];exact f,g⟩
  ·obtain⟨R,v⟩:=G (c p ti);subst R;obtain⟨V,W⟩:=A (fun q a=>by
    obtain⟨m,f,g⟩:=c q (ol _ a);exact⟨m,by simpa using f,g⟩)
   refine⟨by rw[V];rfl,fun g1 I=>?_⟩;simp only[lp]at I⊢;rw[bL (by omega) (by omega)]at v;rw[W (by omega) (by omega),v];omega
  ·rw[nw];by_cases hT:0<T.length
   ·omega
   ·have l:T=[]:=n3 (by omega);rcases oR.1 a with rfl|a
    ·have:=H e;omega
    ·have:=B ⟨q,a,by rw[l,Qf];exact e⟩;omega
theorem QN:∀(s N:Nat) (b:ab) (w:Int) (F:ae),bU b≤s→s≤90→20011+bU b≤N→GB b→0≤w→DF (bU b+2) F→lM b w F→S3 N b w F
 | 0,_,b,_,_,h,_,_,_,_,_,_=>by have:=iP b;omega
 | s+1,N,b,w,F,h,hs,L,q,A,l,y=>by
  intro i u S J hf hS n;have B:=iP b;obtain⟨M,rfl⟩:∃M,N=M+1:=⟨N-1,by omega⟩;unfold jM;simp only[zt,ba];rw[ai5 (M+1) b w i u S (by omega) (by omega) n,iF];cases t:S.find? (dD b w) with
  | some m =>
   have f:=alN t;have d:=List.find?_some t;have O:=Mz n y t;simp only[zt];refine⟨aa (u+1),[],by simp[O],fun m n=>(by cases n),u6 _,⟨m,by simpa using f,d⟩,fun _=>⟨rfl,rfl⟩,fun j=>absurd ⟨m,f,d⟩ j⟩
  | none =>
   have j:¬ ∃m∈S,dD b w m=true:=fun⟨m,V,W⟩=>by
    have:=alK.1 t m V;exact this W
   simp only[iO,qv];obtain⟨P,G,a⟩:=M2 b q (by omega) w;obtain⟨r,C⟩:=gK.of (D:=bU b+1) P (fun p g=>by
    have Q:=a.good p g;exact⟨by omega,Ia s p.1 p.2 (by omega) (by omega) Q.1⟩)
   have K:G r=F:=by
    have e:=y (M+1) L 0 0 [];unfold jM at e;simp only[iO,qv]at e;rw[ET b q,show _=_ from a.run M (by omega) false false 0 0 [],C.pure (fun p g=>by have:=(a.good p g).2;omega)]at e;have v:some (G r,(0:Int),(0:Int),([]:ci))=some (F,0,0,[]):=e;injection v with v
    exact(Prod.mk.inj v).1
   have U:=gY b;have R:=a.sz;obtain⟨k,T,H,I,X,Y,Z,e6⟩:=Q9 C M (fun p g E z x=>QN s M p.1 p.2 E (by have:=(a.good p g).2;omega) (by omega) (by have:=(a.good p g).2;omega) (a.good p g).1 (a.good p g).2.2 x z) i u S J (by omega) (by omega) n;rw[ET b q,show _=_ from a.run M (by omega) true true i u S,H];simp only[iF,K,uq,zt,ba];rw[abn (M+1) b w F (i+(T.length:Int)) k (S++T) (by simp only[nw];omega) (by omega) (bU b+2) l (by omega) (by omega),iF];refine⟨k,T++[⟨b,w,F⟩],?_,fun m c=>?_,by simp only[nw,lp,th];omega,⟨⟨b,w,F⟩,by simp,by simp[dD,zq]⟩,fun o=>absurd o j,fun _=>by simp⟩
   ·rw[show i+(((T++[(⟨b,w,F⟩:ay)]).length:Nat):Int)=i+(T.length:Int)+1 by rw[nw];simp only[lp,th];omega];show some (F,i+(T.length:Int)+1,k,S++T++[(⟨b,w,F⟩:ay)])=_;rw[tl]
   ·rcases n5.1 c with c|c
    ·exact I m c
    ·simp only[oR,akp,alJ]at c;subst c;exact⟨by show bU b≤100;omega,l,y,q,A⟩
end
theorem aay(K:Kn)(n:Nat)(l:ck)(b:l.length≤100000):yI K n l=some l:=by
 unfold yI om;have a:fits (([]:ck).length+l.length) 8=true:=by rw[th,Dy];exact db (by omega) (by omega)
 rw[a];cases l<;>simp[ba]
theorem act(K:Kn)(n:Nat)(p:im)(b:ab)(ar:ck)(q:b.Kids.length<1000000)(h:∀k∈b.Kids,(k.Kind=3∨k.Style.Position≠2)∧K.vn p k ar=some ()):∀(m i:Nat),i≤b.Kids.length→b.Kids.length<m+i→pd K n p b ar m i=some ():=by
 intro m
 induction m with
 | zero=>intro i f g;omega
 | succ m j =>
  intro i f g;simp only[pd,yN];by_cases c:i<b.Kids.length
  ·obtain⟨a,o⟩:=h _ (ga c);have l:=j (i+1) (by omega) (by omega);have d:qB K n p b ar i (pd K n p b ar m) false=some ():=by
    unfold qB;simp only[iO,qv,Int.toNat_natCast,o,iF];rw[fe (by omega),l]
   simp only[fj c,zt,dP c,ba,Int.toNat_natCast];split
   ·rename_i e;split
    ·rcases a with a|a
     ·rw[a]at e;exact absurd e (by decide)
     ·rw[show((b.Kids.getD i default).Style.Position == 2)=false by simpa using a];exact d
    ·exact d
   ·exact d
  ·simp only[fB (show b.Kids.length≤i by omega),iO,qv]
theorem QZ(K:Kn)(n:Nat)(p:im)(b:ab)(ar:ck)(j:ar.length≤90000)(l:b.Kids.length<n)(d:b.Kids.length<1000000)(e:∀k∈b.Kids,(k.Kind=3∨k.Style.Position≠2)∧∀a:ck,a.length≤ar.length+1→K.vn p k a=some ()):oa K n p b ar=some ():=by
 have g:∀a:ck,a.length≤ar.length+1→sP K n p b a=some ():=fun a h=>by
  unfold sP;have:=act K n p b a d (fun k f=>⟨(e k f).1,(e k f).2 a h⟩) n 0 (u6 _) (by omega);simpa using this
 have i:∀c,un K n p b ar c=some ():=fun c=>by
  unfold un;cases c with
  | false=>simpa using g ar (by omega)
  | true =>
   simp only[zt,aay K n ar (by omega),iF,List.length_singleton];rw[db (by omega) (by omega),ba,g _ (by simp)]
 unfold oa;split<;>exact i _
def kQ(m x:ay):Bool:=x.Width == m.Width&&fZ x.Box m.Box
theorem WB(K:Kn)(n:Nat)(l:dO)(M:ay)(f:l.length<1000000)(d:∀k∈l,K.tx (Fv.c39 M) k=some (kQ M k)):∀(m i:Nat),i≤l.length→l.length<m+i →
  ∃r,ry K n l (Fv.c39 M) m i=some r∧decide (r≥0)=(l.drop i).any (kQ M):=by
 intro m
 induction m with
 | zero=>intro i b c;omega
 | succ m e =>
  intro i b c;simp only[ry,A2];by_cases a:i<l.length
  ·rw[drop_at' a];simp only[fj a,zt,dP a,ba,Int.toNat_natCast,d _ (ga a),iF,List.any_cons];cases h:kQ M (l.getD i default) with
   | true=>exact⟨_,rfl,by simp⟩
   | false =>
    simp only[iO,qv,akO];rw[fe (by omega)];exact e (i+1) (by omega) (by omega)
  ·simp only[fB (show l.length≤i by omega),iO,qv];rw[l3 (by omega)];exact⟨_,rfl,rfl⟩
theorem ab5(N:Nat)(l:dO)(M:ay)(h:l.length<5000)(g:6000≤N)(b:∀k∈l,bU k.Box≤100):Aq (KN (N+1)) (N+1) l (Fv.c39 M)=some (l.any (kQ M)):=by
 have f:∀k∈l,(KN (N+1)).tx (Fv.c39 M) k=some (kQ M k):=fun k c=>by
  show Am (KN N) N k M=_;unfold Am kQ;rw[Bk (bU k.Box) N k.Box M.Box (ll _) (by have:=b k c;omega) (by have:=b k c;omega),iF];cases (k.Width == M.Width)<;>rfl
 obtain⟨r,d,e⟩:=WB (KN (N+1)) (N+1) l M (by omega) f (N+1) 0 (u6 _) (by omega);have a:ry (KN (N+1)) (N+1) l (Fv.c39 M) (N+1) 0=some r:=d;unfold Aq BI;rw[a,iF,e,DO]
def gL(a:ab):ci→ci→ci
 | acc,[]=>acc
 | acc,m::r=>if acc.any (kQ m)=true then gL a acc r else if ji m.Box a=true then gL a (acc++[m]) r else gL a acc r
theorem DH(a:ab):∀(L b:ci),(∀x∈b,x∈gL a b L)∧(∀x∈gL a b L,x∈b∨(x∈L∧ji x.Box a=true))∧(gL a b L).length≤b.length+L.length∧∀x∈L,ji x.Box a=true→∃y∈gL a b L,kQ x y=true
 | [],b=>⟨fun x h=>h,fun x h=>.inl h,by simp[gL],fun x h=>by cases h⟩
 | m::r,b=>by
  simp only[gL,lp];split
  ·rename_i k;obtain⟨d,g,j,i⟩:=DH a r b;refine⟨d,fun x c=>?_,by omega,fun x c f=>?_⟩
   ·rcases g x c with h|h
    ·exact .inl h
    ·exact .inr ⟨ol _ h.1,h.2⟩
   ·rcases oR.1 c with rfl|c
    ·obtain⟨y,l,n⟩:=adz.1 k;exact⟨y,d y l,n⟩
    ·exact i x c f
  ·split
   ·rename_i e;obtain⟨d,g,j,i⟩:=DH a r (b++[m]);refine⟨fun x c=>d x (akX _ c),fun x c=>?_,by simp only[nw,List.length_singleton]at j;omega,fun x c f=>?_⟩
    ·rcases g x c with h|h
     ·rcases n5.1 h with h|h
      ·exact .inl h
      ·simp only[oR,akp,alJ]at h;subst h;exact .inr ⟨ti,e⟩
     ·exact .inr ⟨ol _ h.1,h.2⟩
    ·rcases oR.1 c with rfl|c
     ·exact⟨x,d x (alh _ ti),by simp[kQ,zq]⟩
     ·exact i x c f
   ·rename_i e;obtain⟨d,g,j,i⟩:=DH a r b;refine⟨d,fun x c=>?_,by omega,fun x c f=>?_⟩
    ·rcases g x c with h|h
     ·exact .inl h
     ·exact .inr ⟨ol _ h.1,h.2⟩
    ·rcases oR.1 c with rfl|c
     ·exact absurd f e
     ·exact i x c f
theorem adC(N:Nat)(b:ab)(F:ae)(g l:Int)(L:ci)(v:L.length≤3000)(z:bU b≤100)(q:6000≤N)(d:Nat)(r:DF d F)(h:d≤150)(t:∀m∈L,bU m.Box≤100):∀(m i:Nat) (a:ci),i≤L.length→L.length<m+i→a.length≤i→(∀x∈a,x∈L) →
  qd (KN (N+1)) (N+1) b (F,g,l,L) m i a=some (F,g,l,gL b a (L.drop i)):=by
 intro m
 induction m with
 | zero=>intro i a n o;omega
 | succ m j =>
  intro i a n o u f;simp only[qd,xp];by_cases e:i<L.length
  ·have p:=ga e;rw[drop_at' e];simp only[fj e,zt,dP e,ba,Int.toNat_natCast,xf,A3,gL];generalize L.getD i default=M at *;rw[ab5 N a M (by omega) q (fun k s=>t k (f k s)),iF,LW (bU b) (N+1) b M.Box (ll _) (by omega) (by omega),fe (by omega)];have skip:=j (i+1) a (by omega) (by omega) (by omega) f;cases w:a.any (kQ M) with
   | true =>
    simp only[OR,iO,qv,zt];exact skip
   | false =>
    simp only[ak0,zt,iF,iO,qv];cases y:ji M.Box b with
    | false =>
     simp only[iO,qv];exact skip
    | true =>
     simp only[zt,List.length_singleton];rw[db (by omega) (by omega),ba];exact j (i+1) (a++[M]) (by omega) (by omega) (by simp;omega) (fun x c=>by
      rcases n5.1 c with c|c
      ·exact f x c
      ·simp only[oR,akp,alJ]at c;subst c;exact p)
  ·simp only[fB (show L.length≤i by omega),iO,qv];rw[C2 d (N+1) F r (by omega),iF,l3 (by omega)];rfl
theorem aew{b:ab}(h:GB b):∀k∈b.Kids,(k.Kind=3∧k.Kids=[])∨(k.Style.Position≠2∧GB k):=fun k c=>by
 obtain⟨_,_,_,a⟩:=gC.1 h;rcases a with a|a
 ·exact .inl ⟨a.2.1 k c,a.2.2.2 k c⟩
 ·have:=kA a k c;exact .inr ⟨(gC.1 this).2.1.1,this⟩
theorem LM(p:im):∀(s N:Nat) (b:ab) (ar:ck),bU b≤s→s<10000→s+2≤N→ar.length+s≤90000→GB b→oa (KN N) N p b ar=some ()
 | 0,_,b,_,h,_,_,_,_=>by have:=iP b;omega
 | s+1,0,_,_,_,_,h,_,_=>by omega
 | s+1,N+1,b,ar,r,t,u,v,i=>by
  have m:=gY b;have f:=xn b.Kids;refine QZ (KN (N+1)) (N+1) p b ar (by omega) (by omega) (by omega) (fun k e=>?_);have j:=rG e;have l:=iP k;obtain⟨n,d⟩|⟨o,q⟩:=aew i k e
  ·refine⟨.inl n,fun a c=>?_⟩;show oa (KN N) N p k a=some ();exact QZ (KN N) N p k a (by omega) (by rw[d];simp;omega) (by rw[d];simp) (fun x g=>by rw[d]at g;cases g)
  ·exact⟨.inr o,fun a c=>LM p s N k a (by omega) (by omega) (by omega) (by omega) q⟩
noncomputable section
theorem Xb(c:ab)(B:GB c)(O:c.Kind=1)(X:bU c≤89)(d e:Int):
  ∃(F:ae) (P:il),DF (bU c+2) F∧(∀p∈P,p.1∈c.Kids)∧((∃k∈c.Kids,k.Kind≠3)→P.length=c.Kids.length)∧((∀p∈P,GB p.1)∧∀k∈c.Kids,k.Kind≠3→(k,(cm c.Style d).Content)∈P) ∧
   ∀(N:Nat),20200≤N→∀(S:ci) (a b:Int),S.length≤1500→(∀m∈S,jp m)→∃f T,qG (KN (N+1)) (N+1) c d e a b S=some (F,(T.length:Int),f,gL c [] (S++T))∧(∀m∈T,jp m)∧T.length≤bU c∧(∀p∈P,∃m∈S++T,dD p.1 p.2 m=true)∧((∀p∈P,∃m∈S,dD p.1 p.2 m=true)→T=[]∧f=(P.length:Int))∧((∃p∈P,¬ ∃m∈S,dD p.1 p.2 m=true)→0<T.length):=by
 obtain⟨P,G,h,u,l⟩:=RF c O B (cm c.Style (min (max d 0) 1048576)) (Fl.Ch _ _).1 false false;have v:cm c.Style (min (max d 0) 1048576)=cm c.Style d:=by
  unfold cm;rw[show dI (min (max d 0) 1048576)=dI d by unfold dI;omega]
 have W:=gY c;have V:=h.sz;have R:=GN P;obtain⟨r,y⟩:=gK.of (D:=bU c+1) P (fun p g=>by
  have U:=h.good p g;exact⟨by omega,Ia (bU p.1) p.1 p.2 (ll _) (by omega) U.1⟩)
 have E:=iP c;have t:DF (bU c+2) (G r):=h.df r (bU c+1) (by omega) y.len y.df;refine⟨{ (G r)with H:=max (G r).H (min (max e 0) 1048576) },P,wx rfl t,fun p g=>(u p g).1,fun n=>by rw[l n,nx],⟨fun p g=>(h.good p g).1,fun k n Q=>by rw[l ⟨k,n,Q⟩,v];exact List.mem_map_of_mem n⟩,fun N hN S a b hS C=>?_⟩;obtain⟨f,T,J,z,Z,K,A,L⟩:=Q9 y N (fun p g I s q=>QN (bU p.1) N p.1 p.2 I (ll _) (by have:=(h.good p g).2;omega) (by have:=(h.good p g).2;omega) (h.good p g).1 (h.good p g).2.2 q s) 0 0 S (amk 0) (by omega) (by omega) C;have w:∀m∈S++T,jp m:=fun m j=>by
  rcases n5.1 j with j|j
  ·exact C m j
  ·exact z m j
 refine⟨f,T,?_,z,by omega,K,fun i=>⟨(A i).1,by have:=(A i).2 (amk 0) (by omega);omega⟩,L⟩;have M:=adC N c ({ (G r)with H:=max (G r).H (min (max e 0) 1048576) }:ae) (0+(T.length:Int)) f (S++T) (by simp only[nw];omega) (by omega) (by omega) (bU c+2) (wx rfl t) (by omega) (fun m j=>(w m j).sz) (N+1) 0 [] (u6 _) (by simp only[nw];omega) (u6 _) (fun x Y=>by cases Y);have o:qd (KN (N+1)) (N+1) c (({ (G r)with H:=max (G r).H (min (max e 0) 1048576) }:ae),0+(T.length:Int),f,S++T) (N+1) 0 []=_:=M;unfold qG ue;rw[iF];unfold BE;rw[DX,iF];unfold BG;rw[show _=_ from h.run N (by omega) true true 0 0 S,J,iF];simp only[iF];rw[NR (bU c+2) (N+1) (G r) t (by omega),iF,LM _ (bU c) (N+1) c [] (ll _) (by omega) (by omega) (by simp;omega) B,iF,iF,o,DO,Int.zero_add]
end
mutual
/-- The blocks' numbers are those of their descriptions. -/
def jT(L:Nat):ab→Prop
 | ⟨k,n,_,_,_,_,a⟩=>k=1→((10≤n∧n<10+(L:Int))∧lF L a)
def lF(L:Nat):d4→Prop
 | []=>True
 | b::r=>jT L b∧lF L r
end
theorem Zb{L:Nat}{b:ab}(h:jT L b)(a:b.Kind=1):(10≤b.Node∧b.Node<10+(L:Int))∧lF L b.Kids:=by
 cases b;simp only[jT]at h;exact h a
theorem FN{L:Nat}:∀{l m:d4},lF L l→lF L m→lF L (l++m)
 | [],m,_,h=>h
 | b::r,m,a,c=>by simp only[ack,lF]at a⊢;exact⟨a.1,FN a.2 c⟩
theorem acx(K:Kn)(n:Nat)(l:eg)(cs:List iX)(A:l.length≤9223372036854775807)(z:cs.length≤9223372036854775807)(x:l.length<n)(g:1<n):∀(m:Nat) (i:Int),0≤i→i≤cs.length→(cs.length:Int)<m+i →
  ∃b,vW K n l cs m i=some b∧(b=true→(l.length≤12∧0<l.length∧cs.length≤6)∧(∀s∈l,qA s)∧∀k,i.toNat≤k→k<cs.length→qA (cs.getD k default).Spec):=by
 intro m
 induction m with
 | zero=>intro i j t u;omega
 | succ m y =>
  intro i j t u;simp only[vW,yU];by_cases f:i<(cs.length:Int)
  ·rw[lc (decide_eq_true f),di j f,ba];obtain⟨b,c,a⟩:=K8 K n [(cs.getD i.toNat default).Spec] 1 (by simp) (by simpa using g);rw[c,iF];cases b with
   | false=>exact⟨false,rfl,fun h=>by cases h⟩
   | true =>
    obtain⟨q,r,d⟩:=y (i+1) (by omega) (by omega) (by omega);rw[kb (by simp),bL (by omega) (by omega)];refine⟨q,r,fun h=>⟨(d h).1,(d h).2.1,fun k v o=>?_⟩⟩;by_cases e:k=i.toNat
    ·subst e;exact(a rfl).2 _ (by simp)
    ·exact(d h).2.2 k (by omega) o
  ·have w:¬ decide (i<(cs.length:Int))=true:=by simpa using f
   rw[kb w];obtain⟨b,c,a⟩:=K8 K n l 12 (by omega) x;rw[c,iF];cases b with
   | false=>exact⟨false,rfl,fun h=>by cases h⟩
   | true =>
    simp only[zt,sN];split
    ·rename_i p;have p:=kc p;refine⟨_,rfl,fun h=>⟨⟨by have:=(a rfl).1;omega,by omega,by have:=kc h;omega⟩,(a rfl).2,fun k v o=>by omega⟩⟩
    ·exact⟨false,rfl,fun h=>by cases h⟩
theorem agr(K:Kn)(n:Nat)(l:eg)(cs:List iX)(i:l.length≤9223372036854775807)(g:cs.length≤9223372036854775807)(j:l.length<n)(m:cs.length+1<n):
  ∃b,DE K n l cs=some b∧(b=true→(l.length≤12∧0<l.length∧cs.length≤6)∧(∀s∈l,qA s)∧∀c∈cs,qA c.Spec):=by
 obtain⟨b,f,a⟩:=acx K n l cs i g j (by omega) n 0 (by omega) (by omega) (by omega);refine⟨b,f,fun h=>⟨(a h).1,(a h).2.1,fun c d=>?_⟩⟩;obtain⟨k,e,rfl⟩:=ajz.1 d;have:=(a h).2.2 k (by simp) e;rwa[bR e]at this
theorem ah7(k:Nat):Ek (KN (k+30)) (k+30)=some true:=by kernel_rfl
theorem aeN(s:cg):(ft s).Text=s.Text:=by unfold ft;split<;>rfl
def agj(l:d4):Prop:=fT l∧(∀q∈l,q.Text.size≤90)∧(∀q∈l,q.Kids=[])
theorem XE(l:eg)(i:l.length≤1000)(f:∀s∈l,s.Rows=0)(b:ab)(c:Bool)(h:10≤b.Node∧b.Node<10+(l.length:Int)):jD l b b.Kids c=some b:=by
 have e:aa (b.Node-10)=b.Node-10:=bL (by omega) (by omega);have d:aP (aa (b.Node-10)) l.length=true:=by rw[e];exact di (by omega) (by omega)
 have a:(⟨b.Kind,b.Node,b.Style,b.Text,b.Rows,b.Cols,b.Kids⟩:ab)=b:=by cases b;rfl
 have g:(l.getD (aa (b.Node-10)).toNat default).Rows=0:=f _ (ga (by rw[e];omega));unfold jD;cases c with
 | false=>exact congrArg some a
 | true =>
  simp only[d,ba,g];split
  ·rw[kb (by decide)];exact congrArg some a
  ·exact congrArg some a
mutual
theorem aas(l:eg)(i:l.length≤1000)(c:∀s∈l,s.Rows=0):∀(m:Nat) (b:ab) (lo:Int),bU b≤m→RB lo b→10≤lo→lo+(bU b:Int)≤10+(l.length:Int)→iJ l m b=some b
 | 0,b,_,h,_,_,_=>by have:=iP b;omega
 | m+1,b,lo,h,d,a,o=>by
  have x:=gY b;obtain⟨y,z,B,v,g⟩:=afB d;have e:kM (iJ l m) b.Kids=some b.Kids:=by
   rcases g with g|g
   ·exact Hr _ b.Kids g.1
   ·exact LO l i c m b.Kids (lo+1) (by omega) g (by omega) (by omega)
  simp only[iJ,e,iF];exact XE l i c b _ (by omega)
theorem Hr(f:ab→Option ab):∀(l:d4),fT l→kM f l=some l
 | [],_=>rfl
 | k::r,h=>by
  have e:=Hr f r (fun q w=>h q (ol _ w));have u:=h k ti;have n:¬ ((k.Kind == 1)=true):=by rw[u];decide
  simp only[kM,kb n,e,iF]
theorem LO(l:eg)(i:l.length≤1000)(c:∀s∈l,s.Rows=0):∀(m:Nat) (j:d4) (lo:Int),cW j≤m→zn lo j→10≤lo→lo+(cW j:Int)≤10+(l.length:Int)→kM (iJ l m) j=some j
 | m,[],_,_,_,_,_=>rfl
 | m,k::r,lo,h,d,a,o=>by
  simp only[cW]at h o;simp only[zn]at d;have A:=iP k;have p:=aas l i c m k lo (by omega) d.1 a (by omega);have t:=LO l i c m r (lo+(bU k:Int)) (by omega) d.2 (by omega) (by omega);simp only[kM,p,t,iF,ite_self]
end
theorem TV:∀{l m:d4},ip l→ip m→ip (l++m)
 | [],m,_,h=>h
 | b::r,m,a,c=>by simp only[ack,ip]at a⊢;exact⟨a.1,TV a.2 c⟩
def KG(s:cg):Prop:=s.Style.Position≠2∧s.Text.size≤90
theorem Zl(K:Kn)(n:Nat)(L:eg)(J:L.length≤19)(t:∀s∈L,KG s)(a:Nat)(g:Bool)(B:g=true→∀i,a<i→i<L.length→∃b e,K.kW L ((i:Nat):Int)=some (b,((e:Nat):Int))∧i<e∧e≤L.length∧bU b≤e - i∧jT L.length b∧b.Kind=1∧GB b):
  ∀(m i:Nat) (c:d4),a<i→i≤L.length→L.length<m+i→cW c+a<i→lF L.length c→(g=true→ip c)→(g=false→agj c) →
   ∃b e,lz K n L ((a:Nat):Int) g m ((i:Nat):Int) c=some (b,((e:Nat):Int))∧a<e∧e≤L.length∧bU b≤e - a∧jT L.length b∧b.Kind=1∧GB b∧b.Node=10+(a:Int):=by
 intro m
 induction m with
 | zero=>intro i c _ r z;omega
 | succ m l =>
  intro i c p r z I o k f;have u:=xn c;have stop:∃b e,ng K n L ((a:Nat):Int) g ((i:Nat):Int) c (lz K n L ((a:Nat):Int) g m) false=some (b,((e:Nat):Int))∧a<e∧e≤L.length∧bU b≤e - a∧jT L.length b∧b.Kind=1∧GB b∧b.Node=10+(a:Int):=by
   simp only[ng,iO,qv];refine⟨_,i,rfl,p,r,?_,?_,rfl,?_,bL (by omega) (by omega)⟩
   ·rw[gY];show cW c+1≤i-a;omega
   ·simp only[jT];refine fun _=>⟨?_,o⟩;rw[bL (by omega) (by omega)];omega
   ·simp only[GB];refine⟨.inl (by first|rfl|trivial),⟨(t _ (ga (by simpa using (show a<L.length by omega)))).1,by first|rfl|trivial⟩,by omega,?_⟩;cases g with
    | true=>exact .inr (k rfl)
    | false=>exact .inl ⟨by first|rfl|trivial,(f rfl).1,(f rfl).2.1,(f rfl).2.2⟩
  simp only[lz,nS];by_cases j:i<L.length
  ·simp only[fj j,zt,dP j,ba];cases M:decide ((L.getD ((i:Nat):Int).toNat default).Depth>(L.getD ((a:Nat):Int).toNat default).Depth) with
   | false=>exact stop
   | true =>
    simp only[ng,zt];cases g with
    | true =>
     obtain⟨b,e,v,F,w,G,x,H,y⟩:=B rfl i p j;simp only[zt,v,iF,lp,th];rw[db (by omega) (by omega),ba];exact l e (c++[b]) (by omega) w (by omega) (by rw[B5];simp only[cW];omega) (FN o ⟨x,trivial⟩) (fun _=>TV (k rfl) ⟨y,trivial⟩) (fun h=>by cases h)
    | false =>
     simp only[iO,qv,dP j,ba,lp,th];rw[db (by omega) (by omega),ba,fe (by omega)];have A:=(t _ (ga j)).2;refine l (i+1) _ (by omega) (by omega) (by omega) (by rw[B5];simp only[cW,bU];show cW c+(cW []+1+0)+a<i+1;simp only[cW];omega) (FN o ⟨(by simp only[jT];intro h;exact absurd h (by decide)),trivial⟩) (fun h=>by cases h) (fun _=>?_);obtain⟨C,D,E⟩:=f rfl;refine⟨fun q d=>?_,fun q d=>?_,fun q d=>?_⟩
     ·rcases n5.1 d with d|d
      ·exact C q d
      ·simp only[oR,akp,alJ]at d;subst d;rfl
     ·rcases n5.1 d with d|d
      ·exact D q d
      ·simp only[oR,akp,alJ]at d;subst d;exact A
     ·rcases n5.1 d with d|d
      ·exact E q d
      ·simp only[oR,akp,alJ]at d;subst d;rfl
  ·simp only[fB (show L.length≤i by omega),iO,qv];exact stop
theorem UE(K:Kn)(n:Nat)(L:eg)(j:L.length≤19)(k:∀s∈L,KG s)(p:L.length+2≤n):∀(d a:Nat),a<L.length→L.length-a≤d→∃b c,kN K n d L ((a:Nat):Int)=some (b,((c:Nat):Int))∧a<c∧c≤L.length∧bU b≤c - a∧jT L.length b∧b.Kind=1∧GB b∧b.Node=10+(a:Int)
 | 0,a,h,m=>by omega
 | d+1,a,h,m=>by
  have f:∀g:Bool,∃b c,lz { K with kW:=kN K n d } n L ((a:Nat):Int) g n ((a+1:Nat):Int) []=some (b,((c:Nat):Int))∧a<c∧c≤L.length∧bU b≤c - a∧jT L.length b∧b.Kind=1∧GB b∧b.Node=10+(a:Int):=fun g =>
   Zl { K with kW:=kN K n d } n L j k a g (fun _ i y o=>by
    obtain⟨b,c,r,t,u,v,q5,w,x,_⟩:=UE K n L j k p d i o (by omega);exact⟨b,c,r,t,u,v,q5,w,x⟩) n (a+1) [] (by omega) (by omega) (by omega) (by simp[cW]) trivial (fun _=>trivial) (fun _=>⟨fun q e=>(by cases e),fun q e=>(by cases e),fun q e=>(by cases e)⟩)
  show ∃b c,n4 { K with kW:=kN K n d } n L ((a:Nat):Int)=some (b,((c:Nat):Int))∧_;unfold n4;simp only[dP h,ba,fe (show a<1000000000 by omega),nZ];by_cases l:a+1<L.length
  ·simp only[fj l,zt,dP l,ba];split
   ·exact f _
   ·exact f _
  ·simp only[fB (show L.length≤a+1 by omega),iO,qv];exact f _
theorem P5(l:eg)(b:ab)(g:d4)(c:Bool)(h:10≤b.Node∧b.Node<10+(l.length:Int))(i:l.length≤1000):∃a,jD l b g c=some a∧a.Kids=g∧(a.Style=b.Style∧a.Text=b.Text)∧a.Node=b.Node∧(a.Kind=b.Kind∨(a.Kind=6∧c=true∧b.Node≠10)):=by
 have f:aa (b.Node-10)=b.Node-10:=bL (by omega) (by omega);have e:aP (aa (b.Node-10)) l.length=true:=by rw[f];exact di (by omega) (by omega)
 unfold jD;cases c with
 | false=>exact⟨_,rfl,rfl,⟨rfl,rfl⟩,rfl,.inl rfl⟩
 | true =>
  simp only[e,ba];split
  ·rename_i d;have d:=kc d;rw[f]at d;split
   ·exact⟨_,rfl,rfl,⟨rfl,rfl⟩,rfl,.inr ⟨rfl,(by first|rfl|trivial),by omega⟩⟩
   ·exact⟨_,rfl,rfl,⟨rfl,rfl⟩,rfl,.inl rfl⟩
  ·exact⟨_,rfl,rfl,⟨rfl,rfl⟩,rfl,.inl rfl⟩
theorem QS(L:Nat)(f:ab→Option ab):∀(l:d4),lF L l→ip l→(∀k∈l,jT L k→k.Kind=1→GB k→∃a,f k=some a∧bU a=bU k∧GB a)→∃m,kM f l=some m∧cW m=cW l∧ip m∧m.length=l.length
 | [],_,_,_=>⟨[],rfl,rfl,trivial,rfl⟩
 | k::r,h,b,d=>by
  simp only[lF]at h;simp only[ip]at b;obtain⟨m,e,p,g,i⟩:=QS L f r h.2 b.2 (fun q o=>d q (ol _ o));have c:∃a,(if (k.Kind == 1)=true then f k else some k)=some a∧bU a=bU k∧GB a:=by
   split
   ·rename_i c;exact d k ti h.1 (by simpa using c) b.1
   ·exact⟨k,rfl,rfl,b.1⟩
  obtain⟨a,j,s,n⟩:=c;refine⟨a::m,?_,by simp only[cW];omega,⟨n,g⟩,by simp[i]⟩;simp only[kM,e,j,iF]
theorem Lm(l:eg)(u:l.length≤1000):∀(m:Nat) (b:ab),bU b≤m→jT l.length b→b.Kind=1→GB b→∃a,iJ l m b=some a∧bU a=bU b∧GB a∧a.Node=b.Node∧(b.Node=10→a.Kind=1)
 | 0,b,h,_,_,_=>by have:=iP b;omega
 | m+1,b,h,I,o,H=>by
  obtain⟨z,F⟩:=Zb I o;obtain⟨T,y,D,E⟩:=gC.1 H;have J:=gY b;rcases E with g|G
  ·have p:=Hr (iJ l m) b.Kids g.2.1;have i:(b.Kids.any fun k=>k.Kind == 1)=false:=by
    rw[alU];intro k v;rw[g.2.1 k v];decide
   obtain⟨a,w,n,⟨A,s⟩,B,f⟩:=P5 l b b.Kids false z u;have j:a.Kind=1:=by
    rcases f with f|⟨_,f,_⟩
    ·rw[f,o]
    ·cases f
   refine⟨a,?_,by rw[gY,n];omega,?_,B,fun _=>j⟩
   ·simp only[iJ,p,iF,i,w]
   ·rw[gC,j,n,A,s];exact⟨.inl rfl,y,D,.inl ⟨rfl,g.2.1,g.2.2.1,g.2.2.2⟩⟩
  ·obtain⟨L,p,w,n,S⟩:=QS l.length (iJ l m) b.Kids F G (fun k v M N O=>by
    obtain⟨K,P,Q,R,_⟩:=Lm l u m k (by have:=rG v;omega) M N O;exact⟨K,P,Q,R⟩)
   obtain⟨a,C,x,⟨q,c⟩,r,d⟩:=P5 l b L (b.Kids.any fun k=>k.Kind == 1) z u;refine⟨a,?_,by rw[gY,x];omega,?_,r,fun t=>?_⟩
   ·simp only[iJ,p,iF,C]
   ·rw[gC,x,q,c];refine⟨?_,y,by omega,.inr n⟩;rcases d with e|⟨e,_,_⟩
    ·exact .inl (e.trans o)
    ·exact .inr e
   ·rcases d with e|⟨_,_,e⟩
    ·exact e.trans o
    ·exact absurd t e
theorem aaC(K:Kn)(n:Nat)(l:eg)(A:0<l.length)(B:l.length≤19)(D:l.length+2≤n)(t:∀s∈l,s.Text.size≤90):∃b,uU K n l=some b∧bU b≤l.length∧GB b∧b.Kind=1:=by
 have C:(l.map ft).length=l.length:=nx _;have m:∀s∈l.map ft,KG s:=fun s r=>by
  obtain⟨q,p,rfl⟩:=BY.1 r;refine⟨?_,by rw[aeN];exact t q p⟩;unfold ft;split
  ·show(0:Int)≠2;decide
  ·rename_i o;simpa using o
 obtain⟨b,u,d,v,w,x,e,f,g,h⟩:=UE K n (l.map ft) (by omega) m (by omega) n 0 (by omega) (by omega);obtain⟨c,i,y,j,z,k⟩:=Lm (l.map ft) (by omega) n b (by omega) e f g;refine⟨c,?_,by omega,j,k (by simpa using h)⟩;unfold uU;have a:kN K n n (l.map ft) 0=some (b,((u:Nat):Int)):=d;rw[db (by omega) (by omega),ba,a,iF];exact i
theorem agL(N n:Nat)(f:ae)(h:f.Kids.length≤3000)(d:∀k∈f.Kids,(KN N).yg k k=some true):∀(m i:Nat),i≤f.Kids.length→f.Kids.length<m+i→sG (KN N) n f f m i=some true:=by
 intro m
 induction m with
 | zero=>intro i b c;omega
 | succ m g =>
  intro i b c;simp only[sG,xH];by_cases a:i<f.Kids.length
  ·simp only[z4 a,zt,rD a,ba,Int.toNat_natCast,d _ (ga a),iF,OR,iO,qv,xC (show i<1000000 by omega)];exact g (i+1) (by omega) (by omega)
  ·have e:i=f.Kids.length:=by omega
   subst e;simp[BQ (ll _)]
theorem NP:∀(d N n:Nat) (f:ae),DF d f→3000<n→d+3010≤N→ra (KN N) n f f=some true
 | 0,_,_,_,h,_,_=>h.elim
 | d+1,N,n,f,h,e,a=>by
  unfold DF at h;have c:=agL N n f h.1 (fun k b=>by
   match N,a with
   | N+1,a =>
    show ra (KN N) N k k=some true;exact NP d N N k (h.2 k b) (by omega) (by omega)) n 0 (by omega) (by have:=h.1;omega)
  unfold ra;simp only[bne_self_eq_false,beq_self_eq_true,OR,iO,qv,aby,Xp,gX];exact c
end Go.Proofs.YtocgkfoifehcbaaGreat
namespace Go.Proofs.YtocgkfoifehcbaaGreat.QRelayoutFinds
set_option linter.all false
set_option maxRecDepth 20000
open Go.RowKit
theorem PD:∀d,(cO d false false).Layout.dB=true∧(cO d false false).Widths.dB=true∧(cO d false false).Lines.dB=true∧(cO d false false).Spread.dB=true
 | 0=>⟨rfl,rfl,rfl,rfl⟩
 | d+1=>by
  obtain⟨a,b,c,e⟩:=PD d;refine⟨?_,?_,?_,?_⟩<;>simp only[cO,Fv.dB,a,b,c,e,ak0,alt]
theorem Sl:∀{l:d4} {k:ab},k∈l→mI k l=true
 | [],k,h=>by cases h
 | b::r,k,h=>by
  simp only[mI,Io];rcases oR.1 h with rfl|h
  ·exact .inl (by rw[Fo,zq,Bool.true_or])
  ·exact .inr (Sl h)
theorem Wj{S:ci}{b:ab}{w:Int}(h:∃m∈S,dD b w m=true):∃m,S.find? (dD b w)=some m:=by
 cases d:S.find? (dD b w) with
 | some m=>exact⟨m,rfl⟩
 | none =>
  obtain⟨m,a,c⟩:=h;exact absurd c (alK.1 d m a)
theorem aba{S:ci}{b:ab}{w:Int}(h:∀m∈S,¬ dD b w m=true):S.find? (dD b w)=none:=alK.2 h
section
variable(N:Nat)(f:20300≤N)(w:Int)(a:ab)(L:ci)(g:L.length≤1000)(d:∀x∈L,jp x)
include f g d
theorem PZ{b:ab}{v:Int}(a c:Int)(h:∃m∈L,dD b v m=true):∃m,L.find? (dD b v)=some m∧kO (KN (N+1)) (N+1) b v a c L=some (m.Fragment,true,a,c,L):=by
 obtain⟨m,e⟩:=Wj h;refine⟨m,e,?_⟩;rw[Kv (N+1) b v a c L (by omega) (by omega) d];simp only[oQ,e]
theorem M7{b:ab}{v:Int}(a c:Int)(h:∀m∈L,¬ dD b v m=true):kO (KN (N+1)) (N+1) b v a c L=some (bT,false,a,c,L):=by
 rw[Kv (N+1) b v a c L (by omega) (by omega) d];simp only[oQ,aba h]
theorem aio(r:ae×Int×Int×ci)(y:r.2.2.2=L)(R:Option Bool):∀(m i:Nat) (c h:Int),i≤L.length→L.length<m+i→(∀c h,rh (KN (N+1)) (N+1) w a (N+1) 0 0 c h L=R) →
  vb (KN (N+1)) (N+1) w a r (cO (N+1) false false) m (L.length:Int) (i:Int) c h L=R:=by
 intro m
 induction m with
 | zero=>intro i c h t u;omega
 | succ m F =>
  intro i c h t u o;simp only[vb,xZ,y,Db];by_cases l:i<L.length
  ·have p:=ga l;have G:=F (i+1) c h (by omega) (by omega) o;simp only[fj l,zt,dP l,ba,iF,Int.toNat_natCast];generalize L.getD i default=M at *;have j:=d M p;obtain⟨q,H,I⟩:=PZ N f L g d c h (b:=M.Box) (v:=M.Width) ⟨M,p,by simp[dD,zq]⟩;rw[I,iF];have z:=Mz d j.pure H;have C:=j.pure N (by have:=j.sz;omega) c h L;have A:(KN (N+1)).de (cO (N+1) false false).Layout M.Box M.Width c h L=some (M.Fragment,c,h,L):=C;simp only[OR,iO,qv,(PD (N+1)).1,ba,A,iF,z];rw[NP (bU M.Box+2) (N+1) (N+1) M.Fragment j.df (by omega) (by have:=j.sz;omega),iF];simp only[zI,OR,iO,qv];have J:=(gC.1 j.gb).2.1.2;have k:(⟨#[120]⟩:ByteArray).size=1:=rfl;have D:rS M.Box.Text (⟨#[120]⟩:ByteArray)=true:=by
    unfold rS;rw[k];exact decide_eq_true (by omega)
   rw[D,ba,M7 N f L g d c h (fun x E B=>by
    have e:=(zC B).2;have n:=(gC.1 (d x E).gb).2.1.2;rw[e]at n;have s:(M.Box.Text++(⟨#[120]⟩:ByteArray)).size=0:=n;rw[ByteArray.size_append,k]at s;omega),iF]
   simp only[iO,qv];rw[fe (by omega)];exact G
  ·simp only[fB (show L.length≤i by omega),iO,qv];exact o c h
theorem ad4(G:a.Kids.length≤1000)(z:(∀k∈a.Kids,k.Kind=3)→L=[])(v:∀k∈a.Kids,k.Kind≠3→∃m∈L,dD k (cm a.Style w).Content m=true):∀(m i c:Nat) (l n:Int),i≤a.Kids.length→a.Kids.length<m+i→c≤i→(c=0↔∀k∈a.Kids.take i,k.Kind=3) →
  rh (KN (N+1)) (N+1) w a m (c:Int) (i:Int) l n L=some true:=by
 intro m
 induction m with
 | zero=>intro i c l n A B;omega
 | succ m y =>
  intro i c l n A B F p;simp only[rh,Au];by_cases o:i<a.Kids.length
  ·have D:=ga o;have u:a.Kids.take (i+1)=a.Kids.take i++[a.Kids.getD i default]:=by rw[MO o,bR o]
   simp only[fj o,zt,dP o,ba,iF,Int.toNat_natCast];generalize a.Kids.getD i default=k at *;by_cases b:k.Kind=3
   ·rw[lc (by rw[b];rfl)];simp only[wj];rw[fe (by omega)];refine y (i+1) c l n (by omega) (by omega) (by omega) (p.trans ⟨fun h q j=>?_,fun h q j=>h q ?_⟩)
    ·rw[u]at j;rcases n5.1 j with j|j
     ·exact h q j
     ·simp only[oR,akp,alJ]at j;subst j;exact b
    ·rw[u];exact akX _ j
   ·rw[kb (by rw[agA];exact b),ain,iF];obtain⟨x,_,E⟩:=PZ N f L g d l n (v k D b);rw[E,iF];simp only[OR,iO,qv,wj];rw[fe (by omega),fe (by omega)];refine y (i+1) (c+1) l n (by omega) (by omega) (by omega) ⟨fun h=>by omega,fun h=>absurd (h k ?_) b⟩;rw[u];exact alh _ ti
  ·have e:i=a.Kids.length:=by omega
   subst e;simp only[fB (ll _),iO,qv];rw[M7 N f L g d l n (fun x r C=>by
    have e:=(zC C).1;have:=(d x r).wd;omega),iF]
   simp only[ak0,zt,xc];rw[aka]at p;congr 1;rw[agA];by_cases s:c=0
   ·have:=z (p.1 s);rw[this,s];rfl
   ·have:L≠[]:=fun e=>s (p.2 fun k t=>by
     by_cases b:k.Kind=3
     ·exact b
     ·obtain⟨x,r,_⟩:=v k t b;rw[e]at r;cases r)
    have H:=akP.2 this;rw[show((c:Int) == 0)=false by rw[aly];omega,show((L.length:Int) == 0)=false by rw[aly];omega]
end
theorem holds(c:eg)(r:iX)(d:Int)(V:cV Tryz.prog 22 ((IB bp) c))(h1:cV Tryz.prog 39 (jA r))(h2:cV Tryz.prog 3 ((ak .i64) d)):∃n,DK (KN n) n c r d=some true:=by
 obtain⟨l,C,hm,_⟩:=V.sl_inv Tryz.underlying22;simp only[IB,akM,AV.sl.injEq,and_true]at C;have D:l.length=c.length:=by rw[←C,nx]
 have a0:l.length≤9223372036854775807:=hm;refine⟨c.length+20400+30,?_⟩;unfold DK;rw[ah7 (c.length+20400),iF];obtain⟨N,W⟩:∃N,c.length+20400+30=N+1:=⟨c.length+20429,by omega⟩;rw[W];obtain⟨b,M,O⟩:=agr (KN (N+1)) (N+1) c [r] (by omega) (by simp) (by omega) (by simp;omega);rw[M,iF];cases b with
 | false=>rfl
 | true =>
  obtain⟨⟨f1,Q,_⟩,R,_⟩:=O rfl;simp only[OR,iO,qv];obtain⟨a,t1,t2,t3,t4⟩:=aaC (KN (N+1)) (N+1) c Q (by omega) (by omega) (fun s hs=>by have:=(R s hs).text;omega);rw[t1,iF];obtain⟨F,P,d1,J,d3,⟨K,L⟩,f⟩:=Xb a t3 t4 (by omega) d 0;obtain⟨c0,T,G,k2,k3,H,k5,_⟩:=f N (by omega) [] 0 0 (u6 _) (fun x o=>by cases o);obtain⟨g1,v,U,w⟩:=DH a ([]++T) [];simp only[Db,th,Dy]at G H v U w;have A:∀x∈gL a [] T,jp x:=fun x o=>by
   rcases v x o with h|h
   ·cases h
   ·exact k2 x h.1
  rw[G,iF];have he:ue (KN (N+1)) (N+1) false false=some (cO (N+1) false false):=rfl;rw[he,iF];have z:(gL a [] T).length≤1000:=by omega
  simp only[th,Dy,Db];rw[db (by omega) (by omega),ba];refine aio N (by omega) d a (gL a [] T) z A _ rfl _ (N+1) 0 _ _ (u6 _) (by omega) (fun S us=>?_);have b0:=gY a;have j:=xn a.Kids;refine ad4 N (by omega) d a (gL a [] T) z A (by omega) (fun e=>?_) (fun k B i=>?_) (N+1) 0 0 S us (u6 _) (by omega) (ll _) ⟨fun _ q hq=>by simp at hq,fun _=>rfl⟩
  ·have X:∀p∈P,∃m∈([]:ci),dD p.1 p.2 m=true:=fun p E=>by
    have i:=e p.1 (J p E);rcases (gC.1 (K p E)).1 with q|q<;>rw[q]at i<;>cases i
   have Y:=(k5 X).1;rw[Y];rfl
  ·obtain⟨x,t,g⟩:=H _ (L k B i);have w1:x.Width=(cm a.Style d).Content:=(zC g).1;have I:x.Box=k:=(zC g).2;have Z:ji x.Box a=true:=by rw[Fo,I,Sl B,Bool.or_true]
   obtain⟨y,y1,u⟩:=w x t Z;simp only[kQ,iN,agA]at u;exact⟨y,y1,by simp only[dD,iN,agA];exact⟨u.1.trans w1,by rw[←I];exact u.2⟩⟩
end Go.Proofs.YtocgkfoifehcbaaGreat.QRelayoutFinds
