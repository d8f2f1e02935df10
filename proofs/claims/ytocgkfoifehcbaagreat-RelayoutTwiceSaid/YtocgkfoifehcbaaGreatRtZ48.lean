/- Layer 22, plain: the loops of a row, with what they hand on. No program in sight. -/
import Derived.Test.YtocgkfoifehcbaaGreatRtZ47
import Derived.Test.YtocgkfoifehcbaaGreatRtGop
namespace Go.Proofs.YtocgkfoifehcbaaGreat
set_option linter.all false
open Go.RowKit
open Fl
abbrev ew:=List R4
def akQ:=@List.filter_eq_self
def alp:=@ByteArray.toList.loop.eq_1
def alt:=@Bool.not_false
def alu:=@List.mem_of_find?_eq_some
def alB:=@List.any_eq_false
def alU:=@List.find?_cons
def al5:=@List.mem_map_of_mem
def jp(c:Int)(L:d3):Nat→ck→io
 | _,[]=>[]
 | j,z::Z=>(nF (L.getD j default) z,c)::jp c L (j+1) Z
def i9(ED:ck):Nat→ck→List em
 | _,[]=>[]
 | j,z::Z=>(z,ED.getD j default)::i9 ED (j+1) Z
theorem Kp(c:Int)(L:d3):∀(Z:ck) (j:Nat),(jp c L j Z).length=Z.length
 | [],j=>rfl
 | z::Z,j=>by simp only[jp,ls,Kp c L Z]
theorem Ke(ED:ck):∀(Z:ck) (j:Nat),(i9 ED j Z).length=Z.length
 | [],j=>rfl
 | z::Z,j=>by simp only[i9,ls,Ke ED Z]
theorem RJ{c:Int}{L:d3}:∀{Z:ck} {j:Nat} {p:ab×Int},j+Z.length≤L.length→p∈jp c L j Z→p.2=c∧∃k∈L,∃z,p.1=nF k z
 | [],j,p,_,h=>by cases h
 | z::Z,j,p,a,h=>by
  simp only[ls]at a;simp only[jp,ol]at h;rcases h with rfl|h
  ·exact⟨rfl,_,f9 (show j<L.length by omega),z,rfl⟩
  ·exact RJ (by omega) h
abbrev RV:=Int→Int→dn→Int→Int→ci→Option (dn×Int×Int×Int×ci)
theorem aby(K:Kn)(n:Nat)(c:Int)(env:bw)(L:d3)(o:ek)(ED ST:ck)(y:Int)(k:Nat)(Z:ck)(l:RV)(a:Nat)(j:ST.getD k default=(a:Int))(A:a+Z.length≤L.length)(z:ED.length=L.length)(B:L.length≤1000):
  ∀(m i:Nat) (x h:Int) (d:dn) (e f:Int) (S:ci),i≤Z.length→Z.length<m+i→d.length+(Z.length-i)≤5000→pT K n c env L o ED ST y (k:Int) Z l m x h (i:Int) d e f S =
   (dh (fun b w=>K.dw env.Layout b w) (jp c L (a+i) (Z.drop i)) e f S).bind fun r=>l (aa (y+(ju y (i9 ED (a+i) (Z.drop i)) r.1 (x,h,d)).2.1)) (aa ((k:Int)+1)) (ju y (i9 ED (a+i) (Z.drop i)) r.1 (x,h,d)).2.2 r.2.1 r.2.2.1 r.2.2.2:=by
 intro m
 induction m with
 | zero=>intro i x h d e f S s t;omega
 | succ m u =>
  intro i x h d e f S s t v;simp only[pT,yf];by_cases g:i<Z.length
  ·have p:aa ((a:Int)+(i:Int))=((a+i:Nat):Int):=by rw[bK (by omega) (by omega)];omega
   rw[drop_at' g];simp only[jp,i9,dh];simp only[fw g,AT,dK g,ba,Int.toNat_natCast,j,p,dK (show a+i<L.length by omega),dK (show a+i<ED.length by omega),W0,iN];cases C:K.dw env.Layout (nF (L.getD (a+i) default) (Z.getD i default)) c e f S with
   | none=>rfl
   | some q =>
    simp only[iN,Ft,ME,List.length_singleton];rw[cY (by omega) (by omega),ba,fg (by omega),u (i+1) _ _ _ _ _ _ (by omega) (by omega) (by rw[ne];simp only[List.length_singleton];omega)];rw[show a+(i+1)=a+i+1 by omega];cases dh (fun b w=>K.dw env.Layout b w) (jp c L (a+i+1) (Z.drop (i+1))) q.2.1 q.2.2.1 q.2.2.2 with
    | none=>rfl
    | some r=>rfl
  ·simp only[fA (show Z.length≤i by omega),jf,sj];rw[mo (by omega)];rfl
def gm:Int→ck→Int
 | s,[]=>s
 | s,e::r=>gm (aa (s-e)) r
theorem OB{B:Int}(a:0≤B∧B≤1073741824):∀(l:ck) (s A:Int),Small B l → -A≤s∧s≤A→A+l.length*B≤1125899906842624 → -(A+l.length*B)≤gm s l∧gm s l≤A+l.length*B
 | [],s,A,_,c,_=>by simpa[gm]using c
 | e::r,s,A,b,c,f=>by
  have i:=b e ti;have d:(((e::r).length:Nat):Int)*B=r.length*B+B:=by simp[alZ]
  rw[d]at f⊢;have h:=ako (show(0:Int)≤(r.length:Int) by omega) a.1;have:=OB a r (aa (s-e)) (A+B) (fun x g=>b x (pt _ g)) (by rw[bK (by omega) (by omega)];omega) (by omega);simp only[gm];omega
def dX{α:Type}(l:List α)(a b:Nat):List α:=List.drop a (List.take b l)
theorem E4{α:Type}(l:List α){a b:Nat}(h:a≤b)(c:b≤l.length):(dX l a b).length=b-a:=by unfold dX;simp;omega
theorem aem(K:Kn)(n:Nat)(c:Int)(env:bw)(L:d3)(b:ek)(ED ST:ck)(y:Int)(k:Nat)(a:dn)(g h:Int)(S:ci)(e:Int)(f:RV)(G:ck)(p:G.length≤1000):∀(m j:Nat) (s:Int),j≤G.length→G.length<m+j →
  pJ K n c env L b ED ST y (k:Int) a g h S e f m s G (G.length:Int) (j:Int)=aE (cC (ST.getD k default) e b.length) ((jx K n (List.drop (ST.getD k default).toNat (List.take e.toNat b)) (gm s (G.drop j))).bind fun Z=>pT K n c env L b ED ST y (k:Int) Z f n 0 0 0 a g h S):=by
 intro m
 induction m with
 | zero=>intro j s i l;omega
 | succ m o =>
  intro j s i l;simp only[pJ,zK];by_cases d:j<G.length
  ·rw[drop_at' d];simp only[fw d,AT,dK d,ba,Int.toNat_natCast,gm];rw[fg (by omega)];exact o (j+1) _ (by omega) (by omega)
  ·simp only[fA (show G.length≤j by omega),jf,sj,Int.toNat_natCast];rw[show G.drop j=[] from mo (by omega)];rfl
def o6(c:Int)(n:Nat)(a:ek)(ED ST:ck)(k:Nat):Nat×ck :=
 (((ST++[(n:Int)]).getD k default).toNat,Rs.resolve (dX a ((ST++[(n:Int)]).getD k default).toNat ((ST++[(n:Int)]).getD (k+1) default).toNat) (gm c (dX ED ((ST++[(n:Int)]).getD k default).toNat ((ST++[(n:Int)]).getD (k+1) default).toNat)))
def ik(c:Int)(n:Nat)(a:ek)(ED ST:ck):Nat→Nat→List (Nat×ck)
 | _,0=>[]
 | k,m+1=>o6 c n a ED ST k::ik c n a ED ST (k+1) m
def g8(c:Int)(L:d3):List (Nat×ck)→io
 | []=>[]
 | l::a=>jp c L l.1 l.2++g8 c L a
def jm(ED:ck):List (Nat×ck)→dn→Int→dn→dn×Int
 | [],_,y,a=>(a,y)
 | l::b,r,y,a=>jm ED b (r.drop l.2.length) (aa (y+(ju y (i9 ED l.1 l.2) (r.take l.2.length) (0,0,a)).2.1)) (ju y (i9 ED l.1 l.2) (r.take l.2.length) (0,0,a)).2.2
theorem VQ{B:Int}{l:ck}(h:Small B l)(a b:Nat):Small B (dX l a b):=fun x c=>h x (oR (w3 c))
theorem Rp{α:Type}{l:List α}{x d:α}{k:Nat}(h:k<l.length):(l++[x]).getD k d=l.getD k d:=by
 rw[List.getD_eq_getElem?_getD,List.getD_eq_getElem?_getD,Db h]
theorem K0{α:Type}{l:List α}{x d:α}{k:Nat}(h:k=l.length):(l++[x]).getD k d=x:=by
 subst h;simp[List.getD_eq_getElem?_getD]
theorem aaf(N:Nat)(R:20010≤N)(c:Int)(hc:0≤c∧c≤8388608)(env:bw)(L:d3)(hl:L.length≤19)(e:ek)(ED ST:ck)(hI:e.length=L.length)(Q:ED.length=L.length)(A:Small 6291456 ED)(o:St L.length ST):
  ∀(m k:Nat) (y:Int) (f:dn) (g h:Int) (S:ci),k≤ST.length→ST.length<m+k→f.length≤20*k→ja (KN N) N c env L e ED ST m y (k:Int) f g h S =
   (dh (fun b w=>(KN N).dw env.Layout b w) (g8 c L (ik c L.length e ED ST k (ST.length-k))) g h S).bind fun r=>some ((jm ED (ik c L.length e ED ST k (ST.length-k)) r.1 y f).1,(jm ED (ik c L.length e ED ST k (ST.length-k)) r.1 y f).2,r.2.1,r.2.2.1,r.2.2.2):=by
 have T:=o.len;intro m
 induction m with
 | zero=>intro k y f g h S O P;omega
 | succ m W =>
  intro k y f g h S O P Z;simp only[ja,xM];by_cases u:k<ST.length
  ·obtain⟨a,d,H,t,I,Y⟩:=o.get k u;have j:ST.getD k default=(a:Int):=by rw[←Rp (x:=(L.length:Int)) u];exact H
   have U:o6 c L.length e ED ST k=(a,Rs.resolve (dX e a d) (gm c (dX ED a d))):=by unfold o6;rw[H,t];rfl
   have s:(dX ED a d).length=d-a:=E4 ED I (by omega);have E:(dX e a d).length=d-a:=E4 e I (by omega);have C:=OB (B:=6291456) (by omega) (dX ED a d) c 8388608 (VQ A a d) (by omega) (by rw[s];omega);have J:(Rs.resolve (dX e a d) (gm c (dX ED a d))).length=d-a:=by rw[Rs.HV,E]
   have p:aa ((k:Int)+1)=((k+1:Nat):Int):=fg (by omega);have X:mL (KN N) N c env L e ED ST y (k:Int) f g h S (ja (KN N) N c env L e ED ST m) (d:Int) =
     (dh (fun b w=>(KN N).dw env.Layout b w) (jp c L a (Rs.resolve (dX e a d) (gm c (dX ED a d)))) g h S).bind fun r=>ja (KN N) N c env L e ED ST m (aa (y+(ju y (i9 ED a (Rs.resolve (dX e a d) (gm c (dX ED a d)))) r.1 (0,0,f)).2.1)) ((k+1:Nat):Int) (ju y (i9 ED a (Rs.resolve (dX e a d) (gm c (dX ED a d)))) r.1 (0,0,f)).2.2 r.2.1 r.2.2.1 r.2.2.2:=by
    unfold mL;simp only[Int.toNat_natCast,j];rw[show cC (a:Int) (d:Int) ED.length=true by simp[cC];omega,ba];have K:=aem (KN N) N c env L e ED ST y k f g h S (d:Int) (ja (KN N) N c env L e ED ST m) (dX ED a d) (by omega) N 0 c (v9 _) (by omega);have v:pJ (KN N) N c env L e ED ST y (k:Int) f g h S (d:Int) (ja (KN N) N c env L e ED ST m) N c (List.drop a (List.take d ED)) ((List.drop a (List.take d ED)).length:Int) 0=_:=K;rw[v,j];simp only[Int.toNat_natCast,BY];rw[show cC (a:Int) (d:Int) e.length=true by simp[cC];omega,ba];have M:=Rs.mP (n:=N) (lvl:=N) (dX e a d) (sp:=gm c (dX ED a d)) (by omega) (by rw[s]at C;omega) (by omega) R;have z:jx (KN N) N (List.drop a (List.take d e)) (gm c (dX ED a d))=_:=M;rw[z,iN];have G:=aby (KN N) N c env L e ED ST y k (Rs.resolve (dX e a d) (gm c (dX ED a d))) (ja (KN N) N c env L e ED ST m) a j (by rw[J];omega) Q (by omega) N 0 0 0 f g h S (v9 _) (by omega) (by omega)
    rw[p,akl,BY]at G;exact G
   have F:(if (decide (aa ((k:Int)+1)<(ST.length:Int)))=true then
     aE (aM (aa ((k:Int)+1)) ST.length) (mL (KN N) N c env L e ED ST y (k:Int) f g h S (ja (KN N) N c env L e ED ST m) (ST.getD (aa ((k:Int)+1)).toNat default))
     else mL (KN N) N c env L e ED ST y (k:Int) f g h S (ja (KN N) N c env L e ED ST m) (L.length:Int))=mL (KN N) N c env L e ED ST y (k:Int) f g h S (ja (KN N) N c env L e ED ST m) (d:Int):=by
    rw[p];by_cases l:k+1<ST.length
    ·rw[ll (fw l),dK l,ba,Int.toNat_natCast,← Rp (x:=(L.length:Int)) l,t]
    ·rw[fA (show ST.length≤k+1 by omega),kc (by simp)];rw[K0 (by omega)]at t;rw[t]
   simp only[fw u,AT,dK u,ba,iN];rw[F,X,show ST.length-k=(ST.length-(k+1))+1 by omega];simp only[ik,g8,jm,U];rw[PC];cases V:dh (fun b w=>(KN N).dw env.Layout b w) (jp c L a (Rs.resolve (dX e a d) (gm c (dX ED a d)))) g h S with
   | none=>rfl
   | some r =>
    have i:=tp V;rw[Kp]at i;simp only[iN];have D:=JX y (i9 ED a (Rs.resolve (dX e a d) (gm c (dX ED a d)))) r.1 (0,0,f) (by rw[Ke,i]);rw[W (k+1) _ _ _ _ _ (by omega) (by omega) (by rw[D.1,i,J];simp only;omega)];cases dh (fun b w=>(KN N).dw env.Layout b w) (g8 c L (ik c L.length e ED ST (k+1) (ST.length-(k+1)))) r.2.1 r.2.2.1 r.2.2.2 with
    | none=>rfl
    | some q =>
     simp only[iN];rw[←i,List.take_left,alX]
  ·simp only[fA (show ST.length≤k by omega),jf,sj];rw[show ST.length-k=0 by omega];rfl
end Go.Proofs.YtocgkfoifehcbaaGreat
namespace Go.Proofs.YtocgkfoifehcbaaGreat
set_option linter.all false
open Go.RowKit
namespace Fl
open QSort (wn cG dp dm px rB sb)
open Fw
def eJ(W:ab→Int×Int)(c:Int)(k:ab):bF:=⟨eE k.Style.Basis c (eE k.Style.Width c (aa ((W k).2-gZ (fG k.Style 0 0)))),k.Style.Grow,k.Style.Shrink,eE k.Style.MinWidth c 0,eE k.Style.MaxWidth c 1048576⟩
def dT(c:Int)(k:ab):Int:=gZ (fG k.Style c 0)
def iT(W:ab→Int×Int)(c:Int)(k:ab):Int:=Rs.hyp (eJ W c k)+dT c k
theorem QS(W:ab→Int×Int)(c:Int)(k:ab): -6291456≤iT W c k∧iT W c k≤7340032:=by
 have a:=Rs.HX (eJ W c k);have b:=KG k.Style c;unfold iT dT;omega
theorem Jz{α β:Type}[Inhabited α][Inhabited β](f:α→β){l:List α}{k:Nat}(a:k<l.length):(l.map f).getD k default=f (l.getD k default):=by
 rw[bR (by simpa using a),akt,bR a]
instance:Inhabited bF:=⟨jY⟩
section
variable(K:Kn)(n:Nat)(L:d3)(f:L.length≤19)(c:Int)(W:ab→Int×Int)(env:bw)(a d:Int)(S:ci)(e:∀k∈L,K.gv env.Widths k=some (W k))
include f e
theorem adD(b:ab):∀(m i:Nat),i≤L.length→L.length<m+i →
  nU K n b c env a d S L m (i:Int) (mix i (L.map (eJ W c)) (List.replicate L.length jY)) (mix i (L.map (dT c)) (List.replicate L.length 0)) (mix i (L.map (iT W c)) (List.replicate L.length 0)) =
  if b.Style.Wrap=true then (pL K n (L.map (iT W c)) c).bind fun f=>lY K n c env a d S L (L.map (eJ W c)) (L.map (dT c)) f else lY K n c env a d S L (L.map (eJ W c)) (L.map (dT c)) [0]:=by
 have l:(L.map (eJ W c)).length=(List.replicate L.length jY).length:=by simp
 have g:(L.map (dT c)).length=(List.replicate L.length (0:Int)).length:=by simp
 have o:(L.map (iT W c)).length=(List.replicate L.length (0:Int)).length:=by simp
 have y:(List.replicate L.length jY).length=L.length:=by simp
 have p:(List.replicate L.length (0:Int)).length=L.length:=by simp
 intro m
 induction m with
 | zero=>intro i E F;omega
 | succ m I =>
  intro i E F;simp only[nU,zD];by_cases h:i<L.length
  ·have G:=e _ (f9 h);have J:=C6 (i:=i) l;have v:=C6 (i:=i) g;have M:=C6 (i:=i) o;have z:=Fb l (i:=i) (by omega);have A:=Fb g (i:=i) (by omega);have B:=Fb o (i:=i) (by omega);have t:=ai1 g (i:=i) (by omega);have N:=C6 (i:=i+1) g;rw[Jz (eJ W c) h]at z;rw[Jz (dT c) h]at A t;rw[Jz (iT W c) h]at B;have w:=QS W c (L.getD i default);have C:aa ((i:Int)+1)=((i+1:Nat):Int):=wn (by omega) (by omega);rw[dp (by omega)];have k:∀x,x=(eJ W c (L.getD i default)).aC→vu K n b c env a d S L (i:Int) (mix i (L.map (eJ W c)) (List.replicate L.length jY)) (mix i (L.map (dT c)) (List.replicate L.length 0)) (mix i (L.map (iT W c)) (List.replicate L.length 0)) (dT c (L.getD i default)) (eE (L.getD i default).Style.MinWidth c 0) (eE (L.getD i default).Style.MaxWidth c 1048576) (L.getD i default).Style.Grow (L.getD i default).Style.Shrink (nU K n b c env a d S L m) x =
     (if b.Style.Wrap=true then (pL K n (L.map (iT W c)) c).bind fun f=>lY K n c env a d S L (L.map (eJ W c)) (L.map (dT c)) f else lY K n c env a d S L (L.map (eJ W c)) (L.map (dT c)) [0]):=by
    intro x H;subst H;unfold vu;have D:(⟨(eJ W c (L.getD i default)).aC,(L.getD i default).Style.Grow,(L.getD i default).Style.Shrink,eE (L.getD i default).Style.MinWidth c 0,eE (L.getD i default).Style.MaxWidth c 1048576⟩:bF)=eJ W c (L.getD i default):=rfl;simp only[D,Rs.JI,sb,eR,z,A,J,v,M,N,t,C,y,p,cG (show(0:Int)≤(i:Int)∧(i:Int)<(L.length:Nat) by omega)];rw[bK (n:=Rs.hyp (eJ W c (L.getD i default))+dT c (L.getD i default)) (by unfold iT at w;omega) (by unfold iT at w;omega)];rw[show Rs.hyp (eJ W c (L.getD i default))+dT c (L.getD i default)=iT W c (L.getD i default) from rfl,B];exact I (i+1) (by omega) (by omega)
   simp only[cG (show(0:Int)≤(i:Int)∧(i:Int)<(L.length:Nat) by omega),eR,vf,vj,sb,B3,ge,v,p,A6];rw[show gZ (fG (L.getD i default).Style c 0)=dT c (L.getD i default) from rfl];cases j:(cI (L.getD i default).Style.Basis c).2 with
   | true =>
    simp only[aeJ,jf,sj];exact k _ (by unfold eJ eE;simp only[j,AT])
   | false =>
    simp only[alt,AT];cases u:(cI (L.getD i default).Style.Width c).2 with
    | true =>
     simp only[aeJ,jf,sj];exact k _ (by unfold eJ eE;simp only[j,u,AT,jf,sj])
    | false =>
     simp only[alt,AT];rw[G,sb];exact k _ (by unfold eJ eE;simp only[j,u,jf,sj])
  ·obtain rfl:i=L.length:=by omega
   have q:=EA l;have r:=EA g;have s:=EA o;rw[y]at q;rw[p]at r s;rw[dm (by omega),q,r,s]
end
def kQ(b:ab)(c:Int)(W:ab→Int×Int)(L:d3):ck:=if b.Style.Wrap=true then mr c (L.map (iT W c)) else [0]
def ib(b:ab)(c:Int)(W:ab→Int×Int)(L:d3):List (Nat×ck):=ik c L.length (L.map (eJ W c)) (L.map (dT c)) (kQ b c W L) 0 (kQ b c W L).length
theorem PW(b:ab)(c:Int)(W:ab→Int×Int)(L:d3):St L.length (kQ b c W L):=by
 unfold kQ;split
 ·have:=Xd c (L.map (iT W c));rwa[nx]at this
 ·exact agU _
theorem ahC(N:Nat)(t:20010≤N)(b:ab)(L:d3)(m:L.length≤19)(z:kB (KN N) N b=some L)(c:Int)(y:0≤c∧c≤8388608)(W:ab→Int×Int)(env:bw)(v:∀k∈L,(KN N).gv env.Widths k=some (W k))(a f:Int)(S:ci):
  xU (KN N) N b c env a f S=(dh (fun b w=>(KN N).dw env.Layout b w) (g8 c L (ib b c W L)) a f S).bind fun r=>some ((jm (L.map (dT c)) (ib b c W L) r.1 0 []).1,(jm (L.map (dT c)) (ib b c W L) r.1 0 []).2,r.2.1,r.2.2.1,r.2.2.2):=by
 unfold xU;rw[z,sb];have n:fB (L.length:Int) 40=true:=by simp[fB];omega
 have o:fB (L.length:Int) 8=true:=by simp[fB];omega
 rw[n,o];simp only[ba,sb,eR];have h:=adD (KN N) N L m c W env a f S v b N 0 (v9 _) (by omega);have u:Small 7340032 (L.map (iT W c)):=fun x l=>by
  obtain⟨k,_,rfl⟩:=Do.1 l;have:=QS W c k;omega
 have s:Small 6291456 (L.map (dT c)):=fun x l=>by
  obtain⟨k,_,rfl⟩:=Do.1 l;exact KG k.Style c
 have p:nU (KN N) N b c env a f S L N 0 (List.replicate L.length jY) (List.replicate L.length 0) (List.replicate L.length 0)=_:=h;rw[p,aja (KN N) c (by omega) u (by rw[nx];omega) (by omega)];have g:∀ST,kQ b c W L=ST→lY (KN N) N c env a f S L (L.map (eJ W c)) (L.map (dT c)) ST=(dh (fun b w=>(KN N).dw env.Layout b w) (g8 c L (ib b c W L)) a f S).bind fun r=>some ((jm (L.map (dT c)) (ib b c W L) r.1 0 []).1,(jm (L.map (dT c)) (ib b c W L) r.1 0 []).2,r.2.1,r.2.2.1,r.2.2.2):=fun ST q=>by
  have d:=PW b c W L;have j:=d.len;unfold lY ib;rw[q]at d j⊢;have e:=aaf N t c y env L m (L.map (eJ W c)) (L.map (dT c)) ST (by simp) (by simp) s d N 0 0 [] a f S (v9 _) (by omega) (by simp);simpa using e
 by_cases i:b.Style.Wrap=true
 ·rw[ll i,sb];exact g _ (by unfold kQ;rw[ll i])
 ·rw[kc i];exact g _ (by unfold kQ;rw[kc i])
end Fl
namespace Fl
open QSort (wn cG dp dm px rB sb)
open Fw
def sg(x:Int):Int:=min (max x (-1125899906842624)) 1125899906842624
theorem ais(N:Nat)(a:20010≤N)(l:ek)(sp:Int)(b:l.length≤19):jx (KN N) N l sp=some (Rs.resolve l (sg sp)):=by
 rw[←Rs.mP (n:=N) (lvl:=N) l (sp:=sg sp) b (by unfold sg;omega) (by omega) a];unfold jx;rw[show min (max (sg sp) (-1125899906842624)) 1125899906842624=min (max sp (-1125899906842624)) 1125899906842624 by unfold sg;omega]
def lF(c:Int)(k:ab):Int:=aa ((aa ((aa ((fG k.Style c 0).Border.a0+(fG k.Style c 0).Border.a2))+(fG k.Style c 0).Padding.a0))+(fG k.Style c 0).Padding.a2)
def na(c:Int)(k:ab)(f:ae):bF:=⟨if (k.Style.Basis.Kind == 1)=true then eE k.Style.Basis 0 0 else aa (f.H-lF c k),k.Style.Grow,k.Style.Shrink,0,1048576⟩
def HN(c:Int)(k:ab)(f:ae):Int:=aa (aa (mE f.Before+rE f)+lF c k)
structure oA where
 space:Int
 fU:ck
 items:ek
 inner:ck
 edges:ck
 out:dn
def dM(c:Int)(k:ab)(f:ae)(a:oA):oA :=
 ⟨aa (a.space-HN c k f),a.fU++[Rs.hyp (na c k f)],a.items++[na c k f],a.inner++[lF c k],a.edges++[HN c k f],a.out++[f]⟩
def dv(c:Int):d3→dn→oA→oA
 | k::l,f::r,a=>dv c l r (dM c k f a)
 | _,_,a=>a
structure xk(n:Nat)(a:oA):Prop where
 s:a.fU.length=n
 i:a.items.length=n
 w:a.inner.length=n
 e:a.edges.length=n
 o:a.out.length=n
theorem M8{c:Int}{k:ab}{f:ae}{n:Nat}{a:oA}(h:xk n a):xk (n+1) (dM c k f a) :=
 ⟨by simp[dM,h.s],by simp[dM,h.i],by simp[dM,h.w],by simp[dM,h.e],by simp[dM,h.o]⟩
theorem Cg{c:Int}:∀(l:d3) (r:dn) {n:Nat} {a:oA},l.length=r.length→xk n a→xk (n+l.length) (dv c l r a)∧(dv c l r a).out=a.out++r
 | [],[],n,a,_,h=>⟨h,by simp[dv]⟩
 | k::l,f::r,n,a,e,h=>by
  simp only[ls]at e;obtain⟨b,d⟩:=Cg l r (by omega) (M8 (c:=c) (k:=k) (f:=f) h);refine⟨?_,by simp only[dv];rw[d];simp[dM]⟩;simp only[dv,ls];rw[show n+(l.length+1)=n+1+l.length by omega];exact b
 | [],_::_,_,_,h,_=>by simp at h
 | _::_,[],_,_,h,_=>by simp at h
theorem afz(K:Kn)(n:Nat)(b:ab)(c:Int)(env:bw)(L:d3)(C:L.length≤19):∀(m i:Nat) (a:oA) (f h:Int) (S:ci),i≤L.length→L.length<m+i→xk i a →
  kG K n b c env L m a.space (i:Int) a.fU a.items a.inner a.edges a.out f h S =
   (dh (fun b w=>K.dw env.Layout b w) ((L.drop i).map fun k=>(k,c)) f h S).bind fun r =>
    if (b.Style.Height.Kind == 1)=true then (jx K n (dv c (L.drop i) r.1 a).items (dv c (L.drop i) r.1 a).space).bind fun d=>jQ K n (dv c (L.drop i) r.1 a).inner (dv c (L.drop i) r.1 a).edges (dv c (L.drop i) r.1 a).out r.2.1 r.2.2.1 r.2.2.2 d
    else jQ K n (dv c (L.drop i) r.1 a).inner (dv c (L.drop i) r.1 a).edges (dv c (L.drop i) r.1 a).out r.2.1 r.2.2.1 r.2.2.2 (dv c (L.drop i) r.1 a).fU:=by
 intro m
 induction m with
 | zero=>intro i a f h S u v;omega
 | succ m A =>
  intro i a f h S u v e;simp only[kG,A8];by_cases j:i<L.length
  ·rw[drop_at' j];simp only[fw j,AT,dK j,ba,Int.toNat_natCast,th,dh];cases D:K.dw env.Layout (L.getD i default) c f h S with
   | none=>rfl
   | some q =>
    have B:oM K n b c env L a.space (i:Int) a.fU a.items a.inner a.edges a.out q (lF c (L.getD i default)) (L.getD i default).Style.Grow (L.getD i default).Style.Shrink (kG K n b c env L m) (na c (L.getD i default) q.1).aC=kG K n b c env L m (dM c (L.getD i default) q.1 a).space ((i+1:Nat):Int) (dM c (L.getD i default) q.1 a).fU (dM c (L.getD i default) q.1 a).items (dM c (L.getD i default) q.1 a).inner (dM c (L.getD i default) q.1 a).edges (dM c (L.getD i default) q.1 a).out q.2.1 q.2.2.1 q.2.2.2:=by
     unfold oM;have t:(⟨(na c (L.getD i default) q.1).aC,(L.getD i default).Style.Grow,(L.getD i default).Style.Shrink,0,1048576⟩:bF)=na c (L.getD i default) q.1:=rfl;have l:aa (((a.edges++[aa (aa (mE q.1.Before+rE q.1)+lF c (L.getD i default))]).length:Int)-1)=(i:Int):=by
      rw[ne,e.e];simp only[ls,rv];rw[bK (by omega) (by omega)];omega
     simp only[t,Ft,ME,sb,Rs.JI,l,List.length_singleton];rw[cY (by rw[e.i];omega) (by omega),ba,cY (by rw[e.w];omega) (by omega),ba,cY (by rw[e.e];omega) (by omega),ba,dK (show i<(a.edges++[aa (aa (mE q.1.Before+rE q.1)+lF c (L.getD i default))]).length by simp[e.e]),ba,cY (by rw[e.s];omega) (by omega),ba,cY (by rw[e.o];omega) (by omega),ba,fg (by omega)];rw[show List.getD (a.edges++[aa (aa (mE q.1.Before+rE q.1)+lF c (L.getD i default))]) ((i:Int)).toNat default=HN c (L.getD i default) q.1 by rw[Int.toNat_natCast];exact K0 e.e.symm];rfl
    simp only[sb,vf,B3];have o:=B.trans (A (i+1) (dM c (L.getD i default) q.1 a) q.2.1 q.2.2.1 q.2.2.2 (by omega) (by omega) (M8 e));have p:∀x,x=(na c (L.getD i default) q.1).aC→oM K n b c env L a.space (i:Int) a.fU a.items a.inner a.edges a.out q (lF c (L.getD i default)) (L.getD i default).Style.Grow (L.getD i default).Style.Shrink (kG K n b c env L m) x=oM K n b c env L a.space (i:Int) a.fU a.items a.inner a.edges a.out q (lF c (L.getD i default)) (L.getD i default).Style.Grow (L.getD i default).Style.Shrink (kG K n b c env L m) (na c (L.getD i default) q.1).aC:=fun x z=>by rw[z]
    have g:((dh (fun b w=>K.dw env.Layout b w) ((L.drop (i+1)).map fun k=>(k,c)) q.2.1 q.2.2.1 q.2.2.2).bind fun y=>some (q.1::y.1,y.2)).bind (fun r =>
      if (b.Style.Height.Kind == 1)=true then (jx K n (dv c (L.getD i default::L.drop (i+1)) r.1 a).items (dv c (L.getD i default::L.drop (i+1)) r.1 a).space).bind fun d=>jQ K n (dv c (L.getD i default::L.drop (i+1)) r.1 a).inner (dv c (L.getD i default::L.drop (i+1)) r.1 a).edges (dv c (L.getD i default::L.drop (i+1)) r.1 a).out r.2.1 r.2.2.1 r.2.2.2 d
      else jQ K n (dv c (L.getD i default::L.drop (i+1)) r.1 a).inner (dv c (L.getD i default::L.drop (i+1)) r.1 a).edges (dv c (L.getD i default::L.drop (i+1)) r.1 a).out r.2.1 r.2.2.1 r.2.2.2 (dv c (L.getD i default::L.drop (i+1)) r.1 a).fU) =
      (dh (fun b w=>K.dw env.Layout b w) ((L.drop (i+1)).map fun k=>(k,c)) q.2.1 q.2.2.1 q.2.2.2).bind (fun r =>
      if (b.Style.Height.Kind == 1)=true then (jx K n (dv c (L.drop (i+1)) r.1 (dM c (L.getD i default) q.1 a)).items (dv c (L.drop (i+1)) r.1 (dM c (L.getD i default) q.1 a)).space).bind fun d=>jQ K n (dv c (L.drop (i+1)) r.1 (dM c (L.getD i default) q.1 a)).inner (dv c (L.drop (i+1)) r.1 (dM c (L.getD i default) q.1 a)).edges (dv c (L.drop (i+1)) r.1 (dM c (L.getD i default) q.1 a)).out r.2.1 r.2.2.1 r.2.2.2 d
      else jQ K n (dv c (L.drop (i+1)) r.1 (dM c (L.getD i default) q.1 a)).inner (dv c (L.drop (i+1)) r.1 (dM c (L.getD i default) q.1 a)).edges (dv c (L.drop (i+1)) r.1 (dM c (L.getD i default) q.1 a)).out r.2.1 r.2.2.1 r.2.2.2 (dv c (L.drop (i+1)) r.1 (dM c (L.getD i default) q.1 a)).fU):=by
     cases dh (fun b w=>K.dw env.Layout b w) ((L.drop (i+1)).map fun k=>(k,c)) q.2.1 q.2.2.1 q.2.2.2<;>rfl
    rw[g];cases s:((L.getD i default).Style.Basis.Kind == 1) with
    | true =>
     simp only[AT];exact(p (eE (L.getD i default).Style.Basis 0 0) (by simp only[na,s,AT])).trans o
    | false =>
     simp only[jf,sj];exact(p (aa (q.1.H-lF c (L.getD i default))) (by simp only[na,s,jf,sj])).trans o
  ·simp only[fA (show L.length≤i by omega),jf,sj];rw[show L.drop i=[] from mo (by omega)];simp only[By,dh,sb,dv]
end Fl
namespace Fl
open QSort (wn cG dp dm px rB sb)
open Fw
def jq:ck→ck→ck→dn→Int→dn×Int
 | z::Z,i::I,e::E,f::a,y=>(({ f with H:=aa (z+i),Y:=aa (y+mE f.Before) }:ae)::(jq Z I E a (aa (y+aa (z+e)))).1,(jq Z I E a (aa (y+aa (z+e)))).2)
 | _,_,_,_,y=>([],y)
theorem Jn:∀(a:dn) (Z I E:ck) (y:Int),(jq Z I E a y).1.length≤a.length∧∀f∈(jq Z I E a y).1,∃g∈a,f.Kids=g.Kids
 | [],Z,I,E,y=>by
  have e:jq Z I E [] y=([],y):=by cases Z<;>cases I<;>cases E<;>rfl
  rw[e];exact⟨lc _,fun f b=>by cases b⟩
 | f::a,[],I,E,y=>⟨v9 _,fun f b=>by cases b⟩
 | f::a,z::Z,[],E,y=>⟨v9 _,fun f b=>by cases b⟩
 | f::a,z::Z,i::I,[],y=>⟨v9 _,fun f b=>by cases b⟩
 | f::a,z::Z,i::I,e::E,y=>by
  obtain⟨k,j⟩:=Jn a Z I E (aa (y+aa (z+e)));simp only[jq,ls];refine⟨by omega,fun q c=>?_⟩;rcases ol.1 c with rfl|c
  ·exact⟨f,ti,rfl⟩
  ·obtain⟨g,d,h⟩:=j q c;exact⟨g,pt _ d,h⟩
theorem Wp(K:Kn)(n:Nat)(I E:ck)(a:dn)(b h:Int)(S:ci)(Z:ck)(o:Z.length=a.length)(l:I.length=a.length)(k:E.length=a.length)(p:a.length≤1000):∀(m:Nat) (A R:dn) (y:Int),A.length+R.length=a.length→R.length<m →
  wz K n I E a b h S Z m y (A.length:Int) (A++R)=some (A++(jq (Z.drop A.length) (I.drop A.length) (E.drop A.length) R y).1,(jq (Z.drop A.length) (I.drop A.length) (E.drop A.length) R y).2,b,h,S):=by
 intro m
 induction m with
 | zero=>intro A R y _ d;omega
 | succ m j =>
  intro A R y c d;simp only[wz,zr];cases R with
  | nil =>
   have e:A.length=a.length:=by simpa using c
   simp only[fA (show a.length≤A.length by omega),jf,sj];rw[mo (by omega)];simp[jq]
  | cons f R =>
   simp only[ls]at c d;have i:A.length<a.length:=by omega
   rw[drop_at' (show A.length<Z.length by omega),drop_at' (show A.length<I.length by omega),drop_at' (show A.length<E.length by omega)];simp only[jq];have g:=j (A++[({ f with H:=aa (Z.getD A.length default+I.getD A.length default),Y:=aa (y+mE f.Before) }:ae)]) R (aa (y+aa (Z.getD A.length default+E.getD A.length default))) (by simp;omega) (by omega);simp only[rl,aka,ne,ls,rv,If]at g;simp only[fw i,AT,Int.toNat_natCast,IR,IZ,dK (show A.length<Z.length by omega),dK (show A.length<I.length by omega),dK (show A.length<E.length by omega),ne,ls,dK (show A.length<A.length+(R.length+1) by omega),ba,sb,Ft,fg (show A.length<1000000000 by omega)];exact g
def oD(b:ab)(c:Int)(L:d3)(r:dn):dn×Int :=
 let a:=dv c L r ⟨max (eE b.Style.Height 0 0) 0,[],[],[],[],[]⟩
 jq (if (b.Style.Height.Kind == 1)=true then Rs.resolve a.items (sg a.space) else a.fU) a.inner a.edges a.out 0
theorem ajM(N:Nat)(o:20010≤N)(b:ab)(L:d3)(m:L.length≤19)(p:kB (KN N) N b=some L)(c:Int)(env:bw)(f i:Int)(S:ci):
  AE (KN N) N b c env f i S=(dh (fun b w=>(KN N).dw env.Layout b w) (L.map fun k=>(k,c)) f i S).bind fun r=>some ((oD b c L r.1).1,(oD b c L r.1).2,r.2.1,r.2.2.1,r.2.2.2):=by
 unfold AE;rw[B3,sb,p,sb];have h:=afz (KN N) N b c env L m N 0 ⟨max (eE b.Style.Height 0 0) 0,[],[],[],[],[]⟩ f i S (v9 _) (by omega) ⟨rfl,rfl,rfl,rfl,rfl⟩;have l:kG (KN N) N b c env L N (max (eE b.Style.Height 0 0) 0) 0 [] [] [] [] [] f i S=_:=h;rw[l,BY];cases q:dh (fun b w=>(KN N).dw env.Layout b w) (L.map fun k=>(k,c)) f i S with
 | none=>rfl
 | some r =>
  have g:=tp q;rw[nx]at g;obtain⟨d,t⟩:=Cg (c:=c) L r.1 (n:=0) (a:=⟨max (eE b.Style.Height 0 0) 0,[],[],[],[],[]⟩) g.symm ⟨rfl,rfl,rfl,rfl,rfl⟩;simp only[sb];unfold oD;simp only;generalize dv c L r.1 ⟨max (eE b.Style.Height 0 0) 0,[],[],[],[],[]⟩=a at *;have j:∀Z:ck,Z.length=L.length→jQ (KN N) N a.inner a.edges a.out r.2.1 r.2.2.1 r.2.2.2 Z=some ((jq Z a.inner a.edges a.out 0).1,(jq Z a.inner a.edges a.out 0).2,r.2.1,r.2.2.1,r.2.2.2):=fun Z s=>by
   unfold jQ;have e:=Wp (KN N) N a.inner a.edges a.out r.2.1 r.2.2.1 r.2.2.2 Z (by rw[d.o];omega) (by rw[d.w,d.o]) (by rw[d.e,d.o]) (by rw[d.o];omega) N [] a.out 0 (by simp) (by rw[d.o];omega);simpa using e
  split
  ·rw[ais N o _ _ (by rw[d.i];omega),sb];exact j _ (by rw[Rs.HV,d.i];omega)
  ·exact j _ (by rw[d.s];omega)
def oi(z:bZ)(f:ae):ae:=rV { f with X:=aa (f.X+aa (z.Border.a3+z.Padding.a3)),Y:=aa (f.Y+aa (z.Border.a0+z.Padding.a0)) } z.Content
theorem aej(z:bZ)(f:ae):(oi z f).Kids=f.Kids:=by unfold oi;rw[NK]
theorem YI(K:Kn)(n:Nat)(b:ab)(z:bZ)(j k:bg)(L:dn)(p:L.length≤10000)(a i w h:Int)(S:ci):∀(m:Nat) (A R:dn),A.length+R.length=L.length→R.length<m →
  vW K n b z j k L a i S w h m (A.length:Int) (A++R)=some (⟨1,b.Node,z.Margin.a3,0,w,h,0,⟨#[]⟩,b.Style,j,k,false,A++R.map (oi z)⟩,a,i,S):=by
 intro m
 induction m with
 | zero=>intro A R _ d;omega
 | succ m o =>
  intro A R c d;simp only[vW,xG];cases R with
  | nil =>
   have e:A.length=L.length:=by simpa using c
   simp only[fA (show L.length≤A.length by omega),jf,sj,By]
  | cons f R =>
   simp only[ls]at c d;have l:A.length<L.length:=by omega
   have g:=o (A++[oi z f]) R (by simp;omega) (by omega);simp only[rl,aka,ne,ls,rv,If]at g;simp only[fw l,AT,Int.toNat_natCast,IR,IZ,ne,ls,dK (show A.length<A.length+(R.length+1) by omega),ba,sb,Rr,fg (show A.length<1000000000 by omega),th];exact g
def Ae(b:ab)(z:bZ)(a:dn)(h:Int):ae :=
 ⟨1,b.Node,z.Margin.a3,0,aa (aa (aa (aa (z.Content+z.Border.a1)+z.Border.a3)+z.Padding.a1)+z.Padding.a3),aa (aa (aa (aa ((if (b.Style.Height.Kind == 1)=true then max (eE b.Style.Height 0 0) 0 else max h 0)+z.Border.a0)+z.Border.a2)+z.Padding.a0)+z.Padding.a2),0,⟨#[]⟩,b.Style,iE z.Margin.a0,iE z.Margin.a2,false,a.map (oi z)⟩
theorem Om(K:Kn)(n:Nat)(b:ab)(z:bZ)(h:Int)(L:dn)(g:L.length≤10000)(i:L.length<n)(a c:Int)(S:ci):tf K n b z (iE z.Margin.a0) (iE z.Margin.a2) h L a c S=some (Ae b z L h,a,c,S):=by
 have f:∀x,vX K n b z (iE z.Margin.a0) (iE z.Margin.a2) L a c S x=some (⟨1,b.Node,z.Margin.a3,0,aa (aa (aa (aa (z.Content+z.Border.a1)+z.Border.a3)+z.Padding.a1)+z.Padding.a3),aa (aa (aa (aa (x+z.Border.a0)+z.Border.a2)+z.Padding.a0)+z.Padding.a2),0,⟨#[]⟩,b.Style,iE z.Margin.a0,iE z.Margin.a2,false,L.map (oi z)⟩,a,c,S):=fun x=>by
  unfold vX;simp only[sb];have e:=YI K n b z (iE z.Margin.a0) (iE z.Margin.a2) L g a c (aa (aa (aa (aa (z.Content+z.Border.a1)+z.Border.a3)+z.Padding.a1)+z.Padding.a3)) (aa (aa (aa (aa (x+z.Border.a0)+z.Border.a2)+z.Padding.a0)+z.Padding.a2)) S n [] L (by simp) (by omega);simpa using e
 unfold tf Ae;by_cases d:(b.Style.Height.Kind == 1)=true
 ·rw[ll d,ll d,B3,sb,f]
 ·rw[kc d,kc d,f]
end Fl
def eo:io→Nat
 | []=>0
 | p::r=>bQ p.1+eo r
theorem Tm:∀l m,eo (l++m)=eo l+eo m
 | [],m=>by simp[eo]
 | p::r,m=>by simp only[agP,eo,Tm r m];omega
theorem I3:∀l,l.length≤eo l
 | []=>lc _
 | p::r=>by simp only[eo];have:=I3 r;grind[g9]
theorem ags{l m}(h:l.Perm m):cL l=cL m:=by
 induction h with
 | nil=>rfl
 | cons x _ c=>grind[cL]
 | swap x y l=>grind[cL]
 | trans _ _ a b=>grind
theorem Ra p:∀l:d3,cL (l.filter p)≤cL l
 | []=>lc _
 | b::r=>by
  have:=Ra p r
  grind[cL]
namespace Fl
open QSort (wn cG dp dm px rB sb)
open Fw
theorem aa0 b z:bQ (nF b z)=bQ b:=by rw[gx,gx b];rfl
theorem MH c L:∀Z j,j+Z.length≤L.length→eo (jp c L j Z)+cL (L.drop (j+Z.length))=cL (L.drop j)
 | [],j,_=>by simp[jp,eo]
 | z::Z,j,h=>by
  simp only[ls]at h⊢;have:=MH c L Z (j+1) (by omega);rw[drop_at' (show j<L.length by omega)]
  grind[jp,eo,cL,aa0]
theorem H5{c:Int}{L:d3}{d:ek}{ED ST:ck}(l:d.length=L.length)(f:St L.length ST){k:Nat}(j:k<ST.length):∃a b:Nat,(ST++[(L.length:Int)]).getD k default=(a:Int)∧(ST++[(L.length:Int)]).getD (k+1) default=(b:Int)∧a≤b∧b≤L.length∧(o6 c L.length d ED ST k).1=a∧(o6 c L.length d ED ST k).2.length=b-a:=by
 obtain⟨a,b,e,g,h,i⟩:=f.get k j;refine⟨a,b,e,g,h,i,by unfold o6;rw[e];rfl,?_⟩;unfold o6;rw[e,g,Rs.HV];exact E4 d h (by omega)
theorem R5(c:Int)(L:d3)(d:ek)(ED ST:ck)(i:d.length=L.length)(b:St L.length ST):∀(m k:Nat),k+m=ST.length→0<m→∀e:Nat,(ST++[(L.length:Int)]).getD k default=(e:Int)→eo (g8 c L (ik c L.length d ED ST k m))≤cL (L.drop e)
 | 0,k,_,h,_,_=>by omega
 | m+1,k,h,_,e,p=>by
  obtain⟨a,f,l,n,s,t,o,g⟩:=H5 (c:=c) (ED:=ED) i b (show k<ST.length by omega);have j:a=e:=by rw[p]at l;omega
  subst j;simp only[ik,g8,Tm,o];have q:=MH c L (o6 c L.length d ED ST k).2 a (by rw[g];omega);rw[g,show a+(f-a)=f by omega]at q;by_cases r:m=0
  ·subst r;simp only[ik,g8,eo];omega
  ·have:=R5 c L d ED ST i b m (k+1) (by omega) (by omega) f n;omega
theorem Qj(c:Int)(L:d3)(d:ek)(ED ST:ck)(e:d.length=L.length)(b:St L.length ST):∀(m k:Nat),k+m≤ST.length→∀p∈g8 c L (ik c L.length d ED ST k m),p.2=c∧∃q∈L,∃z,p.1=nF q z
 | 0,k,_,p,a=>by cases a
 | m+1,k,h,p,a=>by
  obtain⟨f,r,g,i,j,l,n,o⟩:=H5 (c:=c) (ED:=ED) e b (show k<ST.length by omega);simp only[ik]at a;rcases nw.1 a with a|a
  ·exact RJ (by omega) a
  ·exact Qj c L d ED ST e b m (k+1) (by omega) p a
theorem EX(ED:ck):∀(b:List (Nat×ck)) (r:dn) (y:Int) (a:dn),(b.map fun l=>l.2.length).sum≤r.length→(jm ED b r y a).1.length≤a.length+r.length∧∀f∈(jm ED b r y a).1,f∈a∨∃g∈r,f.Kids=g.Kids
 | [],r,y,a,_=>⟨by simp[jm],fun f c=>.inl c⟩
 | l::b,r,y,a,h=>by
  simp only[th]at h;simp only[jm];have i:=JX y (i9 ED l.1 l.2) (r.take l.2.length) (0,0,a) (by grind[Ke]);obtain⟨d,e⟩:=EX ED b (r.drop l.2.length) (aa (y+(ju y (i9 ED l.1 l.2) (r.take l.2.length) (0,0,a)).2.1)) (ju y (i9 ED l.1 l.2) (r.take l.2.length) (0,0,a)).2.2 (by grind)
  grind
theorem D7 c L:∀a:List (Nat×ck),(g8 c L a).length=(a.map fun l=>l.2.length).sum
 | []=>rfl
 | l::a=>by simp only[g8,ne,Kp,D7 c L a,th,akU]
theorem Ng{d}{b}{z}{L r:dn}{h}(i:L.length≤3000)(e:∀f∈L,∃g∈r,f.Kids=g.Kids)(j:∀f∈r,DF d f):DF (d+1) (Ae b z L h):=by
 refine⟨by show(L.map (oi z)).length≤3000;grind,fun k a=>?_⟩;have c:k∈L.map (oi z):=a
 grind[sJ,aej]
theorem Yl(b:ab)(hb:b.Kids.length≤19)(w:Int)(W:ab→Int×Int):
  ∃(P:io) (G:dn→ae),(∀p∈P,p.2=(ct b.Style w).Content∧∃k∈b.Kids,p.1=k∨∃z,p.1=nF k z)∧eo P≤cL b.Kids∧(∀(r:dn) (d:Nat),r.length=P.length→r.length≤2000→(∀f∈r,DF d f)→DF (d+1) (G r)) ∧
   ∀(N:Nat),20010≤N→∀env:bw,(∀k∈b.Kids,(KN N).gv env.Widths k=some (W k))→∀(j s:Int) (S:ci),oH (KN N) N b w env j s S =
    (dh (fun b w=>(KN N).dw env.Layout b w) P j s S).bind fun r=>some (G r.1,r.2.1,r.2.2.1,r.2.2.2):=by
 obtain⟨d,u,_⟩:=Od.mP b.Kids (by omega) (lvl:=20010) (n:=20010) (by omega) (by omega);have a0:=u.len;have U:(cA b d).length≤19:=by rw[s4];omega
 have C:cL (cA b d)≤cL b.Kids:=by rw[ags (YH u)];exact Ra _ _
 have B:∀N,20010≤N→kB (KN N) N b=some (cA b d):=fun N y=>by
  obtain⟨d2,J,v⟩:=Od.mP b.Kids (by omega) (lvl:=N) (n:=N) (by omega) (by omega);rw[J.uniq u]at v;exact Rh hb u v (by omega)
 have hc:=DJ b.Style w;by_cases o:(b.Style.Direction == 1)=true
 ·refine⟨(cA b d).map fun k=>(k,(ct b.Style w).Content),fun r=>Ae b (ct b.Style w) (oD b (ct b.Style w).Content (cA b d) r).1 (oD b (ct b.Style w).Content (cA b d) r).2,fun p O=>?_,?_,fun r e I v t=>?_,fun N y env V j s S=>?_⟩
  ·obtain⟨k,F,rfl⟩:=Do.1 O;exact⟨rfl,k,BJ u F,.inl rfl⟩
  ·have:∀l:d3,eo (l.map fun k=>(k,(ct b.Style w).Content))=cL l:=by
    intro l;induction l with
    | nil=>rfl
    | cons x r R=>simp only[th,eo,cL,R]
   rw[this];exact C
  ·rw[nx]at I;obtain⟨_,H⟩:=Cg (c:=(ct b.Style w).Content) (cA b d) r (n:=0) (a:=⟨max (eE b.Style.Height 0 0) 0,[],[],[],[],[]⟩) I.symm ⟨rfl,rfl,rfl,rfl,rfl⟩;unfold oD;simp only;have L:=Jn (dv (ct b.Style w).Content (cA b d) r ⟨max (eE b.Style.Height 0 0) 0,[],[],[],[],[]⟩).out;rw[H]at L;rw[H];exact Ng (r:=r) (aaN (L _ _ _ _).1 (by simp;omega)) (by simpa using (L _ _ _ _).2) t
  ·unfold oH;have g:∀x,nr (KN N) N x=some (iE x):=fun x=>rfl;rw[BT,sb,g,sb,g,sb,ll o,ajM N y b (cA b d) U (B N y) _ env j s S];cases M:dh (fun b w=>(KN N).dw env.Layout b w) ((cA b d).map fun k=>(k,(ct b.Style w).Content)) j s S with
   | none=>rfl
   | some r =>
    have i:=tp M;rw[nx]at i;obtain⟨_,H⟩:=Cg (c:=(ct b.Style w).Content) (cA b d) r.1 (n:=0) (a:=⟨max (eE b.Style.Height 0 0) 0,[],[],[],[],[]⟩) i.symm ⟨rfl,rfl,rfl,rfl,rfl⟩;have X:(oD b (ct b.Style w).Content (cA b d) r.1).1.length≤19:=by
     unfold oD;simp only;refine aaN (Jn _ _ _ _ _).1 ?_;rw[H];simp;omega
    simp only[sb];rw[Om (KN N) N b _ _ _ (by omega) (by omega)]
 ·have K:((cA b d).map (eJ W (ct b.Style w).Content)).length=(cA b d).length:=nx _;have h:=PW b (ct b.Style w).Content W (cA b d);refine⟨g8 (ct b.Style w).Content (cA b d) (ib b (ct b.Style w).Content W (cA b d)),fun r=>Ae b (ct b.Style w) (jm ((cA b d).map (dT (ct b.Style w).Content)) (ib b (ct b.Style w).Content W (cA b d)) r 0 []).1 (jm ((cA b d).map (dT (ct b.Style w).Content)) (ib b (ct b.Style w).Content W (cA b d)) r 0 []).2,fun p O=>?_,?_,fun r e I v t=>?_,fun N y env V j s S=>?_⟩
  ·obtain⟨J,q,v,z,A⟩:=Qj _ _ _ _ _ K h _ 0 (by omega) p O;exact⟨J,q,BJ u v,.inr ⟨z,A⟩⟩
  ·refine aaN ?_ C;by_cases T:0<(kQ b (ct b.Style w).Content W (cA b d)).length
   ·obtain⟨D,to,Y,_⟩:=h.get 0 T;have:=R5 (ct b.Style w).Content (cA b d) ((cA b d).map (eJ W (ct b.Style w).Content)) ((cA b d).map (dT (ct b.Style w).Content)) _ K h _ 0 (by omega) T D Y;refine aaN this ?_;have e:=Dt ((cA b d).take D) ((cA b d).drop D);rw[aj9]at e;omega
   ·unfold ib;rw[show(kQ b (ct b.Style w).Content W (cA b d)).length=0 by omega];simp[ik,g8,eo]
  ·rw[D7]at I;obtain⟨A,h4⟩:=EX ((cA b d).map (dT (ct b.Style w).Content)) (ib b (ct b.Style w).Content W (cA b d)) r 0 [] (by omega);exact Ng (r:=r) (by simp at A;omega) (fun f hf=>by
    rcases h4 f hf with E|E
    ·cases E
    ·exact E) t
  ·unfold oH;have g:∀x,nr (KN N) N x=some (iE x):=fun x=>rfl;rw[BT,sb,g,sb,g,sb,kc o,ahC N y b (cA b d) U (B N y) _ hc W env (fun k F=>V k (BJ u F)) j s S];cases M:dh (fun b w=>(KN N).dw env.Layout b w) (g8 (ct b.Style w).Content (cA b d) (ib b (ct b.Style w).Content W (cA b d))) j s S with
   | none=>rfl
   | some r =>
    have i:=tp M;have Q:(g8 (ct b.Style w).Content (cA b d) (ib b (ct b.Style w).Content W (cA b d))).length≤2000:=by
     rw[D7];have:∀(m k:Nat),k+m≤(kQ b (ct b.Style w).Content W (cA b d)).length→((ik (ct b.Style w).Content (cA b d).length ((cA b d).map (eJ W (ct b.Style w).Content)) ((cA b d).map (dT (ct b.Style w).Content)) (kQ b (ct b.Style w).Content W (cA b d)) k m).map fun l=>l.2.length).sum≤20*m:=by
      intro m
      induction m with
      | zero=>intro k _;simp[ik]
      | succ m R =>
       intro k F;obtain⟨D,to,_,_,g3,g4,_,Z⟩:=H5 (c:=(ct b.Style w).Content) (ED:=(cA b d).map (dT (ct b.Style w).Content)) K h (show k<_ by omega);have:=R (k+1) (by omega);simp only[ik,th,akU,Z];omega
     have E:=this _ 0 (Nat.le_of_eq (If _));have:=h.len;unfold ib;omega
    rw[D7]at i Q;obtain⟨A,_⟩:=EX ((cA b d).map (dT (ct b.Style w).Content)) (ib b (ct b.Style w).Content W (cA b d)) r.1 0 [] (by omega);simp only[rv,If]at A;simp only[sb];rw[Om (KN N) N b _ _ _ (by omega) (by omega)]
end Fl
structure Lx(s:aP):Prop where
 pos:s.Position≠2
 wi:s.Width=cj
 mn:s.MinWidth=cj
 mx:s.MaxWidth=cj
 ma:s.Margin=⟨cj,cj,cj,cj⟩
 pa:s.Padding=⟨cj,cj,cj,cj⟩
 bo:s.Border=⟨0,0,0,0⟩
mutual
/-- A block whose kids are texts,or blocks;their numbers run on. -/
def RB:Int→ab→Prop
 | lo,⟨k,n,s,_,_,_,a⟩=>k=1∧n=lo∧Lx s∧a.length≤20∧((fW a∧(∀q∈a,q.Text.size≤90)∧(∀q∈a,q.Kids=[]))∨xX (lo+1) a)
def xX:Int→d3→Prop
 | _,[]=>True
 | lo,b::r=>RB lo b∧xX (lo+bQ b) r
end
theorem V8{lo}{b}(h:RB lo b):b.Kind=1∧b.Node=lo∧Lx b.Style∧b.Kids.length≤20∧((fW b.Kids∧(∀q∈b.Kids,q.Text.size≤90)∧(∀q∈b.Kids,q.Kids=[]))∨xX (lo+1) b.Kids):=by
 cases b;grind[RB]
structure uB w old lo hi(bs:d3) fre(us us':Int)(S T:ci):Prop where
 ok:∀m∈T,aeO w m∧lo≤m.Box.Node∧m.Box.Node<hi
 len:T.length≤bs.length
 first:(∀m∈S,m.Box.Node<lo)→us'=us∧T.length=bs.length∧∀k∈bs,∃m∈T,m.Box=k
 again:(∀k,im k old=true→k.Kind=1→11≤k.Node→∃m∈S,m.Width=w∧gp m.Box k=true)→T.length≤fre
theorem uB.nil{w}{b}{lo d}{a}{c}{S}:uB w b lo d [] a c c S [] :=
 ⟨fun m f=>(by grind),lc _,fun _=>⟨rfl,rfl,fun k e=>(by grind)⟩,fun _=>v9 _⟩
theorem uB.app{w:Int}{e:ab}{lo d l:Int}{n cs:d3}{f g:Nat}{q o p:Int}{S T U:ci}(h:uB w e lo d n f q o S T)(i:uB w e d l cs g o p (S++T) U)(z:lo≤d)(y:d≤l):uB w e lo l (n++cs) (f+g) q p S (T++U):=by
 refine⟨fun m hm=>?_,?_,fun j=>?_,fun j=>?_⟩
 ·rcases nw.1 hm with hm|hm
  ·obtain⟨a,b,c⟩:=h.ok m hm;exact⟨a,b,by omega⟩
  ·obtain⟨a,b,c⟩:=i.ok m hm;exact⟨a,by omega,c⟩
 ·have:=h.len;have:=i.len;simp only[ne];omega
 ·obtain⟨r,s,t⟩:=h.first j;obtain⟨u,v,x⟩:=i.first (fun m hm=>by
   rcases nw.1 hm with hm|hm
   ·have:=j m hm;omega
   ·exact(h.ok m hm).2.2)
  grind
 ·have a:=h.again j;have b:=i.again (fun k A B q3=>by grind)
  grind
theorem Ny{l}(a:∀q∈l,q.Text.size≤90):ex 1 l≤l.length*91:=by
 have:∀{l:d3},(∀q∈l,q.Text.size≤90)→(l.map fun b=>1+b.Text.size+ex 0 b.Kids).sum≤l.length*91:=by
  intro l
  induction l with
  | nil=>grind
  | cons b r c =>
   grind[ex]
 exact this a
noncomputable section
def dH:eb→d3
 | []=>[]
 | e::r=>bif e.Kind == 3 then e.Box::dH r else dH r
theorem Nb{e}(h:(e.Kind == 3)=true) r:dH (e::r)=e.Box::dH r:=by
 show(bif e.Kind == 3 then e.Box::dH r else dH r)=_
 grind
theorem A1{e}(h:(e.Kind == 3)=false) r:dH (e::r)=dH r:=by
 show(bif e.Kind == 3 then e.Box::dH r else dH r)=_
 grind
theorem J4 o:∀l a,dH (l.drop (jl o a l))=dH l
 | [],_=>rfl
 | b::r,a=>by
  unfold jl;cases c:(b.Kind == 1&&(b.Of == o&&!iy a b)) with
  | false=>rfl
  | true =>
   simp only[akW,al1];rw[J4 o r b];simp only[iO]at c;exact(A1 (by grind) r).symm
def nz(w:Int):ay:={ cV with Width:=w }
section
variable{K:Kn}{n:Nat}{v2:bw}{L:eb}{W:ab→Int×Int}
theorem Z2(r:∀e∈L,jR e)(H:L.length≤2000)(A:8010≤n)(i:Nat)(d:ck)(c:d5)(g:Bool)(C:Int→ck→d5→Option (d5×ck))(F:i<L.length):∀(m x:Nat),i<x→x≤L.length→L.length<m+x →
  qf K n v2 L (i:Int) d c g C m (x:Int)=kY K n v2 L i c g C ((x+jl (L.getD i default).Of (L.getD (x-1) default) (L.drop x):Nat):Int) d (eI (sl L i (x+jl (L.getD i default).Of (L.getD (x-1) default) (L.drop x)))):=by
 have j:∀y:Nat,i<y→y≤L.length→∀(D:Int→Option (d5×ck)),lS K n v2 L (i:Int) d c g (y:Int) C D false=kY K n v2 L i c g C (y:Int) d (eI (sl L i y)):=fun y o k D=>by
  unfold lS;have s:List.drop i (List.take y L)=sl L i y:=rfl;have f:=D9 (L:=L) (a:=i) (b:=y) k;rw[kc (by simp),show cC (i:Int) (y:Int) L.length=true by simp only[cC,iO,q7];omega,ba];simp only[Int.toNat_natCast];rw[s,Kl (by intro e;rw[e]at f;simp at f;omega) (by omega) (fun e z=>r e (Bf z)) A];rfl
 intro m
 induction m with
 | zero=>intro x o k u;omega
 | succ m E =>
  intro x o k u;show wj K n v2 L i d c g C (qf K n v2 L i d c g C m) x=_;unfold wj;by_cases l:x<L.length
  ·have q:L.drop x=L.getD x default::L.drop (x+1):=by rw[l3 l,bR l]
   have p:L.getD x default∈L:=by rw[bR l];exact q6 _
   have v:L.getD (x-1) default∈L:=by rw[bR (by omega)];exact q6 _
   have t:aa ((x:Int)-1)=((x-1:Nat):Int):=by rw[bK (by omega) (by omega)];omega
   rw[ll (by simpa using l),dj (by omega) (by omega)];simp only[ba,Int.toNat_natCast,t];rw[q];unfold jl;have h:∀{b:Bool},b=false→lS K n v2 L (i:Int) d c g (x:Int) C (qf K n v2 L i d c g C m) false=kY K n v2 L i c g C ((x+(bif b then jl (L.getD i default).Of (L.getD x default) (L.drop (x+1))+1 else 0):Nat):Int) d (eI (sl L i (x+(bif b then jl (L.getD i default).Of (L.getD x default) (L.drop (x+1))+1 else 0)))):=fun {b} p=>by
    subst p;exact j x o k _
   cases G:((L.getD x default).Kind == 1) with
   | false=>rw[kc (by simp)];exact h rfl
   | true =>
    rw[ll rfl];cases B:((L.getD x default).Of == (L.getD i default).Of) with
    | false=>rw[kc (by simp)];exact h rfl
    | true =>
     rw[ll rfl,dj (by omega) (by omega),ba,uq K (by omega) (r _ v).ch (r _ p).ch];simp only[iN];cases w:iy (L.getD (x-1) default) (L.getD x default) with
     | true=>exact h rfl
     | false =>
      unfold lS;rw[show(!false)=true from rfl,ll rfl,bK (by omega) (by omega),show(x:Int)+1=((x+1:Nat):Int) by omega,E (x+1) (by omega) (by omega) (by omega)];simp only[ahK,alF,akW];rw[show x+1+jl (L.getD i default).Of (L.getD x default) (L.drop (x+1))=x+(jl (L.getD i default).Of (L.getD x default) (L.drop (x+1))+1) by omega]
  ·rw[kc (by simpa using l),mo (by omega)];unfold jl;exact j x o k _
theorem I2(i:Nat) c a g C(b:a.length≤1000000) y x:kY K n v2 L i a g C y c x=C y c (a++[runM x (L.getD i default) g]):=by
 unfold kY;simp only[iN];rw[cY (by grind) (by omega),ba];rfl
theorem XD(t:∀e∈L,jR e)(j:∀e∈L,e.Kind=1∨e.Kind=2∨e.Kind=3)(F:L.length≤2000)(G:8010≤n)(u:∀e∈L,e.Kind=3→K.gv v2.Widths e.Box=some (W e.Box)):∀(m i:Nat) (d:ck) (a:d5),i≤L.length→L.length<m+i→a.length≤i→d.length≤i →
  pN K n v2 L m (i:Int) d a=some (a++cM (fun b=>nz (W b).1) m (dI L i) (L.drop i),d++(dH (L.drop i)).map fun b=>(W b).2):=by
 intro m
 induction m with
 | zero=>intro i d a A B;omega
 | succ m w =>
  intro i d a A B J l;show tw K n v2 L (pN K n v2 L m) i d a=_;unfold tw;by_cases h:i<L.length
  ·have o:L.drop i=L.getD i default::L.drop (i+1):=by rw[l3 h,bR h]
   have r:L.getD i default∈L:=by rw[bR h];exact q6 _
   rw[ll (by simpa using h),dj (by omega) (by omega)];simp only[ba,Int.toNat_natCast];rw[o];(try rw[o]at l);have v:aa ((i:Int)+1)=((i+1:Nat):Int):=by rw[bK (by omega) (by omega)];omega
   have f:dI L (i+1)=some (L.getD i default):=by unfold dI;rw[kc (by omega),ahK]
   have key:∀g,g=rL (dI L i) (L.getD i default)→qr K n v2 L (i:Int) d a (pN K n v2 L m) g=some (a++cM (fun b=>nz (W b).1) (m+1) (dI L i) (L.getD i default::L.drop (i+1)),d++(dH (L.getD i default::L.drop (i+1))).map fun b=>(W b).2):=by
    intro g D;unfold qr cM;simp only[iN,Int.toNat_natCast];rw[←D];cases y:((L.getD i default).Kind == 2) with
    | true =>
     have c:dH (L.getD i default::L.drop (i+1))=dH (L.drop (i+1)):=A1 (by rw[show(L.getD i default).Kind=2 by simpa using y];rfl) _
     (try rw[c]);(try rw[c]at l)
     rw[ll rfl,I2 i d a g _ (by omega),v,← f];simp only[akW];have:=w (i+1) d (a++[runM { cV with Forced:=true } (L.getD i default) g]) (by omega) (by omega) (by simp;omega) (by omega);exact this.trans (by simp[rl])
    | false =>
     rw[kc (by simp)];cases q:((L.getD i default).Kind == 3) with
     | true =>
      have c:dH (L.getD i default::L.drop (i+1))=(L.getD i default).Box::dH (L.drop (i+1)):=Nb q _
      (try rw[c]);(try rw[c]at l)
      rw[ll rfl,← f];simp only[akW,akG];unfold Bv;rw[u _ r (by simpa using q)];simp only[iN];rw[cY (by simp;omega) (by omega),ba];simp only[iN];rw[v,I2 i _ a g _ (by omega)];have:=w (i+1) (d++[(W (L.getD i default).Box).2]) (a++[runM (nz (W (L.getD i default).Box).1) (L.getD i default) g]) (by omega) (by omega) (by simp;omega) (by simp;omega);refine this.trans ?_;simp[rl]
     | false =>
      have M:(L.getD i default).Kind=1:=by
       have:=j _ r;have H:(L.getD i default).Kind≠2:=by simpa using y
       have I:(L.getD i default).Kind≠3:=by simpa using q
       omega
      have c:dH (L.getD i default::L.drop (i+1))=dH ((L.drop (i+1)).drop (jl (L.getD i default).Of (L.getD i default) (L.drop (i+1)))):=by
       rw[J4];exact A1 q _
      (try rw[c]);(try rw[c]at l)
      rw[kc (by simp),v,Z2 t F G i d a g _ h n (i+1) (by omega) (by omega) (by omega),ahK];simp only[akG];have E:=CP (L.getD i default).Of (L.drop (i+1)) (L.getD i default);rw[ahP]at E;generalize jl (L.getD i default).Of (L.getD i default) (L.drop (i+1))=k at *;rw[I2 i d a g _ (by omega),Bm h];have p:dI L (i+1+k)=some (L.getD (i+k) default):=by unfold dI;rw[kc (by omega)];congr 2;omega
      (try rw[aky]at l)
      rw[GY (by omega),← p,aky];have:=w (i+1+k) d (a++[runM (eI (L.getD i default::(L.drop (i+1)).take k)) (L.getD i default) g]) (by omega) (by omega) (by simp;omega) (by omega);exact this.trans (by simp[rl])
   by_cases x:i=0
   ·rw[kc (by simp;omega)];exact key false (by unfold dI;rw[ll x];rfl)
   ·have C:L.getD (i-1) default∈L:=by rw[bR (by omega)];exact q6 _
    have z:aa ((i:Int)-1)=((i-1:Nat):Int):=by rw[bK (by omega) (by omega)];omega
    have p:dI L i=some (L.getD (i-1) default):=by unfold dI;rw[kc x]
    rw[ll (by simp;omega),z,dj (by omega) (by omega)];simp only[ba,Int.toNat_natCast];by_cases j:((L.getD (i-1) default).Kind != 2)=true
    ·rw[ll j,uq K (by omega) (t _ C).ch (t _ r).ch];simp only[iN];exact key _ (by rw[p];show _=((L.getD (i-1) default).Kind != 2&&!iy (L.getD (i-1) default) (L.getD i default));rw[j];rfl)
    ·rw[kc j];have s:((L.getD (i-1) default).Kind != 2)=false:=by simpa using j
     exact key false (by rw[p];show _=((L.getD (i-1) default).Kind != 2&&!iy (L.getD (i-1) default) (L.getD i default));rw[s];rfl)
  grind[cM,dH]
theorem aew(r:∀e∈L,jR e)(H:L.length≤2000)(A:8010≤n)(i:Nat)(at_:Int)(d:ck)(c:d5)(g:Bool)(C:Int→Int→ck→d5→Option (d5×Int×ck))(F:i<L.length):∀(m x:Nat),i<x→x≤L.length→L.length<m+x →
  pe K n L (i:Int) at_ d c g C m (x:Int)=k8 K n L i c g C ((x+jl (L.getD i default).Of (L.getD (x-1) default) (L.drop x):Nat):Int) at_ d (eI (sl L i (x+jl (L.getD i default).Of (L.getD (x-1) default) (L.drop x)))):=by
 have j:∀y:Nat,i<y→y≤L.length→∀(D:Int→Option (d5×Int×ck)),l4 K n L (i:Int) at_ d c g (y:Int) C D false=k8 K n L i c g C (y:Int) at_ d (eI (sl L i y)):=fun y o k D=>by
  unfold l4;have s:List.drop i (List.take y L)=sl L i y:=rfl;have f:=D9 (L:=L) (a:=i) (b:=y) k;rw[kc (by simp),show cC (i:Int) (y:Int) L.length=true by simp only[cC,iO,q7];omega,ba];simp only[Int.toNat_natCast];rw[s,Kl (by intro e;rw[e]at f;simp at f;omega) (by omega) (fun e z=>r e (Bf z)) A];rfl
 intro m
 induction m with
 | zero=>intro x o k u;omega
 | succ m E =>
  intro x o k u;show sA K n L i at_ d c g C (pe K n L i at_ d c g C m) x=_;unfold sA;by_cases l:x<L.length
  ·have q:L.drop x=L.getD x default::L.drop (x+1):=by rw[l3 l,bR l]
   have p:L.getD x default∈L:=by rw[bR l];exact q6 _
   have v:L.getD (x-1) default∈L:=by rw[bR (by omega)];exact q6 _
   have t:aa ((x:Int)-1)=((x-1:Nat):Int):=by rw[bK (by omega) (by omega)];omega
   rw[ll (by simpa using l),dj (by omega) (by omega)];simp only[ba,Int.toNat_natCast,t];rw[q];unfold jl;have h:∀{b:Bool},b=false→l4 K n L (i:Int) at_ d c g (x:Int) C (pe K n L i at_ d c g C m) false=k8 K n L i c g C ((x+(bif b then jl (L.getD i default).Of (L.getD x default) (L.drop (x+1))+1 else 0):Nat):Int) at_ d (eI (sl L i (x+(bif b then jl (L.getD i default).Of (L.getD x default) (L.drop (x+1))+1 else 0)))):=fun {b} p=>by
    subst p;exact j x o k _
   cases G:((L.getD x default).Kind == 1) with
   | false=>rw[kc (by simp)];exact h rfl
   | true =>
    rw[ll rfl];cases B:((L.getD x default).Of == (L.getD i default).Of) with
    | false=>rw[kc (by simp)];exact h rfl
    | true =>
     rw[ll rfl,dj (by omega) (by omega),ba,uq K (by omega) (r _ v).ch (r _ p).ch];simp only[iN];cases w:iy (L.getD (x-1) default) (L.getD x default) with
     | true=>exact h rfl
     | false =>
      unfold l4;rw[show(!false)=true from rfl,ll rfl,bK (by omega) (by omega),show(x:Int)+1=((x+1:Nat):Int) by omega,E (x+1) (by omega) (by omega) (by omega)];simp only[ahK,alF,akW];rw[show x+1+jl (L.getD i default).Of (L.getD x default) (L.drop (x+1))=x+(jl (L.getD i default).Of (L.getD x default) (L.drop (x+1))+1) by omega]
  ·rw[kc (by simpa using l),mo (by omega)];unfold jl;exact j x o k _
theorem JJ(i:Nat)(at_:Int)(b:ck)(a:d5)(g:Bool)(C:Int→Int→ck→d5→Option (d5×Int×ck))(c:a.length≤1000000)(y:Int)(x:ay):k8 K n L (i:Int) a g C y at_ b x=C y at_ b (a++[runM x (L.getD i default) g]):=by
 unfold k8;simp only[iN,Int.toNat_natCast];rw[cY (by simp;omega) (by omega),ba];rfl
theorem W1(u:∀e∈L,jR e)(l:∀e∈L,e.Kind=1∨e.Kind=2∨e.Kind=3)(O:L.length≤2000)(P:8010≤n): ∀(m i:Nat) (at_:Int) (c:ck) (a:d5),i≤L.length→L.length<m+i→a.length≤i→(0≤at_∧at_≤i∧c.drop at_.toNat=(dH (L.drop i)).map fun b=>(W b).2) →
  ∃z,qC K n L m (i:Int) at_ c a=some (a++cM (fun b=>nz (W b).2) m (dI L i) (L.drop i),z):=by
 intro m
 induction m with
 | zero=>intro i at_ c a G H;omega
 | succ m w =>
  intro i at_ c a G H U h;show ∃z,tn K n L (qC K n L m) i at_ c a=some (a++cM (fun b=>nz (W b).2) (m+1) (dI L i) (L.drop i),z);unfold tn;by_cases j:i<L.length
  ·have p:L.drop i=L.getD i default::L.drop (i+1):=by rw[l3 j,bR j]
   have A:L.getD i default∈L:=by rw[bR j];exact q6 _
   rw[ll (by simpa using j),dj (by omega) (by omega)];simp only[ba,Int.toNat_natCast];rw[p];(try rw[p]at h);have v:aa ((i:Int)+1)=((i+1:Nat):Int):=by rw[bK (by omega) (by omega)];omega
   have f:dI L (i+1)=some (L.getD i default):=by unfold dI;rw[kc (by omega),ahK]
   have key:∀g,g=rL (dI L i) (L.getD i default)→∃z,qn K n L (i:Int) at_ c a (qC K n L m) g=some (a++cM (fun b=>nz (W b).2) (m+1) (dI L i) (L.getD i default::L.drop (i+1)),z):=by
    intro g M;unfold qn cM;simp only[iN,Int.toNat_natCast];rw[←M];cases B:((L.getD i default).Kind == 2) with
    | true =>
     have d:dH (L.getD i default::L.drop (i+1))=dH (L.drop (i+1)):=A1 (by rw[show(L.getD i default).Kind=2 by simpa using B];rfl) _
     (try rw[d]);(try rw[d]at h)
     rw[ll rfl,JJ i at_ c a g _ (by omega),v,← f];simp only[akW];have:=w (i+1) at_ c (a++[runM { cV with Forced:=true } (L.getD i default) g]) (by omega) (by omega) (by simp;omega) ⟨h.1,by omega,h.2.2⟩;obtain⟨z,q⟩:=this;exact⟨z,q.trans (by simp[rl])⟩
    | false =>
     rw[kc (by simp)];cases x:((L.getD i default).Kind == 3) with
     | true =>
      have d:dH (L.getD i default::L.drop (i+1))=(L.getD i default).Box::dH (L.drop (i+1)):=Nb x _
      (try rw[d]);(try rw[d]at h)
      rw[ll rfl,← f];simp only[akW,akG];obtain⟨Q,R,s⟩:=h;have o:at_.toNat<c.length:=by
       have:=congrArg List.length s;rw[ahP]at this;simp at this;omega
      have J:c.drop at_.toNat=c.getD at_.toNat default::c.drop (at_.toNat+1):=by rw[l3 o,bR o]
      rw[J,th]at s;injection s with C D
      have F:aa (at_+1)=at_+1:=bK (by omega) (by omega);unfold Ci;rw[F,show aa (at_+1-1)=at_ by rw[bK (by omega) (by omega)];omega,dj (by omega) (by omega),ba];simp only[iN];rw[v,JJ i _ _ a g _ (by omega),C];obtain⟨z,q⟩:=w (i+1) (at_+1) c (a++[runM (nz (W (L.getD i default).Box).2) (L.getD i default) g]) (by omega) (by omega) (by simp;omega) ⟨by omega,by omega,by rw[show(at_+1).toNat=at_.toNat+1 by omega];exact D⟩;exact⟨z,q.trans (by simp[rl])⟩
     | false =>
      have V:(L.getD i default).Kind=1:=by
       have:=l _ A;have S:(L.getD i default).Kind≠2:=by simpa using B
       have T:(L.getD i default).Kind≠3:=by simpa using x
       omega
      have d:dH (L.getD i default::L.drop (i+1))=dH ((L.drop (i+1)).drop (jl (L.getD i default).Of (L.getD i default) (L.drop (i+1)))):=by
       rw[J4];exact A1 x _
      (try rw[d]);(try rw[d]at h)
      rw[kc (by simp),v,aew u O P i at_ c a g _ j n (i+1) (by omega) (by omega) (by omega),ahK];simp only[akG];have N:=CP (L.getD i default).Of (L.drop (i+1)) (L.getD i default);rw[ahP]at N;generalize jl (L.getD i default).Of (L.getD i default) (L.drop (i+1))=k at *;rw[JJ i at_ c a g _ (by omega),Bm j];have r:dI L (i+1+k)=some (L.getD (i+k) default):=by unfold dI;rw[kc (by omega)];congr 2;omega
      (try rw[aky]at h)
      rw[GY (by omega),← r,aky];have:=w (i+1+k) at_ c (a++[runM (eI (L.getD i default::(L.drop (i+1)).take k)) (L.getD i default) g]) (by omega) (by omega) (by simp;omega) ⟨h.1,by omega,h.2.2⟩;obtain⟨z,q⟩:=this;exact⟨z,q.trans (by simp[rl])⟩
   by_cases y:i=0
   ·rw[kc (by simp;omega)];exact key false (by unfold dI;rw[ll y];rfl)
   ·have I:L.getD (i-1) default∈L:=by rw[bR (by omega)];exact q6 _
    have E:aa ((i:Int)-1)=((i-1:Nat):Int):=by rw[bK (by omega) (by omega)];omega
    have r:dI L i=some (L.getD (i-1) default):=by unfold dI;rw[kc y]
    rw[ll (by simp;omega),E,dj (by omega) (by omega)];simp only[ba,Int.toNat_natCast];by_cases l:((L.getD (i-1) default).Kind != 2)=true
    ·rw[ll l,uq K (by omega) (u _ I).ch (u _ A).ch];simp only[iN];exact key _ (by rw[r];show _=((L.getD (i-1) default).Kind != 2&&!iy (L.getD (i-1) default) (L.getD i default));rw[l];rfl)
    ·rw[kc l];have t:((L.getD (i-1) default).Kind != 2)=false:=by simpa using l
     exact key false (by rw[r];show _=((L.getD (i-1) default).Kind != 2&&!iy (L.getD (i-1) default) (L.getD i default));rw[t];rfl)
  ·rw[kc (by simpa using j),mo (by omega)];exact⟨(at_,c),by simp[cM]⟩
end
end
noncomputable section
def nl(l:ew):Nat→Int→Nat→Int
 | 0,x,_=>x
 | m+1,x,a=>if a<l.length then nl l m (max x (fQ (sl l a (gr l (a+1))))) (gr l (a+1)) else x
def ef(l:ew)(i:Nat):Nat:=min l.length (i+((l.drop i).takeWhile fun r=>!r.f).length+1)
theorem Vu(l:ew)(i:Nat):ef l i≤l.length:=by unfold ef;omega
theorem HF{l:ew}{i:Nat}(h:i<l.length):i<ef l i:=by unfold ef;omega
theorem YN{l:ew}{i:Nat}(h:i<l.length)(a:l[i].f=true):ef l i=i+1:=by
 unfold ef;rw[l3 h,akD,kc (by simp[a])];simp;omega
theorem aaJ{l:ew}{i:Nat}(h:i+1=l.length):ef l i=i+1:=by
 have:=HF (l:=l) (i:=i) (by omega);have:=Vu l i;omega
theorem YK{l:ew}{i:Nat}(h:i+1<l.length)(a:l[i].f=false):ef l i=ef l (i+1):=by
 unfold ef;rw[l3 (show i<l.length by omega),akD,ll (by simp[a])];simp;omega
def lN(l:ew):Nat→Int→Nat→Int
 | 0,x,_=>x
 | m+1,x,a=>if a<l.length then lN l m (max x (fQ (sl l a (ef l a)))) (ef l a) else x
theorem aib(l:ew):∀(m b:Nat) (x:Int) (a:Nat),l.length<m+a→l.length<b+a→nl l m x a=nl l b x a:=by
 intro m
 induction m with
 | zero =>
  intro b x a h c;cases b with
  | zero=>rfl
  | succ b=>unfold nl;rw[kc (by omega)]
 | succ m d =>
  intro b x a h c;cases b with
  | zero=>unfold nl;rw[kc (by omega)]
  | succ b =>
   unfold nl;split
   ·have:=mu l (a+1);exact d b _ _ (by omega) (by omega)
   ·rfl
theorem abg(l:ew):∀(m b:Nat) (x:Int) (a:Nat),l.length<m+a→l.length<b+a→lN l m x a=lN l b x a:=by
 intro m
 induction m with
 | zero =>
  intro b x a h c;cases b with
  | zero=>rfl
  | succ b=>unfold lN;rw[kc (by omega)]
 | succ m e =>
  intro b x a h c;cases b with
  | zero=>unfold lN;rw[kc (by omega)]
  | succ b =>
   unfold lN;split
   ·rename_i d;have:=HF d;exact e b _ _ (by omega) (by omega)
   ·rfl
section
variable{K:Kn}{n:Nat}{V4:d5×ck}{V5:d5×Int×ck}
theorem abb(y:V5.1.length<n)(x:(V5.1.length:Int)≤1000000)(c b:Int)(a:Nat)(C:Int→Int→Option em):∀(m e:Nat),1≤e→a<e→e≤V5.1.length→V5.1.length<m+e →
  vx K n V5 c b (a:Int) C m (e:Int)=C (max b (fQ (sl (V5.1.map vI) a (ef (V5.1.map vI) (e-1))))) ((ef (V5.1.map vI) (e-1):Nat):Int):=by
 have f:∀(e:Nat) (D:Int→Option em),a<e→e≤V5.1.length→qM K n V5 c b (a:Int) (e:Int) C D false=C (max b (fQ (sl (V5.1.map vI) a e))) (e:Int):=fun e D j g=>by
  unfold qM Af;have u:List.drop a (List.take e V5.1)=sl V5.1 a e:=rfl;have v:=yF V5.1 a e;rw[kc (by simp),show cC (a:Int) (e:Int) V5.1.length=true by simp only[cC,iO,q7];omega,ba];simp only[Int.toNat_natCast];rw[u,BE (by omega) (by omega),Fx];simp only[iN];by_cases r:fQ (sl (V5.1.map vI) a e)>b
  ·rw[ll (by simpa using r),show max b (fQ (sl (V5.1.map vI) a e))=fQ (sl (V5.1.map vI) a e) by omega]
  ·rw[kc (by simpa using r),show max b (fQ (sl (V5.1.map vI) a e))=b by omega]
 intro m
 induction m with
 | zero=>intro e j g h t;omega
 | succ m w =>
  intro e j g h t;show uh K n V5 c b a C (vx K n V5 c b a C m) e=_;unfold uh;have q:=yd (L:=V5.1) (k:=e-1) (by omega);have s:aa ((e:Int)-1)=((e-1:Nat):Int):=by rw[bK (by omega) (by omega)];omega
  by_cases o:e<V5.1.length
  ·rw[ll (by simpa using o),s,dj (by omega) (by omega),ba,Int.toNat_natCast];cases p:(V5.1.getD (e-1) default).Forced with
   | true =>
    have d:=YN (l:=V5.1.map vI) (i:=e-1) (by simp;omega) (by rw[q];exact p);rw[d,show e-1+1=e by omega,show(!true)=false from rfl];exact f e _ g h
   | false =>
    have d:=YK (l:=V5.1.map vI) (i:=e-1) (by simp;omega) (by rw[q];exact p);rw[d,show e-1+1=(e+1)-1 by omega,show(!false)=true from rfl];unfold qM;rw[ll rfl,show aa ((e:Int)+1)=((e+1:Nat):Int) by rw[bK (by omega) (by omega)];omega];exact w (e+1) (by omega) (by omega) (by omega) (by omega)
  ·rw[kc (by simpa using o)];have d:=aaJ (l:=V5.1.map vI) (i:=e-1) (by simp;omega);rw[d,show e-1+1=e by omega];exact f e _ g h
theorem YR(j:V5.1.length<n)(h:(V5.1.length:Int)≤1000000)(b:Int):∀(m a:Nat) (c:Int),a≤V5.1.length→V5.1.length<m+a→sX K n V5 b m c (a:Int)=some (b,lN (V5.1.map vI) m c a):=by
 intro m
 induction m with
 | zero=>intro a c f g;omega
 | succ m k =>
  intro a c f g;show vH K n V5 b (sX K n V5 b m) c a=_;unfold vH lN;by_cases d:a<V5.1.length
  ·rw[ll (by simpa using d),ll (by simpa using d),show aa ((a:Int)+1)=((a+1:Nat):Int) by rw[bK (by omega) (by omega)];omega,abb j h b c a _ n (a+1) (by omega) (by omega) (by omega) (by omega),ahK];have o:=HF (l:=V5.1.map vI) (i:=a) (by simpa using d);have e:=Vu (V5.1.map vI) a;rw[nx]at e;exact k _ _ e (by omega)
  ·rw[kc (by simpa using d),kc (by simpa using d)]
theorem Z9(j:V4.1.length<n)(o:(V4.1.length:Int)≤1000000)(q:V5.1.length<n)(k:(V5.1.length:Int)≤1000000):∀(m a:Nat) (b:Int),a≤V4.1.length→V4.1.length<m+a→uZ K n V4 V5 m b (a:Int)=some (nl (V4.1.map vI) m b a,lN (V5.1.map vI) n 0 0):=by
 intro m
 induction m with
 | zero=>intro a b g h;omega
 | succ m f =>
  intro a b g h;show tI K n V4 V5 (uZ K n V4 V5 m) b a=_;unfold tI nl;by_cases c:a<V4.1.length
  ·have d:=wP (l:=V4.1.map vI) (i:=a+1) (by simp;omega);have p:=mu (V4.1.map vI) (a+1);rw[nx]at d;have r:List.drop a (List.take (gr (V4.1.map vI) (a+1)) V4.1)=sl V4.1 a (gr (V4.1.map vI) (a+1)):=rfl;have s:=yF V4.1 a (gr (V4.1.map vI) (a+1));rw[ll (by simpa using c),ll (by simpa using c),JZ (by omega) (by omega) j (by omega)];simp only[iN,Int.toNat_natCast];rw[show cC (a:Int) ((gr (V4.1.map vI) (a+1):Nat):Int) V4.1.length=true by simp only[cC,iO,q7];omega,ba,r,BE (by omega) (by omega),Fx];simp only[iN];unfold w7;by_cases e:fQ (sl (V4.1.map vI) a (gr (V4.1.map vI) (a+1)))>b
   ·rw[ll (by simpa using e),show max b (fQ (sl (V4.1.map vI) a (gr (V4.1.map vI) (a+1))))=fQ (sl (V4.1.map vI) a (gr (V4.1.map vI) (a+1))) by omega];exact f _ _ d (by omega)
   ·rw[kc (by simpa using e),show max b (fQ (sl (V4.1.map vI) a (gr (V4.1.map vI) (a+1))))=b by omega];exact f _ _ d (by omega)
  ·rw[kc (by simpa using c),kc (by simpa using c)];exact YR q k b n 0 0 (by omega) (by omega)
end
end
noncomputable section
theorem Wh:∀L s,fW L→(∀x∈s.2,x.Kind=1∨x.Kind=2)→∀x∈(vM 1 L s).2,x.Kind=1∨x.Kind=2:=by
 intro L
 induction L with
 | nil=>intro s _ a;exact a
 | cons b r d =>
  intro s e a;rw[kW,akr,← kW];have f:=e b ti;refine d _ (fun c g=>e c (by grind)) ?_;unfold gU;rw[f];cases nB b with
  | false=>grind
  | true=>exact Dc (P:=fun x=>x.Kind=1∨x.Kind=2) b _ (fun _ _ _=>.inl rfl) (.inr rfl) (fun _=>.inl rfl) (fun _=>.inl rfl) _ _ FU a
def kU(a:d3):d5:=rq (fun _=>nz 0) (fi 1 a)
def zq(a:d3):Int×Int:=(nl ((kU a).map vI) ((kU a).length+1) 0 0,lN ((kU a).map vI) ((kU a).length+1) 0 0)
theorem afy{a:d3}(h:fW a)(t:a.length≤1000)(u:∀b∈a,b.Text.size≤1000)(y:ex 1 a≤2000){N:Nat}(w:9001≤N)(s:aP)(env:bw):zG (KN N) N a s env=some (zq a):=by
 have l:=Du 1 a;have k:∀e∈fi 1 a,e.Kind=1∨e.Kind=2∨e.Kind=3:=fun e g=>by
  rcases Wh a (0,[]) h (fun x v=>by cases v) e g with q|q
  ·exact .inl q
  ·exact .inr (.inl q)
 have j:=Lg h t u;have c:=XD (K:=KN N) (n:=N) (v2:=env) (W:=fun _=>(0,0)) (Cy 1 a) k (by omega) (by omega) (fun e g i=>absurd i (CG h e g)) N 0 [] [] (by omega) (by omega) (by simp) (by simp);obtain⟨z,f⟩:=W1 (K:=KN N) (n:=N) (W:=fun _=>(0,0)) (Cy 1 a) k (by omega) (by omega) N 0 0 ((dH (fi 1 a)).map fun b=>0) [] (by omega) (by omega) (by simp) ⟨by omega,by omega,by simp⟩;rw[BY,show dI (fi 1 a) 0=none from rfl,Io]at c f;rw[Io]at c;rw[O9 _ N ((fi 1 a).length+1) _ _ (by omega) (by omega)]at c f;have m:vT (KN N) N a env []=some (kU a,(dH (fi 1 a)).map fun b=>0):=by
  unfold vT;rw[Ky j (by omega) (by omega),iN];exact c
 have o:vN (KN N) N a 0 ((dH (fi 1 a)).map fun b=>0)=some (kU a,z):=by
  unfold vN;rw[Ky j (by omega) (by omega),iN];exact f
 have r:(kU a).length≤2000:=by
  unfold kU rq;have i:=Tq (fun _:ab=>nz 0) ((fi 1 a).length+1) none (fi 1 a);omega
 unfold zG;have d:vT (KN N) N a env ([]:ck)=_:=m;rw[d,iN,show vN (KN N) N a 0 (kU a,(dH (fi 1 a)).map fun b=>(0:Int)).2=_ from o,iN];have p:=Z9 (K:=KN N) (n:=N) (V4:=(kU a,(dH (fi 1 a)).map fun b=>(0:Int))) (V5:=(kU a,z)) (by simp only;omega) (by simp only;omega) (by simp only;omega) (by simp only;omega) N 0 0 (v9 _) (by simp only;omega);unfold zq;rw[←aib _ N _ 0 0 (by rw[nx];omega) (by rw[nx];omega),← abg _ N _ 0 0 (by rw[nx];omega) (by rw[nx];omega)];exact p
mutual
/-- Blocks and flex containers,and blocks of texts. -/
def GB:ab→Prop
 | ⟨k,_,s,t,_,_,a⟩=>(k=1∨k=6)∧(s.Position≠2∧t.size=0)∧a.length≤19∧((k=1∧fW a∧(∀q∈a,q.Text.size≤90)∧∀q∈a,q.Kids=[])∨gY a)
def gY:d3→Prop
 | []=>True
 | b::r=>GB b∧gY r
end
theorem ia{b:ab}:GB b↔((b.Kind=1∨b.Kind=6)∧(b.Style.Position≠2∧b.Text.size=0)∧b.Kids.length≤19∧((b.Kind=1∧fW b.Kids∧(∀q∈b.Kids,q.Text.size≤90)∧∀q∈b.Kids,q.Kids=[])∨gY b.Kids)):=by
 cases b;simp only[GB]
theorem kL:∀{l},gY l→∀k∈l,GB k
 | [],_,k,a=>by grind
 | b::r,h,k,a=>by
  simp only[gY]at h;rcases ol.1 a with rfl|a
  ·grind
  ·exact kL h.2 k a
theorem aj2{b} z(h:GB b):GB (Fl.nF b z):=by rw[ia]at h⊢;exact h
def C5(s:Nat)(b:ab)(v:Int×Int):Prop:=∀N,20010+s≤N→∀c a,qE (KN N) N b (dk N c a)=some v
theorem Q8{s}{l:d3}(h:∀k∈l,∃v,C5 s k v):∃W:ab→Int×Int,∀k∈l,C5 s k (W k):=by
 classical
 refine⟨fun k=>if h:∃v,C5 s k v then h.choose else (0,0),fun k a=>?_⟩
 grind
def CO(W:ab→Int×Int):d3→Int→Int→Int×Int
 | [],a,b=>(dQ a,dQ b)
 | k::r,a,b=>CO W r (max a (W k).1) (max b (W k).2)
theorem aeS(K:Kn)(n:Nat)(env:bw)(v6:d3×Bool)(h:v6.1.length≤1000)(W:ab→Int×Int)(f:∀k∈v6.1,K.gv env.Widths k=some (W k)):∀(m i:Nat) (a b:Int),i≤v6.1.length→v6.1.length<m+i→rY K n env v6 m a b i=some (CO W (v6.1.drop i) a b):=by
 intro m
 induction m with
 | zero=>intro i a b d e;omega
 | succ m g =>
  intro i a b d e;simp only[rY,xo];by_cases c:i<v6.1.length
  ·rw[drop_at' c];simp only[fw c,AT,dK c,ba,Int.toNat_natCast,f _ (f9 c),iN,CO];rw[fg (by omega)];exact g (i+1) _ _ (by omega) (by omega)
  ·simp only[fA (show v6.1.length≤i by omega)];rw[mo (by omega)];rfl
def oB(b:ab)(W:ab→Int×Int):d3→Int→Int→Int×Int
 | [],x,y=>(x,y)
 | k::r,x,y=>if (b.Style.Direction == 1)=true then oB b W r (max x (W k).1) (max y (W k).2) else if b.Style.Wrap=true then oB b W r (max x (W k).1) (aa (y+(W k).2)) else oB b W r (aa (x+(W k).1)) (aa (y+(W k).2))
theorem ahi(K:Kn)(n:Nat)(b:ab)(env:bw)(s:aP)(L:d3)(h:L.length≤1000)(W:ab→Int×Int)(f:∀k∈L,K.gv env.Widths k=some (W k)):∀(m i:Nat) (x y:Int),i≤L.length→L.length<m+i→vo K n b env s L m x y i=pD K n s (oB b W (L.drop i) x y).1 (oB b W (L.drop i) x y).2:=by
 intro m
 induction m with
 | zero=>intro i x y d e;omega
 | succ m g =>
  intro i x y d e;simp only[vo,wN];by_cases a:i<L.length
  ·rw[drop_at' a];have c:=fun x y=>g (i+1) x y (by omega) (by omega);simp only[fw a,AT,dK a,ba,Int.toNat_natCast,f _ (f9 a),iN,oB,A4,z9,fg (show i<1000000000 by omega)];split
   ·exact c _ _
   ·split
    ·exact c _ _
    ·exact c _ _
  ·simp only[fA (show L.length≤i by omega),jf,sj];rw[mo (by omega)];rfl
theorem Rz s x y:∃v,∀K n,pD K n s x y=some v :=
 ⟨(gZ (fG s 0 (jd s 0 (min (max x 0) 1048576))),gZ (fG s 0 (jd s 0 (min (max y 0) 1048576)))),fun K n=>by
  have a:∀q,iA K n q 1048576=some (min (max q 0) 1048576):=fun q=>rfl
  simp_all[pD,xz,D4,vf,vj]⟩
theorem Sg:∀(s:Nat) (b:ab),bQ b≤s→GB b→∃v,C5 s b v
 | 0,b,h,_=>by have:=g9 b;omega
 | s+1,b,h,Q=>by
  obtain⟨g,U,S,l⟩:=ia.1 Q;by_cases C:b.Kind=1∧fW b.Kids∧∀q∈b.Kids,q.Text.size≤90
  ·-- texts
   obtain⟨t,A,H⟩:=C;have I:=Ny H;have f:eA b=b.Kids:=akQ.2 fun k g=>by unfold gL;rw[A k g];rfl
   have F:(eA b).any eM=false:=by
    rw[f,alB];intro k g;unfold eM;rw[A k g];decide
   have m:∃p:Int×Int,∀N,20010≤N→∀c a,lL (KN (N+1)) (N+1) b (dk (N+1) c a)=some p:=by
    by_cases j:(cI (gf b.Style).Width 0).2=true
    ·exact⟨_,fun N i c a=>by unfold lL;rw[uD,iN,ge,iN,ll j,sI,iN]⟩
    ·refine⟨(dQ (zq b.Kids).1,dQ (zq b.Kids).2),fun N i c a=>?_⟩;unfold lL;rw[uD,iN,ge,iN,kc j,BR (KN (N+1)) (N+1) (C1 N) b (by omega) (by omega),iN];simp only[F,alt,AT];have O:(KN (N+1)).wK (dk (N+1) c a).Spread (eA b) b.Style=some (zq b.Kids):=by
      show Bc (KN N) N (eA b) b.Style (dk N c a)=_;unfold Bc;rw[f,afy A (by omega) (fun k r=>by have:=H k r;omega) (by omega) (by omega)];rfl
     rw[O,iN,sI,iN,sI,iN]
   obtain⟨p,o⟩:=m;refine⟨(gZ (fG (gf b.Style) 0 (jd (gf b.Style) 0 p.1)),gZ (fG (gf b.Style) 0 (jd (gf b.Style) 0 p.2))),fun N i c a=>?_⟩;obtain⟨M,rfl⟩:∃M,N=M+1:=⟨N-1,by omega⟩;unfold qE;rw[show(b.Kind == 6)=false by rw[t];rfl,show(b.Kind == 7)=false by rw[t];rfl];simp only[jf,sj];unfold wU;simp only[o M (by omega) c a,uD,D4,vf,vj,iN]
  ·have B:gY b.Kids:=by
    rcases l with l|l
    ·exact absurd ⟨l.1,l.2.1,l.2.2.1⟩ C
    ·exact l
   obtain⟨W,P⟩:=Q8 (s:=s) (fun k g=>Sg s k (by have:=oc g;omega) (kL B k g));have u:∀N,20010+s≤N→∀c a,∀k∈b.Kids,(KN (N+1)).gv (dk (N+1) c a).Widths k=some (W k):=fun N i c a k g=>P k g N i c a;rcases g with t|L
   ·-- a block of blocks
    have m:∃p:Int×Int,∀N,20010+s≤N→∀c a,lL (KN (N+1)) (N+1) b (dk (N+1) c a)=some p:=by
     have E:b.Kids≠[]:=fun e=>C ⟨t,fun k r=>(by rw[e]at r;cases r),fun k r=>(by rw[e]at r;cases r)⟩;have f:eA b=b.Kids:=akQ.2 fun k g=>by
      have:=(ia.1 (kL B k g)).2.1.1;unfold gL;simp[bne,this]
     have w:(eA b).any eM=true:=by
      rw[ahD];obtain⟨x,J⟩:=akJ _ E;refine⟨x,by rw[f];exact J,?_⟩;unfold eM;rcases (ia.1 (kL B x J)).1 with q|q<;>rw[q]<;>rfl
     by_cases j:(cI (gf b.Style).Width 0).2=true
     ·exact⟨_,fun N i c a=>by unfold lL;rw[uD,iN,ge,iN,ll j,sI,iN]⟩
     ·refine⟨CO W b.Kids 0 0,fun N i c a=>?_⟩;unfold lL;rw[uD,iN,ge,iN,kc j,BR (KN (N+1)) (N+1) (C1 N) b (by omega) (by omega),iN];simp only[w,aeJ,jf,sj];have e:=aeS (KN (N+1)) (N+1) (dk (N+1) c a) (eA b,true) (by simp only[f];omega) W (by rw[f];exact u N i c a) (N+1) 0 0 0 (v9 _) (by simp only[f];omega);rw[BY]at e;simp only at e;rw[f]at e⊢;exact e
    obtain⟨p,o⟩:=m;refine⟨(gZ (fG (gf b.Style) 0 (jd (gf b.Style) 0 p.1)),gZ (fG (gf b.Style) 0 (jd (gf b.Style) 0 p.2))),fun N i c a=>?_⟩;obtain⟨M,rfl⟩:∃M,N=M+1:=⟨N-1,by omega⟩;unfold qE;rw[show(b.Kind == 6)=false by rw[t];rfl,show(b.Kind == 7)=false by rw[t];rfl];simp only[jf,sj];unfold wU;simp only[o M (by omega) c a,uD,D4,vf,vj,iN]
   ·-- a flex container
    obtain⟨d,z,_⟩:=Od.mP b.Kids (by omega) (lvl:=20010) (n:=20010) (by omega) (by omega);have R:=z.len;have D:∀N,20010≤N→kB (KN N) N b=some (Fw.cA b d):=fun N i=>by
     obtain⟨T,K,G⟩:=Od.mP b.Kids (by omega) (lvl:=N) (n:=N) (by omega) (by omega);rw[K.uniq z]at G;exact Fw.Rh S z G (by omega)
    have key:∃v,∀N,20010+s≤N→∀c a,rP (KN (N+1)) (N+1) b (dk (N+1) c a)=some v:=by
     by_cases j:(cI (gf b.Style).Width 0).2=true
     ·obtain⟨v,y⟩:=Rz (gf b.Style) (cI (gf b.Style).Width 0).1 (cI (gf b.Style).Width 0).1;exact⟨v,fun N i c a=>by unfold rP;rw[Fw.Px,iN,ge,iN,ll j,y]⟩
     ·obtain⟨v,y⟩:=Rz (gf b.Style) (oB b W (Fw.cA b d) 0 0).1 (oB b W (Fw.cA b d) 0 0).2;refine⟨v,fun N i c a=>?_⟩;unfold rP;rw[Fw.Px,iN,ge,iN,kc j,D (N+1) (by omega),iN];have e:=ahi (KN (N+1)) (N+1) b (dk (N+1) c a) (gf b.Style) (Fw.cA b d) (by rw[Fw.s4];omega) W (fun k g=>u N i c a k (Fw.BJ z g)) (N+1) 0 0 0 (v9 _) (by rw[Fw.s4];omega);rw[BY]at e;exact e.trans (y _ _)
    obtain⟨v,y⟩:=key;refine⟨v,fun N i c a=>?_⟩;obtain⟨M,rfl⟩:∃M,N=M+1:=⟨N-1,by omega⟩;unfold qE;rw[show(b.Kind == 6)=true by rw[L];rfl,ll rfl,y M (by omega) c a];rfl
end
theorem abk(b:ByteArray):∀(k i:Nat) (r:List UInt8),b.size-i≤k→ByteArray.toList.loop b i r=r.reverse++b.data.toList.drop i:=by
 have j:b.data.toList.length=b.size:=by cases b;rfl
 intro k
 induction k with
 | zero =>
  intro i r h;rw[alp];have a:¬ i<b.size:=by omega
  rw[kc a,mo (by omega),MO]
 | succ k g =>
  intro i r h;rw[alp];by_cases a:i<b.size
  ·have c:i<b.data.toList.length:=by omega
   rw[ll a,g (i+1) _ (by omega),l3 c];have f:b.get! i=b.data.toList[i]:=by
    cases b with
    | mk d =>
     have e:i<d.size:=by simpa using c
     show d[i]! = d.toList[i];rw[al9 d i e,Array.getElem_toList]
   rw[f,List.reverse_cons,rl,aka]
  ·rw[kc a,mo (by omega),MO]
theorem Lu(b:ByteArray):b.toList=b.data.toList:=by
 unfold ByteArray.toList;rw[abk b b.size 0 [] (by omega)];rfl
theorem Bh{a b:ByteArray}(h:a.toList=b.toList):a=b:=by
 rw[Lu,Lu]at h;exact ByteArray.ext (akk.1 h)
theorem Fo{α:Type}{x y:V4 α}(a:x.a0=y.a0)(b:x.a1=y.a1)(c:x.a2=y.a2)(d:x.a3=y.a3):x=y:=by
 cases x;cases y;simp_all
theorem aaQ{x y:aP}(h:l7 x y=true):x=y:=by
 simp only[l7,Xy,iO,ajK,and_true]at h;have d:=Fo (x:=x.Margin) (y:=y.Margin);have e:=Fo (x:=x.Padding) (y:=y.Padding);have f:=Fo (x:=x.Border) (y:=y.Border);have a:=@Bh x.BorderColor y.BorderColor;have b:=@Bh x.Color y.Color;have c:=@Bh x.Background y.Background;cases x;cases y
 simp_all
theorem ZV{a b:ab}(h:pR a b=true)(j:a.Kids=b.Kids):a=b:=by
 simp only[pR,iO,ajK]at h;obtain⟨e,f,c,d,g,i⟩:=h;have c:=aaQ c;have d:=Bh d;cases a;cases b
 simp_all
mutual
theorem PP:∀{a b:ab},gp a b=true→a=b
 | ⟨k,n,s,t,r,q,c⟩,b,h=>by
  rw[Hl,iO]at h;exact ZV h.1 (Ro (l:=c) h.2)
theorem Ro:∀{l m:d3},iB l m=true→l=m
 | [],[],_=>rfl
 | a::r,b::q,h=>by
  simp only[iB,iO]at h;rw[PP h.1,Ro h.2]
 | [],_::_,h=>by cases h
 | _::_,[],h=>by cases h
end
theorem afA(K j:Kn)(n k:Nat)(L:dn)(w:L.length≤1000000):∀(m c:Nat) (i h:Int) (b:bg) (t:Bool) (g:bg) (l:dn),0≤i→i≤L.length→(L.length:Int)<m+i→(L.length:Int)<c+i →
  jr K n L m h t i b g l=jr j k L c h t i b g l:=by
 intro m
 induction m with
 | zero=>intro c i _ _ _ _ _ o p q _;omega
 | succ m u =>
  intro c i h b t g l o p q v;cases c with
  | zero=>omega
  | succ c =>
   by_cases r:i<(L.length:Int)
   ·have s:aa (i+1)=i+1:=bK (by omega) (by omega);have key:∀(e:Int) (f:Bool) (d a:bg) (l':dn),jr K n L m e f (i+1) d a l'=jr j k L c e f (i+1) d a l':=fun e f d a l'=>u c (i+1) e d f a l' (by omega) (by omega) (by omega) (by omega);simp only[jr,pF,kC,gy,iN,vC,rZ,s5,qw,s,key]
   ·have:decide (i<(L.length:Int))=false:=by simpa using r
    simp only[jr,pF,this,jf,sj,qw,gy,kC]
theorem acO(K b:Kn)(n a:Nat)(L:dn)(c:L.length≤1000000)(e:L.length<n)(d:L.length<a):lr K n L=lr b a L :=
 afA K b n a L c n a 0 0 _ _ _ [] (al4 0) (by omega) (by omega) (by omega)
noncomputable section
theorem Za(b:ab)(z:bZ)(t m:Bool)(c:b.Kids.length≤20)(e:fW b.Kids)(u:∀k∈b.Kids,k.Text.size≤1000)(q:ex 1 b.Kids≤2000):
  ∃F:ae,DF 3 F∧∀(N:Nat),9100≤N→∀env:bw,(∃g i j l,env.Lines=.c52 g i j l)→∀(d f:Int) (S:ci),j7 (KN (N+1)) (N+1) b z t m env d f S=some (F,d,f,S):=by
 have a:eA b=b.Kids:=akQ.2 fun k c=>by unfold gL;rw[e k c];rfl
 have p:(eA b).any eM=false:=by
  rw[a,alB];intro k c;unfold eM;rw[e k c];decide
 obtain⟨s,o⟩:=adz e q b.Style z.Content;refine⟨rr b z t m false (nq b.Kids b.Style z.Content).2 (((nq b.Kids b.Style z.Content).1.length:Int) == 0) dF dF (nq b.Kids b.Style z.Content).1,Sb (by omega) o,fun N v env n d f S=>?_⟩;obtain⟨g,i,j,l,n⟩:=n;unfold j7;rw[BR (KN (N+1)) (N+1) (C1 N) b c (by omega),iN];simp only[p,jf,sj];rw[a,n];have r:(KN (N+1)).wY (.c52 g i j l) b.Kids b.Style z.Content=some (nq b.Kids b.Style z.Content):=by
  show zk (KN N) N b.Kids b.Style z.Content ⟨g,i,j,l⟩=_;unfold zk;rw[ack e (by omega) u q (by omega)];rfl
 rw[r,iN,FB _ _ _ (by omega),iN];exact Mb (KN (N+1)) (N+1) b z _ (by omega) (by omega) d f S (b.Kids,false) (fun h=>by cases h) t m _ _ _ _
theorem aji(b:ab)(z:bZ)(t h:Bool)(B:b.Kids.length≤20)(D:(eA b).any eM=true)(l:∀k∈eA b,eM k=true):
  ∃G:dn→ae,(∀(r:dn) (d:Nat),r.length=(eA b).length→(∀f∈r,DF d f)→DF (d+1) (G r))∧∀(N:Nat),100≤N→∀(env:bw) (i j:Int) (S:ci),j7 (KN (N+1)) (N+1) b z t h env i j S =
   (dh (fun k w=>(KN (N+1)).dw env.Layout k w) ((eA b).map fun k=>(k,z.Content)) i j S).bind fun r=>some (G r.1,r.2.1,r.2.2.1,r.2.2.2):=by
 have y:=SX (b:=b)
 let a:dn→dn×Int×bg×bg×Bool:=fun r=>(lr (KN 100) 100 r).getD ([],0,dF,dF,true)
 refine⟨fun r=>rr b z t h true (a r).2.1 (a r).2.2.2.2 (a r).2.2.1 (a r).2.2.2.1 (a r).1,fun r d p v=>?_,fun N E env i j S=>?_⟩
 ·obtain⟨q,m,s,o⟩:=Po (KN 100) 100 r (by omega) (by omega);have c:a r=q:=by show(lr (KN 100) 100 r).getD _=q;rw[m];rfl
  show DF (d+1) (rr b z t h true (a r).2.1 (a r).2.2.2.2 (a r).2.2.1 (a r).2.2.2.1 (a r).1);rw[c];refine Sb (by omega) (fun f x=>?_);obtain⟨g,A,e⟩:=o f x;exact sJ e (v g A)
 ·unfold j7;rw[BR (KN (N+1)) (N+1) (C1 N) b B (by omega),iN];simp only[D,AT];have u:=ado (KN (N+1)) (N+1) b z t h env (eA b,true) (by simp only;omega) (N+1) 0 [] i j S (v9 _) (by simp only;omega) (by simp);have n:qN (KN (N+1)) (N+1) b z t h env (eA b,true) (N+1) 0 [] i j S=_:=u;rw[n,BY,LM (fun k w=>(KN (N+1)).dw env.Layout k w)];cases C:dh (fun k w=>(KN (N+1)).dw env.Layout k w) ((eA b).map fun k=>(k,z.Content)) i j S with
  | none=>rfl
  | some r =>
   have p:=tp C;rw[nx]at p;simp only[iN,Io];obtain⟨q,m,s,o⟩:=Po (KN 100) 100 r.1 (by omega) (by omega);have c:a r.1=q:=by show(lr (KN 100) 100 r.1).getD _=q;rw[m];rfl
   rw[acO (KN (N+1)) (KN 100) (N+1) 100 r.1 (by omega) (by omega) (by omega),m,iN,c];exact Mb (KN (N+1)) (N+1) b z q.1 (by omega) (by omega) _ _ _ (eA b,true) (fun _=>⟨by simp only;omega,l⟩) t h _ _ _ _
theorem aiw(b:ab)(w:Int):∃t g,∀(K:Kn) (n:Nat) (env:bw) (c d:Int) (S:ci),nI K n b w env c d S=(j7 K n b (ct b.Style w) t g env c d S).bind fun a=>some (a.1,a.2.1,a.2.2.1,a.2.2.2):=by
 have j:∀t,∃g,∀(K:Kn) (n:Nat) (env:bw) (c d:Int) (S:ci),oK K n b env c d S (ct b.Style w) t=(j7 K n b (ct b.Style w) t g env c d S).bind fun a=>some (a.1,a.2.1,a.2.2.1,a.2.2.2):=fun t=>by
  unfold oK;by_cases e:(b.Style.Overflow == 0)=true
  ·by_cases f:((ct b.Style w).Border.a2 == 0)=true
   ·by_cases q3:((ct b.Style w).Padding.a2 == 0)=true
    ·exact⟨_,fun K n env c d S=>by rw[ll e,ll f,ll q3];rfl⟩
    ·exact⟨_,fun K n env c d S=>by rw[ll e,ll f,kc q3];rfl⟩
   ·exact⟨_,fun K n env c d S=>by rw[ll e,kc f];rfl⟩
  ·exact⟨_,fun K n env c d S=>by rw[kc e];rfl⟩
 have:∃t,∀(K:Kn) (n:Nat) (env:bw) (c d:Int) (S:ci),nI K n b w env c d S=oK K n b env c d S (ct b.Style w) t:=by
  unfold nI;simp only[BT,iN];by_cases e:(b.Style.Overflow == 0)=true
  ·by_cases f:((ct b.Style w).Border.a0 == 0)=true
   ·exact⟨_,fun K n env c d S=>by rw[ll e,ll f]⟩
   ·exact⟨_,fun K n env c d S=>by rw[ll e,kc f]⟩
  ·exact⟨_,fun K n env c d S=>by rw[kc e]⟩
 obtain⟨t,i⟩:=this;obtain⟨g,h⟩:=j t;exact⟨t,g,fun K n env c d S=>by rw[i,h]⟩
structure Sz(b:ab)(f:Nat→Bool→Bool→Int→Int→ci→Option (ae×Int×Int×ci))(P:io)(G:dn→ae):Prop where
 good:∀p∈P,GB p.1∧bQ p.1<bQ b∧0≤p.2
 sz:eo P≤cL b.Kids
 df:∀(r:dn) (d:Nat),2≤d→r.length=P.length→(∀x∈r,DF d x)→DF (d+1) (G r)
 run:∀(N:Nat),20010+bQ b≤N→∀(lf kf:Bool) (fr us:Int) (S:ci),f (N+1) lf kf fr us S=(dh (fun k w=>ki (KN N) N k w lf (dk N lf kf) kf) P fr us S).bind fun r=>some (G r.1,r.2.1,r.2.2.1,r.2.2.2)
theorem acS{b:ab}{P:io}:∀p∈P,bQ p.1≤eo P:=by
 intro p a
 induction P with
 | nil=>cases a
 | cons q r c =>
  simp only[eo];rcases ol.1 a with rfl|a
  ·omega
  ·have:=c a;omega
theorem TO(b:ab)(T:b.Kind=1)(M:GB b)(z:bZ)(y:0≤z.Content)(t s:Bool):∃P G,Sz b (fun N o n=>j7 (KN N) N b z t s (dk N o n)) P G∧(∀p∈P,p.1∈b.Kids∧p.2=z.Content)∧((∃k∈b.Kids,k.Kind≠3)→P=b.Kids.map fun k=>(k,z.Content)):=by
 obtain⟨_,g,U,j⟩:=ia.1 M;have Q:=gx b;by_cases i:fW b.Kids∧∀q∈b.Kids,q.Text.size≤90
 ·have C:=Ny i.2;obtain⟨F,H,I⟩:=Za b z t s (by omega) i.1 (fun k h=>by have:=i.2 k h;omega) (by omega);refine⟨[],fun _=>F,⟨fun p g=>(by cases g),v9 _,fun r d D _ _=>HC H (by omega),fun N L o n u A S=>?_⟩,fun p g=>(by cases g),fun⟨k,c,K⟩=>absurd (i.1 k c) K⟩;show j7 (KN (N+1)) (N+1) b z t s (dk (N+1) o n) u A S=_;rw[I N (by omega) _ ⟨_,_,_,_,rfl⟩];rfl
 ·have v:gY b.Kids:=by
   rcases j with j|j
   ·exact absurd ⟨j.2.1,j.2.2.1⟩ i
   ·exact j
  have w:b.Kids≠[]:=fun e=>i ⟨fun k h=>(by rw[e]at h;cases h),fun k h=>(by rw[e]at h;cases h)⟩;have a:eA b=b.Kids:=akQ.2 fun k c=>by
   have:=(ia.1 (kL v k c)).2.1.1;unfold gL;simp[bne,this]
  have f:∀k∈eA b,eM k=true:=fun k c=>by
   rw[a]at c;unfold eM;rcases (ia.1 (kL v k c)).1 with q|q<;>rw[q]<;>rfl
  have m:(eA b).any eM=true:=by
   rw[ahD];obtain⟨x,E⟩:=akJ _ w;exact⟨x,by rw[a];exact E,f x (by rw[a];exact E)⟩
  obtain⟨G,B,J⟩:=aji b z t s (by omega) m f;rw[a]at B;refine⟨b.Kids.map fun k=>(k,z.Content),G,⟨fun p g=>?_,?_,fun r d _ O D=>B r d (by rw[O,nx]) D,fun N L o n u A S=>?_⟩,fun p g=>?_,fun _=>rfl⟩
  ·obtain⟨k,c,rfl⟩:=Do.1 g;exact⟨kL v k c,oc c,y⟩
  ·have:∀l:d3,eo (l.map fun k=>(k,z.Content))=cL l:=by
    intro l;induction l with
    | nil=>rfl
    | cons x r R=>simp only[th,eo,cL,R]
   rw[this];exact lc _
  ·have:=J N (by omega) (dk (N+1) o n) u A S;rw[a]at this;exact this
  ·obtain⟨k,c,rfl⟩:=Do.1 g;exact⟨c,rfl⟩
theorem Vs(b:ab)(z:GB b)(A:bQ b≤1900)(w:Int):∃P G,Sz b (fun N c a=>if (b.Kind == 6)=true then oH (KN N) N b w (dk N c a) else nI (KN N) N b w (dk N c a)) P G:=by
 obtain⟨f,o,K,g⟩:=ia.1 z;rcases f with u|y
 ·obtain⟨t,C,e⟩:=aiw b w;obtain⟨P,G,j,_⟩:=TO b u z (ct b.Style w) (Fl.DJ b.Style w).1 t C;refine⟨P,G,j.good,j.sz,j.df,fun N n c a i l S=>?_⟩;rw[show(b.Kind == 6)=false by rw[u];rfl];simp only[jf,sj];rw[e,j.run N n c a i l S];cases dh (fun k w=>ki (KN N) N k w c (dk N c a) a) P i l S<;>rfl
 ·have m:gY b.Kids:=by
   rcases g with g|g
   ·rw[y]at g;exact absurd g.1 (by decide)
   ·exact g
  obtain⟨W,I⟩:=Q8 (s:=bQ b) (fun k f=>by
   obtain⟨v,O⟩:=Sg (bQ k) k (lc _) (kL m k f);exact⟨v,fun N n c a=>O N (by have:=oc f;omega) c a⟩)
  obtain⟨P,G,D,E,F,H⟩:=Fl.Yl b K w W;have M:=gx b;have B:=I3 P;refine⟨P,G,fun p o=>?_,E,fun r d _ L J=>F r d L (by omega) J,fun N n c a i l S=>?_⟩
  ·obtain⟨q,k,f,h⟩:=D p o;refine⟨?_,by have:=acS (b:=b) p o;omega,by rw[q];exact(Fl.DJ b.Style w).1⟩;rcases h with h|⟨x,h⟩
   ·rw[h];exact kL m k f
   ·rw[h];exact aj2 x (kL m k f)
  ·rw[show(b.Kind == 6)=true by rw[y];rfl];simp only[AT];exact H (N+1) (by omega) (dk (N+1) c a) (fun k f=>I k f N (by omega) c a) i l S
end
noncomputable section
def l5(b:ab)(w:Int)(F:ae):Prop:=∀N,20011+bQ b≤N→∀(a c:Int) (S:ci),ki (KN N) N b w false (dk N false false) false a c S=some (F,a,c,S)
theorem l5.uniq{b:ab}{w:Int}{F G:ae}(h:l5 b w F)(g:l5 b w G):F=G:=by
 have e:=(h (20011+bQ b) (lc _) 0 0 []).symm.trans (g (20011+bQ b) (lc _) 0 0 []);injection e with e
 exact(Prod.mk.inj e).1
inductive ig (D:Nat):io→dn→Prop
 | nil:ig D [] []
 | cons (p:ab×Int) (F:ae) (P:io) (r:dn) (h1:l5 p.1 p.2 F) (h2:DF D F) (h3:DF (bQ p.1+2) F) (t:ig D P r):ig D (p::P) (F::r)
theorem ig.len{D:Nat}{P:io}{r:dn}(h:ig D P r):r.length=P.length:=by
 induction h with
 | nil=>rfl
 | cons p F P r b c d t a=>simp[a]
theorem ig.df{D:Nat}{P:io}{r:dn}(h:ig D P r):∀x∈r,DF D x:=by
 induction h with
 | nil=>intro x a;cases a
 | cons p F P r d b e t c =>
  intro x a;rcases ol.1 a with rfl|a
  ·exact b
  ·exact c x a
theorem ig.of{D:Nat}:∀(P:io),(∀p∈P,bQ p.1+2≤D∧∃F,DF (bQ p.1+2) F∧l5 p.1 p.2 F)→∃r,ig D P r
 | [],_=>⟨[],.nil⟩
 | p::P,h=>by
  obtain⟨b,F,a,c⟩:=h p ti;obtain⟨r,e⟩:=ig.of P (fun q d=>h q (pt _ d));exact⟨F::r,.cons p F P r c (HC a b) a e⟩
theorem ig.pure{D:Nat}{P:io}{r:dn}(h:ig D P r){N:Nat}(c:∀p∈P,20011+bQ p.1≤N):∀(a b:Int) (S:ci),dh (fun k w=>ki (KN N) N k w false (dk N false false) false) P a b S=some (r,a,b,S):=by
 induction h with
 | nil=>intro a b S;rfl
 | cons p F P r d g i t f =>
  intro a b S;simp only[dh,d N (c p ti) a b S,iN,f (fun q e=>c q (pt _ e)) a b S]
theorem Gp(b:ab)(e:GB b)(w:Int)(N:Nat)(env:bw)(c:Bool)(a d:Int)(S:ci):ur (KN N) N b w env c a d S=((if (b.Kind == 6)=true then oH (KN N) N b w env else nI (KN N) N b w env) a d S).bind fun v=>tq (KN N) N b w c v.1 v.2.1 v.2.2.1 v.2.2.2:=by
 unfold ur;rcases (ia.1 e).1 with h|h
 ·rw[show(b.Kind == 6)=false by rw[h];rfl,show(b.Kind == 7)=false by rw[h];rfl,show(b.Kind == 5)=false by rw[h];rfl];simp only[jf,sj]
 ·rw[show(b.Kind == 6)=true by rw[h];rfl];simp only[AT]
theorem FZ:∀(s:Nat) (b:ab) (w:Int),bQ b≤s→s≤1900→GB b→∃F,DF (bQ b+2) F∧l5 b w F
 | 0,b,_,h,_,_=>by have:=g9 b;omega
 | s+1,b,w,h,l,e=>by
  obtain⟨P,G,a⟩:=Vs b e (by omega) w;have f:=g9 b;obtain⟨r,d⟩:=ig.of (D:=bQ b+1) P (fun p c=>by
   have i:=a.good p c;exact⟨by omega,FZ s p.1 p.2 (by omega) (by omega) i.1⟩)
  refine⟨G r,a.df r (bQ b+1) (by omega) d.len d.df,fun N k g j S=>?_⟩;obtain⟨M,rfl⟩:∃M,N=M+1:=⟨N-1,by omega⟩;unfold ki;simp only[jf,sj];rw[Gp b e,show _=_ from a.run M (by omega) false false g j S,d.pure (fun p c=>by have:=(a.good p c).2;omega)];rfl
structure jn(m:aA):Prop where
 sz:bQ m.Box≤100
 df:DF (bQ m.Box+2) m.Fragment
 pure:l5 m.Box m.Width m.Fragment
 gb:GB m.Box
 wd:0≤m.Width
theorem Wo(N:Nat)(b:ab)(w:Int)(f g:Int)(S:ci)(n:S.length≤100000)(l:3200≤N)(h:∀m∈S,jn m):∀(m i:Nat),i≤S.length→S.length<m+i →
  sT (KN N) N b w f g S m i=some (tF b w f g S (S.drop i)):=by
 intro m
 induction m with
 | zero=>intro i a c;omega
 | succ m j =>
  intro i a c;simp only[sT,yN];by_cases e:i<S.length
  ·have k:=j (i+1) (by omega) (by omega);have d:=h _ (f9 e);rw[drop_at' e];simp only[fw e,AT,dK e,ba,Int.toNat_natCast,xC];generalize S.getD i default=M at *;rw[Dh (bQ M.Box) N M.Box b (lc _) (by have:=d.sz;omega) (by have:=d.sz;omega),iN,fg (by omega),k];cases a:(M.Width == w) with
   | false=>simp[tF,fc,alU,a]
   | true =>
    cases c:gp M.Box b with
    | false=>simp[tF,fc,alU,a,c]
    | true =>
     rw[En _ N _ d.df (by have:=d.sz;omega)];simp[tF,fc,alU,a,c]
  ·simp only[fA (show S.length≤i by omega),jf,sj];rw[mo (by omega)];rfl
theorem ajZ(N:Nat)(b:ab)(w:Int)(a c:Int)(S:ci)(f:S.length≤3000)(d:3200≤N)(e:∀m∈S,jn m):ye (KN N) N b w a c S=some (tF b w a c S S):=by
 unfold ye;have:=Wo N b w a c S (by omega) d e N 0 (v9 _) (by omega);simpa using this
theorem aco(N:Nat)(b:ab)(w:Int)(a c:Int)(S:ci)(e:S.length≤3000)(d:3200≤N)(f:∀m∈S,jn m):wE (KN N) N b w a c S =
  some (match S.find? (fc b w) with
   | some m=>(m.Fragment,true,a,aa (c+1),S)
   | none=>(bU,false,a,c,S)):=by
 unfold wE;rw[ajZ N b w a c S e d f,iN];unfold tF;cases S.find? (fc b w)<;>rfl
theorem M6{b:ab}{w:Int}{m:aA}(h:fc b w m=true):m.Width=w∧m.Box=b:=by
 simp only[fc,iO,ajK]at h;exact⟨h.1,PP h.2⟩
theorem ae2{b:ab}{w:Int}{F:ae}{S:ci}(f:∀m∈S,jn m)(e:l5 b w F){m:aA}(h:S.find? (fc b w)=some m):m.Fragment=F:=by
 have a:=(f m (alu h)).pure;obtain⟨c,d⟩:=M6 (List.find?_some h);rw[c,d]at a;exact a.uniq e
end
noncomputable section
def PD(N:Nat)(b:ab)(w:Int)(F:ae):Prop :=
 ∀(c d:Int) (S:ci),0≤c→c+(bQ b:Int)≤2000→S.length+bQ b≤2000→(∀m∈S,jn m) →
  ∃a T,ki (KN N) N b w true (dk N true true) true c d S=some (F,c+(T.length:Int),a,S++T)∧(∀m∈T,jn m)∧T.length≤bQ b∧(∃m∈S++T,fc b w m=true)∧((∃m∈S,fc b w m=true)→T=[]∧a=aa (d+1))∧(¬ (∃m∈S,fc b w m=true)→0<T.length)
theorem Un{D:Nat}{P:io}{r:dn}(h:ig D P r)(N:Nat)(u:∀p∈P,∀F,l5 p.1 p.2 F→DF (bQ p.1+2) F→PD N p.1 p.2 F):∀(b d:Int) (S:ci),0≤b→b+(eo P:Int)≤2000→S.length+eo P≤2000→(∀m∈S,jn m) →
  ∃i T,dh (fun k w=>ki (KN N) N k w true (dk N true true) true) P b d S=some (r,b+(T.length:Int),i,S++T)∧(∀m∈T,jn m)∧T.length≤eo P∧(∀p∈P,∃m∈S++T,fc p.1 p.2 m=true)∧((∀p∈P,∃m∈S,fc p.1 p.2 m=true)→T=[]∧(0≤d→d+(P.length:Int)≤100000→i=d+(P.length:Int)))∧((∃p∈P,¬ ∃m∈S,fc p.1 p.2 m=true)→0<T.length):=by
 induction h with
 | nil =>
  intro b d S _ _ _ _;exact⟨d,[],by simp[dh],fun m j=>(by cases j),v9 _,fun p o=>(by cases o),fun _=>⟨rfl,fun _ _=>by simp⟩,fun⟨p,o,_⟩=>(by cases o)⟩
 | cons p F P r K h2 L t Q =>
  intro b d S J O M j;simp only[eo]at O M⊢;obtain⟨X,T,C,s,e3,E,G,H⟩:=u p ti F K L b d S J (by omega) (by omega) j;have n:∀m∈S++T,jn m:=fun m a=>by
   rcases nw.1 a with a|a
   ·exact j m a
   ·exact s m a
  obtain⟨Y,U,x,y,Z,z,A,B⟩:=Q (fun q a=>u q (pt _ a)) (b+(T.length:Int)) X (S++T) (by omega) (by omega) (by simp only[ne];omega) n;refine⟨Y,T++U,?_,fun m a=>?_,by simp only[ne];omega,fun q a=>?_,fun c=>?_,fun⟨q,a,e⟩=>?_⟩
  ·rw[show b+(((T++U).length:Nat):Int)=b+(T.length:Int)+(U.length:Int) by rw[ne];omega];simp only[dh,C,iN,x,rl]
  ·rcases nw.1 a with a|a
   ·exact s m a
   ·exact y m a
  ·rcases ol.1 a with rfl|a
   ·obtain⟨m,f,g⟩:=E;exact⟨m,by rw[←rl];exact ak8 _ f,g⟩
   ·obtain⟨m,f,g⟩:=z q a;exact⟨m,by rw[←rl];exact f,g⟩
  ·obtain⟨R,v⟩:=G (c p ti);subst R;obtain⟨V,W⟩:=A (fun q a=>by
    obtain⟨m,f,g⟩:=c q (pt _ a);exact⟨m,by simpa using f,g⟩)
   refine⟨by rw[V];rfl,fun g1 I=>?_⟩;simp only[ls]at I⊢;rw[bK (by omega) (by omega)]at v;rw[W (by omega) (by omega),v];omega
  ·rw[ne];by_cases hT:0<T.length
   ·omega
   ·have l:T=[]:=ob (by omega);rcases ol.1 a with rfl|a
    ·have:=H e;omega
    ·have:=B ⟨q,a,by rw[l,MO];exact e⟩;omega
theorem Rm:∀(s N:Nat) (b:ab) (w:Int) (F:ae),bQ b≤s→s≤90→20011+bQ b≤N→GB b→0≤w→DF (bQ b+2) F→l5 b w F→PD N b w F
 | 0,_,b,_,_,h,_,_,_,_,_,_=>by have:=g9 b;omega
 | s+1,N,b,w,F,h,hs,L,q,A,l,y=>by
  intro i u S J hf hS n;have B:=g9 b;obtain⟨M,rfl⟩:∃M,N=M+1:=⟨N-1,by omega⟩;unfold ki;simp only[AT,ba];rw[aco (M+1) b w i u S (by omega) (by omega) n,iN];cases t:S.find? (fc b w) with
  | some m =>
   have f:=alu t;have d:=List.find?_some t;have O:=ae2 n y t;simp only[AT];refine⟨aa (u+1),[],by simp[O],fun m n=>(by cases n),v9 _,⟨m,by simpa using f,d⟩,fun _=>⟨rfl,rfl⟩,fun j=>absurd ⟨m,f,d⟩ j⟩
  | none =>
   have j:¬ ∃m∈S,fc b w m=true:=fun⟨m,V,W⟩=>by
    have:=List.find?_eq_none.1 t m V;exact this W
   simp only[jf,sj];obtain⟨P,G,a⟩:=Vs b q (by omega) w;obtain⟨r,C⟩:=ig.of (D:=bQ b+1) P (fun p g=>by
    have Q:=a.good p g;exact⟨by omega,FZ s p.1 p.2 (by omega) (by omega) Q.1⟩)
   have K:G r=F:=by
    have e:=y (M+1) L 0 0 [];unfold ki at e;simp only[jf,sj]at e;rw[Gp b q,show _=_ from a.run M (by omega) false false 0 0 [],C.pure (fun p g=>by have:=(a.good p g).2;omega)]at e;have v:some (G r,(0:Int),(0:Int),([]:ci))=some (F,0,0,[]):=e;injection v with v
    exact(Prod.mk.inj v).1
   have U:=gx b;have R:=a.sz;obtain⟨k,T,H,I,X,Y,Z,e6⟩:=Un C M (fun p g E z x=>Rm s M p.1 p.2 E (by have:=(a.good p g).2;omega) (by omega) (by have:=(a.good p g).2;omega) (a.good p g).1 (a.good p g).2.2 x z) i u S J (by omega) (by omega) n;rw[Gp b q,show _=_ from a.run M (by omega) true true i u S,H];simp only[iN,K,tq,AT,ba];rw[adN (M+1) b w F (i+(T.length:Int)) k (S++T) (by simp only[ne];omega) (by omega) (bQ b+2) l (by omega) (by omega),iN];refine⟨k,T++[⟨b,w,F⟩],?_,fun m c=>?_,by simp only[ne,ls,rv];omega,⟨⟨b,w,F⟩,by simp,by simp[fc,Ce]⟩,fun o=>absurd o j,fun _=>by simp⟩
   ·rw[show i+(((T++[(⟨b,w,F⟩:aA)]).length:Nat):Int)=i+(T.length:Int)+1 by rw[ne];simp only[ls,rv];omega];show some (F,i+(T.length:Int)+1,k,S++T++[(⟨b,w,F⟩:aA)])=_;rw[rl]
   ·rcases nw.1 c with c|c
    ·exact I m c
    ·simp only[ol,aj7,alc]at c;subst c;exact⟨by show bQ b≤100;omega,l,y,q,A⟩
end
theorem abi(K:Kn)(n:Nat)(l:ck)(b:l.length≤100000):AA K n l=some l:=by
 unfold AA oa;have a:fits (([]:ck).length+l.length) 8=true:=by rw[rv,If];exact cY (by omega) (by omega)
 rw[a];cases l<;>simp[ba]
theorem ad8(K:Kn)(n:Nat)(p:gX)(b:ab)(ar:ck)(q:b.Kids.length<1000000)(h:∀k∈b.Kids,(k.Kind=3∨k.Style.Position≠2)∧K.ug p k ar=some ()):∀(m i:Nat),i≤b.Kids.length→b.Kids.length<m+i→pm K n p b ar m i=some ():=by
 intro m
 induction m with
 | zero=>intro i f g;omega
 | succ m j =>
  intro i f g;simp only[pm,Aa];by_cases c:i<b.Kids.length
  ·obtain⟨a,o⟩:=h _ (f9 c);have l:=j (i+1) (by omega) (by omega);have d:pf K n p b ar i (pm K n p b ar m) false=some ():=by
    unfold pf;simp only[jf,sj,Int.toNat_natCast,o,iN];rw[fg (by omega),l]
   simp only[fw c,AT,dK c,ba,Int.toNat_natCast];split
   ·rename_i e;split
    ·rcases a with a|a
     ·rw[a]at e;exact absurd e (by decide)
     ·rw[show((b.Kids.getD i default).Style.Position == 2)=false by simpa using a];exact d
    ·exact d
   ·exact d
  ·simp only[fA (show b.Kids.length≤i by omega),jf,sj]
theorem Oh(K:Kn)(n:Nat)(p:gX)(b:ab)(ar:ck)(j:ar.length≤90000)(l:b.Kids.length<n)(d:b.Kids.length<1000000)(e:∀k∈b.Kids,(k.Kind=3∨k.Style.Position≠2)∧∀a:ck,a.length≤ar.length+1→K.ug p k a=some ()):ov K n p b ar=some ():=by
 have g:∀a:ck,a.length≤ar.length+1→wo K n p b a=some ():=fun a h=>by
  unfold wo;have:=ad8 K n p b a d (fun k f=>⟨(e k f).1,(e k f).2 a h⟩) n 0 (v9 _) (by omega);simpa using this
 have i:∀c,uN K n p b ar c=some ():=fun c=>by
  unfold uN;cases c with
  | false=>simpa using g ar (by omega)
  | true =>
   simp only[AT,abi K n ar (by omega),iN,List.length_singleton];rw[cY (by omega) (by omega),ba,g _ (by simp)]
 unfold ov;split<;>exact i _
def jB(m x:aA):Bool:=x.Width == m.Width&&gp x.Box m.Box
theorem agV(K:Kn)(n:Nat)(l:dO)(M:aA)(f:l.length<1000000)(d:∀k∈l,K.uG (Fv.c39 M) k=some (jB M k)):∀(m i:Nat),i≤l.length→l.length<m+i →
  ∃r,qD K n l (Fv.c39 M) m i=some r∧decide (r≥0)=(l.drop i).any (jB M):=by
 intro m
 induction m with
 | zero=>intro i b c;omega
 | succ m e =>
  intro i b c;simp only[qD,wJ];by_cases a:i<l.length
  ·rw[drop_at' a];simp only[fw a,AT,dK a,ba,Int.toNat_natCast,d _ (f9 a),iN,List.any_cons];cases h:jB M (l.getD i default) with
   | true=>exact⟨_,rfl,by simp⟩
   | false =>
    simp only[jf,sj,akC];rw[fg (by omega)];exact e (i+1) (by omega) (by omega)
  ·simp only[fA (show l.length≤i by omega),jf,sj];rw[mo (by omega)];exact⟨_,rfl,rfl⟩
theorem adE(N:Nat)(l:dO)(M:aA)(h:l.length<5000)(g:6000≤N)(b:∀k∈l,bQ k.Box≤100):AB (KN (N+1)) (N+1) l (Fv.c39 M)=some (l.any (jB M)):=by
 have f:∀k∈l,(KN (N+1)).uG (Fv.c39 M) k=some (jB M k):=fun k c=>by
  show wF (KN N) N k M=_;unfold wF jB;rw[Dh (bQ k.Box) N k.Box M.Box (lc _) (by have:=b k c;omega) (by have:=b k c;omega),iN];cases (k.Width == M.Width)<;>rfl
 obtain⟨r,d,e⟩:=agV (KN (N+1)) (N+1) l M (by omega) f (N+1) 0 (v9 _) (by omega);have a:qD (KN (N+1)) (N+1) l (Fv.c39 M) (N+1) 0=some r:=d;unfold AB BN;rw[a,iN,e,BY]
def eH(a:ab):ci→ci→ci
 | acc,[]=>acc
 | acc,m::r=>if acc.any (jB m)=true then eH a acc r else if im m.Box a=true then eH a (acc++[m]) r else eH a acc r
theorem yQ(a:ab):∀(L b:ci),(∀x∈b,x∈eH a b L)∧(∀x∈eH a b L,x∈b∨(x∈L∧im x.Box a=true))∧(eH a b L).length≤b.length+L.length∧∀x∈L,im x.Box a=true→∃y∈eH a b L,jB x y=true
 | [],b=>⟨fun x h=>h,fun x h=>.inl h,by simp[eH],fun x h=>by cases h⟩
 | m::r,b=>by
  simp only[eH,ls];split
  ·rename_i k;obtain⟨d,g,j,i⟩:=yQ a r b;refine⟨d,fun x c=>?_,by omega,fun x c f=>?_⟩
   ·rcases g x c with h|h
    ·exact .inl h
    ·exact .inr ⟨pt _ h.1,h.2⟩
   ·rcases ol.1 c with rfl|c
    ·obtain⟨y,l,n⟩:=ahD.1 k;exact⟨y,d y l,n⟩
    ·exact i x c f
  ·split
   ·rename_i e;obtain⟨d,g,j,i⟩:=yQ a r (b++[m]);refine⟨fun x c=>d x (ak8 _ c),fun x c=>?_,by simp only[ne,List.length_singleton]at j;omega,fun x c f=>?_⟩
    ·rcases g x c with h|h
     ·rcases nw.1 h with h|h
      ·exact .inl h
      ·simp only[ol,aj7,alc]at h;subst h;exact .inr ⟨ti,e⟩
     ·exact .inr ⟨pt _ h.1,h.2⟩
    ·rcases ol.1 c with rfl|c
     ·exact⟨x,d x (alN _ ti),by simp[jB,Ce]⟩
     ·exact i x c f
   ·rename_i e;obtain⟨d,g,j,i⟩:=yQ a r b;refine⟨d,fun x c=>?_,by omega,fun x c f=>?_⟩
    ·rcases g x c with h|h
     ·exact .inl h
     ·exact .inr ⟨pt _ h.1,h.2⟩
    ·rcases ol.1 c with rfl|c
     ·exact absurd f e
     ·exact i x c f
def mA(a:ab):ci→ci→Prop
 | _,[]=>True
 | acc,m::r=>acc.any (jB m)=false∧im m.Box a=true∧mA a (acc++[m]) r
theorem Rd(a:ab):∀(L b:ci) (m:aA),mA a b L→(b++L).any (jB m)=false→im m.Box a=true→mA a b (L++[m])
 | [],b,m,_,c,d=>⟨by simpa using c,d,trivial⟩
 | x::r,b,m,h,c,d=>by
  simp only[mA]at h;simp only[agP,mA];exact⟨h.1,h.2.1,Rd a r (b++[x]) m h.2.2 (by simpa[rl]using c) d⟩
theorem Co(a:ab):∀(L b:ci),mA a [] b→mA a [] (eH a b L)
 | [],b,h=>h
 | m::r,b,h=>by
  simp only[eH];split
  ·exact Co a r b h
  ·rename_i c;split
   ·rename_i d;exact Co a r (b++[m]) (Rd a b [] m h (by simpa using c) d)
   ·exact Co a r b h
theorem Oc(b:ab):∀(L a:ci),mA b a L→eH b a L=a++L
 | [],a,_=>by simp[eH]
 | m::r,a,h=>by
  simp only[mA]at h;simp only[eH,h.1,h.2.1,jf,sj,AT];rw[Oc b r (a++[m]) h.2.2,rl];rfl
theorem ai2(a:ab)(L:ci):eH a [] (eH a [] L)=eH a [] L:=by
 have:=Oc a (eH a [] L) [] (Co a L [] trivial);simpa using this
theorem ahq(N:Nat)(b:ab)(F:ae)(g l:Int)(L:ci)(v:L.length≤3000)(z:bQ b≤100)(q:6000≤N)(d:Nat)(r:DF d F)(h:d≤150)(t:∀m∈L,bQ m.Box≤100):∀(m i:Nat) (a:ci),i≤L.length→L.length<m+i→a.length≤i→(∀x∈a,x∈L) →
  pu (KN (N+1)) (N+1) b (F,g,l,L) m i a=some (F,g,l,eH b a (L.drop i)):=by
 intro m
 induction m with
 | zero=>intro i a n o;omega
 | succ m j =>
  intro i a n o u f;simp only[pu,yp];by_cases e:i<L.length
  ·have p:=f9 e;rw[drop_at' e];simp only[fw e,AT,dK e,ba,Int.toNat_natCast,y3,yD,eH];generalize L.getD i default=M at *;rw[adE N a M (by omega) q (fun k s=>t k (f k s)),iN,Ll (bQ b) (N+1) b M.Box (lc _) (by omega) (by omega),fg (by omega)];have skip:=j (i+1) a (by omega) (by omega) (by omega) f;cases w:a.any (jB M) with
   | true =>
    simp only[aeJ,jf,sj,AT];exact skip
   | false =>
    simp only[alt,AT,iN,jf,sj];cases y:im M.Box b with
    | false =>
     simp only[jf,sj];exact skip
    | true =>
     simp only[AT,List.length_singleton];rw[cY (by omega) (by omega),ba];exact j (i+1) (a++[M]) (by omega) (by omega) (by simp;omega) (fun x c=>by
      rcases nw.1 c with c|c
      ·exact f x c
      ·simp only[ol,aj7,alc]at c;subst c;exact p)
  ·simp only[fA (show L.length≤i by omega),jf,sj];rw[En d (N+1) F r (by omega),iN,mo (by omega)];rfl
theorem Oi{b:ab}(h:GB b):∀k∈b.Kids,(k.Kind=3∧k.Kids=[])∨(k.Style.Position≠2∧GB k):=fun k c=>by
 obtain⟨_,_,_,a⟩:=ia.1 h;rcases a with a|a
 ·exact .inl ⟨a.2.1 k c,a.2.2.2 k c⟩
 ·have:=kL a k c;exact .inr ⟨(ia.1 this).2.1.1,this⟩
theorem T8(p:gX):∀(s N:Nat) (b:ab) (ar:ck),bQ b≤s→s<10000→s+2≤N→ar.length+s≤90000→GB b→ov (KN N) N p b ar=some ()
 | 0,_,b,_,h,_,_,_,_=>by have:=g9 b;omega
 | s+1,0,_,_,_,_,h,_,_=>by omega
 | s+1,N+1,b,ar,o,r,t,u,i=>by
  have m:=gx b;have f:=wG b.Kids;refine Oh (KN (N+1)) (N+1) p b ar (by omega) (by omega) (by omega) (fun k e=>?_);have j:=oc e;have l:=g9 k;obtain⟨n,d⟩|⟨q3,q⟩:=Oi i k e
  ·refine⟨.inl n,fun a c=>?_⟩;show ov (KN N) N p k a=some ();exact Oh (KN N) N p k a (by omega) (by rw[d];simp;omega) (by rw[d];simp) (fun x g=>by rw[d]at g;cases g)
  ·exact⟨.inr q3,fun a c=>T8 p s N k a (by omega) (by omega) (by omega) (by omega) q⟩
noncomputable section
theorem Mi(c:ab)(B:GB c)(O:c.Kind=1)(X:bQ c≤89)(d e:Int):
  ∃(F:ae) (P:io),DF (bQ c+2) F∧(∀p∈P,p.1∈c.Kids)∧((∃k∈c.Kids,k.Kind≠3)→P.length=c.Kids.length)∧((∀p∈P,GB p.1)∧∀k∈c.Kids,k.Kind≠3→(k,(ct c.Style d).Content)∈P) ∧
   ∀(N:Nat),20200≤N→∀(S:ci) (a b:Int),S.length≤1500→(∀m∈S,jn m)→∃f T,m8 (KN (N+1)) (N+1) c d e a b S=some (F,(T.length:Int),f,eH c [] (S++T))∧(∀m∈T,jn m)∧T.length≤bQ c∧(∀p∈P,∃m∈S++T,fc p.1 p.2 m=true)∧((∀p∈P,∃m∈S,fc p.1 p.2 m=true)→T=[]∧f=(P.length:Int))∧((∃p∈P,¬ ∃m∈S,fc p.1 p.2 m=true)→0<T.length):=by
 obtain⟨P,G,h,u,l⟩:=TO c O B (ct c.Style (min (max d 0) 1048576)) (Fl.DJ _ _).1 false false;have v:ct c.Style (min (max d 0) 1048576)=ct c.Style d:=by
  unfold ct;rw[show dQ (min (max d 0) 1048576)=dQ d by unfold dQ;omega]
 have W:=gx c;have V:=h.sz;have R:=I3 P;obtain⟨r,y⟩:=ig.of (D:=bQ c+1) P (fun p g=>by
  have U:=h.good p g;exact⟨by omega,FZ (bQ p.1) p.1 p.2 (lc _) (by omega) U.1⟩)
 have E:=g9 c;have t:DF (bQ c+2) (G r):=h.df r (bQ c+1) (by omega) y.len y.df;refine⟨{ (G r)with H:=max (G r).H (min (max e 0) 1048576) },P,sJ rfl t,fun p g=>(u p g).1,fun n=>by rw[l n,nx],⟨fun p g=>(h.good p g).1,fun k n Q=>by rw[l ⟨k,n,Q⟩,v];exact al5 n⟩,fun N hN S a b hS C=>?_⟩;obtain⟨f,T,J,z,Z,K,A,L⟩:=Un y N (fun p g I s q=>Rm (bQ p.1) N p.1 p.2 I (lc _) (by have:=(h.good p g).2;omega) (by have:=(h.good p g).2;omega) (h.good p g).1 (h.good p g).2.2 q s) 0 0 S (al4 0) (by omega) (by omega) C;have w:∀m∈S++T,jn m:=fun m j=>by
  rcases nw.1 j with j|j
  ·exact C m j
  ·exact z m j
 refine⟨f,T,?_,z,by omega,K,fun i=>⟨(A i).1,by have:=(A i).2 (al4 0) (by omega);omega⟩,L⟩;have M:=ahq N c ({ (G r)with H:=max (G r).H (min (max e 0) 1048576) }:ae) (0+(T.length:Int)) f (S++T) (by simp only[ne];omega) (by omega) (by omega) (bQ c+2) (sJ rfl t) (by omega) (fun m j=>(w m j).sz) (N+1) 0 [] (v9 _) (by simp only[ne];omega) (v9 _) (fun x Y=>by cases Y);have o:pu (KN (N+1)) (N+1) c (({ (G r)with H:=max (G r).H (min (max e 0) 1048576) }:ae),0+(T.length:Int),f,S++T) (N+1) 0 []=_:=M;unfold m8 Eh;rw[iN];unfold DH;rw[BT,iN];unfold DK;rw[show _=_ from h.run N (by omega) true true 0 0 S,J,iN];simp only[iN];rw[Uu (bQ c+2) (N+1) (G r) t (by omega),iN,T8 _ (bQ c) (N+1) c [] (lc _) (by omega) (by omega) (by simp;omega) B,iN,iN,o,BY,Int.zero_add]
end
mutual
/-- The blocks' numbers are those of their descriptions. -/
def jP(L:Nat):ab→Prop
 | ⟨k,n,_,_,_,_,a⟩=>k=1→((10≤n∧n<10+(L:Int))∧l8 L a)
def l8(L:Nat):d3→Prop
 | []=>True
 | b::r=>jP L b∧l8 L r
end
theorem agT{L:Nat}{b:ab}(h:jP L b)(a:b.Kind=1):(10≤b.Node∧b.Node<10+(L:Int))∧l8 L b.Kids:=by
 cases b;simp only[jP]at h;exact h a
theorem Fn{L:Nat}:∀{l m:d3},l8 L l→l8 L m→l8 L (l++m)
 | [],m,_,h=>h
 | b::r,m,a,c=>by simp only[agP,l8]at a⊢;exact⟨a.1,Fn a.2 c⟩
theorem vc{a b:Int}{n:Nat}(c:0≤a)(d:a≤b)(e:b≤n):cC a b n=true:=by grind[cC]
theorem ahg(K:Kn)(n:Nat)(l:d6)(cs:List eK)(A:l.length≤9223372036854775807)(z:cs.length≤9223372036854775807)(x:l.length<n)(g:1<n):∀(m:Nat) (i:Int),0≤i→i≤cs.length→(cs.length:Int)<m+i →
  ∃b,vD K n l cs m i=some b∧(b=true→(l.length≤12∧0<l.length∧cs.length≤6)∧(∀s∈l,rd s)∧∀k,i.toNat≤k→k<cs.length→rd (cs.getD k default).Spec):=by
 intro m
 induction m with
 | zero=>intro i j t u;omega
 | succ m y =>
  intro i j t u;simp only[vD,zi];by_cases f:i<(cs.length:Int)
  ·rw[ll (decide_eq_true f),dj j f,ba];obtain⟨b,c,a⟩:=OM K n [(cs.getD i.toNat default).Spec] 1 (by simp) (by simpa using g);rw[c,iN];cases b with
   | false=>exact⟨false,rfl,fun h=>by cases h⟩
   | true =>
    obtain⟨q,r,d⟩:=y (i+1) (by omega) (by omega) (by omega);rw[kc (by simp),bK (by omega) (by omega)];refine⟨q,r,fun h=>⟨(d h).1,(d h).2.1,fun k v o=>?_⟩⟩;by_cases e:k=i.toNat
    ·subst e;exact(a rfl).2 _ (by simp)
    ·exact(d h).2.2 k (by omega) o
  ·have w:¬ decide (i<(cs.length:Int))=true:=by simpa using f
   rw[kc w];obtain⟨b,c,a⟩:=OM K n l 12 (by omega) x;rw[c,iN];cases b with
   | false=>exact⟨false,rfl,fun h=>by cases h⟩
   | true =>
    simp only[AT,rU];split
    ·rename_i p;have p:=lp p;refine⟨_,rfl,fun h=>⟨⟨by have:=(a rfl).1;omega,by omega,by have:=lp h;omega⟩,(a rfl).2,fun k v o=>by omega⟩⟩
    ·exact⟨false,rfl,fun h=>by cases h⟩
theorem Z3(K:Kn)(n:Nat)(l:d6)(cs:List eK)(i:l.length≤9223372036854775807)(g:cs.length≤9223372036854775807)(j:l.length<n)(m:cs.length+1<n):
  ∃b,CC K n l cs=some b∧(b=true→(l.length≤12∧0<l.length∧cs.length≤6)∧(∀s∈l,rd s)∧∀c∈cs,rd c.Spec):=by
 obtain⟨b,f,a⟩:=ahg K n l cs i g j (by omega) n 0 (by omega) (by omega) (by omega);refine⟨b,f,fun h=>⟨(a h).1,(a h).2.1,fun c d=>?_⟩⟩;obtain⟨k,e,rfl⟩:=akc.1 d;have:=(a h).2.2 k (by simp) e;rwa[bR e]at this
theorem Yd(k:Nat):Da (KN (k+30)) (k+30)=some true:=by kernel_rfl
theorem aht(s:aL):(fy s).Text=s.Text:=by unfold fy;split<;>rfl
def YX(l:d3):Prop:=fW l∧(∀q∈l,q.Text.size≤90)∧(∀q∈l,q.Kids=[])
theorem ahE(l:d6)(i:l.length≤1000)(f:∀s∈l,s.Rows=0)(b:ab)(c:Bool)(h:10≤b.Node∧b.Node<10+(l.length:Int)):jI l b b.Kids c=some b:=by
 have e:aa (b.Node-10)=b.Node-10:=bK (by omega) (by omega);have d:aM (aa (b.Node-10)) l.length=true:=by rw[e];exact dj (by omega) (by omega)
 have a:(⟨b.Kind,b.Node,b.Style,b.Text,b.Rows,b.Cols,b.Kids⟩:ab)=b:=by cases b;rfl
 have g:(l.getD (aa (b.Node-10)).toNat default).Rows=0:=f _ (f9 (by rw[e];omega));unfold jI;cases c with
 | false=>exact congrArg some a
 | true =>
  simp only[d,ba,g];split
  ·rw[kc (by decide)];exact congrArg some a
  ·exact congrArg some a
mutual
theorem ajT(l:d6)(i:l.length≤1000)(c:∀s∈l,s.Rows=0):∀(m:Nat) (b:ab) (lo:Int),bQ b≤m→RB lo b→10≤lo→lo+(bQ b:Int)≤10+(l.length:Int)→iw l m b=some b
 | 0,b,_,h,_,_,_=>by have:=g9 b;omega
 | m+1,b,lo,h,d,a,o=>by
  have x:=gx b;obtain⟨y,z,B,v,g⟩:=V8 d;have e:kO (iw l m) b.Kids=some b.Kids:=by
   rcases g with g|g
   ·exact Jq _ b.Kids g.1
   ·exact UI l i c m b.Kids (lo+1) (by omega) g (by omega) (by omega)
  simp only[iw,e,iN];exact ahE l i c b _ (by omega)
theorem Jq(f:ab→Option ab):∀(l:d3),fW l→kO f l=some l
 | [],_=>rfl
 | k::r,h=>by
  have e:=Jq f r (fun q w=>h q (pt _ w));have u:=h k ti;have n:¬ ((k.Kind == 1)=true):=by rw[u];decide
  simp only[kO,kc n,e,iN]
theorem UI(l:d6)(i:l.length≤1000)(c:∀s∈l,s.Rows=0):∀(m:Nat) (j:d3) (lo:Int),cL j≤m→xX lo j→10≤lo→lo+(cL j:Int)≤10+(l.length:Int)→kO (iw l m) j=some j
 | m,[],_,_,_,_,_=>rfl
 | m,k::r,lo,h,d,a,o=>by
  simp only[cL]at h o;simp only[xX]at d;have A:=g9 k;have p:=ajT l i c m k lo (by omega) d.1 a (by omega);have t:=UI l i c m r (lo+(bQ k:Int)) (by omega) d.2 (by omega) (by omega);simp only[kO,p,t,iN,ite_self]
end
theorem Tk:∀{l m:d3},gY l→gY m→gY (l++m)
 | [],m,_,h=>h
 | b::r,m,a,c=>by simp only[agP,gY]at a⊢;exact⟨a.1,Tk a.2 c⟩
def G6(s:aL):Prop:=s.Style.Position≠2∧s.Text.size≤90
theorem afq(K:Kn)(n:Nat)(L:d6)(J:L.length≤19)(t:∀s∈L,G6 s)(a:Nat)(g:Bool)(B:g=true→∀i,a<i→i<L.length→∃b e,K.kx L ((i:Nat):Int)=some (b,((e:Nat):Int))∧i<e∧e≤L.length∧bQ b≤e - i∧jP L.length b∧b.Kind=1∧GB b):
  ∀(m i:Nat) (c:d3),a<i→i≤L.length→L.length<m+i→cL c+a<i→l8 L.length c→(g=true→gY c)→(g=false→YX c) →
   ∃b e,lW K n L ((a:Nat):Int) g m ((i:Nat):Int) c=some (b,((e:Nat):Int))∧a<e∧e≤L.length∧bQ b≤e - a∧jP L.length b∧b.Kind=1∧GB b∧b.Node=10+(a:Int):=by
 intro m
 induction m with
 | zero=>intro i c _ r z;omega
 | succ m l =>
  intro i c p r z I o k f;have u:=wG c;have stop:∃b e,nn K n L ((a:Nat):Int) g ((i:Nat):Int) c (lW K n L ((a:Nat):Int) g m) false=some (b,((e:Nat):Int))∧a<e∧e≤L.length∧bQ b≤e - a∧jP L.length b∧b.Kind=1∧GB b∧b.Node=10+(a:Int):=by
   simp only[nn,jf,sj];refine⟨_,i,rfl,p,r,?_,?_,rfl,?_,bK (by omega) (by omega)⟩
   ·rw[gx];show cL c+1≤i-a;omega
   ·simp only[jP];refine fun _=>⟨?_,o⟩;rw[bK (by omega) (by omega)];omega
   ·simp only[GB];refine⟨.inl (by first|rfl|trivial),⟨(t _ (f9 (by simpa using (show a<L.length by omega)))).1,by first|rfl|trivial⟩,by omega,?_⟩;cases g with
    | true=>exact .inr (k rfl)
    | false=>exact .inl ⟨by first|rfl|trivial,(f rfl).1,(f rfl).2.1,(f rfl).2.2⟩
  simp only[lW,oe];by_cases j:i<L.length
  ·simp only[fw j,AT,dK j,ba];cases M:decide ((L.getD ((i:Nat):Int).toNat default).Depth>(L.getD ((a:Nat):Int).toNat default).Depth) with
   | false=>exact stop
   | true =>
    simp only[nn,AT];cases g with
    | true =>
     obtain⟨b,e,v,F,w,G,x,H,y⟩:=B rfl i p j;simp only[AT,v,iN,ls,rv];rw[cY (by omega) (by omega),ba];exact l e (c++[b]) (by omega) w (by omega) (by rw[Dt];simp only[cL];omega) (Fn o ⟨x,trivial⟩) (fun _=>Tk (k rfl) ⟨y,trivial⟩) (fun h=>by cases h)
    | false =>
     simp only[jf,sj,dK j,ba,ls,rv];rw[cY (by omega) (by omega),ba,fg (by omega)];have A:=(t _ (f9 j)).2;refine l (i+1) _ (by omega) (by omega) (by omega) (by rw[Dt];simp only[cL,bQ];show cL c+(cL []+1+0)+a<i+1;simp only[cL];omega) (Fn o ⟨(by simp only[jP];intro h;exact absurd h (by decide)),trivial⟩) (fun h=>by cases h) (fun _=>?_);obtain⟨C,D,E⟩:=f rfl;refine⟨fun q d=>?_,fun q d=>?_,fun q d=>?_⟩
     ·rcases nw.1 d with d|d
      ·exact C q d
      ·simp only[ol,aj7,alc]at d;subst d;rfl
     ·rcases nw.1 d with d|d
      ·exact D q d
      ·simp only[ol,aj7,alc]at d;subst d;exact A
     ·rcases nw.1 d with d|d
      ·exact E q d
      ·simp only[ol,aj7,alc]at d;subst d;rfl
  ·simp only[fA (show L.length≤i by omega),jf,sj];exact stop
theorem MG(K:Kn)(n:Nat)(L:d6)(j:L.length≤19)(k:∀s∈L,G6 s)(p:L.length+2≤n):∀(d a:Nat),a<L.length→L.length-a≤d→∃b c,kF K n d L ((a:Nat):Int)=some (b,((c:Nat):Int))∧a<c∧c≤L.length∧bQ b≤c - a∧jP L.length b∧b.Kind=1∧GB b∧b.Node=10+(a:Int)
 | 0,a,h,m=>by omega
 | d+1,a,h,m=>by
  have f:∀g:Bool,∃b c,lW { K with kx:=kF K n d } n L ((a:Nat):Int) g n ((a+1:Nat):Int) []=some (b,((c:Nat):Int))∧a<c∧c≤L.length∧bQ b≤c - a∧jP L.length b∧b.Kind=1∧GB b∧b.Node=10+(a:Int):=fun g =>
   afq { K with kx:=kF K n d } n L j k a g (fun _ i y o=>by
    obtain⟨b,c,r,t,q3,u,v,w,x,_⟩:=MG K n L j k p d i o (by omega);exact⟨b,c,r,t,q3,u,v,w,x⟩) n (a+1) [] (by omega) (by omega) (by omega) (by simp[cL]) trivial (fun _=>trivial) (fun _=>⟨fun q e=>(by cases e),fun q e=>(by cases e),fun q e=>(by cases e)⟩)
  show ∃b c,nZ { K with kx:=kF K n d } n L ((a:Nat):Int)=some (b,((c:Nat):Int))∧_;unfold nZ;simp only[dK h,ba,fg (show a<1000000000 by omega),oG];by_cases l:a+1<L.length
  ·simp only[fw l,AT,dK l,ba];split
   ·exact f _
   ·exact f _
  ·simp only[fA (show L.length≤a+1 by omega),jf,sj];exact f _
theorem M1(l:d6)(b:ab)(g:d3)(c:Bool)(h:10≤b.Node∧b.Node<10+(l.length:Int))(i:l.length≤1000):∃a,jI l b g c=some a∧a.Kids=g∧(a.Style=b.Style∧a.Text=b.Text)∧a.Node=b.Node∧(a.Kind=b.Kind∨(a.Kind=6∧c=true∧b.Node≠10)):=by
 have f:aa (b.Node-10)=b.Node-10:=bK (by omega) (by omega);have e:aM (aa (b.Node-10)) l.length=true:=by rw[f];exact dj (by omega) (by omega)
 unfold jI;cases c with
 | false=>exact⟨_,rfl,rfl,⟨rfl,rfl⟩,rfl,.inl rfl⟩
 | true =>
  simp only[e,ba];split
  ·rename_i d;have d:=lp d;rw[f]at d;split
   ·exact⟨_,rfl,rfl,⟨rfl,rfl⟩,rfl,.inr ⟨rfl,(by first|rfl|trivial),by omega⟩⟩
   ·exact⟨_,rfl,rfl,⟨rfl,rfl⟩,rfl,.inl rfl⟩
  ·exact⟨_,rfl,rfl,⟨rfl,rfl⟩,rfl,.inl rfl⟩
theorem UA(L:Nat)(f:ab→Option ab):∀(l:d3),l8 L l→gY l→(∀k∈l,jP L k→k.Kind=1→GB k→∃a,f k=some a∧bQ a=bQ k∧GB a)→∃m,kO f l=some m∧cL m=cL l∧gY m∧m.length=l.length
 | [],_,_,_=>⟨[],rfl,rfl,trivial,rfl⟩
 | k::r,h,b,d=>by
  simp only[l8]at h;simp only[gY]at b;obtain⟨m,e,p,g,i⟩:=UA L f r h.2 b.2 (fun q o=>d q (pt _ o));have c:∃a,(if (k.Kind == 1)=true then f k else some k)=some a∧bQ a=bQ k∧GB a:=by
   split
   ·rename_i c;exact d k ti h.1 (by simpa using c) b.1
   ·exact⟨k,rfl,rfl,b.1⟩
  obtain⟨a,j,s,n⟩:=c;refine⟨a::m,?_,by simp only[cL];omega,⟨n,g⟩,by simp[i]⟩;simp only[kO,e,j,iN]
theorem Pf(l:d6)(u:l.length≤1000):∀(m:Nat) (b:ab),bQ b≤m→jP l.length b→b.Kind=1→GB b→∃a,iw l m b=some a∧bQ a=bQ b∧GB a∧a.Node=b.Node∧(b.Node=10→a.Kind=1)
 | 0,b,h,_,_,_=>by have:=g9 b;omega
 | m+1,b,h,I,o,H=>by
  obtain⟨z,F⟩:=agT I o;obtain⟨S,y,D,E⟩:=ia.1 H;have J:=gx b;rcases E with g|G
  ·have p:=Jq (iw l m) b.Kids g.2.1;have i:(b.Kids.any fun k=>k.Kind == 1)=false:=by
    rw[alB];intro k v;rw[g.2.1 k v];decide
   obtain⟨a,w,n,⟨A,s⟩,B,f⟩:=M1 l b b.Kids false z u;have j:a.Kind=1:=by
    rcases f with f|⟨_,f,_⟩
    ·rw[f,o]
    ·cases f
   refine⟨a,?_,by rw[gx,n];omega,?_,B,fun _=>j⟩
   ·simp only[iw,p,iN,i,w]
   ·rw[ia,j,n,A,s];exact⟨.inl rfl,y,D,.inl ⟨rfl,g.2.1,g.2.2.1,g.2.2.2⟩⟩
  ·obtain⟨L,p,w,n,R⟩:=UA l.length (iw l m) b.Kids F G (fun k v M N q3=>by
    obtain⟨K,O,P,Q,_⟩:=Pf l u m k (by have:=oc v;omega) M N q3;exact⟨K,O,P,Q⟩)
   obtain⟨a,C,x,⟨q,c⟩,r,d⟩:=M1 l b L (b.Kids.any fun k=>k.Kind == 1) z u;refine⟨a,?_,by rw[gx,x];omega,?_,r,fun t=>?_⟩
   ·simp only[iw,p,iN,C]
   ·rw[ia,x,q,c];refine⟨?_,y,by omega,.inr n⟩;rcases d with e|⟨e,_,_⟩
    ·exact .inl (e.trans o)
    ·exact .inr e
   ·rcases d with e|⟨_,_,e⟩
    ·exact e.trans o
    ·exact absurd t e
theorem ai3(K:Kn)(n:Nat)(l:d6)(A:0<l.length)(B:l.length≤19)(D:l.length+2≤n)(t:∀s∈l,s.Text.size≤90):∃b,qW K n l=some b∧bQ b≤l.length∧GB b∧b.Kind=1:=by
 have C:(l.map fy).length=l.length:=nx _;have m:∀s∈l.map fy,G6 s:=fun s r=>by
  obtain⟨q,p,rfl⟩:=Do.1 r;refine⟨?_,by rw[aht];exact t q p⟩;unfold fy;split
  ·show(0:Int)≠2;decide
  ·rename_i o;simpa using o
 obtain⟨b,u,d,v,w,x,e,f,g,h⟩:=MG K n (l.map fy) (by omega) m (by omega) n 0 (by omega) (by omega);obtain⟨c,i,y,j,z,k⟩:=Pf (l.map fy) (by omega) n b (by omega) e f g;refine⟨c,?_,by omega,j,k (by simpa using h)⟩;unfold qW;have a:kF K n n (l.map fy) 0=some (b,((u:Nat):Int)):=d;rw[cY (by omega) (by omega),ba,a,iN];exact i
theorem acf(N n:Nat)(f:ae)(h:f.Kids.length≤3000)(d:∀k∈f.Kids,(KN N).AM k k=some true):∀(m i:Nat),i≤f.Kids.length→f.Kids.length<m+i→tE (KN N) n f f m i=some true:=by
 intro m
 induction m with
 | zero=>intro i b c;omega
 | succ m g =>
  intro i b c;simp only[tE,xn];by_cases a:i<f.Kids.length
  ·simp only[zI a,AT,qi a,ba,Int.toNat_natCast,d _ (f9 a),iN,aeJ,jf,sj,AC (show i<1000000 by omega)];exact g (i+1) (by omega) (by omega)
  ·have e:i=f.Kids.length:=by omega
   subst e;simp[D0 (lc _)]
theorem Rn:∀(d N n:Nat) (f:ae),DF d f→3000<n→d+3010≤N→qz (KN N) n f f=some true
 | 0,_,_,_,h,_,_=>h.elim
 | d+1,N,n,f,h,e,a=>by
  unfold DF at h;have c:=acf N n f h.1 (fun k b=>by
   match N,a with
   | N+1,a =>
    show qz (KN N) N k k=some true;exact Rn d N N k (h.2 k b) (by omega) (by omega)) n 0 (by omega) (by have:=h.1;omega)
  unfold qz;simp only[bne_self_eq_false,beq_self_eq_true,aeJ,jf,sj,adQ,Wx,gR];exact c
theorem adj(K:Kn)(n:Nat)(b:ab)(A:b.Kids.length<1000000)(y:∀k∈b.Kids,(k.Kind=3)∨((k.Kind=1∨k.Kind=6)∧∃v:Nat,v≤cL k.Kids∧K.xE k=some (v:Int))):∀(m i:Nat) (v:Nat),i≤b.Kids.length→b.Kids.length<m+i→v+cL (b.Kids.drop i)<2000000 →
  ∃u:Nat,rk K n b m (v:Int) i=some (u:Int)∧v≤u∧u≤v+cL (b.Kids.drop i)∧(v<u↔∃k∈b.Kids.drop i,k.Kind≠3):=by
 intro m
 induction m with
 | zero=>intro i v t w;omega
 | succ m r =>
  intro i v t w o;simp only[rk,zy];by_cases d:i<b.Kids.length
  ·have x:=drop_at' d;have g:b.Kids.getD (i:Int).toNat default=b.Kids.getD i default:=by rw[Int.toNat_natCast]
   have hm:=y _ (f9 d);rw[x]at o⊢;simp only[cL]at o⊢;simp only[fw d,AT,dK d,ba,g,Ay,yI];generalize b.Kids.getD i default=k at *;have z:=gx k;rcases hm with hm|⟨hm,u,B,p⟩
   ·rw[hm];simp only[show((3:Int) == 1)=false from rfl,show((3:Int) == 6)=false from rfl,jf,sj];rw[fg (by omega)];obtain⟨u,f,j,s,l⟩:=r (i+1) v (by omega) (by omega) (by omega);refine⟨u,f,j,by omega,l.trans ⟨fun⟨q,a,e⟩=>⟨q,pt _ a,e⟩,fun⟨q,a,e⟩=>?_⟩⟩;rcases ol.1 a with rfl|a
    ·exact absurd hm e
    ·exact⟨q,a,e⟩
   ·have key:∃c:Nat,rk K n b m (aa ((v:Int)+aa (1+(u:Int)))) (aa ((i:Int)+1))=some (c:Int)∧v≤c∧c≤v+(bQ k+cL (b.Kids.drop (i+1)))∧(v<c↔∃q∈k::b.Kids.drop (i+1),q.Kind≠3):=by
     rw[bK (n:=1+(u:Int)) (by omega) (by omega),bK (n:=(v:Int)+(1+(u:Int))) (by omega) (by omega),fg (by omega),show(v:Int)+(1+(u:Int))=((v+(1+u):Nat):Int) by omega];obtain⟨c,f,j,s,l⟩:=r (i+1) (v+(1+u)) (by omega) (by omega) (by omega);exact⟨c,f,by omega,by omega,⟨fun _=>⟨k,ti,by omega⟩,fun _=>by omega⟩⟩
    rcases hm with hm|hm
    ·rw[hm];simp only[show((1:Int) == 1)=true from rfl,AT,p,iN];exact key
    ·rw[hm];simp only[show((6:Int) == 1)=false from rfl,show((6:Int) == 6)=true from rfl,jf,sj,AT,p,iN];exact key
  ·simp only[fA (show b.Kids.length≤i by omega),jf,sj];rw[mo (by omega)];exact⟨v,rfl,lc _,by omega,⟨fun h=>absurd h (al6 _),fun⟨q,a,_⟩=>by cases a⟩⟩
theorem LX:∀(s N:Nat) (b:ab),bQ b≤s→s<100000→s+2≤N→GB b→∃u:Nat,uA (KN N) N b=some (u:Int)∧u≤cL b.Kids∧(0<u↔∃k∈b.Kids,k.Kind≠3)
 | 0,_,b,h,_,_,_=>by have:=g9 b;omega
 | s+1,0,_,_,_,h,_=>by omega
 | s+1,N+1,b,n,o,p,g=>by
  have i:=gx b;have d:=wG b.Kids;obtain⟨u,e,m,f,a⟩:=adj (KN (N+1)) (N+1) b (by omega) (fun k c=>by
   rcases Oi g k c with q|⟨_,q⟩
   ·exact .inl q.1
   ·obtain⟨u,j,l,_⟩:=LX s N k (by have:=oc c;omega) (by omega) (by omega) q;exact .inr ⟨(ia.1 q).1,u,l,j⟩) (N+1) 0 0 (v9 _) (by omega) (by rw[BY];omega)
  rw[BY]at f a;refine⟨u,?_,by omega,a⟩;unfold uA;simpa using e
end Go.Proofs.YtocgkfoifehcbaaGreat
namespace Go.Proofs.YtocgkfoifehcbaaGreat.QRelayoutTwice
set_option linter.all false
set_option maxRecDepth 20000
open Go.RowKit
theorem abQ(K:Kn)(n:Nat)(l:d6)(c:eK)(B:0<l.length)(D:l.length≤100)(p:0≤c.At∧c.At<256)(t:Nat)(x:t≤1000)(o:∀s∈l,s.Text.size≤t)(C:c.Spec.Text.size≤t):∃l',yt K n l c=some l'∧0<l'.length∧l'.length≤l.length+1∧∀s∈l',s.Text.size≤t+1:=by
 have d:∀s∈l,s.Text.size≤t+1:=fun s b=>by have:=o s b;omega
 have g:c.Spec.Text.size≤t+1:=by omega
 unfold yt;simp only[Io,rv,If,List.length_singleton,ne,ls];rw[cY (by omega) (by omega),ba];by_cases m:(l.length:Int)<2
 ·rw[ll (decide_eq_true m),dj (by omega) (by omega),ba,cY (by omega) (by omega),ba];refine⟨_,rfl,by simp,by simp,fun s b=>?_⟩;rcases nw.1 b with b|b
  ·exact d s b
  ·simp only[ol,aj7,alc]at b;subst b;exact v9 _
 ·have u:¬ decide ((l.length:Int)<2)=true:=by simpa using m
  rw[kc u];have y:aa ((l.length:Int)-1)=(l.length:Int)-1:=bK (by omega) (by omega);have z:aa c.At=c.At:=bK (by omega) (by omega);have v:=Int.tmod_nonneg ((l.length:Int)-1) p.1;have w:=Int.tmod_lt_of_pos c.At (show 0<(l.length:Int)-1 by omega);rw[y,z,bK (by omega) (by omega)];have j:(((l.length:Int)-1) != 0)=true:=by simp[bne];omega
  rw[j,ba,iN];generalize q:1+c.At.tmod ((l.length:Int)-1)=at_ at *;obtain⟨a,rfl⟩:∃a:Nat,at_=(a:Int):=⟨at_.toNat,by omega⟩;have h:1≤a:=by omega
  have e:a<l.length:=by omega
  have A:aa ((a:Int)+1)=((a+1:Nat):Int):=fg (by omega);have f:=o _ (f9 (L:=l) (i:=((a:Nat):Int).toNat) (by simpa using e));simp only[dK e,ba,iN,xu,A];split
  ·refine⟨_,rfl,by simp;omega,by simp,fun s b=>?_⟩;rcases akx b with b|b
   ·exact d s b
   ·subst b;show c.Spec.Text.size≤t+1;omega
  ·split
   ·have k:(⟨#[120]⟩:ByteArray).size=1:=rfl;have b:wx (l.getD ((a:Nat):Int).toNat default).Text (⟨#[120]⟩:ByteArray)=true:=by
     unfold wx;have:=f;rw[k];exact decide_eq_true (by omega)
    rw[b,ba];refine⟨_,rfl,by simp;omega,by simp,fun s b=>?_⟩;rcases akx b with b|b
    ·exact d s b
    ·subst b;have:=f;show((l.getD ((a:Nat):Int).toNat default).Text++(⟨#[120]⟩:ByteArray)).size≤t+1;rw[ByteArray.size_append,k];omega
   ·split
    ·rw[vc (by omega) (by omega) (by omega),ba,vc (by omega) (by omega) (by omega),ba];simp only[Int.toNat_natCast,show(0:Int).toNat=0 from rfl,akm];have r:(Nat.ble 1 a&&(Nat.ble a (a+1)&&Nat.ble (a+1+(l.length-(a+1))) l.length))=true:=by
      simp only[iO];exact⟨akg h,akg (by omega),akg (by omega)⟩
     rw[r,ba];refine⟨_,rfl,by rw[ne,IN];omega,by rw[ne,IN,IN,ahP];omega,fun s b=>d s ?_⟩;rcases nw.1 b with b|b
     ·exact oR b
     ·exact w3 (oR b)
    ·rw[vc (by omega) (by omega) (by omega),ba];simp only[Int.toNat_natCast,show(0:Int).toNat=0 from rfl,BY,IN,ahP];rw[cY (by omega) (by omega),ba,cY (by omega) (by omega),ba,vc (by omega) (by omega) (by omega),ba,cY (by omega) (by omega),ba];refine⟨_,rfl,by simp;omega,by simp;omega,fun s b=>?_⟩;rcases nw.1 b with b|b
     ·rcases nw.1 b with b|b
      ·exact d s (oR b)
      ·simp only[ol,aj7,alc]at b;subst b;exact g
     ·exact d s (oR (w3 b))
theorem MK:∀{l:d3} {k:ab},k∈l→mw k l=true
 | [],k,h=>by cases h
 | b::r,k,h=>by
  simp only[mw,IF];rcases ol.1 h with rfl|h
  ·exact .inl (by rw[Fz,Ce,Bool.true_or])
  ·exact .inr (MK h)
theorem W2(N:Nat)(hN:20300≤N)(cs:List eK)(a0:cs.length≤6)(z:∀c∈cs,0≤c.At∧c.At<256)(A:∀c∈cs,c.Spec.Text.size≤60)(sz:V2 Int):∀(m i:Nat) (L:d6) (a b:Int) (S:ci),i≤cs.length→cs.length<m+i→0<L.length→L.length≤12+i→(∀s∈L,s.Text.size≤60+i)→S.length≤100*i→(∀x∈S,jn x) →
  rQ (KN (N+1)) (N+1) cs sz m L ((i:Nat):Int) a b S=some true:=by
 intro m
 induction m with
 | zero=>intro i L a b S _ h;omega
 | succ m ih =>
  intro i L a b S h1 h2 K h4 M h6 j;simp only[rQ,AO];obtain⟨d,t1,t2,E,R⟩:=ai3 (KN (N+1)) (N+1) L K (by omega) (by omega) (fun s C=>by have:=M s C;omega);rw[t1];by_cases B:i<cs.length
  ·have l:=f9 B;simp only[fw B,AT,dK B,ba,iN,Int.toNat_natCast];obtain⟨F,P,_,_,_,_,e⟩:=Mi d E R (by omega) sz.a0 0;obtain⟨g,T,o,r,e3,_⟩:=e N (by omega) S a b (by omega) j;rw[o,iN];obtain⟨W,g1,g2,g3,g4⟩:=abQ (KN (N+1)) (N+1) L (cs.getD i default) K (by omega) (z _ l) (60+i) (by omega) M (by have:=A _ l;omega);rw[g1,iN,fg (by omega)];obtain⟨f1,t,v,_⟩:=yQ d (S++T) [];refine ih (i+1) W _ _ _ (by omega) (by omega) g2 (by omega) (fun s C=>by have:=g4 s C;omega) ?_ (fun x D=>?_)
   ·simp only[rv,ne]at v;show(eH d [] (S++T)).length≤_;omega
   ·rcases t x D with h|h
    ·cases h
    ·rcases nw.1 h.1 with h|h
     ·exact j x h
     ·exact r x h
  ·simp only[fA (show cs.length≤i by omega),jf,sj,iN];obtain⟨F,P,Y,J,Z,⟨d4,_⟩,e⟩:=Mi d E R (by omega) sz.a0 sz.a1;obtain⟨g,T,o,r,e3,e4,_⟩:=e N (by omega) S a b (by omega) j;obtain⟨f1,t,v,f4⟩:=yQ d (S++T) [];have hR:∀x∈eH d [] (S++T),jn x:=fun x D=>by
    rcases t x D with h|h
    ·cases h
    ·rcases nw.1 h.1 with h|h
     ·exact j x h
     ·exact r x h
   simp only[rv,ne]at v;obtain⟨G,U,O,k2,k3,k4,k5,_⟩:=e N (by omega) (eH d [] (S++T)) (T.length:Int) g (by omega) hR;obtain⟨k6,k7⟩:=k5 (fun p n=>by
    obtain⟨x,x1,x2⟩:=e4 p n;obtain⟨w1,V⟩:=M6 x2;have l:im x.Box d=true:=by rw[Fz,V,MK (J p n),Bool.or_true]
    obtain⟨y,y1,H⟩:=f4 x x1 l;simp only[jB,iO,ajK]at H;exact⟨y,y1,by simp only[fc,iO,ajK];exact⟨H.1.trans w1,by rw[←V];exact H.2⟩⟩)
   subst k6;rw[MO,ai2]at O;obtain⟨u,X,b2,I⟩:=LX (bQ d) (N+1) d (lc _) (by omega) (by omega) E;rw[o,iN,O,iN];simp only[rv,beq_self_eq_true,AT,X,iN];rw[show(((0:Nat):Int) == 0)=true from rfl,ll rfl];have hu:(decide (G>0) == decide ((u:Int)>0))=true:=by
    rw[ajK,decide_eq_decide,k7];constructor
    ·intro h;have:∃k∈d.Kids,k.Kind≠3:=by
      cases w:P with
      | nil=>rw[w]at h;simp at h
      | cons p P' =>
       have n:=J p (by rw[w];exact ti);refine⟨p.1,n,fun f=>?_⟩;rcases (ia.1 (d4 p (by rw[w];exact ti))).1 with q|q<;>rw[q]at f<;>cases f
     have:=I.2 this;omega
    ·intro h;obtain⟨k,Q,q2⟩:=I.1 (by omega);have:=Z ⟨k,Q,q2⟩;have:0<d.Kids.length:=List.length_pos_of_mem Q;omega
   rw[hu,ll rfl,Rn (bQ d+2) (N+1) (N+1) F Y (by omega) (by omega),iN];rfl
theorem aai{c:eK}(h:cR Tryz.prog 39 (d9 c)):0≤c.At∧c.At<256:=by
 have d:=h.gen;rw[Tryz.underlying39]at d;obtain⟨parts,b,a,j⟩:=d;have a:parts.length=3:=a;obtain⟨l,m,f,i⟩:=cN a;subst f;obtain⟨n,rfl,k⟩:=(j 0 _ l rfl rfl).int_inv Tryz.underlying5;have e:(d9 c).head?=some (.int .u8 n):=by rw[b];rfl
 have g:(d9 c).head?=some (.int .u8 c.At):=by kernel_rfl
 rw[g]at e;injection e with e;injection e with _ e
 rw[e];have:0≤n∧n≤255:=by simpa[Lit.wf,IntKind.min,IntKind.max,IntKind.signed,IntKind.bits]using k
 omega
theorem holds(d:d6)(a:List eK)(k:V2 Int)(z:cR Tryz.prog 22 ((sW aI) d))(A:cR Tryz.prog 23 ((sW d9) a))(H:cR Tryz.prog 24 (AK (ak .i64) k)):∃n,BD (KN n) n d a k=some true:=by
 obtain⟨l,m,C,_⟩:=z.sl_inv Tryz.underlying22;simp only[sW,aki,AV.sl.injEq,and_true]at m;have o:l.length=d.length:=by rw[←m,nx]
 have D:l.length≤9223372036854775807:=C;obtain⟨q,e,j,_,h⟩:=A.sl_inv Tryz.underlying23;simp only[sW,aki,AV.sl.injEq,and_true]at e;have i:q.length=a.length:=by rw[←e,nx]
 have p:q.length≤9223372036854775807:=j;have f:∀c∈a,0≤c.At∧c.At<256:=fun c g=>aai (h _ (by rw[←e];exact al5 g));refine⟨d.length+a.length+20400+30,?_⟩;unfold BD;rw[Yd (d.length+a.length+20400),iN];obtain⟨N,B⟩:∃N,d.length+a.length+20400+30=N+1:=⟨d.length+a.length+20429,by omega⟩;rw[B];obtain⟨b,r,t⟩:=Z3 (KN (N+1)) (N+1) d a (by omega) (by omega) (by omega) (by omega);rw[r,iN];cases b with
 | false=>rfl
 | true =>
  obtain⟨⟨G,u,y⟩,v,w⟩:=t rfl;simp only[aeJ,jf,sj];exact W2 N (by omega) a y f (fun c g=>by have:=(w c g).text;omega) k (N+1) 0 d 0 0 [] (v9 _) (by omega) u (by omega) (fun s E=>by have:=(v s E).text;omega) (v9 _) (fun x F=>by cases F)
end Go.Proofs.YtocgkfoifehcbaaGreat.QRelayoutTwice
