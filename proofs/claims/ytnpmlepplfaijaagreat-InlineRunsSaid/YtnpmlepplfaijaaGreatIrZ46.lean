/- An inline block is placed as the reference places it, plain. -/
import Derived.Test.YtnpmlepplfaijaaGreatIrZ44
import Derived.Test.YtnpmlepplfaijaaGreatIrGm
import Derived.Test.YtnpmlepplfaijaaGreatIrGop
namespace Go.Proofs.YtnpmlepplfaijaaGreat
set_option linter.all false
open Go.RowKit
noncomputable section
theorem T4(l:cj)(w:Int):(c6 l w).2=(l.Kind == 1||l.Kind == 2):=by
 unfold c6;by_cases h1:l.Kind=1<;>by_cases h2:l.Kind=2<;>simp[h1,h2]
theorem I5{b k:aj}(h:eN b k):rr 1 b:=⟨by rw[h.kids];simp,.inr fun x hx=>by rw[h.kids]at hx;rw[List.mem_singleton.1 hx];exact h.kind⟩
theorem FR{b k:aj}(h:eN b k):b8 b=[k]:=by
 unfold b8;rw[h.kids,List.filter_cons,if_pos (by unfold gI;rw[h.kind];rfl)];rfl
theorem JD{b k:aj}(h:eN b k):(b8 b).any da=false:=by
 rw[FR h];unfold da;rw[List.any_cons,h.kind];rfl
section
variable{N:Nat}{b k:aj}
theorem Vl(h:eN b k)(hN:20<N):∃x y,js (KN (N+1)) (N+1) b=some (x,y)∧((c6 (wd b.Style).Width 0).2=false→mh (KN (N+1)) (N+1) b gQ=some (x,y)):=by
 have hlen:b.Kids.length≤20:=(I5 h).1;have hO:∀x,(KN (N+1)).jn (Fv.fn 102) x=some (da x):=fun x=>yX (KN N) N x;have hfl:(b8 b).length≤20:=Nat.le_trans um hlen;refine⟨gK (nn (b8 b) 0 0).1,gK (nn (b8 b) 0 0).2,?_,fun hk=>?_⟩
 ·unfold js;rw[z2 _ _ b hlen (by omega),E9 _ _ b hlen (by omega)];have hr:((b8 b).any fun k=>k.Kind == 1)=false:=by rw[FR h,List.any_cons,h.kind];rfl
  simp only[Option.bind_some,hr,Bool.not_false,if_true];rw[GJ (KN (N+1)) (N+1) (b8 b) b.Style hfl (by omega)];rfl
 ·unfold mh;rw[V0];simp only[Option.bind_some];rw[iV];simp only[Option.bind_some,hk,Bool.false_eq_true,if_false];rw[EJ _ _ hO b hlen (by omega),JD h];simp only[Option.bind_some,Bool.not_false,if_true];rw[show(KN (N+1)).tS gQ.Spread (b8 b) b.Style=_ from GJ (KN N) N (b8 b) b.Style hfl (by omega)];rfl
theorem WE(h:eN b k)(hN:20<N)(w:Int):∃v,ms (KN (N+1)) (N+1) b w gQ=some v∧jL (KN (N+1)) (N+1) b w=some v:=by
 obtain⟨x,y,hc,hi⟩:=Vl h hN;unfold ms jL;simp only[iV,uC,CF,Option.bind_some,zy];cases hw:(c6 b.Style.Width w).2 with
 | true =>
  simp only[Bool.not_true,Bool.false_eq_true,if_false,nC,jw,z6,Iw,HV,Option.bind_some];exact⟨_,rfl,rfl⟩
 | false =>
  have hk:(c6 (wd b.Style).Width 0).2=false:=by
   rw[T4]at hw⊢;simp only[Bool.or_eq_false_iff,beq_eq_false_iff_ne]at hw⊢;have:(wd b.Style).Width=b.Style.Width:=by show bA _=_;unfold bA;rw[if_neg hw.2]
   rw[this];exact hw
  simp only[Bool.not_false,if_true,hi hk,hc,Option.bind_some,Br,vR,HW,xn,DC,Rx,nC,jw,z6,Iw,HV];exact⟨_,rfl,rfl⟩
theorem JG(h:eN b k)(hN:25≤N)(z:aP):∃f,nS (KN (N+1)) (N+1) b z gQ=some f∧kB (KN (N+1)) (N+1) b z=some f∧Fd 2 f:=by
 obtain⟨f,h1,h2,h3,_⟩:=core 0 N b z false (I5 h) (by omega) gQ ⟨rfl,rfl⟩ (fun k hk=>hk.elim);refine⟨f,?_,?_,h3⟩
 ·unfold nS;simp only[lM,l3,Bool.false_and]at h1;rw[h1];rfl
 ·unfold kB;rw[h2];rfl
theorem Sn(h:eN b k){M:Nat}(hM:25≤M)(w:Int){n:Nat}(hn:M+10≤n):∃v f,jL (KN n) n b w=some v∧kB (KN n) n b (gE b.Style w v)=some f∧Fd 2 f ∧
  gZ M w b={ cO with Width:=B2 (gE b.Style w v),Above:=ab (ab (f.H+ab (f.Before.Pos+f.Before.Neg))+ab (f.After.Pos+f.After.Neg)),Box:=[fH f w] }:=by
 obtain⟨v,s1,s2⟩:=WE (N:=M+9) h (by omega) w;obtain⟨f,f1,f2,f3⟩:=JG (N:=M+9) h (by omega) (gE b.Style w v);refine⟨v,f,NI (zC _ _ hn) hn _ _ _ s2,Th (zC _ _ hn) hn _ _ _ f2,f3,?_⟩;unfold gZ km;rw[show ms (KN (M+10)) (M+10) b w gQ=_ from s1];simp only[Option.bind_some,vR];rw[show nS (KN (M+10)) (M+10) b (gE b.Style w v) gQ=_ from f1];simp only[Option.bind_some,Gz,xn,fD];have e1:(fH f w).H=f.H:=by unfold fH;split<;>rfl
 have e2:(fH f w).Before=f.Before:=by unfold fH;split<;>rfl
 have e3:(fH f w).After=f.After:=by unfold fH;split<;>rfl
 rw[e1,e2,e3];rfl
end
end
end Go.Proofs.YtnpmlepplfaijaaGreat
namespace Go.Proofs.YtnpmlepplfaijaaGreat
set_option linter.all false
open Go.RowKit
noncomputable section
theorem LF(K:Kn)(n:Nat)(x:Int)(h1 : -4611686018427387904≤x)(h2:x≤4611686018427387904):tL K n x=some (x / 2):=by
 unfold tL;by_cases h:x<0
 ·rw[if_pos (by simpa using h),cf (n:=1-x) (by omega) (by omega),Int.tdiv_eq_ediv_of_nonneg (by omega),cf (n:=(1-x) / 2) (by omega) (by omega),cf (by omega) (by omega)];congr 1;omega
 ·rw[if_neg (by simpa using h),Int.tdiv_eq_ediv_of_nonneg (by omega),cf (by omega) (by omega)]
theorem NB(K:Kn)(n:Nat)(s:aJ)(h1:0≤s.LineHeight)(h2:s.LineHeight≤65536):sS K n s=some (s7 s):=by
 rw[←Aj K n];unfold iM sS rf qY nE mD vk mD;simp only[Option.bind_some];have hz:0≤min (max s.FontSize 0) 1048576∧min (max s.FontSize 0) 1048576≤1048576:=by omega
 generalize min (max s.FontSize 0) 1048576=z at *;have e1:ab (z+3)=z+3:=cf (by omega) (by omega);have e2:Int.tdiv (z+3) 4=(z+3) / 4:=Int.tdiv_eq_ediv_of_nonneg (by omega);rw[e1,e2,cf (n:=(z+3) / 4) (by omega) (by omega),cf (n:=z+(z+3) / 4) (by omega) (by omega)];have hm:max s.LineHeight 0=s.LineHeight:=by omega
 rw[hm,cf (n:=s.LineHeight-(z+(z+3) / 4)) (by omega) (by omega),LF K n _ (by omega) (by omega)];rfl
theorem yy(s c:Int):∀(l:List Int) (a:Int),gJ s a (l++[c])=ab (gJ s a l+jA c s)
 | [],a=>rfl
 | x::t,a=>by rw[List.cons_append];unfold gJ;exact yy s c t _
theorem ba_ext'{a b:ByteArray}(h:a.data.toList=b.data.toList):a=b:=by
 apply ByteArray.ext;exact Array.ext' h
theorem TS(a:List Int)(r:Int):c8 a++runesBytes [r]=c8 (a++[r]):=by
 apply ba_ext';rw[tW,td,td,zp];congr 1;unfold runesBytes;simp only[List.foldl_cons,List.foldl_nil];rw[tW];show []++cT r=cz [r];simp[cz]
theorem Vs{a b:ByteArray}(h:a.size+b.size≤100000000):sB a b=true:=decide_eq_true (Nat.le_trans h (by decide))
theorem QY{r:Int}(h:cv r):(runesBytes [r]).size≤4:=by
 have:(runesBytes [r]).data.toList=cT r:=by
  unfold runesBytes;simp only[List.foldl_cons,List.foldl_nil];rw[tW];rfl
 rw[←pr,this];exact(rj h).2
section
variable{K:Kn}{n:Nat}{v1:ba}{v4:aJ}{v12:Int×Int}{x:List ax}
theorem MO(hT:gd x v1.Things)(hk:∀e∈x,e.Kind=1)(ho:∀e∈x,iX e)(hl:x.length≤2000)(hn:101≤n):∀(m i:Nat),i<x.length→x.length<m+i →
  kx K n v1 v4 v12 m (i:Int) (c8 ((bH x).take i)) (gJ v4.FontSize 0 ((bH x).take i)) 0=some ⟨v1.Things,c8 (bH x),gJ v4.FontSize 0 (nZ x),bif jC x then jA 32 v4.FontSize else 0,v12.1,v12.2,v1.Glued,v1.Forced,[]⟩:=by
 have hlen:=CL _ _ hT;have hcl:(bH x).length=x.length:=by unfold bH;simp
 have hel:∀i,i<x.length→fN (x.getD i default) (v1.Things.getD i default):=fun i hi=>by
  have h1:=zk i _ _ hT;have hi2:i<v1.Things.length:=by omega
  rw[List.drop_eq_getElem_cons hi,List.drop_eq_getElem_cons hi2]at h1;rw[cw hi,cw hi2];exact h1.1
 intro m
 induction m with
 | zero=>intro i h1 h2;omega
 | succ m ih =>
  intro i hi h2;show kY K n v1 v4 v12 (kx K n v1 v4 v12 m) i _ _ _=_;unfold kY;have hm:x.getD i default∈x:=by rw[cw hi];exact List.getElem_mem _
  have he:=hel i hi;have hch:(v1.Things.getD i default).Char=(x.getD i default).Char:=he.char (hk _ hm);have hok:=ho _ hm;have ht:(bH x).take (i+1)=(bH x).take i++[(x.getD i default).Char]:=by
   rw[List.take_add_one,List.getElem?_eq_getElem (by rw[hcl];exact hi),cw hi];simp[bH]
  have hoks:∀r∈(bH x).take i,cv r:=fun r hr=>Ca ho r (List.mem_of_mem_take hr);have hsz:(c8 ((bH x).take i)).size≤4*((bH x).take i).length:=by rw[vK];exact(uc hoks).2
  have hsz2:=QY hok.ch;have htl:((bH x).take i).length≤2000:=by rw[List.length_take];omega
  have hw:ab ((i:Int)+1)=((i+1:Nat):Int):=by rw[cf (by omega) (by omega)];omega
  have hw1:ab ((v1.Things.length:Int)-1)=((x.length-1:Nat):Int):=by rw[cf (by omega) (by omega)];omega
  rw[if_pos (by simp;omega),cq (by omega) (by omega),bm,Int.toNat_natCast,hch,Ry hn,Option.bind_some,Vs (by omega),bm,Option.bind_some,TS,← ht,hw1,he.soft];by_cases hlast:i+1<x.length
  ·have e:((i:Int) == ((x.length-1:Nat):Int))=false:=by simp;omega
   have fin:kJ K n v1 v4 v12 (i:Int) (gJ v4.FontSize 0 ((bH x).take i)) 0 (jA (x.getD i default).Char v4.FontSize) (c8 ((bH x).take (i+1))) (kx K n v1 v4 v12 m) false=some ⟨v1.Things,c8 (bH x),gJ v4.FontSize 0 (nZ x),bif jC x then jA 32 v4.FontSize else 0,v12.1,v12.2,v1.Glued,v1.Forced,[]⟩:=by
    unfold kJ mH;rw[if_neg (by simp),hw,← yy,← ht];exact ih (i+1) hlast (by omega)
   rw[e];split<;>exact fin
  ·have hil:i+1=x.length:=by omega
   have e:((i:Int) == ((x.length-1:Nat):Int))=true:=by simp;omega
   have hs:(x.getD i default).Soft=jC x:=by unfold jC;rw[←hil,Nat.add_sub_cancel]
   have hall:(bH x).take (i+1)=bH x:=List.take_of_length_le (by omega);have hdl:(bH x).dropLast=(bH x).take i:=by rw[List.dropLast_eq_take,hcl,← hil,Nat.add_sub_cancel]
   obtain⟨m,rfl⟩:∃m',m=m'+1:=⟨m-1,by omega⟩;have stop:∀W S,kx K n v1 v4 v12 (m+1) ((i+1:Nat):Int) (c8 ((bH x).take (i+1))) W S=some ⟨v1.Things,c8 (bH x),W,S,v12.1,v12.2,v1.Glued,v1.Forced,[]⟩:=fun W S=>by
    show kY K n v1 v4 v12 (kx K n v1 v4 v12 m) _ _ _ _=_;unfold kY;rw[if_neg (by simp;omega),hall]
   rw[e,hs];cases hso:jC x with
   | true =>
    have h32:(x.getD i default).Char=32:=hok.soft (by rw[hs];exact hso);rw[if_pos rfl];unfold kJ mH;rw[if_pos rfl,hw,stop,h32];unfold nZ;rw[hso,← hdl];rfl
   | false =>
    rw[if_neg (by simp)];unfold kJ mH;rw[if_neg (by simp),hw,stop,← yy,← ht,hall];unfold nZ;rw[hso];rfl
end
structure qo(r:aM)(y:ba):Prop where
 things:∃t s,y.Things=t::s∧r.Node=t.Box.Node∧r.Style=t.Box.Style
 text:y.Text=r.Text
 width:y.Width=r.Width
 space:y.Space=r.Space
 above:y.Above=r.Above
 below:y.Below=r.Below
 glued:y.Glued=r.Glued
 forced:y.Forced=r.Forced
 box:y.Box=r.Box
 fd:r.Box=[]∨∃f,r.Box=[f]∧Fd 2 f
section
variable{n:Nat}{w:Int}
theorem OL{K:Kn}{p:Option ax}{e:ax}{r:List ax}{t:aI}{s:List aI}(hT:gd (e::r) (t::s))(hk:∀x∈e::r,x.Kind=1)(ho:∀x∈e::r,iX x)(hl:(e::r).length≤2000)(hn:2101≤n)(hlh:0≤e.Box.Style.LineHeight∧e.Box.Style.LineHeight≤65536):
  ∃y,fi K n (db (dN p e t,some (t::s))) w=some y∧qo (runM (gw (e::r)) e (ib p e)) y:=by
 have he:=hT.1;have hke:=hk e (by simp);have hst:pm (e::r)=e.Box.Style:=rfl;unfold fi;have e0:(db (dN p e t,some (t::s))).Things=t::s:=rfl;have eB:(db (dN p e t,some (t::s))).Box=[]:=rfl;have eF:(db (dN p e t,some (t::s))).Forced=t.Forced:=rfl;rw[eB,eF,e0,cq (by omega) (by simp)];simp only[Option.bind_some];have ed:List.getD (t::s) (0:Int).toNat default=t:=rfl;rw[ed,he.forced,he.block,show(e.Kind == 2)=false by rw[hke];rfl,show(e.Kind == 3)=false by rw[hke];rfl,he.box,NB K n _ hlh.1 hlh.2];have:=MO (K:=K) (n:=n) (v1:=db (dN p e t,some (t::s))) (v4:=e.Box.Style) (v12:=s7 e.Box.Style) (x:=e::r) hT hk ho hl (by omega) n 0 (by simp) (by omega);have h0:(List.take 0 (bH (e::r)))=[]:=rfl;rw[h0]at this;refine⟨_,this,⟨⟨t,s,rfl,by rw[he.box];rfl,by rw[he.box];rfl⟩,rfl,rfl,rfl,rfl,rfl,rfl,?_,rfl,.inl rfl⟩⟩;show t.Forced=false;rw[he.forced,hke];rfl
theorem QS{K:Kn}{p:Option ax}{e:ax}{t:aI}(he:fN e t)(hk:e.Kind=2):∃y,fi K n (db (dN p e t,some [t])) w=some y∧qo (runM { cO with Forced:=true } e (ib p e)) y:=by
 unfold fi;have e0:(db (dN p e t,some [t])).Things=[t]:=rfl;have eB:(db (dN p e t,some [t])).Box=[]:=rfl;have eF:(db (dN p e t,some [t])).Forced=t.Forced:=rfl;have ht:t.Forced=true:=by rw[he.forced,hk];rfl
 rw[eB,eF,e0,ht,cq (by omega) (by simp)];simp only[Option.bind_some,if_true];refine⟨_,rfl,⟨⟨t,[],rfl,by rw[he.box];rfl,by rw[he.box];rfl⟩,rfl,rfl,rfl,rfl,rfl,rfl,rfl,rfl,.inl rfl⟩⟩
theorem Rr{p:Option ax}{e:ax}{t:aI}{k:aj}(he:fN e t)(hk:e.Kind=3)(h1:eN e.Box k){M:Nat}(hM:25≤M)(hn:M+10≤n):∃y,fi (KN n) n (db (dN p e t,some [t])) w=some y∧qo (runM (gZ M w e.Box) e (ib p e)) y:=by
 obtain⟨v,f,s1,s2,s3,s4⟩:=Sn h1 hM w hn;unfold fi;have e0:(db (dN p e t,some [t])).Things=[t]:=rfl;have eB:(db (dN p e t,some [t])).Box=[]:=rfl;have eF:(db (dN p e t,some [t])).Forced=t.Forced:=rfl;have ht:t.Forced=false:=by rw[he.forced,hk];rfl
 have hb:t.Block=true:=by rw[he.block,hk];rfl
 rw[eB,eF,e0,ht,cq (by omega) (by simp)];simp only[Option.bind_some];have ed:List.getD [t] (0:Int).toNat default=t:=rfl;rw[ed,hb,he.box,s1];simp only[Option.bind_some,HW];rw[s2];simp only[Option.bind_some,DC,C5,fR];rw[cH (by simp) (by omega)];refine⟨_,rfl,⟨⟨t,[],rfl,by rw[he.box];rfl,by rw[he.box];rfl⟩,?_,?_,?_,?_,?_,rfl,?_,?_,?_⟩⟩
 all_goals rw[s4]
 all_goals first
  | rfl
  | exact ht
  | exact .inr ⟨_,rfl,BW (GV f w) s3⟩
end
end
end Go.Proofs.YtnpmlepplfaijaaGreat
namespace Go.Proofs.YtnpmlepplfaijaaGreat
set_option linter.all false
open Go.RowKit
noncomputable section
def ck:Nat→List ax→List (List ax)
 | 0,_=>[]
 | _+1,[]=>[]
 | m+1,e::r=>bif e.Kind == 2||e.Kind == 3 then [e]::ck m r else (e::r.take (jl e.Of e r))::ck m (r.drop (jl e.Of e r))
theorem IH(o:Int):∀(l:List ax) (a:ax),∀y∈l.take (jl o a l),y.Kind=1
 | [],_,y,h=>by simp at h
 | b::r,a,y,h=>by
  unfold jl at h;cases hc:(b.Kind == 1&&(b.Of == o&&!eu a b)) with
  | false=>rw[hc]at h;simp at h
  | true =>
   rw[hc]at h;simp only[cond_true,List.take_succ_cons]at h;rcases List.mem_cons.1 h with rfl|h
   ·simp only[Bool.and_eq_true,beq_iff_eq]at hc;exact hc.1
   ·exact IH o r b y h
end
end Go.Proofs.YtnpmlepplfaijaaGreat
namespace Go.Proofs.YtnpmlepplfaijaaGreat
set_option linter.all false
open Go.RowKit
noncomputable section
def ml:List aM→List ba→Prop
 | [],[]=>True
 | r::t,y::u=>qo r y∧ml t u
 | _,_=>False
theorem yp:∀(X:List aM) (Y:List ba),ml X Y→X.length=Y.length
 | [],[],_=>rfl
 | [],y::u,h=>h.elim
 | r::t,[],h=>h.elim
 | r::t,y::u,h=>by simp[yp t u h.2]
theorem Ci:∀(X:List aM) (Y:List ba),ml X Y→∀i,i<X.length→qo (X.getD i default) (Y.getD i default)
 | [],[],_,i,hi=>by simp at hi
 | [],y::u,h,i,_=>h.elim
 | r::t,[],h,i,_=>h.elim
 | r::t,y::u,h,0,_=>h.1
 | r::t,y::u,h,i+1,hi=>by
  have:=Ci t u h.2 i (by simpa using hi);simpa using this
section
variable{n:Nat}{w:Int}
def mQ(n:Nat)(w:Int)(x:RT):ba:=(fi (KN n) n (db x) w).getD default
theorem NG:∀(m:Nat) (B:List RT) (A:List ba),B.length<m→A.length+B.length≤1000000→(∀x∈B,∃y,fi (KN n) n (db x) w=some y)→jU (KN n) n w m (A.length:Int) (A++B.map db)=some (A++B.map (mQ n w)):=by
 intro m
 induction m with
 | zero=>intro B A h;omega
 | succ m ih =>
  intro B A h1 h2 h3;show qz (KN n) n w (jU (KN n) n w m) _ _=_;unfold qz;cases B with
  | nil=>rw[if_neg (by simp)];rfl
  | cons x r =>
   simp only[List.length_cons]at h1 h2;obtain⟨y,hy⟩:=h3 x (by simp);have hs:mQ n w x=y:=by unfold mQ;rw[hy];rfl
   have hw:ab ((A.length:Int)+1)=((A.length+1:Nat):Int):=by rw[cf (by omega) (by omega)];omega
   rw[if_pos (by simp;omega),cq (by omega) (by simp;omega),bm,Int.toNat_natCast,List.map_cons,F7,hy];simp only[Option.bind_some];rw[bm,hw,GA];have:=ih r (A++[y]) (by omega) (by simp;omega) (fun z hz=>h3 z (by simp[hz]));rw[List.length_append]at this;simp only[List.length_cons,List.length_nil,Nat.zero_add]at this;rw[show A++y::r.map db=A++[y]++r.map db by simp,this,List.map_cons,hs];simp
theorem S5{M:Nat}(hM:2101≤M)(hn:M+10≤n):∀(m:Nat) (p:Option ax) (E:List ax) (T:List aI),gd E T→E.length<m→E.length≤2000→(∀e∈E,EK e)→(∀e∈E,iX e)→(∀e∈E,0≤e.Box.Style.LineHeight∧e.Box.Style.LineHeight≤65536)→(∀e∈E,e.Kind=3→∃k,eN e.Box k) →
  (∀x∈fv m p E T,∃y,fi (KN n) n (db x) w=some y)∧ml (cM (gZ M w) m p E) ((fv m p E T).map (mQ n w)):=by
 intro m
 induction m with
 | zero=>intro p E T _ h;omega
 | succ m ih =>
  intro p E T hT h1 h2 hk ho hlh hob;cases E with
  | nil =>
   cases T with
   | nil=>exact⟨(fun x hx=>by cases hx),trivial⟩
   | cons t s=>exact hT.elim
  | cons e r =>
   cases T with
   | nil=>exact hT.elim
   | cons t s =>
    simp only[List.length_cons]at h1 h2;have sub:∀(x:RT) (y:ba) (r1:aM) (X:List aM) (G:List RT),fi (KN n) n (db x) w=some y→qo r1 y→((∀x∈G,∃y,fi (KN n) n (db x) w=some y)∧ml X (G.map (mQ n w)))→(∀z∈x::G,∃y,fi (KN n) n (db z) w=some y)∧ml (r1::X) ((x::G).map (mQ n w)):=fun x y r1 X G q1 q2 q3=>by
     refine⟨fun z hz=>?_,?_⟩
     ·rcases List.mem_cons.1 hz with rfl|hz
      ·exact⟨y,q1⟩
      ·exact q3.1 z hz
     ·rw[List.map_cons];refine⟨?_,q3.2⟩;unfold mQ;rw[q1];exact q2
    unfold fv cM;rcases (hk e (by simp)).kind with k|k|k
    ·rw[show(e.Kind == 2)=false by rw[k];rfl,show(e.Kind == 3)=false by rw[k];rfl];simp only[cond_false];have hj:=B1 e.Of r e;have hmem:∀x∈e::r.take (jl e.Of e r),x∈e::r:=fun x hx=>by
      rcases List.mem_cons.1 hx with rfl|hx
      ·simp
      ·exact List.mem_cons_of_mem _ (List.mem_of_mem_take hx)
     obtain⟨y,y1,y2⟩:=OL (K:=KN n) (n:=n) (w:=w) (p:=p) (e:=e) (r:=r.take (jl e.Of e r)) (t:=t) (s:=s.take (jl e.Of e r)) ⟨hT.1,Ed _ r s hT.2⟩ (fun x hx=>by
      rcases List.mem_cons.1 hx with rfl|hx
      ·exact k
      ·exact IH _ _ _ x hx) (fun x hx=>ho x (hmem x hx)) (by simp;omega) (by omega) (hlh e (by simp))
     have hd:∀x∈r.drop (jl e.Of e r),x∈e::r:=fun x hx=>List.mem_cons_of_mem _ (List.mem_of_mem_drop hx);exact sub _ y _ _ _ y1 y2 (ih _ _ _ (zk _ r s hT.2) (by simp;omega) (by simp;omega) (fun x hx=>hk x (hd x hx)) (fun x hx=>ho x (hd x hx)) (fun x hx=>hlh x (hd x hx)) (fun x hx=>hob x (hd x hx)))
    ·rw[show(e.Kind == 2)=true by rw[k];rfl];simp only[cond_true];obtain⟨y,y1,y2⟩:=QS (K:=KN n) (n:=n) (w:=w) (p:=p) hT.1 k;exact sub _ y _ _ _ y1 y2 (ih _ _ _ hT.2 (by omega) (by omega) (fun x hx=>hk x (by simp[hx])) (fun x hx=>ho x (by simp[hx])) (fun x hx=>hlh x (by simp[hx])) (fun x hx=>hob x (by simp[hx])))
    ·rw[show(e.Kind == 2)=false by rw[k];rfl,show(e.Kind == 3)=true by rw[k];rfl];simp only[cond_true,cond_false];obtain⟨b,hb⟩:=hob e (by simp) k;obtain⟨y,y1,y2⟩:=Rr (n:=n) (w:=w) (p:=p) hT.1 k hb (M:=M) (by omega) (by omega);exact sub _ y _ _ _ y1 y2 (ih _ _ _ hT.2 (by omega) (by omega) (fun x hx=>hk x (by simp[hx])) (fun x hx=>ho x (by simp[hx])) (fun x hx=>hlh x (by simp[hx])) (fun x hx=>hob x (by simp[hx])))
theorem Ly:∀(m:Nat) (p:Option ax) (E:List ax) (T:List aI),(fv m p E T).length≤E.length:=by
 intro m
 induction m with
 | zero=>intro p E T;simp[fv]
 | succ m ih =>
  intro p E T;cases E with
  | nil=>simp[fv]
  | cons e r =>
   cases T with
   | nil=>simp[fv]
   | cons t s =>
    unfold fv;have h1:=ih (some e) r s;have h2:=ih (some (dg (e::r.take (jl e.Of e r)))) (r.drop (jl e.Of e r)) (s.drop (jl e.Of e r));rw[List.length_drop]at h2;cases (e.Kind == 2)<;>cases (e.Kind == 3)<;>simp only[cond_true,cond_false,List.length_cons]<;>omega
end
theorem UV{l:List b9}(ht:∀s∈l,s.Text.size≤60)(hlh:∀s∈l,0≤s.Style.LineHeight∧s.Style.LineHeight≤65536){d:Nat}{bx:List aj}(hb:Bx l d bx)(hD:Dp (d+1) bx)(hc:bK (d+1) bx≤2000){M n:Nat}(hM:d+9100≤M)(hn:M+10≤n)(w:Int):∃Y,rB (KN n) n bx w=some Y∧ml (lP (gZ M w) (ey (d+1) bx)) Y:=by
 have hel:=BT (d+1) bx;have hek:=KU (d+1) bx;have heo:=IV (d+1) bx;have hob:=Gb ht hb;have hE:∀e∈ey (d+1) bx,0≤e.Box.Style.LineHeight∧e.Box.Style.LineHeight≤65536:=IK d bx (0,[]) (fun b=>0≤b.Style.LineHeight∧b.Style.LineHeight≤65536) hb (fun b R hk=>by
  obtain⟨s,hs,h1,_⟩:=hk;rw[h1];exact hlh s hs) (fun x hx=>by cases hx)
 obtain⟨c,T,t1,t2⟩:=OZ (N:=n) hD (by omega) (by omega);unfold rB;rw[t1];simp only[Option.bind_some];unfold lP;generalize ey (d+1) bx=E at *;have hlen:=t2.len;have hT:=CG E T hlen t2.el;have h5:=Pl (K:=KN n) (n:=n) (w:=w) t2 hek (by omega) (by omega) n 0 [] (by omega) (by omega) (fun h=>by omega) (by simp) (fun x hx=>by cases hx);rw[List.drop_zero,List.drop_zero,show cU E 0=none from rfl,Rj (E.length+1) none E T [] hlen (by omega) (fun e he=>(hek e he).kind) (fun e r _=>rfl),List.nil_append]at h5;rw[show j7 (KN n) n w T n 0 []=_ from h5];obtain⟨q1,q2⟩:=S5 (w:=w) (M:=M) (n:=n) (by omega) (by omega) (E.length+1) none E T hT (by omega) (by omega) hek heo hE hob;have hgl:=Ly (E.length+1) none E T;have h6:=NG (n:=n) (w:=w) n (fv (E.length+1) none E T) [] (by omega) (by simp;omega) q1;exact⟨_,h6,q2⟩
end
end Go.Proofs.YtnpmlepplfaijaaGreat
namespace Go.Proofs.YtnpmlepplfaijaaGreat
set_option linter.all false
open Go.RowKit
set_option maxRecDepth 100000 in
theorem Vv(k:Nat):rK (KN (k+40)) (k+40)=some true:=by kernel_rfl
end Go.Proofs.YtnpmlepplfaijaaGreat
namespace Go.Proofs.YtnpmlepplfaijaaGreat.QInlineRuns
set_option linter.all false
open Go.RowKit
section
variable{n:Nat}{X:List aM}{Y:List ba}
theorem loop(h:ml X Y)(hl:X.length≤1000000)(hn:100≤n):∀(m i:Nat),i≤X.length→X.length<m+i→kS (KN n) n X Y m (i:Int)=some true:=by
 have hlen:=yp _ _ h;intro m
 induction m with
 | zero=>intro i h1 h2;omega
 | succ m ih =>
  intro i h1 h2;show pV (KN n) n X Y (kS (KN n) n X Y m) i=_;unfold pV;by_cases hi:i<X.length
  ·have hw:ab ((i:Int)+1)=((i+1:Nat):Int):=by rw[cf (by omega) (by omega)];omega
   have hr:=Ci X Y h i hi;obtain⟨t,s,e1,e2,e3⟩:=hr.things;rw[if_pos (by simpa using hi),cq (by omega) (by omega),bm,cq (by omega) (by omega),bm];simp only[Int.toNat_natCast];have hh:sd (KN n) n (Y.getD i default)=some (X.getD i default).Node:=by
    unfold sd;rw[e1,cq (by omega) (by simp),bm,e2];rfl
   have j2:oZ (KN n) n X Y (i:Int) (kS (KN n) n X Y m) false=some true:=by
    unfold oZ;rw[if_neg (by simp),hw];exact ih (i+1) (by omega) (by omega)
   have j1:fy (KN n) n X Y (i:Int) (kS (KN n) n X Y m) false=some true:=by
    unfold fy;rw[if_neg (by simp),Int.toNat_natCast,hr.box];rcases hr.fd with hb|⟨f,hb,hf⟩
    ·rw[hb,if_neg (by simp)];exact j2
    ·rw[hb,if_pos (by simp),cq (by omega) (by simp),bm,bm];have:jJ (KN n) n f f=some true:=II 2 n n f hf (by omega) (by omega) (by omega);show((jJ (KN n) n f f).bind _)=_;rw[this];exact j2
   rw[hh,e1,hr.text,hr.width,hr.space,hr.above,hr.below,hr.glued,hr.forced,hr.box,cq (by omega) (by simp)];simp only[Option.bind_some];have ed:List.getD (t::s) (0:Int).toNat default=t:=rfl;rw[ed,← e3,FW,if_neg (by simp),if_neg (by simp),bm,if_neg (by simp),if_neg (by simp),if_neg (by simp),if_neg (by simp),if_neg (by simp),if_neg (by simp),if_neg (by simp)];rw[show(((X.getD i default).Box.length:Int) != ((X.getD i default).Box.length:Int))=false by simp];exact j1
  ·rw[if_neg (by simpa using hi)]
end
theorem holds(x0:List b9)(x1:Int)(h0:cb Tryz.prog 22 ((AX cd) x0))(h1:cb Tryz.prog 3 ((bG .i64) x1)):∃n,vN (KN n) n x0 x1=some true:=by
 obtain⟨l,hl,hm,_⟩:=h0.EH Tryz.underlying22;simp only[AX,List.cons.injEq,AV.sl.injEq,and_true]at hl;have hlen:l.length=x0.length:=by rw[←hl,List.length_map]
 have hm':l.length≤9223372036854775807:=hm;refine⟨(x0.length+12000)+11,?_⟩;generalize hM:x0.length+12000=M;obtain⟨v,hv,hv2⟩:=Tj (KN (M+11)) (M+11) x0 16 (by omega) (by omega);unfold vN uY;rw[show rK (KN (M+11)) (M+11)=some true from by
  have:=Vv (M-29);rwa[show M-29+40=M+11 by omega]at this,hv]
 simp only[Option.bind_some,Bool.not_true,Bool.false_eq_true,if_false];cases v with
 | false=>rfl
 | true =>
  have h16:x0.length≤16:=by have:=(hv2 rfl).1;omega
  have ht:∀s∈x0,s.Text.size≤60:=fun s hs=>by have:=((hv2 rfl).2 s hs).text;omega
  have hlh:∀s∈x0,0≤s.Style.LineHeight∧s.Style.LineHeight≤65536:=fun s hs=>((hv2 rfl).2 s hs).lh;obtain⟨bx,b1,b2,b3,b4⟩:=L7 h16 ht (N:=M+11) (by omega);have hc:bK (16+1) bx≤2000:=by have:bK (16+1) bx≤992:=b4;omega
  rw[b1];simp only[Option.bind_some,Bool.not_true,Bool.false_eq_true,if_false,mR];have hr:=UU ht b2 hc (M:=M) (by omega) x1;rw[show mG (KN (M+11)) (M+11) bx x1 (⟨(Fv.fn 31),(Fv.fn 32),(Fv.fn 33),(Fv.fn 34)⟩:cA)=_ from hr];simp only[Option.bind_some];obtain⟨Y,y1,y2⟩:=UV ht hlh b2 b3 hc (M:=M) (n:=M+11) (by omega) (by omega) x1;rw[y1];simp only[Option.bind_some];have hXl:(lP (gZ M x1) (ey (16+1) bx)).length≤1000:=by
   unfold lP;have h1:=Lb (gZ M x1) ((ey (16+1) bx).length+1) none (ey (16+1) bx);have h2:=BT (16+1) bx;have h3:bK (16+1) bx≤992:=b4;omega
  generalize lP (gZ M x1) (ey (16+1) bx)=X at *;have hYl:=yp _ _ y2;rw[if_neg (by simp;omega)];exact loop y2 (by omega) (by omega) (M+11) 0 (by omega) (by omega)
end Go.Proofs.YtnpmlepplfaijaaGreat.QInlineRuns
