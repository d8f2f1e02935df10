/- An inline block is placed as the reference places it, plain. -/
import Derived.Test.YtnpmlepplfaijaaGreatIlZ44
import Derived.Test.YtnpmlepplfaijaaGreatIlGm
import Derived.Test.YtnpmlepplfaijaaGreatIlGop
namespace Go.Proofs.YtnpmlepplfaijaaGreat
set_option linter.all false
open Go.RowKit
noncomputable section
theorem Oz(l:cu)(w:Int):(db l w).2=(l.Kind == 1||l.Kind == 2):=by
 unfold db;by_cases h1:l.Kind=1<;>by_cases h2:l.Kind=2<;>simp[h1,h2]
theorem Gn{b k:ah}(h:eR b k):vU 1 b:=⟨by rw[h.kids];simp,.inr fun x hx=>by rw[h.kids]at hx;rw[List.mem_singleton.1 hx];exact h.kind⟩
theorem H4{b k:ah}(h:eR b k):cm b=[k]:=by
 unfold cm;rw[h.kids,List.filter_cons,if_pos (by unfold gV;rw[h.kind];rfl)];rfl
theorem Sh{b k:ah}(h:eR b k):(cm b).any dc=false:=by
 rw[H4 h];unfold dc;rw[List.any_cons,h.kind];rfl
section
variable{N:Nat}{b k:ah}
theorem RV(h:eR b k)(hN:20<N):∃x y,ld (KN (N+1)) (N+1) b=some (x,y)∧((db (xP b.Style).Width 0).2=false→mc (KN (N+1)) (N+1) b gz=some (x,y)):=by
 have hlen:b.Kids.length≤20:=(Gn h).1;have hO:∀x,(KN (N+1)).jz (Fv.fn 102) x=some (dc x):=fun x=>Bn (KN N) N x;have hfl:(cm b).length≤20:=Nat.le_trans w3 hlen;refine⟨gL (oT (cm b) 0 0).1,gL (oT (cm b) 0 0).2,?_,fun hk=>?_⟩
 ·unfold ld;rw[CB _ _ b hlen (by omega),Hh _ _ b hlen (by omega)];have hr:((cm b).any fun k=>k.Kind == 1)=false:=by rw[H4 h,List.any_cons,h.kind];rfl
  simp only[Option.bind_some,hr,Bool.not_false,if_true];rw[Fm (KN (N+1)) (N+1) (cm b) b.Style hfl (by omega)];rfl
 ·unfold mc;rw[Ys];simp only[Option.bind_some];rw[js];simp only[Option.bind_some,hk,Bool.false_eq_true,if_false];rw[HK _ _ hO b hlen (by omega),Sh h];simp only[Option.bind_some,Bool.not_false,if_true];rw[show(KN (N+1)).sZ gz.Spread (cm b) b.Style=_ from Fm (KN N) N (cm b) b.Style hfl (by omega)];rfl
theorem VX(h:eR b k)(hN:20<N)(w:Int):∃v,nd (KN (N+1)) (N+1) b w gz=some v∧kY (KN (N+1)) (N+1) b w=some v:=by
 obtain⟨x,y,hc,hi⟩:=RV h hN;unfold nd kY;simp only[js,y4,EH,Option.bind_some,Dw];cases hw:(db b.Style.Width w).2 with
 | true =>
  simp only[Bool.not_true,Bool.false_eq_true,if_false,n9,kM,Dn,Ev,Eo,Option.bind_some];exact⟨_,rfl,rfl⟩
 | false =>
  have hk:(db (xP b.Style).Width 0).2=false:=by
   rw[Oz]at hw⊢;simp only[Bool.or_eq_false_iff,beq_eq_false_iff_ne]at hw⊢;have:(xP b.Style).Width=b.Style.Width:=by show bB _=_;unfold bB;rw[if_neg hw.2]
   rw[this];exact hw
  simp only[Bool.not_false,if_true,hi hk,hc,Option.bind_some,DJ,yd,E1,wC,Jl,OZ,n9,kM,Dn,Ev,Eo];exact⟨_,rfl,rfl⟩
theorem TU(h:eR b k)(hN:25≤N)(z:aR):∃f,nI (KN (N+1)) (N+1) b z gz=some f∧jT (KN (N+1)) (N+1) b z=some f∧Fd 2 f:=by
 obtain⟨f,h1,h2,h3,_⟩:=core 0 N b z false (Gn h) (by omega) gz ⟨rfl,rfl⟩ (fun k hk=>hk.elim);refine⟨f,?_,?_,h3⟩
 ·unfold nI;simp only[mX,m7,Bool.false_and]at h1;rw[h1];rfl
 ·unfold jT;rw[h2];rfl
theorem VU(h:eR b k){M:Nat}(hM:25≤M)(w:Int){n:Nat}(hn:M+10≤n):∃v f,kY (KN n) n b w=some v∧jT (KN n) n b (gW b.Style w v)=some f∧Fd 2 f ∧
  eL M w b={ cJ with Width:=zL (gW b.Style w v),Above:=aa (aa (f.H+aa (f.Before.Pos+f.Before.Neg))+aa (f.After.Pos+f.After.Neg)),Box:=[fX f w] }:=by
 obtain⟨v,s1,s2⟩:=VX (N:=M+9) h (by omega) w;obtain⟨f,f1,f2,f3⟩:=TU (N:=M+9) h (by omega) (gW b.Style w v);refine⟨v,f,MU (zX _ _ hn) hn _ _ _ s2,Ms (zX _ _ hn) hn _ _ _ f2,f3,?_⟩;unfold eL jv;rw[show nd (KN (M+10)) (M+10) b w gz=_ from s1];simp only[Option.bind_some,yd];rw[show nI (KN (M+10)) (M+10) b (gW b.Style w v) gz=_ from f1];simp only[Option.bind_some,Lj,wC,fP];have e1:(fX f w).H=f.H:=by unfold fX;split<;>rfl
 have e2:(fX f w).Before=f.Before:=by unfold fX;split<;>rfl
 have e3:(fX f w).After=f.After:=by unfold fX;split<;>rfl
 rw[e1,e2,e3];rfl
end
end
end Go.Proofs.YtnpmlepplfaijaaGreat
namespace Go.Proofs.YtnpmlepplfaijaaGreat
set_option linter.all false
open Go.RowKit
noncomputable section
theorem vc(b:ByteArray):b.toList=b.data.toList:=ByteArray.toList_eq b
theorem Hd:(⟨#[]⟩:ByteArray).toList=[]:=by rw[vc]
def dD(b:ByteArray):Bool:=b.data.toList.getLast? == some 32
theorem YO(K:Kn)(n:Nat){b:ByteArray}(hb:b.size≤1000000):wa K n b ⟨#[32]⟩=some (dD b):=by
 have h1:(⟨#[32]⟩:ByteArray).size=1:=rfl;unfold wa xH vT dD;rw[h1];by_cases h:1≤b.size
 ·have e1:aa ((b.size:Int)-((1:Nat):Int))=((b.size-1:Nat):Int):=by rw[bG (by omega) (by omega)];omega
  rw[if_pos (by simp;omega),e1,show cN ((b.size-1:Nat):Int) (b.size:Int) b.size=true by simp only[cN,Bool.and_eq_true,decide_eq_true_eq];omega,aW];simp only[Option.bind_some,Int.toNat_natCast];rw[vc,vc,ByteArray.data_extract,Array.toList_extract];have hl:b.data.toList.length=b.size:=rfl;generalize b.data.toList=l at hl;rw[←hl]at h⊢;have hne:l≠[]:=by intro e;rw[e]at h;simp at h
  have:(l.take l.length).drop (l.length-1)=[l.getLast hne]:=by
   rw[List.take_length]
   conv=>lhs;rw[←List.dropLast_concat_getLast hne]
   rw[List.length_append,List.length_dropLast];simp
  rw[List.extract_eq_drop_take,List.getLast?_eq_some_getLast hne];have e2:List.take (l.length-(l.length-1)) (List.drop (l.length-1) l)=[l.getLast hne]:=by
   rw[←this,List.take_length,List.take_of_length_le (by simp)]
  rw[e2];show some ([l.getLast hne] == [32])=some (some (l.getLast hne) == some 32);congr 1;cases hq:(l.getLast hne == 32)<;>simp_all
 ·have hs:b.size=0:=by omega
  have hl:b.data.toList=[]:=List.eq_nil_of_length_eq_zero (by rw[kE];exact hs);rw[if_neg (by simp;omega),hl];rfl
def vC(b:ByteArray):ByteArray:=b.extract 0 (b.size-1)
def stripR(r:aH):aH:=bif dD r.Text&&r.Style.WhiteSpace != 2 then { r with Text:=vC r.Text,Space:=0 } else r
def Bu(above x:Int)(b:ab):ab:={ b with X:=aa (b.X+x),Y:=aa (b.Y+(aa ((aa (above-b.H))-aa (b.After.Pos+b.After.Neg)))) }
def BN(s:Int):Int:=min (max s 0) 1048576
def Q2(s:Int):Int:=aa (BN s+(aa (Int.tdiv (aa (BN s+3)) 4)))
def jB(above x:Int)(r:aH):List ab:=bif r.Text.data.toList.isEmpty then [] else [⟨3,r.Node,x,aa (above-BN r.Style.FontSize),aa (r.Width+r.Space),Q2 r.Style.FontSize,0,r.Text,r.Style,bX,bX,false,[]⟩]
def eh(above x:Int)(r:aH):List ab:=jB above x r++r.Box.map (Bu above x)
def eQ(above last:Int):Int→Int→List aH→List ab
 | _,_,[]=>[]
 | i,x,r::t =>
  let r':=bif i == last then stripR r else r
  eh above x r'++eQ above last (i+1) (aa (x+aa (r'.Width+r'.Space))) t
section
variable{K:Kn}{n:Nat}{L:List aH}{s:aF}{w above below last:Int}
theorem Yd(r:aH)(i:Int)(C:Int→Int→List ab→Option ab)(x:Int)(hb:r.Box.length≤1000):∀(m j:Nat) (acc:List ab),j≤r.Box.length→r.Box.length<m+j→acc.length≤1000000+j →
  sH K n L s w above below last x i r C m (j:Int) acc=C (aa (x+aa (r.Width+r.Space))) (aa (i+1)) (acc++(r.Box.drop j).map (Bu above x)):=by
 intro m
 induction m with
 | zero=>intro j acc h1 h2;omega
 | succ m ih =>
  intro j acc h1 h2 h3;show rG K n L s w above below last x i r C (sH K n L s w above below last x i r C m) j acc=_;unfold rG;by_cases hj:j<r.Box.length
  ·have hd:r.Box.drop j=r.Box.getD j default::r.Box.drop (j+1):=by rw[List.drop_eq_getElem_cons hj,b9 hj]
   rw[if_pos (by simpa using hj),bV (by omega) (by omega)];simp only[aW,Option.bind_some,Int.toNat_natCast,fP];rw[cv (by simp;omega) (by omega),aW,bG (n:=(j:Int)+1) (by omega) (by omega),show(j:Int)+1=((j+1:Nat):Int) by omega,ih (j+1) _ (by omega) (by omega) (by simp;omega),hd,List.map_cons];rw[List.append_assoc];rfl
  ·rw[if_neg (by simpa using hj),List.drop_eq_nil_of_le (by omega)];simp
theorem Tc(r:aH)(i:Int)(C:Int→Int→List ab→Option ab)(x:Int)(hb:r.Box.length≤1000)(hn:1001≤n)(acc:List ab)(ha:acc.length≤900000):
  lB K n L s w above below last x i acc C r=C (aa (x+aa (r.Width+r.Space))) (aa (i+1)) (acc++eh above x r):=by
 unfold lB;rw[vc,Hd];simp only[Option.bind_some];have h5:∀acc':List ab,acc'.length≤1000000→qB K n L s w above below last x i r C acc'=C (aa (x+aa (r.Width+r.Space))) (aa (i+1)) (acc'++r.Box.map (Bu above x)):=fun acc' h=>by
  unfold qB;rw[show(0:Int)=((0:Nat):Int) from rfl,Yd r i C x hb n 0 acc' (by omega) (by omega) (by omega),List.drop_zero]
 unfold eh jB;cases he:r.Text.data.toList with
 | nil =>
  rw[if_neg (by simp),h5 acc (by omega)];simp
 | cons b t =>
  rw[if_pos (by simp)];simp only[pI,re,mP,Option.bind_some];rw[cv (by simp;omega) (by omega),aW,h5 _ (by simp;omega)];simp only[List.isEmpty_cons,cond_false,List.append_assoc];rfl
theorem Yk(hb:∀r∈L,r.Box.length≤1∧r.Text.size≤100000)(hl:L.length≤2000)(hn:2002≤n):∀(m i:Nat) (x:Int) (acc:List ab),i≤L.length→L.length<m+i→acc.length≤2*i →
  j9 K n L s w above below last m x (i:Int) acc=some { bb with Kind:=2,W:=w,H:=aa (above+below),aE:=above,Style:=s,Kids:=acc++eQ above last i x (L.drop i) }:=by
 intro m
 induction m with
 | zero=>intro i x acc h1 h2;omega
 | succ m ih =>
  intro i x acc h1 h2 h3;show qy K n L s w above below last (j9 K n L s w above below last m) x i acc=_;unfold qy;by_cases hi:i<L.length
  ·have hd:L.drop i=L.getD i default::L.drop (i+1):=by rw[List.drop_eq_getElem_cons hi,b9 hi]
   have hm:L.getD i default∈L:=by rw[b9 hi];exact List.getElem_mem _
   obtain⟨b1,b2⟩:=hb _ hm;have e1:aa ((i:Int)+1)=((i+1:Nat):Int):=by rw[bG (by omega) (by omega)];omega
   rw[if_pos (by simpa using hi),bV (by omega) (by omega),aW];simp only[Int.toNat_natCast];have rl:∀(y:Int) (r:aH),r.Box.length≤1→(eh above y r).length≤2:=fun y r h=>by
    unfold eh jB;cases r.Text.data.toList.isEmpty<;>simp<;>omega
   have step:∀r':aH,r'.Box=(L.getD i default).Box→lB K n L s w above below last x i acc (j9 K n L s w above below last m) r'=some { bb with Kind:=2,W:=w,H:=aa (above+below),aE:=above,Style:=s,Kids:=acc++(eh above x r'++eQ above last ((i:Int)+1) (aa (x+aa (r'.Width+r'.Space))) (L.drop (i+1))) }:=fun r' hr=>by
    have hrl:=rl x r' (by rw[hr];exact b1);rw[Tc r' i _ x (by rw[hr];omega) (by omega) acc (by omega),e1,ih (i+1) _ _ (by omega) (by omega) (by simp;omega)];rw[List.append_assoc];rfl
   rw[hd];unfold eQ;by_cases hlast:(i:Int)=last
   ·rw[if_pos (by simpa using hlast),YO K n (by omega)];simp only[Option.bind_some];rw[show((i:Int) == last)=true by simpa using hlast];simp only[cond_true];have j3:∀c:Bool,mh K n L s w above below last x i acc (j9 K n L s w above below last m) (dD (L.getD i default).Text&&c)=lB K n L s w above below last x i acc (j9 K n L s w above below last m) (bif dD (L.getD i default).Text&&c then { L.getD i default with Text:=vC (L.getD i default).Text,Space:=0 } else L.getD i default):=fun c=>by
     unfold mh;simp only[Int.toNat_natCast];cases hs:dD (L.getD i default).Text with
     | false=>rw[if_neg (by simp)];rfl
     | true =>
      cases c with
      | false=>rw[if_neg (by simp)];rfl
      | true =>
       have hsz:1≤(L.getD i default).Text.size:=by
        unfold dD at hs;rcases Nat.eq_zero_or_pos (L.getD i default).Text.size with h0|h0
        ·have:(L.getD i default).Text.data.toList=[]:=List.eq_nil_of_length_eq_zero (by rw[kE];exact h0);rw[this]at hs;simp at hs
        ·exact h0
       have e2:aa (((L.getD i default).Text.size:Int)-1)=(((L.getD i default).Text.size-1:Nat):Int):=by rw[bG (by omega) (by omega)];omega
       rw[if_pos (show(true&&true)=true from rfl),e2,show cN (0:Int) (((L.getD i default).Text.size-1:Nat):Int) (L.getD i default).Text.size=true by simp only[cN,Bool.and_eq_true,decide_eq_true_eq];omega,aW];simp only[Int.toNat_natCast,Int.toNat_zero];rfl
    have hst:stripR (L.getD i default)=(bif dD (L.getD i default).Text&&(L.getD i default).Style.WhiteSpace != 2 then { L.getD i default with Text:=vC (L.getD i default).Text,Space:=0 } else L.getD i default):=rfl;rw[hst];have hbox:∀c:Bool,(bif c then { L.getD i default with Text:=vC (L.getD i default).Text,Space:=0 } else L.getD i default:aH).Box=(L.getD i default).Box:=fun c=>by cases c<;>rfl
    cases hs:dD (L.getD i default).Text with
    | true =>
     rw[if_pos rfl];have:=j3 ((L.getD i default).Style.WhiteSpace != 2);rw[hs,Bool.true_and]at this;rw[this,Bool.true_and];exact step _ (hbox _)
    | false =>
     rw[if_neg (by simp)];have:=j3 false;rw[hs,Bool.false_and]at this;rw[this,Bool.false_and];exact step _ rfl
   ·rw[if_neg (by simpa using hlast)];have e3:((i:Int) == last)=false:=by simpa using hlast
    rw[e3];unfold mh;rw[if_neg (by simp)];simp only[Int.toNat_natCast,cond_false];exact step _ rfl
  ·rw[if_neg (by simpa using hi),List.drop_eq_nil_of_le (by omega)];simp[eQ]
end
def fS:Int×Int→List aH→Int×Int
 | p,[]=>p
 | p,r::t=>fS (bif r.Forced then p else (max p.1 r.Above,max p.2 r.Below)) t
theorem KO(p:Int×Int)(r:aH)(t:List aH):fS p (r::t)=fS (bif r.Forced then p else (max p.1 r.Above,max p.2 r.Below)) t:=rfl
def jV(i acc:Int):List aH→Int
 | []=>acc
 | r::t=>jV (i+1) (bif r.Forced then acc else i) t
def t8(L:List aH):Int:=jV 0 (-1) L
def mM(s:aF)(w u:Int):Int:=(iy (KN 0) 0 s w u).getD 0
def iM(s:aF)(w:Int)(L:List aH):ab :=
 { bb with Kind:=2,W:=w,H:=aa ((fS (fg s) L).1+(fS (fg s) L).2),aE:=(fS (fg s) L).1,Style:=s,Kids:=[]++eQ (fS (fg s) L).1 (t8 L) 0 (mM s w (kt (L.map vI))) L }
theorem LL:∀(a:List aH) (r:aH) (i acc:Int),jV i acc (a++[r])=bif r.Forced then jV i acc a else i+a.length
 | [],r,i,acc=>by simp[jV]
 | x::t,r,i,acc=>by
  simp only[List.cons_append,jV];rw[LL t r (i+1)];cases r.Forced
  ·simp;omega
  ·rfl
theorem KU(K:Kn)(n:Nat)(s:aF)(w u:Int):iy K n s w u=some (mM s w u):=by
 have e:iy (KN 0) 0 s w u=iy K n s w u:=rfl;have:fe (iy K n s w u):=by
  unfold iy
  repeat first|exact ke _|apply rR
 obtain⟨v,hv⟩:=this;unfold mM;rw[e,hv];rfl
section
variable{K:Kn}{n:Nat}{L:List aH}{s:aF}{w:Int}
theorem YQ:∀(m k:Nat),k≤L.length→k<m→(L.length:Int)<9223372036854775807→lM K n L m ((k:Int)-1)=some (jV 0 (-1) (L.take k)):=by
 intro m
 induction m with
 | zero=>intro k _ h;omega
 | succ m ih =>
  intro k hk hm hL;show mg K n L (lM K n L m) ((k:Int)-1)=_;unfold mg;cases k with
  | zero=>rw[if_neg (by simp)];rfl
  | succ k =>
   have e:(((k+1:Nat):Int)-1)=(k:Int):=by omega
   have hkl:k<L.length:=by omega
   have ht:L.take (k+1)=L.take k++[L.getD k default]:=by
    rw[List.take_add_one,List.getElem?_eq_getElem hkl,b9 hkl];rfl
   rw[e,if_pos (by simp),bV (by omega) (by omega),aW,Int.toNat_natCast,ht,LL];have hl:(L.take k).length=k:=by simp;omega
   cases hf:(L.getD k default).Forced with
   | false=>rw[show(!false)=true from rfl,if_pos rfl,hl];simp
   | true=>rw[show(!true)=false from rfl,if_neg (by simp),bG (by omega) (by omega),ih k (by omega) (by omega) hL];rfl
theorem Sd(hn:L.length<n)(hL:(L.length:Int)<9223372036854775807):l9 K n L=some (t8 L):=by
 unfold l9;rw[bG (by omega) (by omega),YQ n L.length (Nat.le_refl _) hn hL,List.take_length];rfl
theorem UA(hb:∀r∈L,r.Box.length≤1∧r.Text.size≤100000)(hl:L.length≤2000)(hn:2002≤n):∀(m i:Nat) (p:Int×Int),i≤L.length→L.length<m+i→fS (fg s) L=fS p (L.drop i)→rD K n L s w m p.1 p.2 (i:Int)=some (iM s w L):=by
 intro m
 induction m with
 | zero=>intro i p h1 h2;omega
 | succ m ih =>
  intro i p h1 h2 h3;show rS K n L s w (rD K n L s w m) p.1 p.2 i=_;unfold rS;by_cases hi:i<L.length
  ·have hd:L.drop i=L.getD i default::L.drop (i+1):=by rw[List.drop_eq_getElem_cons hi,b9 hi]
   rw[hd,KO]at h3;have e1:aa ((i:Int)+1)=((i+1:Nat):Int):=by rw[bG (by omega) (by omega)];omega
   rw[if_pos (by simpa using hi),bV (by omega) (by omega),aW];simp only[Int.toNat_natCast];unfold vd;rw[e1];cases hf:(L.getD i default).Forced with
   | false =>
    rw[hf]at h3;rw[show(!false)=true from rfl,if_pos rfl];exact ih (i+1) (_,_) (by omega) (by omega) h3
   | true =>
    rw[hf]at h3;rw[show(!true)=false from rfl,if_neg (by simp)];exact ih (i+1) p (by omega) (by omega) h3
  ·rw[List.drop_eq_nil_of_le (by omega)]at h3;have h3:fS (fg s) L=p:=h3;rw[if_neg (by simpa using hi),JL (by omega) (by omega)];simp only[Option.bind_some,KU];rw[Sd (by omega) (by omega)];simp only[Option.bind_some];rw[show(0:Int)=((0:Nat):Int) from rfl,Yk hb hl hn n 0 _ [] (by omega) (by omega) (by simp),List.drop_zero];unfold iM;rw[h3];rfl
theorem On(hb:∀r∈L,r.Box.length≤1∧r.Text.size≤100000)(hl:L.length≤2000)(hn:2002≤n):vE K n L s w=some (iM s w L):=by
 unfold vE;rw[ya];simp only[Option.bind_some];exact UA hb hl hn n 0 (fg s) (by omega) (by omega) rfl
end
def eN(s:aF)(w:Int)(X:List aH):Int→List Nat→List ab×Int
 | h,a::b::r =>
  let f:=iM s w (sl X a b)
  let q:=eN s w X (aa (h+f.H)) (b::r)
  ({ f with Y:=h }::q.1,q.2)
 | h,_=>([],h)
section
variable{K:Kn}{n:Nat}{X:List aH}{s:aF}{w:Int}
def uK(N:Nat):List Nat→Prop
 | a::b::r=>a≤b∧b≤N∧uK N (b::r)
 | _=>True
theorem zl{N:Nat}:∀{S:List Nat},uK N S→∀i,i+1<S.length→S.getD i 0≤S.getD (i+1) 0∧S.getD (i+1) 0≤N
 | [],_,i,h=>by simp at h
 | [a],_,i,h=>by simp at h
 | a::b::r,h,0,_=>⟨h.1,h.2.1⟩
 | a::b::r,h,i+1,hi=>by
  have:=zl h.2.2 i (by simpa using hi);simpa using this
theorem Qv(hb:∀r∈X,r.Box.length≤1∧r.Text.size≤100000)(hl:X.length≤2000)(hn:2010≤n)(v:Int)(hv:min (max v 0) 1048576=w)(S0 S:List Nat)(hS:S=S0++[X.length])(hA:uK X.length S)(hSl:S.length≤2001):∀(m i:Nat) (h:Int) (acc:List ab),i<S.length→S.length<m+i→acc.length≤i →
  rm K n s v X (S0.map fun (k:Nat)=>(k:Int)) m h ((S.length-1:Nat):Int) (i:Int) acc=some (acc++(eN s w X h (S.drop i)).1,(eN s w X h (S.drop i)).2):=by
 have hSm:(S0.map fun (k:Nat)=>(k:Int))++[(X.length:Int)]=S.map fun (k:Nat)=>(k:Int):=by rw[hS];simp
 have hget:∀j,j<S.length→(S.map fun (k:Nat)=>(k:Int)).getD j default=((S.getD j 0:Nat):Int):=fun j hj=>by
  rw[b9 (by simpa using hj),List.getElem_map];congr 1;simp[List.getD,hj]
 intro m
 induction m with
 | zero=>intro i h acc h1 h2;omega
 | succ m ih =>
  intro i h acc h1 h2 h3;show pQ K n s v X (S0.map fun (k:Nat)=>(k:Int)) (rm K n s v X (S0.map fun (k:Nat)=>(k:Int)) m) h ((S.length-1:Nat):Int) i acc=_;unfold pQ;have e1:aa ((i:Int)+1)=((i+1:Nat):Int):=by rw[bG (by omega) (by omega)];omega
  rw[hSm,e1];have hd:S.drop i=S.getD i 0::S.drop (i+1):=by rw[List.drop_eq_getElem_cons h1];congr 1;simp[List.getD,h1]
  by_cases hi:i+1<S.length
  ·have g1:=hget i h1;have g2:=hget (i+1) hi;obtain⟨a1,a2⟩:=zl hA i hi;have hd2:S.drop (i+1)=S.getD (i+1) 0::S.drop (i+2):=by rw[List.drop_eq_getElem_cons hi];congr 1;simp[List.getD,hi]
   rw[if_pos (by simp;omega),bV (by omega) (by simp;omega),aW,bV (by omega) (by simp;omega),aW];simp only[Int.toNat_natCast,g1,g2];rw[show cN ((S.getD i 0:Nat):Int) ((S.getD (i+1) 0:Nat):Int) X.length=true by simp only[cN,Bool.and_eq_true,decide_eq_true_eq];omega,aW];have hsl:List.drop (S.getD i 0) (List.take (S.getD (i+1) 0) X)=sl X (S.getD i 0) (S.getD (i+1) 0):=rfl;have h5:=oF X (S.getD i 0) (S.getD (i+1) 0);rw[hsl,hv,On (fun r hr=>hb r (by unfold sl at hr;exact List.mem_of_mem_take (List.mem_of_mem_drop hr))) (by omega) (by omega)];simp only[Option.bind_some];rw[cv (by simp;omega) (by omega),aW,ih (i+1) _ _ (by omega) (by omega) (by simp;omega),hd,hd2]
   conv=>rhs;unfold eN
   rw[←hd2];simp[List.append_assoc]
  ·rw[if_neg (by simp;omega),hd,List.drop_eq_nil_of_le (by omega)];simp[eN]
end
end
end Go.Proofs.YtnpmlepplfaijaaGreat
namespace Go.Proofs.YtnpmlepplfaijaaGreat
set_option linter.all false
open Go.RowKit
noncomputable section
theorem Pt(l:List R4)(w:Int)(m a:Nat)(ha:a≤l.length)(hm:l.length<m+a):∃r,bM l w m a++[l.length]=a::r:=by
 cases m with
 | zero=>omega
 | succ m =>
  unfold bM;by_cases h:a<l.length
  ·rw[if_pos h];exact⟨_,rfl⟩
  ·rw[if_neg h];exact⟨[],by rw[List.nil_append,show a=l.length by omega]⟩
theorem Ja(l:List R4)(w:Int):∀(m a:Nat),a≤l.length→l.length<m+a→uK l.length (bM l w m a++[l.length]):=by
 intro m
 induction m with
 | zero=>intro a h1 h2;omega
 | succ m ih =>
  intro a h1 h2;unfold bM;by_cases h:a<l.length
  ·rw[if_pos h];have q1:=rx (l:=l) (i:=a+1) (by omega);have q2:=jX l (a+1);have q3:=wD l w a l.length _ q1;have q4:=ss l w a l.length (gr l (a+1));have h3:=ih (lE l w a l.length (gr l (a+1))) q3 (by omega);obtain⟨r,hr⟩:=Pt l w m (lE l w a l.length (gr l (a+1))) q3 (by omega);rw[List.cons_append];rw[hr]at h3⊢;exact⟨by omega,q3,h3⟩
  ·rw[if_neg h];trivial
theorem Th{P:aH→Prop}{pl:ah→aH}(h1:∀e g,P (runM { cJ with Forced:=true } e g)):∀(m:Nat) (p:Option au) (l:List au),(∀e∈l,e.Kind=3→∀g,P (runM (pl e.Box) e g))→(∀e g (x:List au),x≠[]→x.length≤l.length→(∀y∈x,y∈l)→P (runM (dR x) e g))→∀r∈cM pl m p l,P r:=by
 intro m
 induction m with
 | zero=>intro p l _ _ r hr;cases hr
 | succ m ih =>
  intro p l h2 h3 r hr;cases l with
  | nil=>cases hr
  | cons e t =>
   unfold cM at hr;cases k2:(e.Kind == 2) with
   | true =>
    rw[k2]at hr;rcases List.mem_cons.1 hr with rfl|hr
    ·exact h1 _ _
    ·exact ih (some e) t (fun e he=>h2 e (by simp[he])) (fun e g x q1 q2 q3=>h3 e g x q1 (by simp;omega) (fun y hy=>by simp[q3 y hy])) r hr
   | false =>
    cases k3:(e.Kind == 3) with
    | true =>
     rw[k2,k3]at hr;rcases List.mem_cons.1 hr with rfl|hr
     ·exact h2 e (by simp) (by simpa using k3) _
     ·exact ih (some e) t (fun e he=>h2 e (by simp[he])) (fun e g x q1 q2 q3=>h3 e g x q1 (by simp;omega) (fun y hy=>by simp[q3 y hy])) r hr
    | false =>
     rw[k2,k3]at hr;rcases List.mem_cons.1 hr with rfl|hr
     ·refine h3 _ _ _ (by simp) (by simp;omega) (fun y hy=>?_);rcases List.mem_cons.1 hy with rfl|hy
      ·simp
      ·exact List.mem_cons_of_mem _ (List.mem_of_mem_take hy)
     ·refine ih _ _ (fun e he=>h2 e (List.mem_cons_of_mem _ (List.mem_of_mem_drop he))) (fun e g x q1 q2 q3=>h3 e g x q1 (by simp at q2⊢;omega) (fun y hy=>List.mem_cons_of_mem _ (List.mem_of_mem_drop (q3 y hy)))) r hr
theorem Fs{x:List au}(h:∀e∈x,g6 e):(dR x).Text.size≤4*x.length:=by
 have:=uk (vm h);unfold dR;simp only[];rw[tP];have:(bE x).length=x.length:=by unfold bE;simp
 omega
def ca(v:Int):Int:=min (max v 0) 1048576
def fO(M d:Nat)(w:Int)(bx:List ah):List aH:=iG (eL M w) (dB d bx)
def dW(X:List aH)(w:Int):List Nat:=bM (X.map vI) w (X.length+1) 0++[X.length]
theorem CL(M d:Nat)(w:Int)(bx:List ah):(fO M d w bx).length≤bA d bx:=by
 unfold fO iG;have h1:=Sl (eL M w) ((dB d bx).length+1) none (dB d bx);have h2:=yD d bx;omega
theorem Uu{l:List cc}(ht:∀s∈l,s.Text.size≤60){d:Nat}{bx:List ah}(hb:Bx l d bx)(hc:bA (d+1) bx≤2000){M:Nat}(hM:1100≤M)(w:Int):∀r∈fO M (d+1) w bx,r.Box.length≤1∧r.Text.size≤100000:=by
 have hlen:=yD (d+1) bx;unfold fO iG;refine Th (P:=fun r=>r.Box.length≤1∧r.Text.size≤100000) (fun e g=>⟨by simp[runM,cJ],by show(⟨#[]⟩:ByteArray).size≤100000;decide⟩) _ _ _ (fun e he h3 g=>?_) (fun e g x q1 q2 q3=>⟨by simp[runM,dR,cJ],?_⟩)
 ·obtain⟨k,hk⟩:=As ht hb e he h3;obtain⟨p1,⟨f,p2,_⟩,_⟩:=R7 hk hM w;exact⟨by simp[runM,p2],by show(eL M w e.Box).Text.size≤100000;rw[p1];decide⟩
 ·have:=Fs (x:=x) (fun y hy=>D0 (d+1) bx y (q3 y hy));show(dR x).Text.size≤100000;omega
theorem Qu{l:List cc}(ht:∀s∈l,s.Text.size≤60){d:Nat}{bx:List ah}(hb:Bx l d bx)(hc:bA (d+1) bx≤2000){M:Nat}(hM:d+9100≤M)(s:aF)(v:Int):
  oa (KN (M+11)) (M+11) bx s v gz=some (eN s (ca v) (fO M (d+1) (ca v) bx) 0 (dW (fO M (d+1) (ca v) bx) (ca v))):=by
 have hX:fO M (d+1) (ca v) bx=iG (eL M (ca v)) (dB (d+1) bx):=rfl;have hr:=UL ht hb hc hM (ca v);have hXl:=CL M (d+1) (ca v) bx;have hXo:=Uu ht hb hc (M:=M) (by omega) (ca v);rw[←hX]at hr;generalize fO M (d+1) (ca v) bx=X at *;unfold oa;rw[show min (max v 0) 1048576=ca v from rfl,hr];simp only[Option.bind_some];rw[VV (by omega) (by omega)];simp only[Option.bind_some];have hbl:=xX (X.map vI) (ca v) (X.length+1) 0;simp only[List.length_map]at hbl;rw[cv (by simp;omega) (by omega),aW];have hA:=Ja (X.map vI) (ca v) (X.length+1) 0 (by omega) (by simp);rw[List.length_map]at hA;have hSl:(dW X (ca v)).length≤2001:=by unfold dW;simp only[List.length_append,List.length_cons,List.length_nil];omega
 have hSp:0<(dW X (ca v)).length:=by unfold dW;simp
 have hel:(((bM (X.map vI) (ca v) (X.length+1) 0).map fun (k:Nat)=>(k:Int))++[(X.length:Int)]).length=(dW X (ca v)).length:=by unfold dW;simp
 rw[hel,show aa (((dW X (ca v)).length:Int)-1)=(((dW X (ca v)).length-1:Nat):Int) by rw[bG (by omega) (by omega)];omega];have:=Qv (K:=KN (M+11)) (n:=M+11) (X:=X) (s:=s) (w:=ca v) hXo (by omega) (by omega) v rfl (bM (X.map vI) (ca v) (X.length+1) 0) (dW X (ca v)) rfl hA hSl (M+11) 0 0 [] hSp (by omega) (by simp);rw[List.drop_zero,List.nil_append]at this;exact this
end
end Go.Proofs.YtnpmlepplfaijaaGreat
namespace Go.Proofs.YtnpmlepplfaijaaGreat
set_option linter.all false
open Go.RowKit
noncomputable section
def ck:Nat→List au→List (List au)
 | 0,_=>[]
 | _+1,[]=>[]
 | m+1,e::r=>bif e.Kind == 2||e.Kind == 3 then [e]::ck m r else (e::r.take (jl e.Of e r))::ck m (r.drop (jl e.Of e r))
theorem GS(o:Int):∀(l:List au) (a:au),∀y∈l.take (jl o a l),y.Kind=1
 | [],_,y,h=>by simp at h
 | b::r,a,y,h=>by
  unfold jl at h;cases hc:(b.Kind == 1&&(b.Of == o&&!ee a b)) with
  | false=>rw[hc]at h;simp at h
  | true =>
   rw[hc]at h;simp only[cond_true,List.take_succ_cons]at h;rcases List.mem_cons.1 h with rfl|h
   ·simp only[Bool.and_eq_true,beq_iff_eq]at hc;exact hc.1
   ·exact GS o r b y h
def wT(c:List Int):Bool:=c.getLast? == some 32
theorem Uy{r:Int}(h:cy r):∃b,(cO r).getLast?=some b∧((b == 32)=(r == 32)):=by
 have ne:∀n:Nat,n<256→n≠32→((UInt8.ofNat n) == 32)=false:=fun n h1 h2=>by
  rw[beq_eq_false_iff_ne];intro e;have:=congrArg UInt8.toNat e;rw[dX h1]at this;exact h2 this
 obtain⟨c,rfl,h|h|h|h⟩:=wZ h
 ·rw[h.2];refine⟨UInt8.ofNat c,rfl,?_⟩;by_cases e:c=32
  ·subst e;rfl
  ·rw[ne c (by omega) e];symm;rw[beq_eq_false_iff_ne];omega
 ·rw[h.2.2];refine⟨UInt8.ofNat (128+c % 64),rfl,?_⟩;rw[ne (128+c % 64) (by omega) (by omega)];symm;rw[beq_eq_false_iff_ne];omega
 ·rw[h.2.2.2];refine⟨UInt8.ofNat (128+c % 64),rfl,?_⟩;rw[ne (128+c % 64) (by omega) (by omega)];symm;rw[beq_eq_false_iff_ne];omega
 ·rw[h.2.2];refine⟨UInt8.ofNat (128+c % 64),rfl,?_⟩;rw[ne (128+c % 64) (by omega) (by omega)];symm;rw[beq_eq_false_iff_ne];omega
theorem WI{cs:List Int}(h:∀r∈cs,cy r):((cA cs).getLast? == some 32)=wT cs:=by
 unfold wT;cases hc:cs.getLast? with
 | none =>
  have:cs=[]:=by simpa using hc
  subst this;rfl
 | some x =>
  obtain⟨ys,hys⟩:=List.getLast?_eq_some_iff.1 hc;subst hys;obtain⟨b,hb,hbe⟩:=Uy (h x (by simp));rw[xv];have:cA [x]=cO x:=by simp[cA]
  rw[this,List.getLast?_append,hb];simpa using hbe
theorem St{cs:List Int}(h:∀r∈cs,cy r):dD (cX cs)=wT cs:=by
 unfold dD;rw[rH];exact WI h
end
end Go.Proofs.YtnpmlepplfaijaaGreat
namespace Go.Proofs.YtnpmlepplfaijaaGreat
set_option linter.all false
open Go.RowKit
noncomputable section
structure qz(e:au):Prop where
 sft:e.Soft=true→e.Kind=1∧e.Char=32∧e.Box.Style.WhiteSpace≠2
 h32:e.Kind=1→e.Char=32→e.Soft=true∨e.Box.Style.WhiteSpace=2
theorem Vh(d:Nat)(bx:List ah):∀e∈dB d bx,qz e :=
 B5 (P:=qz) (fun b num r _ hs=>⟨fun h=>(by cases h),fun _ h=>by
   have e:r=32:=h;subst e;cases hs⟩) (fun _ _=>⟨fun h=>(by cases h),fun h=>by cases h⟩) (fun _ _ hw=>⟨fun h=>(by cases h),fun _ _=>.inr hw⟩) (fun _ _ hw=>⟨fun _=>⟨rfl,rfl,hw⟩,fun _ _=>.inl rfl⟩) (fun _ _=>⟨fun h=>(by cases h),fun h=>by cases h⟩) (fun _ _=>⟨fun h=>(by cases h),fun h=>by cases h⟩) d bx (0,[]) (fun x hx=>by cases hx)
structure OB(c:Int)(E:List au):Prop where
 le:∀x∈E,x.Of≤c
 one:∀x∈E,∀y∈E,x.Of=y.Of→x.Box=y.Box
structure jo(c:Int)(b:ah)(E:List au):Prop where
 le:∀x∈E,x.Of≤c∨(x.Of=c+1∧x.Box=b)
 one:∀x∈E,∀y∈E,x.Of=y.Of→x.Box=y.Box
theorem OB.up{c c':Int}{E:List au}(h:OB c E)(hc:c≤c'):OB c' E:=⟨fun x hx=>Int.le_trans (h.le x hx) hc,h.one⟩
theorem OB.open{c:Int}{E:List au}(h:OB c E)(b:ah):jo c b E:=⟨fun x hx=>.inl (h.le x hx),h.one⟩
theorem jo.close{c:Int}{b:ah}{E:List au}(h:jo c b E):OB (c+1) E:=⟨fun x hx=>by rcases h.le x hx with q|q<;>omega,h.one⟩
theorem jo.snoc{c:Int}{b:ah}{E:List au}(h:jo c b E){e:au}(h1:e.Of=c+1)(h2:e.Box=b):jo c b (E++[e]):=by
 have key:∀x∈E,x.Of=e.Of→x.Box=e.Box:=fun x hx q=>by
  rcases h.le x hx with r|r
  ·omega
  ·rw[r.2,h2]
 refine⟨fun x hx=>?_,fun x hx y hy q=>?_⟩
 ·rcases List.mem_append.1 hx with hx|hx
  ·exact h.le x hx
  ·rw[List.mem_singleton.1 hx];exact .inr ⟨h1,h2⟩
 ·rcases List.mem_append.1 hx with hx|hx<;>rcases List.mem_append.1 hy with hy|hy
  ·exact h.one x hx y hy q
  ·rw[List.mem_singleton.1 hy]at q⊢;exact key x hx q
  ·rw[List.mem_singleton.1 hx]at q⊢;exact(key y hy q.symm).symm
  ·rw[List.mem_singleton.1 hx,List.mem_singleton.1 hy]
theorem Mw{c:Int}{b:ah}{E:List au}(h:jo c b E){e:au}(h1:e.Of=c+1)(h2:e.Box=b):jo c b (g8 E e):=by
 unfold g8;cases c6 e.Char with
 | false=>exact h.snoc h1 h2
 | true =>
  simp only[cond_true];cases fb e with
  | true =>
   simp only[cond_true];cases (e.Char == 10) with
   | true=>exact h.snoc h1 h2
   | false =>
    simp only[cond_false];cases (e.Char == 13) with
    | true=>exact h
    | false=>exact h.snoc h1 h2
  | false =>
   simp only[cond_false];cases ia E with
   | true=>exact h
   | false=>exact h.snoc h1 h2
theorem GN{c:Int}{b:ah}:∀(rs:List Int) {E:List au},jo c b E→jo c b (gx b (c+1) E rs)
 | [],E,h=>h
 | r::t,E,h=>by
  unfold gx;rw[List.foldl_cons];exact GN t (Mw h rfl rfl)
theorem R5:∀(d:Nat) (L:List ah) (s:Int×List au),0≤s.1→s.1+bA d L≤1000000→OB s.1 s.2→OB (vM d L s).1 (vM d L s).2:=by
 intro d
 induction d with
 | zero=>intro L s _ _ h;exact h
 | succ d ih =>
  intro L
  induction L with
  | nil=>intro s _ _ h;exact h
  | cons b r ihL =>
   intro s h0 h1 h;have e:bA (d+1) (b::r)=(1+b.Text.size+bA d b.Kids)+bA (d+1) r:=by simp[bA]
   rw[e]at h1;have q1:=Br d (Lv d) s b h0 (by omega);have hws:aa (s.1+1)=s.1+1:=bG (by omega) (by omega);rw[fq,List.foldl_cons,← fq];refine ihL _ (by omega) (by omega) ?_;unfold cL;rw[hws];cases fz b with
   | false=>exact h
   | true =>
    simp only[cond_true];cases (b.Kind == 2) with
    | true=>exact ih _ _ (by show 0≤s.1+1;omega) (by show s.1+1+_≤_;omega) (h.up (by show s.1≤s.1+1;omega))
    | false =>
     simp only[cond_false];cases (b.Kind == 4) with
     | true=>exact((h.open b).snoc rfl rfl).close
     | false =>
      simp only[cond_false];cases (b.Kind == 5) with
      | true=>exact((h.open b).snoc rfl rfl).close
      | false =>
       simp only[cond_false];cases (b.Kind == 3) with
       | true=>exact(GN _ (h.open b)).close
       | false=>exact h.up (by show s.1≤s.1+1;omega)
theorem Xp(d:Nat)(bx:List ah)(hc:bA d bx≤1000000):∀x∈dB d bx,∀y∈dB d bx,x.Of=y.Of→x.Box=y.Box :=
 (R5 d bx (0,[]) (Int.le_refl _) (by show(0:Int)+_≤_;omega) ⟨fun x hx=>(by cases hx),fun x hx=>(by cases hx)⟩).one
theorem JW(o:Int):∀(l:List au) (a:au),∀y∈l.take (jl o a l),y.Of=o
 | [],_,y,h=>by simp at h
 | b::r,a,y,h=>by
  unfold jl at h;cases hc:(b.Kind == 1&&(b.Of == o&&!ee a b)) with
  | false=>rw[hc]at h;simp at h
  | true =>
   rw[hc]at h;simp only[cond_true,List.take_succ_cons]at h;rcases List.mem_cons.1 h with rfl|h
   ·simp only[Bool.and_eq_true,beq_iff_eq]at hc;exact hc.2.1
   ·exact JW o r b y h
theorem Se{x:List au}(h0:x≠[])(hk:∀e∈x,e.Kind=1)(ho:∀e∈x,g6 e)(h2:∀e∈x,qz e)(hb:∀e∈x,e.Box=(x.getD 0 default).Box):(dD (dR x).Text&&(x.getD 0 default).Box.Style.WhiteSpace != 2)=fN x:=by
 have hl:0<x.length:=List.length_pos_iff.2 h0;have hm:x.getD (x.length-1) default∈x:=by rw[b9 (by omega)];exact List.getElem_mem _
 have hlast:(bE x).getLast?=some (x.getD (x.length-1) default).Char:=by
  unfold bE;rw[List.getLast?_eq_getElem?,List.length_map,List.getElem?_map,List.getElem?_eq_getElem (by omega),b9 (by omega)];rfl
 have e1:dD (dR x).Text=((x.getD (x.length-1) default).Char == 32):=by
  show dD (cX (bE x))=_;rw[St (vm ho)];unfold wT;rw[hlast];rfl
 rw[e1,← hb _ hm];have q:=h2 _ hm;have hs:fN x=(x.getD (x.length-1) default).Soft:=rfl;rw[hs];generalize x.getD (x.length-1) default=y at *;cases hy:y.Soft with
 | true =>
  obtain⟨_,c1,c2⟩:=q.sft hy;rw[c1];simpa using c2
 | false =>
  cases hc:(y.Char == 32) with
  | false=>rfl
  | true =>
   rcases q.h32 (hk y hm) (by simpa using hc)with r|r
   ·rw[hy]at r;cases r
   ·rw[r];rfl
end
end Go.Proofs.YtnpmlepplfaijaaGreat
namespace Go.Proofs.YtnpmlepplfaijaaGreat
set_option linter.all false
open Go.RowKit
noncomputable section
theorem X9(K:Kn)(n:Nat)(x:Int)(h1 : -4611686018427387904≤x)(h2:x≤4611686018427387904):ur K n x=some (x / 2):=by
 unfold ur;by_cases h:x<0
 ·rw[if_pos (by simpa using h),bG (n:=1-x) (by omega) (by omega),Int.tdiv_eq_ediv_of_nonneg (by omega),bG (n:=(1-x) / 2) (by omega) (by omega),bG (by omega) (by omega)];congr 1;omega
 ·rw[if_neg (by simpa using h),Int.tdiv_eq_ediv_of_nonneg (by omega),bG (by omega) (by omega)]
theorem Iy(K:Kn)(n:Nat)(s:aF)(h1:0≤s.LineHeight)(h2:s.LineHeight≤65536):pR K n s=some (fg s):=by
 rw[←ya K n];unfold i7 pR pI re mP jq pL jq;simp only[Option.bind_some];have hz:0≤min (max s.FontSize 0) 1048576∧min (max s.FontSize 0) 1048576≤1048576:=by omega
 generalize min (max s.FontSize 0) 1048576=z at *;have e1:aa (z+3)=z+3:=bG (by omega) (by omega);have e2:Int.tdiv (z+3) 4=(z+3) / 4:=Int.tdiv_eq_ediv_of_nonneg (by omega);rw[e1,e2,bG (n:=(z+3) / 4) (by omega) (by omega),bG (n:=z+(z+3) / 4) (by omega) (by omega)];have hm:max s.LineHeight 0=s.LineHeight:=by omega
 rw[hm,bG (n:=s.LineHeight-(z+(z+3) / 4)) (by omega) (by omega),X9 K n _ (by omega) (by omega)];rfl
theorem zA(s c:Int):∀(l:List Int) (a:Int),gK s a (l++[c])=aa (gK s a l+jF c s)
 | [],a=>rfl
 | x::t,a=>by rw[List.cons_append];unfold gK;exact zA s c t _
theorem ba_ext'{a b:ByteArray}(h:a.data.toList=b.data.toList):a=b:=by
 apply ByteArray.ext;exact Array.ext' h
theorem Rv(a:List Int)(r:Int):cX a++runesBytes [r]=cX (a++[r]):=by
 apply ba_ext';rw[tI,rH,rH,xv];congr 1;unfold runesBytes;simp only[List.foldl_cons,List.foldl_nil];rw[tI];show []++cO r=cA [r];simp[cA]
theorem WY{a b:ByteArray}(h:a.size+b.size≤100000000):vf a b=true:=decide_eq_true (Nat.le_trans h (by decide))
theorem Xl{r:Int}(h:cy r):(runesBytes [r]).size≤4:=by
 have:(runesBytes [r]).data.toList=cO r:=by
  unfold runesBytes;simp only[List.foldl_cons,List.foldl_nil];rw[tI];rfl
 rw[←kE,this];exact(wc h).2
section
variable{K:Kn}{n:Nat}{v1:aO}{v4:aF}{v12:Int×Int}{x:List au}
theorem Rj(hT:fU x v1.Things)(hk:∀e∈x,e.Kind=1)(ho:∀e∈x,g6 e)(hl:x.length≤2000)(hn:101≤n):∀(m i:Nat),i<x.length→x.length<m+i →
  kW K n v1 v4 v12 m (i:Int) (cX ((bE x).take i)) (gK v4.FontSize 0 ((bE x).take i)) 0=some ⟨v1.Things,cX (bE x),gK v4.FontSize 0 (nH x),bif fN x then jF 32 v4.FontSize else 0,v12.1,v12.2,v1.Glued,v1.Forced,[]⟩:=by
 have hlen:=xk _ _ hT;have hcl:(bE x).length=x.length:=by unfold bE;simp
 have hel:∀i,i<x.length→fC (x.getD i default) (v1.Things.getD i default):=fun i hi=>by
  have h1:=zV i _ _ hT;have hi2:i<v1.Things.length:=by omega
  rw[List.drop_eq_getElem_cons hi,List.drop_eq_getElem_cons hi2]at h1;rw[b9 hi,b9 hi2];exact h1.1
 intro m
 induction m with
 | zero=>intro i h1 h2;omega
 | succ m ih =>
  intro i hi h2;show lD K n v1 v4 v12 (kW K n v1 v4 v12 m) i _ _ _=_;unfold lD;have hm:x.getD i default∈x:=by rw[b9 hi];exact List.getElem_mem _
  have he:=hel i hi;have hch:(v1.Things.getD i default).Char=(x.getD i default).Char:=he.char (hk _ hm);have hok:=ho _ hm;have ht:(bE x).take (i+1)=(bE x).take i++[(x.getD i default).Char]:=by
   rw[List.take_add_one,List.getElem?_eq_getElem (by rw[hcl];exact hi),b9 hi];simp[bE]
  have hoks:∀r∈(bE x).take i,cy r:=fun r hr=>vm ho r (List.mem_of_mem_take hr);have hsz:(cX ((bE x).take i)).size≤4*((bE x).take i).length:=by rw[tP];exact(uk hoks).2
  have hsz2:=Xl hok.ch;have htl:((bE x).take i).length≤2000:=by rw[List.length_take];omega
  have hw:aa ((i:Int)+1)=((i+1:Nat):Int):=by rw[bG (by omega) (by omega)];omega
  have hw1:aa ((v1.Things.length:Int)-1)=((x.length-1:Nat):Int):=by rw[bG (by omega) (by omega)];omega
  rw[if_pos (by simp;omega),bV (by omega) (by omega),aW,Int.toNat_natCast,hch,Qp hn,Option.bind_some,WY (by omega),aW,Option.bind_some,Rv,← ht,hw1,he.soft];by_cases hlast:i+1<x.length
  ·have e:((i:Int) == ((x.length-1:Nat):Int))=false:=by simp;omega
   have fin:l8 K n v1 v4 v12 (i:Int) (gK v4.FontSize 0 ((bE x).take i)) 0 (jF (x.getD i default).Char v4.FontSize) (cX ((bE x).take (i+1))) (kW K n v1 v4 v12 m) false=some ⟨v1.Things,cX (bE x),gK v4.FontSize 0 (nH x),bif fN x then jF 32 v4.FontSize else 0,v12.1,v12.2,v1.Glued,v1.Forced,[]⟩:=by
    unfold l8 nU;rw[if_neg (by simp),hw,← zA,← ht];exact ih (i+1) hlast (by omega)
   rw[e];split<;>exact fin
  ·have hil:i+1=x.length:=by omega
   have e:((i:Int) == ((x.length-1:Nat):Int))=true:=by simp;omega
   have hs:(x.getD i default).Soft=fN x:=by unfold fN;rw[←hil,Nat.add_sub_cancel]
   have hall:(bE x).take (i+1)=bE x:=List.take_of_length_le (by omega);have hdl:(bE x).dropLast=(bE x).take i:=by rw[List.dropLast_eq_take,hcl,← hil,Nat.add_sub_cancel]
   obtain⟨m,rfl⟩:∃m',m=m'+1:=⟨m-1,by omega⟩;have stop:∀W S,kW K n v1 v4 v12 (m+1) ((i+1:Nat):Int) (cX ((bE x).take (i+1))) W S=some ⟨v1.Things,cX (bE x),W,S,v12.1,v12.2,v1.Glued,v1.Forced,[]⟩:=fun W S=>by
    show lD K n v1 v4 v12 (kW K n v1 v4 v12 m) _ _ _ _=_;unfold lD;rw[if_neg (by simp;omega),hall]
   rw[e,hs];cases hso:fN x with
   | true =>
    have h32:(x.getD i default).Char=32:=hok.soft (by rw[hs];exact hso);rw[if_pos rfl];unfold l8 nU;rw[if_pos rfl,hw,stop,h32];unfold nH;rw[hso,← hdl];rfl
   | false =>
    rw[if_neg (by simp)];unfold l8 nU;rw[if_neg (by simp),hw,stop,← zA,← ht,hall];unfold nH;rw[hso];rfl
end
structure sg(r:aH)(y:aO):Prop where
 things:∃t s,y.Things=t::s∧r.Node=t.Box.Node∧r.Style=t.Box.Style
 text:y.Text=r.Text
 width:y.Width=r.Width
 space:y.Space=r.Space
 above:y.Above=r.Above
 below:y.Below=r.Below
 glued:y.Glued=r.Glued
 forced:y.Forced=r.Forced
 box:y.Box=r.Box
 fd:r.Box=[]∨∃f,r.Box=[f]∧Fd 2 f
 frc:r.Forced=true→r.Text=⟨#[]⟩∧r.Width=0∧r.Space=0∧r.Box=[]
 bxt:r.Box≠[]→r.Text=⟨#[]⟩
 cut:r.Forced=false→(decide (y.Space>0)||(y.Things.getD (y.Things.length-1) default).Soft)=(dD r.Text&&r.Style.WhiteSpace != 2)
 tl:y.Things.length≤2000
 tz:r.Text.size≤100000
theorem Ei:∀(E:List au) (T:List aK),fU E T→∀i,i<E.length→fC (E.getD i default) (T.getD i default)
 | [],[],_,i,hi=>by simp at hi
 | [],t::s,h,i,_=>h.elim
 | e::r,[],h,i,_=>h.elim
 | e::r,t::s,h,0,_=>h.1
 | e::r,t::s,h,i+1,hi=>by
  have:=Ei r s h.2 i (by simpa using hi);simpa using this
section
variable{n:Nat}{w:Int}
theorem Ut{K:Kn}{p:Option au}{e:au}{r:List au}{t:aK}{s:List aK}(hT:fU (e::r) (t::s))(hk:∀x∈e::r,x.Kind=1)(ho:∀x∈e::r,g6 x)(hl:(e::r).length≤2000)(hn:2101≤n)(hlh:0≤e.Box.Style.LineHeight∧e.Box.Style.LineHeight≤65536)(h2:∀x∈e::r,qz x)(hbx:∀x∈e::r,x.Box=e.Box):
  ∃y,fF K n (de (d6 p e t,some (t::s))) w=some y∧sg (runM (dR (e::r)) e (iK p e)) y:=by
 have he:=hT.1;have hke:=hk e (by simp);have hst:sq (e::r)=e.Box.Style:=rfl;unfold fF;have e0:(de (d6 p e t,some (t::s))).Things=t::s:=rfl;have eB:(de (d6 p e t,some (t::s))).Box=[]:=rfl;have eF:(de (d6 p e t,some (t::s))).Forced=t.Forced:=rfl;rw[eB,eF,e0,bV (by omega) (by simp)];simp only[Option.bind_some];have ed:List.getD (t::s) (0:Int).toNat default=t:=rfl;rw[ed,he.forced,he.block,show(e.Kind == 2)=false by rw[hke];rfl,show(e.Kind == 3)=false by rw[hke];rfl,he.box,Iy K n _ hlh.1 hlh.2];have:=Rj (K:=K) (n:=n) (v1:=de (d6 p e t,some (t::s))) (v4:=e.Box.Style) (v12:=fg e.Box.Style) (x:=e::r) hT hk ho hl (by omega) n 0 (by simp) (by omega);have h0:(List.take 0 (bE (e::r)))=[]:=rfl;rw[h0]at this;refine⟨_,this,⟨⟨t,s,rfl,by rw[he.box];rfl,by rw[he.box];rfl⟩,rfl,rfl,rfl,rfl,rfl,rfl,?_,rfl,.inl rfl,fun h=>(by cases h),fun h=>absurd rfl h,fun _=>?_,?_,?_⟩⟩
 ·show t.Forced=false;rw[he.forced,hke];rfl
 ·have hc:=Se (x:=e::r) (by simp) hk ho h2 (fun x hx=>hbx x hx);have hs:=(Ei _ _ hT ((e::r).length-1) (by simp)).soft;show(decide ((bif fN (e::r) then jF 32 e.Box.Style.FontSize else 0)>0)||((t::s).getD ((t::s).length-1) default).Soft)=(dD (dR (e::r)).Text&&e.Box.Style.WhiteSpace != 2);rw[show(t::s).length=(e::r).length from (xk _ _ hT).symm,hs];rw[show(dD (dR (e::r)).Text&&e.Box.Style.WhiteSpace != 2)=fN (e::r) from hc];rw[show((e::r).getD ((e::r).length-1) default).Soft=fN (e::r) from rfl];cases fN (e::r)<;>simp
 ·have hq:=xk _ _ hT;show(t::s).length≤2000;omega
 ·have hq:=Fs ho;show(dR (e::r)).Text.size≤100000;omega
theorem Vg{K:Kn}{p:Option au}{e:au}{t:aK}(he:fC e t)(hk:e.Kind=2):∃y,fF K n (de (d6 p e t,some [t])) w=some y∧sg (runM { cJ with Forced:=true } e (iK p e)) y:=by
 unfold fF;have e0:(de (d6 p e t,some [t])).Things=[t]:=rfl;have eB:(de (d6 p e t,some [t])).Box=[]:=rfl;have eF:(de (d6 p e t,some [t])).Forced=t.Forced:=rfl;have ht:t.Forced=true:=by rw[he.forced,hk];rfl
 rw[eB,eF,e0,ht,bV (by omega) (by simp)];simp only[Option.bind_some,if_true];refine⟨_,rfl,⟨⟨t,[],rfl,by rw[he.box];rfl,by rw[he.box];rfl⟩,rfl,rfl,rfl,rfl,rfl,rfl,rfl,rfl,.inl rfl,fun _=>⟨rfl,rfl,rfl,rfl⟩,fun h=>absurd rfl h,(fun h=>by cases h),(by show 1≤2000;omega),(by show(⟨#[]⟩:ByteArray).size≤100000;decide)⟩⟩
theorem P5{p:Option au}{e:au}{t:aK}{k:ah}(he:fC e t)(hk:e.Kind=3)(h2:qz e)(h1:eR e.Box k){M:Nat}(hM:25≤M)(hn:M+10≤n):∃y,fF (KN n) n (de (d6 p e t,some [t])) w=some y∧sg (runM (eL M w e.Box) e (iK p e)) y:=by
  obtain⟨v,f,s1,s2,s3,s4⟩:=VU h1 hM w hn;unfold fF;have e0:(de (d6 p e t,some [t])).Things=[t]:=rfl;have eB:(de (d6 p e t,some [t])).Box=[]:=rfl;have eF:(de (d6 p e t,some [t])).Forced=t.Forced:=rfl;have ht:t.Forced=false:=by rw[he.forced,hk];rfl
  have hb:t.Block=true:=by rw[he.block,hk];rfl
  rw[eB,eF,e0,ht,bV (by omega) (by simp)];simp only[Option.bind_some];have ed:List.getD [t] (0:Int).toNat default=t:=rfl;rw[ed,hb,he.box,s1];simp only[Option.bind_some,E1];rw[s2];simp only[Option.bind_some,Jl,LS,fJ];rw[cv (by simp) (by omega)];refine⟨_,rfl,⟨⟨t,[],rfl,by rw[he.box];rfl,by rw[he.box];rfl⟩,?_,?_,?_,?_,?_,rfl,?_,?_,?_,?_,?_,?_,(by show 1≤2000;omega),?_⟩⟩
  all_goals rw[s4]
  all_goals first
    | rfl
    | exact ht
    | (intro h;have h:(false:Bool)=true:=h;cases h)
    | exact fun _=>rfl
    | (show(⟨#[]⟩:ByteArray).size≤100000;decide)
    | (intro _
       have hsf:t.Soft=false:=by
         rw[he.soft];cases q:e.Soft with
         | false=>rfl
         | true=>have:=(h2.sft q).1;omega
       show(decide ((0:Int)>0)||t.Soft)=(false&&_);rw[hsf];rfl)
    | exact .inr ⟨_,rfl,wz (Lb f w) s3⟩
end
end
end Go.Proofs.YtnpmlepplfaijaaGreat
namespace Go.Proofs.YtnpmlepplfaijaaGreat
set_option linter.all false
open Go.RowKit
noncomputable section
def dP:List aH→List aO→Prop
 | [],[]=>True
 | r::t,y::u=>sg r y∧dP t u
 | _,_=>False
theorem vj:∀(X:List aH) (Y:List aO),dP X Y→X.length=Y.length
 | [],[],_=>rfl
 | [],y::u,h=>h.elim
 | r::t,[],h=>h.elim
 | r::t,y::u,h=>by simp[vj t u h.2]
theorem Bv:∀(X:List aH) (Y:List aO),dP X Y→∀i,i<X.length→sg (X.getD i default) (Y.getD i default)
 | [],[],_,i,hi=>by simp at hi
 | [],y::u,h,i,_=>h.elim
 | r::t,[],h,i,_=>h.elim
 | r::t,y::u,h,0,_=>h.1
 | r::t,y::u,h,i+1,hi=>by
  have:=Bv t u h.2 i (by simpa using hi);simpa using this
section
variable{n:Nat}{w:Int}
def nQ(n:Nat)(w:Int)(x:RT):aO:=(fF (KN n) n (de x) w).getD default
theorem Sq:∀(m:Nat) (B:List RT) (A:List aO),B.length<m→A.length+B.length≤1000000→(∀x∈B,∃y,fF (KN n) n (de x) w=some y)→kG (KN n) n w m (A.length:Int) (A++B.map de)=some (A++B.map (nQ n w)):=by
 intro m
 induction m with
 | zero=>intro B A h;omega
 | succ m ih =>
  intro B A h1 h2 h3;show ru (KN n) n w (kG (KN n) n w m) _ _=_;unfold ru;cases B with
  | nil=>rw[if_neg (by simp)];rfl
  | cons x r =>
   simp only[List.length_cons]at h1 h2;obtain⟨y,hy⟩:=h3 x (by simp);have hs:nQ n w x=y:=by unfold nQ;rw[hy];rfl
   have hw:aa ((A.length:Int)+1)=((A.length+1:Nat):Int):=by rw[bG (by omega) (by omega)];omega
   rw[if_pos (by simp;omega),bV (by omega) (by simp;omega),aW,Int.toNat_natCast,List.map_cons,HN,hy];simp only[Option.bind_some];rw[aW,hw,Hj];have:=ih r (A++[y]) (by omega) (by simp;omega) (fun z hz=>h3 z (by simp[hz]));rw[List.length_append]at this;simp only[List.length_cons,List.length_nil,Nat.zero_add]at this;rw[show A++y::r.map de=A++[y]++r.map de by simp,this,List.map_cons,hs];simp
theorem WH{M:Nat}(hM:2101≤M)(hn:M+10≤n):∀(m:Nat) (p:Option au) (E:List au) (T:List aK),fU E T→E.length<m→E.length≤2000→(∀e∈E,EK e)→(∀e∈E,g6 e)→(∀e∈E,0≤e.Box.Style.LineHeight∧e.Box.Style.LineHeight≤65536)→(∀e∈E,e.Kind=3→∃k,eR e.Box k)→(∀e∈E,qz e)→(∀x∈E,∀y∈E,x.Of=y.Of→x.Box=y.Box) →
  (∀x∈fE m p E T,∃y,fF (KN n) n (de x) w=some y)∧dP (cM (eL M w) m p E) ((fE m p E T).map (nQ n w)):=by
 intro m
 induction m with
 | zero=>intro p E T _ h;omega
 | succ m ih =>
  intro p E T hT h1 h2 hk ho hlh hob hk2 hob2;cases E with
  | nil =>
   cases T with
   | nil=>exact⟨(fun x hx=>by cases hx),trivial⟩
   | cons t s=>exact hT.elim
  | cons e r =>
   cases T with
   | nil=>exact hT.elim
   | cons t s =>
    simp only[List.length_cons]at h1 h2;have sub:∀(x:RT) (y:aO) (r1:aH) (X:List aH) (G:List RT),fF (KN n) n (de x) w=some y→sg r1 y→((∀x∈G,∃y,fF (KN n) n (de x) w=some y)∧dP X (G.map (nQ n w)))→(∀z∈x::G,∃y,fF (KN n) n (de z) w=some y)∧dP (r1::X) ((x::G).map (nQ n w)):=fun x y r1 X G q1 q2 q3=>by
     refine⟨fun z hz=>?_,?_⟩
     ·rcases List.mem_cons.1 hz with rfl|hz
      ·exact⟨y,q1⟩
      ·exact q3.1 z hz
     ·rw[List.map_cons];refine⟨?_,q3.2⟩;unfold nQ;rw[q1];exact q2
    unfold fE cM;rcases (hk e (by simp)).kind with k|k|k
    ·rw[show(e.Kind == 2)=false by rw[k];rfl,show(e.Kind == 3)=false by rw[k];rfl];simp only[cond_false];have hj:=C9 e.Of r e;have hmem:∀x∈e::r.take (jl e.Of e r),x∈e::r:=fun x hx=>by
      rcases List.mem_cons.1 hx with rfl|hx
      ·simp
      ·exact List.mem_cons_of_mem _ (List.mem_of_mem_take hx)
     obtain⟨y,y1,y2⟩:=Ut (K:=KN n) (n:=n) (w:=w) (p:=p) (e:=e) (r:=r.take (jl e.Of e r)) (t:=t) (s:=s.take (jl e.Of e r)) ⟨hT.1,Gt _ r s hT.2⟩ (fun x hx=>by
      rcases List.mem_cons.1 hx with rfl|hx
      ·exact k
      ·exact GS _ _ _ x hx) (fun x hx=>ho x (hmem x hx)) (by simp;omega) (by omega) (hlh e (by simp)) (fun x hx=>hk2 x (hmem x hx)) (fun x hx=>by
      refine hob2 x (hmem x hx) e (by simp) ?_;rcases List.mem_cons.1 hx with rfl|hx
      ·rfl
      ·exact JW _ _ _ x hx)
     have hd:∀x∈r.drop (jl e.Of e r),x∈e::r:=fun x hx=>List.mem_cons_of_mem _ (List.mem_of_mem_drop hx);exact sub _ y _ _ _ y1 y2 (ih _ _ _ (zV _ r s hT.2) (by simp;omega) (by simp;omega) (fun x hx=>hk x (hd x hx)) (fun x hx=>ho x (hd x hx)) (fun x hx=>hlh x (hd x hx)) (fun x hx=>hob x (hd x hx)) (fun x hx=>hk2 x (hd x hx)) (fun x hx y hy=>hob2 x (hd x hx) y (hd y hy)))
    ·rw[show(e.Kind == 2)=true by rw[k];rfl];simp only[cond_true];obtain⟨y,y1,y2⟩:=Vg (K:=KN n) (n:=n) (w:=w) (p:=p) hT.1 k;exact sub _ y _ _ _ y1 y2 (ih _ _ _ hT.2 (by omega) (by omega) (fun x hx=>hk x (by simp[hx])) (fun x hx=>ho x (by simp[hx])) (fun x hx=>hlh x (by simp[hx])) (fun x hx=>hob x (by simp[hx])) (fun x hx=>hk2 x (by simp[hx])) (fun x hx y hy=>hob2 x (by simp[hx]) y (by simp[hy])))
    ·rw[show(e.Kind == 2)=false by rw[k];rfl,show(e.Kind == 3)=true by rw[k];rfl];simp only[cond_true,cond_false];obtain⟨b,hb⟩:=hob e (by simp) k;obtain⟨y,y1,y2⟩:=P5 (n:=n) (w:=w) (p:=p) hT.1 k (hk2 e (by simp)) hb (M:=M) (by omega) (by omega);exact sub _ y _ _ _ y1 y2 (ih _ _ _ hT.2 (by omega) (by omega) (fun x hx=>hk x (by simp[hx])) (fun x hx=>ho x (by simp[hx])) (fun x hx=>hlh x (by simp[hx])) (fun x hx=>hob x (by simp[hx])) (fun x hx=>hk2 x (by simp[hx])) (fun x hx y hy=>hob2 x (by simp[hx]) y (by simp[hy])))
theorem WT:∀(m:Nat) (p:Option au) (E:List au) (T:List aK),(fE m p E T).length≤E.length:=by
 intro m
 induction m with
 | zero=>intro p E T;simp[fE]
 | succ m ih =>
  intro p E T;cases E with
  | nil=>simp[fE]
  | cons e r =>
   cases T with
   | nil=>simp[fE]
   | cons t s =>
    unfold fE;have h1:=ih (some e) r s;have h2:=ih (some (dj (e::r.take (jl e.Of e r)))) (r.drop (jl e.Of e r)) (s.drop (jl e.Of e r));rw[List.length_drop]at h2;cases (e.Kind == 2)<;>cases (e.Kind == 3)<;>simp only[cond_true,cond_false,List.length_cons]<;>omega
end
theorem Kv{l:List cc}(ht:∀s∈l,s.Text.size≤60)(hlh:∀s∈l,0≤s.Style.LineHeight∧s.Style.LineHeight≤65536){d:Nat}{bx:List ah}(hb:Bx l d bx)(hD:Dp (d+1) bx)(hc:bA (d+1) bx≤2000){M n:Nat}(hM:d+9100≤M)(hn:M+10≤n)(w:Int):∃Y,tQ (KN n) n bx w=some Y∧dP (iG (eL M w) (dB (d+1) bx)) Y:=by
 have hel:=yD (d+1) bx;have hek:=Mm (d+1) bx;have heo:=D0 (d+1) bx;have hob:=As ht hb;have hk2:=Vh (d+1) bx;have hob2:=Xp (d+1) bx (by omega);have hE:∀e∈dB (d+1) bx,0≤e.Box.Style.LineHeight∧e.Box.Style.LineHeight≤65536:=FE d bx (0,[]) (fun b=>0≤b.Style.LineHeight∧b.Style.LineHeight≤65536) hb (fun b R hk=>by
  obtain⟨s,hs,h1,_⟩:=hk;rw[h1];exact hlh s hs) (fun x hx=>by cases hx)
 obtain⟨c,T,t1,t2⟩:=Ov (N:=n) hD (by omega) (by omega);unfold tQ;rw[t1];simp only[Option.bind_some];unfold iG;generalize dB (d+1) bx=E at *;have hlen:=t2.len;have hT:=GF E T hlen t2.el;have h5:=WN (K:=KN n) (n:=n) (w:=w) t2 hek (by omega) (by omega) n 0 [] (by omega) (by omega) (fun h=>by omega) (by simp) (fun x hx=>by cases hx);rw[List.drop_zero,List.drop_zero,show cY E 0=none from rfl,OD (E.length+1) none E T [] hlen (by omega) (fun e he=>(hek e he).kind) (fun e r _=>rfl),List.nil_append]at h5;rw[show kJ (KN n) n w T n 0 []=_ from h5];obtain⟨q1,q2⟩:=WH (w:=w) (M:=M) (n:=n) (by omega) (by omega) (E.length+1) none E T hT (by omega) (by omega) hek heo hE hob hk2 hob2;have hgl:=WT (E.length+1) none E T;have h6:=Sq (n:=n) (w:=w) n (fE (E.length+1) none E T) [] (by omega) (by simp;omega) q1;exact⟨_,h6,q2⟩
end
end Go.Proofs.YtnpmlepplfaijaaGreat
namespace Go.Proofs.YtnpmlepplfaijaaGreat
set_option linter.all false
open Go.RowKit
def vR(r:aO):R4:=⟨r.Width,r.Space,r.Glued,r.Forced⟩
theorem Ba{L:List aO}{k:Nat}(h:k<L.length):(L.map vR)[k]'(by simpa using h)=vR (L.getD k default):=by
 rw[b9 h];simp
section
variable{K:Kn}{n:Nat}{L:List aO}{w:Int}
theorem Z6:∀(m:Nat) (i:Int),0≤i→i≤L.length→L.length<m+i.toNat→(L.length:Int)<9223372036854775807→pO K n L m i=some ((gr (L.map vR) i.toNat:Nat):Int):=by
 intro m
 induction m with
 | zero=>intro i h0 h1 h2;omega
 | succ m ih =>
  intro i h0 h1 h2 hL;show rf K n L (pO K n L m) i=_;unfold rf;by_cases hi:i<(L.length:Int)
  ·have hk:i.toNat<L.length:=by omega
   rw[if_pos (by simpa using hi),bV h0 hi,aW];unfold qd;have hv:=Ba hk;cases hg:(L.getD i.toNat default).Glued with
   | true =>
    rw[if_pos rfl,bG (by omega) (by omega),ih (i+1) (by omega) (by omega) (by omega) hL];rw[Er (l:=L.map vR) (i:=i.toNat) (by simpa using hk) (by rw[hv];exact hg),show(i+1).toNat=i.toNat+1 by omega]
   | false =>
    rw[if_neg (by simp)];rw[GY (l:=L.map vR) (i:=i.toNat) (by simpa using hk) (by rw[hv];exact hg)];congr 1;omega
  ·rw[if_neg (by simpa using hi)];unfold qd;rw[if_neg (by simp),I1 (by simp;omega)];congr 1;omega
theorem DA{i:Int}(h0:0≤i)(h1:i<L.length)(hn:L.length<n)(hL:(L.length:Int)<9223372036854775807):nG K n L i=some ((gr (L.map vR) (i.toNat+1):Nat):Int):=by
 unfold nG;rw[bG (by omega) (by omega),Z6 n (i+1) (by omega) (by omega) (by omega) hL,show(i+1).toNat=i.toNat+1 by omega]
theorem TK(hL:(L.length:Int)<9223372036854775807):∀(m:Nat) (x y i:Int),0≤i→i≤L.length→L.length<m+i.toNat→qv K n L m x y i=some (wS x y ((L.map vR).drop i.toNat)):=by
 intro m
 induction m with
 | zero=>intro x y i h0 h1 h2;omega
 | succ m ih =>
  intro x y i h0 h1 h2;show qF K n L (qv K n L m) x y i=_;unfold qF;by_cases hi:i<(L.length:Int)
  ·have hk:i.toNat<L.length:=by omega
   rw[if_pos (by simpa using hi),bV h0 hi];simp only[aW,Option.bind_some];have hd:(L.map vR).drop i.toNat=vR (L.getD i.toNat default)::(L.map vR).drop (i+1).toNat:=by
    rw[List.drop_eq_getElem_cons (by simpa using hk),Ba hk,show(i+1).toNat=i.toNat+1 by omega]
   rw[hd];unfold wS;unfold vi;cases hf:(L.getD i.toNat default).Forced with
   | false =>
    rw[show(!false)=true from rfl,if_pos rfl,bG (n:=i+1) (by omega) (by omega),ih _ _ _ (by omega) (by omega) (by omega)];simp only[vR,hf,Bool.false_eq_true,if_false]
   | true =>
    rw[show(!true)=false from rfl,if_neg (by simp),bG (n:=i+1) (by omega) (by omega),ih _ _ _ (by omega) (by omega) (by omega)];simp only[vR,hf,if_true]
  ·rw[if_neg (by simpa using hi),List.drop_eq_nil_of_le (by simp;omega)];rfl
theorem H6(hn:L.length<n)(hL:(L.length:Int)<9223372036854775807):rO K n L=some (kt (L.map vR)):=by
 unfold rO;rw[TK hL n 0 0 0 (by omega) (by omega) (by simpa using hn)];rfl
theorem QT(hn:L.length<n)(hL:(L.length:Int)<9223372036854775807)(a:Nat)(out:List Int)(C:Int→List Int→Option (List Int)):∀(m e:Nat),1≤e→a≤e→e≤L.length→L.length<m+e →
  qo K n L w a out C m e=C ((lE (L.map vR) w a m e:Nat):Int) (out++[(a:Int)]):=by
 intro m
 induction m with
 | zero=>intro e h0 h1 h2 h3;omega
 | succ m ih =>
  intro e h0 h1 h2 h3;show pM K n L w a out C (qo K n L w a out C m) e=_;unfold pM lE;by_cases he:e<L.length
  ·rw[if_pos (by simpa using he),bG (by omega) (by omega),bV (by omega) (by omega),aW];have e1:((e:Int)-1).toNat=e-1:=by omega
   have hv:=Ba (L:=L) (k:=e-1) (by omega);have hf:((L.map vR).getD (e-1) default).f=(L.getD ((e:Int)-1).toNat default).Forced:=by
    rw[b9 (by simp;omega),hv,e1];rfl
   cases hb:(L.getD ((e:Int)-1).toNat default).Forced with
   | true =>
    unfold lv;rw[show(!true)=false from rfl,if_neg (by simp),if_neg (by simp),if_neg (by rw[hf,hb];simp)]
   | false =>
    have hg:=rx (l:=L.map vR) (i:=e+1) (by simp;omega);have hge:=jX (L.map vR) (e+1);simp only[List.length_map]at hg;rw[show(!false)=true from rfl,if_pos rfl,DA (by omega) (by omega) hn hL];simp only[Option.bind_some,Int.toNat_natCast];rw[show cN (a:Int) ((gr (L.map vR) (e+1):Nat):Int) L.length=true by simp only[cN,Bool.and_eq_true,decide_eq_true_eq];omega,aW];have hs:List.drop a (List.take (gr (L.map vR) (e+1)) L)=sl L a (gr (L.map vR) (e+1)):=rfl;rw[hs,H6 (by have:=oF L a (gr (L.map vR) (e+1));omega) (by have:=oF L a (gr (L.map vR) (e+1));omega),FS];simp only[Option.bind_some];unfold lv;by_cases hw:kt (sl (L.map vR) a (gr (L.map vR) (e+1)))>w
    ·rw[if_neg (by simp;omega),if_neg (by simp[hw])]
    ·rw[if_pos (by simp;omega),if_pos ⟨by simpa using he,by rw[hf,hb],hw⟩,DA (by omega) (by omega) hn hL];simp only[Option.bind_some,Int.toNat_natCast];exact ih _ (by omega) (by omega) (by omega) (by omega)
  ·rw[if_neg (by simpa using he),if_neg (by simp;omega)];unfold lv;rw[if_neg (by simp)]
theorem M4(hn:L.length<n)(hL:(L.length:Int)≤1000000):∀(m a:Nat) (out:List Int),a≤L.length→out.length≤a→L.length<m+a→sF K n L w m a out=some (out++(bM (L.map vR) w m a).map fun (k:Nat)=>(k:Int)):=by
 intro m
 induction m with
 | zero=>intro a out h1 h2 h3;omega
 | succ m ih =>
  intro a out h1 h2 h3;show pF K n L w (sF K n L w m) a out=_;unfold pF bM;by_cases ha:a<L.length
  ·rw[if_pos (by simpa using ha),if_pos (by simpa using ha),cv (by simp;omega) (by omega),aW,DA (by omega) (by omega) hn (by omega)];simp only[Option.bind_some,Int.toNat_natCast];have hg:=rx (l:=L.map vR) (i:=a+1) (by simp;omega);have hge:=jX (L.map vR) (a+1);simp only[List.length_map]at hg;rw[QT hn (by omega) a out _ n _ (by omega) (by omega) hg (by omega)];rw[Fw (L.map vR) w a n (L.map vR).length _ (by simp;omega) (by simp)];have h5:=wD (L.map vR) w a (L.map vR).length (gr (L.map vR) (a+1)) (by simpa using hg);have h6:=ss (L.map vR) w a (L.map vR).length (gr (L.map vR) (a+1));simp only[List.length_map]at h5 h6⊢;rw[ih _ _ h5 (by simp;omega) (by omega)];simp[List.append_assoc]
  ·rw[if_neg (by simpa using ha),if_neg (by simpa using ha)];simp
theorem Pj(hn:L.length<n)(hL:(L.length:Int)≤1000000):tm K n L w=some ((bM (L.map vR) w (L.length+1) 0).map fun (k:Nat)=>(k:Int)):=by
 unfold tm;rw[show(0:Int)=((0:Nat):Int) from rfl,M4 hn hL n 0 [] (by omega) (by simp) (by omega),Lo (L.map vR) w n (L.length+1) 0 (by simp;omega) (by simp)];simp
end
end Go.Proofs.YtnpmlepplfaijaaGreat
namespace Go.Proofs.YtnpmlepplfaijaaGreat
set_option linter.all false
open Go.RowKit
noncomputable section
theorem DC:∀(X:List aH) (Y:List aO),dP X Y→Y.map vR=X.map vI
 | [],[],_=>rfl
 | [],y::u,h=>h.elim
 | r::t,[],h=>h.elim
 | r::t,y::u,h=>by
  rw[List.map_cons,List.map_cons,DC t u h.2];congr 1;have:=h.1;unfold vR vI;rw[this.width,this.space,this.glued,this.forced]
theorem Qb(K:Kn)(n:Nat)(s:aF)(w u:Int):tG K n s w u=some (mM s w u):=by
 rw[←KU K n];unfold iy tG
 repeat' split
 all_goals rfl
theorem X8(s:aF)(w u:Int):aa (mM s w u)=mM s w u:=by
 have h:∀x:Int,aa (aa x)=aa x:=fun x=>s5 (gc x);unfold mM iy
 repeat' split
 all_goals first|exact h _|rfl
section
variable{K:Kn}{n:Nat}{X:List aH}{Y:List aO}{s:aF}{w above below last:Int}
theorem UC(r:aH)(y:aO)(ht:∃t u,y.Things=t::u∧r.Node=t.Box.Node∧r.Style=t.Box.Style)(h1:y.Text=r.Text)(h2:y.Width=r.Width)(h3:y.Space=r.Space)(h4:y.Box=r.Box)(h5:r.Box=[]∨∃f,r.Box=[f])(h6:r.Box≠[]→r.Text=⟨#[]⟩)(i x:Int)(acc:List ab)(ha:acc.length≤900000)(C:Int→Int→List ab→Option ab):
  nr K n Y s w above below last x i acc C y=C (aa (x+aa (r.Width+r.Space))) (aa (i+1)) (acc++eh above x r):=by
 obtain⟨t,u,e1,e2,e3⟩:=ht;unfold nr;rw[e1,bV (by omega) (by simp),h1,h2,h3,h4];simp only[aW,Option.bind_some];have ed:List.getD (t::u) (0:Int).toNat default=t:=rfl;rw[ed];unfold qX qb;rw[h2,h3];rcases h5 with hb|⟨f,hb⟩
 ·rw[hb,if_neg (by simp),vc,Hd];unfold eh jB;rw[hb];cases he:r.Text.data.toList with
  | nil=>rw[if_neg (by simp)];simp
  | cons b v =>
   rw[if_pos (by simp)];simp only[jq,pL,Option.bind_some];rw[cv (by simp;omega) (by omega),aW,← e2,← e3];simp only[List.isEmpty_cons,cond_false,List.map_nil,List.append_nil];rfl
 ·have htx:=h6 (by rw[hb];simp);rw[hb,if_pos (by simp),bV (by omega) (by simp),aW];simp only[Option.bind_some,fJ];rw[cv (by simp;omega) (by omega),aW];unfold eh jB;rw[hb,htx];rfl
theorem MY(h:dP X Y)(hl:X.length≤100000):∀(m i:Nat) (x:Int) (acc:List ab),i≤X.length→X.length<m+i→acc.length≤2*i→aa x=x →
  km K n Y s w above below last m x (i:Int) acc=some { bb with Kind:=2,W:=w,H:=aa (above+below),aE:=above,Style:=s,Kids:=acc++eQ above last i x (X.drop i) }:=by
 have hlen:=vj _ _ h;intro m
 induction m with
 | zero=>intro i x acc h1 h2;omega
 | succ m ih =>
  intro i x acc h1 h2 h3 hx;show qn K n Y s w above below last (km K n Y s w above below last m) x i acc=_;unfold qn;by_cases hi:i<X.length
  ·have hd:X.drop i=X.getD i default::X.drop (i+1):=by rw[List.drop_eq_getElem_cons hi,b9 hi]
   have hr:=Bv X Y h i hi;have e1:aa ((i:Int)+1)=((i+1:Nat):Int):=by rw[bG (by omega) (by omega)];omega
   have hww:∀z:Int,aa (aa z)=aa z:=fun z=>s5 (gc z);rw[if_pos (by simp;omega),bV (by omega) (by omega),aW,hd];unfold eQ;simp only[Int.toNat_natCast];rw[hr.forced];cases hf:(X.getD i default).Forced with
   | true =>
    obtain⟨f1,f2,f3,f4⟩:=hr.frc hf;have hst:stripR (X.getD i default)=X.getD i default:=by unfold stripR dD;rw[f1];rfl
    rw[if_pos rfl];unfold qb;rw[e1,ih (i+1) x acc (by omega) (by omega) (by omega) hx];have hc:(bif ((i:Int) == last) then stripR (X.getD i default) else X.getD i default)=X.getD i default:=by rw[hst];cases ((i:Int) == last)<;>rfl
    rw[hc,f2,f3];have hrun:eh above x (X.getD i default)=[]:=by unfold eh jB;rw[f1,f4];rfl
    rw[hrun,show aa (x+aa (0+0))=x by rw[show aa (0+0)=0 from rfl,Int.add_zero,hx]];rfl
   | false =>
    rw[if_neg (by simp)];have rl:∀(z:Int) (r:aH),(r.Box=[]∨∃f,r.Box=[f])→(eh above z r).length≤2:=fun z r q=>by
     unfold eh jB;rcases q with q|⟨f,q⟩<;>rw[q]<;>cases r.Text.data.toList.isEmpty<;>simp
    have hb1:(X.getD i default).Box=[]∨∃f,(X.getD i default).Box=[f]:=by
     rcases hr.fd with q|⟨f,q,_⟩
     ·exact .inl q
     ·exact .inr ⟨f,q⟩
    have step:∀(r:aH) (y:aO),(∃t u,y.Things=t::u∧r.Node=t.Box.Node∧r.Style=t.Box.Style)→y.Text=r.Text→y.Width=r.Width→y.Space=r.Space→y.Box=r.Box→(r.Box=[]∨∃f,r.Box=[f])→(r.Box≠[]→r.Text=⟨#[]⟩)→nr K n Y s w above below last x (i:Int) acc (km K n Y s w above below last m) y=some { bb with Kind:=2,W:=w,H:=aa (above+below),aE:=above,Style:=s,Kids:=acc++(eh above x r++eQ above last ((i:Int)+1) (aa (x+aa (r.Width+r.Space))) (X.drop (i+1))) }:=fun r y q1 q2 q3 q4 q5 q6 q7=>by
     have hrl:=rl x r q6;rw[UC r y q1 q2 q3 q4 q5 q6 q7 i x acc (by omega),e1,ih (i+1) _ _ (by omega) (by omega) (by simp;omega) (hww _),List.append_assoc];rfl
    obtain⟨t,u,t1,t2,t3⟩:=hr.things;have htl:=hr.tl;have htp:0<(Y.getD i default).Things.length:=by rw[t1];simp
    have hcut:=hr.cut hf;have no:stripR (X.getD i default)=X.getD i default∨((i:Int) == last)=false→iw K n Y s w above below last x (i:Int) acc (km K n Y s w above below last m) false=some { bb with Kind:=2,W:=w,H:=aa (above+below),aE:=above,Style:=s,Kids:=acc++(eh above x (bif ((i:Int) == last) then stripR (X.getD i default) else X.getD i default)++eQ above last ((i:Int)+1) (aa (x+aa ((bif ((i:Int) == last) then stripR (X.getD i default) else X.getD i default).Width+(bif ((i:Int) == last) then stripR (X.getD i default) else X.getD i default).Space))) (X.drop (i+1))) }:=fun q=>by
     have hc:(bif ((i:Int) == last) then stripR (X.getD i default) else X.getD i default)=X.getD i default:=by
      rcases q with q|q
      ·rw[q];cases ((i:Int) == last)<;>rfl
      ·rw[q];rfl
     unfold iw;rw[if_neg (by simp),Int.toNat_natCast,hc];exact step _ _ hr.things hr.text hr.width hr.space hr.box hb1 hr.bxt
    have yes:(dD (X.getD i default).Text&&(X.getD i default).Style.WhiteSpace != 2)=true→((i:Int) == last)=true→iw K n Y s w above below last x (i:Int) acc (km K n Y s w above below last m) true=some { bb with Kind:=2,W:=w,H:=aa (above+below),aE:=above,Style:=s,Kids:=acc++(eh above x (bif ((i:Int) == last) then stripR (X.getD i default) else X.getD i default)++eQ above last ((i:Int)+1) (aa (x+aa ((bif ((i:Int) == last) then stripR (X.getD i default) else X.getD i default).Width+(bif ((i:Int) == last) then stripR (X.getD i default) else X.getD i default).Space))) (X.drop (i+1))) }:=fun q q2=>by
     have hes:dD (X.getD i default).Text=true:=by rw[Bool.and_eq_true]at q;exact q.1
     have htz:=hr.tz;have hsz:1≤(X.getD i default).Text.size:=by
      unfold dD at hes;rcases Nat.eq_zero_or_pos (X.getD i default).Text.size with h0|h0
      ·have:(X.getD i default).Text.data.toList=[]:=List.eq_nil_of_length_eq_zero (by rw[kE];exact h0);rw[this]at hes;simp at hes
      ·exact h0
     have hst:stripR (X.getD i default)={ X.getD i default with Text:=vC (X.getD i default).Text,Space:=0 }:=by unfold stripR;rw[q];rfl
     have e2:aa (((X.getD i default).Text.size:Int)-1)=(((X.getD i default).Text.size-1:Nat):Int):=by rw[bG (by omega) (by omega)];omega
     unfold iw;rw[if_pos rfl,q2,Int.toNat_natCast,hr.text,e2,show cN (0:Int) (((X.getD i default).Text.size-1:Nat):Int) (X.getD i default).Text.size=true by simp only[cN,Bool.and_eq_true,decide_eq_true_eq];omega,aW,hst];refine step _ _ hr.things rfl hr.width rfl hr.box hb1 (fun hb=>?_);have:=hr.bxt hb;rw[this]at hes;cases hes
    have hsoft:qP K n (Y.getD i default)=some ((Y.getD i default).Things.getD ((Y.getD i default).Things.length-1) default).Soft:=by
     have e2:aa (((Y.getD i default).Things.length:Int)-1)=(((Y.getD i default).Things.length-1:Nat):Int):=by rw[bG (by omega) (by omega)];omega
     unfold qP;rw[e2,bV (by omega) (by omega),aW,Int.toNat_natCast]
    cases hil:((i:Int) == last) with
    | false=>rw[if_neg (by simp),if_neg (by simp)];have:=no (.inr hil);rw[hil]at this;exact this
    | true =>
     rw[if_pos rfl,if_pos rfl,hsoft,Option.bind_some];rw[hil]at no yes;cases hsp:decide ((Y.getD i default).Space>0) with
     | true =>
      rw[hsp,Bool.true_or]at hcut;rw[if_pos rfl];exact yes hcut.symm rfl
     | false =>
      rw[hsp,Bool.false_or]at hcut;rw[if_neg (by simp),hcut];cases hq:(dD (X.getD i default).Text&&(X.getD i default).Style.WhiteSpace != 2) with
      | true=>exact yes hq rfl
      | false=>exact no (.inl (by unfold stripR;rw[hq];rfl))
  ·rw[if_neg (by simp;omega),List.drop_eq_nil_of_le (by omega)];simp[eQ]
theorem NR(h:dP X Y)(hl:X.length≤100000)(hn:X.length<n):∀(m i:Nat) (p:Int×Int) (la:Int),i≤X.length→X.length<m+i→fS (fg s) X=fS p (X.drop i)→t8 X=jV i la (X.drop i)→rY K n Y s w m p.1 p.2 la (i:Int)=some (iM s w X):=by
 have hlen:=vj _ _ h;intro m
 induction m with
 | zero=>intro i p la h1 h2;omega
 | succ m ih =>
  intro i p la h1 h2 h3 h4;show sr K n Y s w (rY K n Y s w m) p.1 p.2 la i=_;unfold sr;by_cases hi:i<X.length
  ·have hd:X.drop i=X.getD i default::X.drop (i+1):=by rw[List.drop_eq_getElem_cons hi,b9 hi]
   have hr:=Bv X Y h i hi;rw[hd,KO]at h3;rw[hd]at h4;unfold jV at h4;have e1:aa ((i:Int)+1)=((i+1:Nat):Int):=by rw[bG (by omega) (by omega)];omega
   have e4:(i:Int)+1=((i+1:Nat):Int):=by omega
   rw[e4]at h4;rw[if_pos (by simp;omega),bV (by omega) (by omega),aW,Int.toNat_natCast,hr.forced,hr.above,hr.below];unfold ux;rw[e1];cases hf:(X.getD i default).Forced with
   | false =>
    rw[hf]at h3 h4;rw[show(!false)=true from rfl,if_pos rfl,aW];simp only[Option.bind_some,aW];exact ih (i+1) (_,_) _ (by omega) (by omega) h3 h4
   | true =>
    rw[hf]at h3 h4;rw[show(!true)=false from rfl,if_neg (by simp)];exact ih (i+1) p la (by omega) (by omega) h3 h4
  ·rw[List.drop_eq_nil_of_le (by omega)]at h3 h4;have h3:fS (fg s) X=p:=h3;have h4:t8 X=la:=h4;rw[if_neg (by simp;omega),H6 (by omega) (by omega),DC X Y h];simp only[Option.bind_some,Qb];rw[show(0:Int)=((0:Nat):Int) from rfl,MY h hl n 0 _ [] (by omega) (by omega) (by simp) (X8 _ _ _),List.drop_zero];unfold iM;rw[h3,h4];rfl
theorem Px(h:dP X Y)(hl:X.length≤100000)(hn:X.length<n)(h1:0≤s.LineHeight)(h2:s.LineHeight≤65536):uD K n Y s w=some (iM s w X):=by
 unfold uD;rw[Iy K n s h1 h2];simp only[Option.bind_some];exact NR h hl hn n 0 (fg s) (-1) (by omega) (by omega) rfl rfl
end
end
end Go.Proofs.YtnpmlepplfaijaaGreat
namespace Go.Proofs.YtnpmlepplfaijaaGreat
set_option linter.all false
open Go.RowKit
noncomputable section
theorem U8:∀(X:List aH) (Y:List aO),dP X Y→∀a b,dP (sl X a b) (sl Y a b):=by
 have tk:∀(k:Nat) (X:List aH) (Y:List aO),dP X Y→dP (X.take k) (Y.take k):=fun k=>by
  induction k with
  | zero=>intro X Y _;simp[dP]
  | succ k ih =>
   intro X Y h;cases X with
   | nil=>cases Y with
    | nil=>simp[dP]
    | cons y u=>exact h.elim
   | cons r t=>cases Y with
    | nil=>exact h.elim
    | cons y u=>exact⟨h.1,ih t u h.2⟩
 have dr:∀(k:Nat) (X:List aH) (Y:List aO),dP X Y→dP (X.drop k) (Y.drop k):=fun k=>by
  induction k with
  | zero=>intro X Y h;simpa using h
  | succ k ih =>
   intro X Y h;cases X with
   | nil=>cases Y with
    | nil=>simp[dP]
    | cons y u=>exact h.elim
   | cons r t=>cases Y with
    | nil=>exact h.elim
    | cons y u=>exact ih t u h.2
 intro X Y h a b;unfold sl;exact dr a _ _ (tk b _ _ h)
section
variable{K:Kn}{n:Nat}{X:List aH}{Y:List aO}{s:aF}{w:Int}
theorem OA(hR:dP X Y)(hl:X.length≤2000)(hn:2010≤n)(g1:0≤s.LineHeight)(g2:s.LineHeight≤65536)(S0 S:List Nat)(hS:S=S0++[X.length])(hA:uK X.length S)(hSl:S.length≤2001):∀(m i:Nat) (h:Int) (acc:List ab),i<S.length→S.length<m+i→acc.length≤i →
  pD K n s w Y (S0.map fun (k:Nat)=>(k:Int)) m h (i:Int) acc=some (acc++(eN s w X h (S.drop i)).1,(eN s w X h (S.drop i)).2):=by
 have hlen:=vj _ _ hR;have hSm:(S0.map fun (k:Nat)=>(k:Int))++[(Y.length:Int)]=S.map fun (k:Nat)=>(k:Int):=by rw[hS,← hlen];simp
 have hget:∀j,j<S.length→(S.map fun (k:Nat)=>(k:Int)).getD j default=((S.getD j 0:Nat):Int):=fun j hj=>by
  rw[b9 (by simpa using hj),List.getElem_map];congr 1;simp[List.getD,hj]
 intro m
 induction m with
 | zero=>intro i h acc h1 h2;omega
 | succ m ih =>
  intro i h acc h1 h2 h3;show pP K n s w Y (S0.map fun (k:Nat)=>(k:Int)) (pD K n s w Y (S0.map fun (k:Nat)=>(k:Int)) m) h i acc=_;unfold pP;have e1:aa ((i:Int)+1)=((i+1:Nat):Int):=by rw[bG (by omega) (by omega)];omega
  rw[hSm,e1];simp only[Option.bind_some,List.length_map];have hd:S.drop i=S.getD i 0::S.drop (i+1):=by rw[List.drop_eq_getElem_cons h1];congr 1;simp[List.getD,h1]
  by_cases hi:i+1<S.length
  ·have q1:=hget i h1;have q2:=hget (i+1) hi;obtain⟨a1,a2⟩:=zl hA i hi;have hd2:S.drop (i+1)=S.getD (i+1) 0::S.drop (i+2):=by rw[List.drop_eq_getElem_cons hi];congr 1;simp[List.getD,hi]
   rw[if_pos (by simp;omega),bV (by omega) (by omega),aW,bV (by omega) (by omega),aW];simp only[Int.toNat_natCast,q1,q2];rw[show cN ((S.getD i 0:Nat):Int) ((S.getD (i+1) 0:Nat):Int) Y.length=true by simp only[cN,Bool.and_eq_true,decide_eq_true_eq];omega,aW];have hsl:List.drop (S.getD i 0) (List.take (S.getD (i+1) 0) Y)=sl Y (S.getD i 0) (S.getD (i+1) 0):=rfl;have h5:=oF X (S.getD i 0) (S.getD (i+1) 0);rw[hsl,Px (U8 X Y hR _ _) (by omega) (by omega) g1 g2];simp only[Option.bind_some];rw[cv (by simp;omega) (by omega),aW,ih (i+1) _ _ (by omega) (by omega) (by simp;omega),hd,hd2]
   conv=>rhs;unfold eN
   rw[←hd2];simp[List.append_assoc]
  ·rw[if_neg (by simp;omega),hd,List.drop_eq_nil_of_le (by omega)];simp[eN]
end
theorem MX{l:List cc}(ht:∀s∈l,s.Text.size≤60)(hlh:∀s∈l,0≤s.Style.LineHeight∧s.Style.LineHeight≤65536){d:Nat}{bx:List ah}(hb:Bx l d bx)(hD:Dp (d+1) bx)(hc:bA (d+1) bx≤2000){M n:Nat}(hM:d+9100≤M)(hn:M+10≤n)(s:aF)(g1:0≤s.LineHeight)(g2:s.LineHeight≤65536)(v:Int):
  vu (KN n) n bx s v=some (eN s (ca v) (fO M (d+1) (ca v) bx) 0 (dW (fO M (d+1) (ca v) bx) (ca v))):=by
 obtain⟨Y,y1,y2⟩:=Kv ht hlh hb hD hc hM hn (ca v);have hXl:=CL M (d+1) (ca v) bx;have hX:iG (eL M (ca v)) (dB (d+1) bx)=fO M (d+1) (ca v) bx:=rfl;rw[hX]at y2;generalize fO M (d+1) (ca v) bx=X at *;have hlen:=vj _ _ y2;unfold vu;rw[show dG (KN n) n v=some (ca v) from rfl];simp only[Option.bind_some];rw[y1];simp only[Option.bind_some];rw[Pj (by omega) (by omega),DC X Y y2,← hlen];simp only[Option.bind_some];have hbl:=xX (X.map vI) (ca v) (X.length+1) 0;simp only[List.length_map]at hbl;rw[cv (by simp;omega) (by omega),aW];have hA:=Ja (X.map vI) (ca v) (X.length+1) 0 (by omega) (by simp);rw[List.length_map]at hA;have hSl:(dW X (ca v)).length≤2001:=by unfold dW;simp only[List.length_append,List.length_cons,List.length_nil];omega
 have hSp:0<(dW X (ca v)).length:=by unfold dW;simp
 have:=OA (K:=KN n) (n:=n) (s:=s) (w:=ca v) y2 (by omega) (by omega) g1 g2 (bM (X.map vI) (ca v) (X.length+1) 0) (dW X (ca v)) rfl hA hSl n 0 0 [] hSp (by omega) (by simp);rw[List.drop_zero,List.nil_append]at this;exact this
end
end Go.Proofs.YtnpmlepplfaijaaGreat
namespace Go.Proofs.YtnpmlepplfaijaaGreat
set_option linter.all false
open Go.RowKit
noncomputable section
theorem Zz(N n:Nat)(f:ab)(hf:f.Kids.length≤900000)(hk:∀k∈f.Kids,(KN N).qJ k k=some true):∀(m i:Nat),i≤f.Kids.length→f.Kids.length<m+i→lT (KN N) n f f m i=some true:=by
 intro m
 induction m with
 | zero=>intro i h1 h2;omega
 | succ m ih =>
  intro i h1 h2;simp only[lT,pJ];by_cases hi:i<f.Kids.length
  ·simp only[gU hi,if_true,fV hi,aW,Int.toNat_natCast,hk _ (qW hi),Option.bind_some,Bool.not_true,Bool.false_eq_true,if_false,hI (show i<1000000 by omega)];exact ih (i+1) (by omega) (by omega)
  ·have e:i=f.Kids.length:=by omega
   subst e;simp[gP (Nat.le_refl _)]
theorem Xt(N:Nat)(f:ab)(hf:f.Kids.length≤900000)(hn:f.Kids.length<N+1)(hN:30≤N)(hk:∀k∈f.Kids,Fd 2 k):ja (KN (N+1)) (N+1) f f=some true:=by
 have hl:=Zz (N+1) (N+1) f hf (fun k hk'=>by
  show ja (KN N) N k k=some true;exact GA 2 N N k (hk k hk') (by omega) (by omega) (by omega)) (N+1) 0 (by omega) (by omega)
 unfold ja;simp only[bne_self_eq_false,beq_self_eq_true,Bool.not_true,Bool.false_eq_true,if_false,FC,HA,eV];exact hl
def qf(r:aH):Prop:=r.Box=[]∨∃f,r.Box=[f]∧Fd 2 f
theorem T2(r:aH):(stripR r).Box=r.Box:=by
 unfold stripR;cases (dD r.Text&&r.Style.WhiteSpace != 2)<;>rfl
theorem OI{above x:Int}{r:aH}(h:qf r):(eh above x r).length≤2∧∀k∈eh above x r,Fd 2 k:=by
 unfold eh;have ht:(jB above x r).length≤1∧∀k∈jB above x r,Fd 2 k:=by
  unfold jB;cases r.Text.data.toList.isEmpty with
  | true=>exact⟨by simp,fun k hk=>by simp at hk⟩
  | false=>exact⟨by simp,fun k hk=>by
    simp only[cond_false]at hk;rw[List.mem_singleton.1 hk];exact Gg rfl⟩
 rcases h with h|⟨f,h,hf⟩
 ·rw[h];simp only[List.map_nil,List.append_nil];exact⟨by omega,ht.2⟩
 ·rw[h];refine⟨by simp;omega,fun k hk=>?_⟩;rcases List.mem_append.1 hk with hk|hk
  ·exact ht.2 k hk
  ·rw[List.mem_singleton.1 hk];exact wz (g:=f) rfl hf
theorem KX{above last:Int}:∀(L:List aH) (i x:Int),(∀r∈L,qf r)→(eQ above last i x L).length≤2*L.length∧∀k∈eQ above last i x L,Fd 2 k
 | [],i,x,_=>⟨by simp[eQ],fun k hk=>by simp[eQ]at hk⟩
 | r::t,i,x,h=>by
  unfold eQ;have hr:qf (bif i == last then stripR r else r):=by
   have h0:=h r (by simp);cases (i == last) with
   | false=>exact h0
   | true=>unfold qf;simp only[cond_true];rw[T2];exact h0
  generalize (bif i == last then stripR r else r)=r' at *;have q1:=OI (above:=above) (x:=x) hr;have q2:=KX (above:=above) (last:=last) t (i+1) (aa (x+aa (r'.Width+r'.Space))) (fun y hy=>h y (by simp[hy]));refine⟨by simp;omega,fun k hk=>?_⟩;rcases List.mem_append.1 hk with hk|hk
  ·exact q1.2 k hk
  ·exact q2.2 k hk
theorem Fx{s:aF}{w:Int}{X:List aH}(hX:∀r∈X,qf r):∀(S:List Nat) (h:Int),∀f∈(eN s w X h S).1,f.Kids.length≤2*X.length∧∀k∈f.Kids,Fd 2 k
 | [],h,f,hf=>by cases hf
 | [a],h,f,hf=>by cases hf
 | a::b::r,h,f,hf=>by
  unfold eN at hf;rcases List.mem_cons.1 hf with rfl|hf
  ·have q:=KX (above:=(fS (fg s) (sl X a b)).1) (last:=t8 (sl X a b)) (sl X a b) 0 (mM s w (kt ((sl X a b).map vI))) (fun r hr=>hX r (LK hr));have h2:=oF X a b;show(iM s w (sl X a b)).Kids.length≤_∧∀k∈(iM s w (sl X a b)).Kids,Fd 2 k;unfold iM;simp only[List.nil_append];exact⟨by omega,q.2⟩
  ·exact Fx hX (b::r) _ f hf
theorem KJ:∀(X:List aH) (Y:List aO),dP X Y→∀r∈X,qf r
 | [],[],_,r,hr=>by cases hr
 | [],y::u,h,_,_=>h.elim
 | x::t,[],h,_,_=>h.elim
 | x::t,y::u,h,r,hr=>by
  rcases List.mem_cons.1 hr with rfl|hr
  ·exact h.1.fd
  ·exact KJ t u h.2 r hr
end
end Go.Proofs.YtnpmlepplfaijaaGreat
namespace Go.Proofs.YtnpmlepplfaijaaGreat
set_option linter.all false
open Go.RowKit
set_option maxRecDepth 100000 in
theorem PN(k:Nat):vg (KN (k+40)) (k+40)=some true:=by kernel_rfl
end Go.Proofs.YtnpmlepplfaijaaGreat
namespace Go.Proofs.YtnpmlepplfaijaaGreat.QInlineLines
set_option linter.all false
open Go.RowKit
theorem KZ{s:aF}{w:Int}{X:List aH}:∀(S:List Nat) (h:Int),(eN s w X h S).1.length≤S.length
 | [],h=>by simp[eN]
 | [a],h=>by simp[eN]
 | a::b::r,h=>by
  unfold eN;have:=KZ (s:=s) (w:=w) (X:=X) (b::r) (aa (h+(iM s w (sl X a b)).H));simp only[List.length_cons]at this⊢;omega
theorem loop{N:Nat}{V:List ab×Int}(hV:∀f∈V.1,f.Kids.length≤4000∧∀k∈f.Kids,Fd 2 k)(hl:V.1.length≤5000)(hN:5000≤N):∀(m i:Nat),i≤V.1.length→V.1.length<m+i→rQ (KN (N+1)) (N+1) V V m (i:Int)=some true:=by
 intro m
 induction m with
 | zero=>intro i h1 h2;omega
 | succ m ih =>
  intro i h1 h2;show qp (KN (N+1)) (N+1) V V (rQ (KN (N+1)) (N+1) V V m) i=_;unfold qp;by_cases hi:i<V.1.length
  ·have hw:aa ((i:Int)+1)=((i+1:Nat):Int):=by rw[bG (by omega) (by omega)];omega
   have hm:V.1.getD i default∈V.1:=by rw[b9 hi];exact List.getElem_mem _
   obtain⟨k1,k2⟩:=hV _ hm;rw[if_pos (by simpa using hi),bV (by omega) (by omega),aW,aW];simp only[Int.toNat_natCast];rw[Xt N _ (by omega) (by omega) (by omega) k2];simp only[Option.bind_some,Bool.not_true,Bool.false_eq_true,if_false];rw[hw];exact ih (i+1) (by omega) (by omega)
  ·rw[if_neg (by simpa using hi)]
theorem holds(x0:List cc)(x1:Int)(h0:cq Tryz.prog 22 ((CO ce) x0))(h1:cq Tryz.prog 3 ((br .i64) x1)):∃n,wF (KN n) n x0 x1=some true:=by
 obtain⟨l,hl,hm,_⟩:=h0.GJ Tryz.underlying22;simp only[CO,List.cons.injEq,AV.sl.injEq,and_true]at hl;have hlen:l.length=x0.length:=by rw[←hl,List.length_map]
 have hm':l.length≤9223372036854775807:=hm;refine⟨(x0.length+12000)+11,?_⟩;generalize hM:x0.length+12000=M;obtain⟨v,hv,hv2⟩:=S5 (KN (M+11)) (M+11) x0 16 (by omega) (by omega);unfold wF yI;rw[show vg (KN (M+11)) (M+11)=some true from by
  have:=PN (M-29);rwa[show M-29+40=M+11 by omega]at this,hv]
 simp only[Option.bind_some,Bool.not_true,Bool.false_eq_true,if_false];cases v with
 | false=>rfl
 | true =>
  have h16:x0.length≤16:=by have:=(hv2 rfl).1;omega
  have ht:∀s∈x0,s.Text.size≤60:=fun s hs=>by have:=((hv2 rfl).2 s hs).text;omega
  have hlh:∀s∈x0,0≤s.Style.LineHeight∧s.Style.LineHeight≤65536:=fun s hs=>((hv2 rfl).2 s hs).lh;obtain⟨bx,b1,b2,b3,b4⟩:=Wl h16 ht (N:=M+11) (by omega);have hc:bA (16+1) bx≤2000:=by have:bA (16+1) bx≤992:=b4;omega
  obtain⟨s,s1,s2⟩:∃s,qj (KN (M+11)) (M+11) x0=some s∧(0≤s.LineHeight∧s.LineHeight≤65536):=by
   unfold qj;by_cases h:x0.length=0
   ·rw[if_pos (by simp[h])];exact⟨_,rfl,by simp[cj]⟩
   ·have hm0:x0.getD 0 default∈x0:=by rw[b9 (by omega)];exact List.getElem_mem _
    rw[if_neg (by intro e;have:=eq_of_beq e;omega),bV (by omega) (by omega),aW];exact⟨_,rfl,hlh _ hm0⟩
  rw[b1,s1];simp only[Option.bind_some,Bool.not_true,Bool.false_eq_true,if_false,oN];have hL:=Qu ht b2 hc (M:=M) (by omega) s x1;rw[show oa (KN (M+11)) (M+11) bx s x1 (⟨(Fv.fn 31),(Fv.fn 32),(Fv.fn 33),(Fv.fn 34)⟩:cD)=_ from hL];simp only[Option.bind_some];have hR:=MX ht hlh b2 b3 hc (M:=M) (n:=M+11) (by omega) (by omega) s s2.1 s2.2 x1;rw[hR];simp only[Option.bind_some];obtain⟨Y,y1,y2⟩:=Kv ht hlh b2 b3 hc (M:=M) (n:=M+11) (by omega) (by omega) (ca x1);have hfd:=KJ _ _ y2;have hX:iG (eL M (ca x1)) (dB (16+1) bx)=fO M (16+1) (ca x1) bx:=rfl;rw[hX]at hfd;have hXl:(fO M (16+1) (ca x1) bx).length≤992:=by
   have h1:=CL M (16+1) (ca x1) bx;have h3:bA (16+1) bx≤992:=b4;omega
  generalize fO M (16+1) (ca x1) bx=X at *;have hbl:=xX (X.map vI) (ca x1) (X.length+1) 0;simp only[List.length_map]at hbl;have hSl:(dW X (ca x1)).length≤2001:=by unfold dW;simp only[List.length_append,List.length_cons,List.length_nil];omega
  have hfd2:=Fx (s:=s) (w:=ca x1) hfd (dW X (ca x1)) 0;have hll:=KZ (s:=s) (w:=ca x1) (X:=X) (dW X (ca x1)) 0;generalize eN s (ca x1) X 0 (dW X (ca x1))=V at *;rw[show(V.2 != V.2)=false by simp,show((V.1.length:Int) != (V.1.length:Int))=false by simp];simp only[Bool.false_eq_true,if_false,vV];exact loop (N:=M+10) (V:=V) (fun f hf=>⟨by have:=(hfd2 f hf).1;omega,(hfd2 f hf).2⟩) (by omega) (by omega) (M+11) 0 (by omega) (by omega)
end Go.Proofs.YtnpmlepplfaijaaGreat.QInlineLines
