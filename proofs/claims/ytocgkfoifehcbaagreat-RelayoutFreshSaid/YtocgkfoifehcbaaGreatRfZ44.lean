/- Plain laws about the plain functions: words for all of them. No program in sight. -/
import Derived.Test.YtocgkfoifehcbaaGreatRfGf
import Derived.Lib.TrimUEq
import Derived.Laws.BitsLemmas
import Derived.Test.YtocgkfoifehcbaaGreatRfGop
namespace Go.Proofs.YtocgkfoifehcbaaGreat
set_option linter.all false
open Go.RowKit
theorem cz{n:Int}(h1 : -9223372036854775808≤n)(h2:n≤9223372036854775807):ab n=n:=by
 unfold ab;rw[IntKind.wrap_i64];omega
theorem bg{α:Type}(x:Option α):aH true x=x:=rfl
theorem dd{i:Int}{n:Nat}(h0:0≤i)(h1:i<n):aX i n=true:=by simp[aX,h0,h1]
theorem cZ{α:Type}[Inhabited α]{L:List α}{k:Nat}(h:k<L.length):L.getD k default=L[k]:=by simp[List.getD_eq_getElem?_getD,List.getElem?_eq_getElem h]
theorem cW{n b:Nat}(h:n*b≤140737488355328)(hb:0<b):fits n b=true:=by
 have h1:n≤n*b:=Nat.le_mul_of_pos_right n hb;have h2:n≤9223372036854775807:=by omega
 simp only[fits,Bool.and_eq_true,decide_eq_true_eq];exact⟨h2,h⟩
end Go.Proofs.YtocgkfoifehcbaaGreat
namespace Go.Proofs.YtocgkfoifehcbaaGreat
set_option linter.all false
open Go.RowKit
mutual
/-- How many boxes. -/
def bD:aa→Nat
 | ⟨_,_,_,_,_,_,ks⟩=>cc ks+1
def cc:List aa→Nat
 | []=>0
 | b::r=>bD b+cc r
end
theorem f0(b:aa):bD b=cc b.Kids+1:=by cases b;simp only[bD]
theorem eP(b:aa):1≤bD b:=by rw[f0];omega
theorem EW:∀{l:List aa} {b:aa},b∈l→bD b≤cc l
 | [],b,h=>by cases h
 | c::r,b,h=>by
  simp only[cc];rcases List.mem_cons.1 h with rfl|h
  ·omega
  ·have:=EW h;omega
theorem po:∀(l:List aa),l.length≤cc l
 | []=>Nat.le_refl _
 | c::r=>by simp only[cc,List.length_cons];have:=po r;have:=eP c;omega
theorem yq:∀(l m:List aa),cc (l++m)=cc l+cc m
 | [],m=>by simp[cc]
 | c::r,m=>by simp only[List.cons_append,cc,yq r m];omega
theorem iQ{b k:aa}(h:k∈b.Kids):bD k<bD b:=by rw[f0 b];have:=EW h;omega
theorem uD(b:aa):b.Kids.length<bD b:=by rw[f0];have:=po b.Kids;omega
def gI(a b:aa):Bool:=(a.Kind == b.Kind)&&((a.Node == b.Node)&&((kJ a.Style b.Style)&&((a.Text.toList == b.Text.toList)&&((a.Rows == b.Rows)&&(a.Cols == b.Cols)))))
mutual
def cY:aa→aa→Bool
 | ⟨k,n,s,t,r,c,ks⟩,b=>gI ⟨k,n,s,t,r,c,[]⟩ b&&dK ks b.Kids
def dK:List aa→List aa→Bool
 | [],[]=>true
 | a::r,b::q=>cY a b&&dK r q
 | _,_=>false
end
theorem mQ(a b:aa):cY a b=(gI a b&&dK a.Kids b.Kids):=by cases a;simp only[cY];rfl
theorem yL:∀{l m:List aa},dK l m=true→l.length=m.length
 | [],[],_=>rfl
 | a::r,b::q,h=>by simp only[dK,Bool.and_eq_true]at h;simp[yL h.2]
 | [],_::_,h=>by cases h
 | _::_,[],h=>by cases h
theorem Pi(x:dg):d7 x x=true:=by simp[d7]
theorem KP(x:aJ):kJ x x=true:=by simp[kJ,Pi]
theorem QM(a:aa):gI a a=true:=by simp[gI,KP]
mutual
theorem yp:∀a:aa,cY a a=true
 | ⟨k,n,s,t,r,c,ks⟩=>by
  rw[mQ,QM,Bool.true_and];exact Hu ks
theorem Hu:∀l:List aa,dK l l=true
 | []=>rfl
 | a::r=>by simp only[dK,yp a,Hu r,Bool.and_self]
end
theorem ec{i:Nat}(h:i<1000000000):ab ((i:Int)+1)=((i+1:Nat):Int):=by rw[cz (by omega) (by omega)];omega
theorem dR{i n:Nat}(h:i<n):aX ((i:Nat):Int) n=true:=dd (by omega) (by omega)
theorem fh{i n:Nat}(h:i<n):decide (((i:Nat):Int)<((n:Nat):Int))=true:=decide_eq_true (by omega)
theorem fF{i n:Nat}(h:n≤i):decide (((i:Nat):Int)<((n:Nat):Int))=false:=decide_eq_false (by omega)
theorem gN{α:Type}[Inhabited α]{L:List α}{k:Nat}(h:k<L.length):L.getD ((k:Nat):Int).toNat default=L[k]:=by rw[Int.toNat_natCast];exact cZ h
theorem I6{l m:List aa}{i:Nat}(h1:i<l.length)(h2:i<m.length):dK (l.drop i) (m.drop i)=(cY l[i] m[i]&&dK (l.drop (i+1)) (m.drop (i+1))):=by
 rw[List.drop_eq_getElem_cons h1,List.drop_eq_getElem_cons h2];simp only[dK]
theorem KH(K:Kn)(n:Nat)(a b:aa)(hl:a.Kids.length=b.Kids.length)(hs:a.Kids.length<1000000)(hk:∀k∈a.Kids,∀q,K.oJ k q=some (cY k q)):∀(m i:Nat),i≤a.Kids.length→a.Kids.length<m+i →
  mY K n a b m i=some (dK (a.Kids.drop i) (b.Kids.drop i)):=by
 intro m
 induction m with
 | zero=>intro i h1 h2;omega
 | succ m ih =>
  intro i h1 h2;simp only[mY,pW];by_cases hi:i<a.Kids.length
  ·simp only[fh hi,if_true,dR hi,dR (show i<b.Kids.length by omega),bg,gN hi,gN (show i<b.Kids.length by omega),hk _ (List.getElem_mem hi),Option.bind_some];rw[I6 hi (by omega)];cases h:cY a.Kids[i] b.Kids[i] with
   | false=>simp
   | true =>
    simp only[Bool.not_true,Bool.false_eq_true,if_false,Bool.true_and];rw[ec (by omega)];exact ih (i+1) (by omega) (by omega)
  ·simp only[fF (show a.Kids.length≤i by omega),Bool.false_eq_true,if_false];rw[List.drop_eq_nil_of_le (by omega),List.drop_eq_nil_of_le (by omega)];rfl
theorem GA:∀(s N:Nat) (a b:aa),bD a≤s→s<1000000→s+2≤N→nq (KN N) N a b=some (cY a b)
 | 0,_,a,_,h,_,_=>by have:=eP a;omega
 | s+1,0,_,_,_,_,h=>by omega
 | s+1,N+1,a,b,h1,h2,h3=>by
  have hkid:∀k∈a.Kids,∀q,(KN (N+1)).oJ k q=some (cY k q):=fun k hk q=>GA s N k q (by have:=iQ hk;omega) (by omega) (by omega);have hlen:=uD a;have jt:gH (KN (N+1)) (N+1) a b true=some false:=rfl;have jf:a.Kids.length=b.Kids.length→gH (KN (N+1)) (N+1) a b false=some (dK a.Kids b.Kids):=fun hl=>by
   have:=KH (KN (N+1)) (N+1) a b hl (by omega) hkid (N+1) 0 (Nat.zero_le _) (by omega);simpa[gH]using this
  unfold nq;rw[mQ];unfold gI;cases c1:(a.Kind == b.Kind) with
  | false=>simp[bne,c1,jt]
  | true =>
  cases c2:(a.Node == b.Node) with
  | false=>simp[bne,c1,c2,jt]
  | true =>
  cases c3:(kJ a.Style b.Style) with
  | false=>simp[bne,c1,c2,jt]
  | true =>
  cases c4:(a.Text.toList == b.Text.toList) with
  | false=>simp[bne,c1,c2,jt]
  | true =>
  cases c5:(a.Rows == b.Rows) with
  | false=>simp[bne,c1,c2,c5,jt]
  | true =>
  cases c6:(a.Cols == b.Cols) with
  | false=>simp[bne,c1,c2,c5,c6,jt]
  | true =>
   simp only[bne,c1,c2,c5,c6,Bool.not_true,Bool.false_eq_true,if_false,Bool.true_and];by_cases hl:a.Kids.length=b.Kids.length
   ·have:(((a.Kids.length:Nat):Int) == ((b.Kids.length:Nat):Int))=true:=by rw[hl];simp
    rw[this,Bool.not_true,jf hl]
   ·have:(((a.Kids.length:Nat):Int) == ((b.Kids.length:Nat):Int))=false:=by simp;omega
    rw[this,Bool.not_false,jt];cases he:dK a.Kids b.Kids with
    | false=>rfl
    | true=>exact absurd (yL he) hl
theorem LQ(K:Kn)(n:Nat)(l q:List aa)(hl:l.length=q.length)(hs:l.length<1000000)(hk:∀k∈l,∀p,K.l3 (Fv.fn 27) k p=some (cY k p)):∀(m i:Nat),i≤l.length→l.length<m+i →
  o7 K n l q (Fv.fn 27) m i=some (dK (l.drop i) (q.drop i)):=by
 intro m
 induction m with
 | zero=>intro i h1 h2;omega
 | succ m ih =>
  intro i h1 h2;simp only[o7,sc];by_cases hi:i<l.length
  ·simp only[fh hi,if_true,dR hi,dR (show i<q.length by omega),bg,gN hi,gN (show i<q.length by omega),hk _ (List.getElem_mem hi),Option.bind_some];rw[I6 hi (by omega)];cases h:cY l[i] q[i] with
   | false=>simp
   | true =>
    simp only[Bool.not_true,Bool.false_eq_true,if_false,Bool.true_and];rw[ec (by omega)];exact ih (i+1) (by omega) (by omega)
  ·simp only[fF (show l.length≤i by omega),Bool.false_eq_true,if_false];rw[List.drop_eq_nil_of_le (by omega),List.drop_eq_nil_of_le (by omega)];rfl
theorem LN(K:Kn)(n:Nat)(l q:List aa)(hs:l.length<1000000)(hn:l.length<n)(hk:∀k∈l,∀p,K.l3 (Fv.fn 27) k p=some (cY k p)):qO K n l q (Fv.fn 27)=some (dK l q):=by
 unfold qO;by_cases hl:l.length=q.length
 ·have:(((l.length:Nat):Int) != ((q.length:Nat):Int))=false:=by rw[hl];simp
  rw[this];simpa using LQ K n l q hl hs hk n 0 (Nat.zero_le _) (by omega)
 ·have:(((l.length:Nat):Int) != ((q.length:Nat):Int))=true:=by simp[bne];omega
  rw[this,if_pos rfl];cases he:dK l q with
  | false=>rfl
  | true=>exact absurd (yL he) hl
theorem uL:∀(s N:Nat) (a b:aa),bD a≤s→s<1000000→s+2≤N→kw (KN N) N a b=some (cY a b)
 | 0,_,a,_,h,_,_=>by have:=eP a;omega
 | s+1,0,_,_,_,_,h=>by omega
 | s+1,N+1,a,b,h1,h2,h3=>by
  have hkid:∀k∈a.Kids,∀q,(KN (N+1)).l3 (Fv.fn 27) k q=some (cY k q):=fun k hk q=>uL s N k q (by have:=iQ hk;omega) (by omega) (by omega);have hlen:=uD a;have he:=LN (KN (N+1)) (N+1) a.Kids b.Kids (by omega) (by omega) hkid;unfold kw;rw[mQ,he];unfold gI;simp only[iw,Option.bind_some];cases c1:(a.Kind == b.Kind) with
  | false=>simp
  | true =>
  cases c2:(a.Node == b.Node) with
  | false=>simp
  | true =>
  cases c3:(kJ a.Style b.Style) with
  | false=>simp
  | true =>
  cases c4:(a.Text.toList == b.Text.toList) with
  | false=>simp
  | true =>
  cases c5:(a.Rows == b.Rows) with
  | false=>simp
  | true =>
  cases c6:(a.Cols == b.Cols) with
  | false=>simp
  | true=>simp
end Go.Proofs.YtocgkfoifehcbaaGreat
namespace Go.Proofs.YtocgkfoifehcbaaGreat
set_option linter.all false
open Go.RowKit
mutual
/-- b is within a box. -/
def dh(b:aa):aa→Bool
 | ⟨k,n,s,t,r,c,ks⟩=>cY ⟨k,n,s,t,r,c,ks⟩ b||fV b ks
def fV(b:aa):List aa→Bool
 | []=>false
 | k::r=>dh b k||fV b r
end
theorem mW(b a:aa):dh b a=(cY a b||fV b a.Kids):=by cases a;simp only[dh]
theorem ID{b:aa}{l:List aa}{i:Nat}(h:i<l.length):fV b (l.drop i)=(dh b l[i]||fV b (l.drop (i+1))):=by
 rw[List.drop_eq_getElem_cons h];simp only[fV]
theorem Oe(K:Kn)(n:Nat)(a b:aa)(hs:a.Kids.length<1000000)(hk:∀k∈a.Kids,K.pE k b=some (dh b k)):∀(m i:Nat),i≤a.Kids.length→a.Kids.length<m+i →
  oA K n a b m i=some (fV b (a.Kids.drop i)):=by
 intro m
 induction m with
 | zero=>intro i h1 h2;omega
 | succ m ih =>
  intro i h1 h2;simp only[oA,qL];by_cases hi:i<a.Kids.length
  ·simp only[fh hi,if_true,dR hi,bg,gN hi,hk _ (List.getElem_mem hi),Option.bind_some];rw[ID hi];cases h:dh b a.Kids[i] with
   | true=>simp
   | false =>
    simp only[Bool.false_eq_true,if_false,Bool.false_or];rw[ec (by omega)];exact ih (i+1) (by omega) (by omega)
  ·simp only[fF (show a.Kids.length≤i by omega),Bool.false_eq_true,if_false];rw[List.drop_eq_nil_of_le (by omega)];rfl
theorem Ec:∀(s N:Nat) (a b:aa),bD a≤s→s<1000000→s+2≤N→lP (KN N) N a b=some (dh b a)
 | 0,_,a,_,h,_,_=>by have:=eP a;omega
 | s+1,0,_,_,_,_,h=>by omega
 | s+1,N+1,a,b,h1,h2,h3=>by
  have hkid:∀k∈a.Kids,(KN (N+1)).pE k b=some (dh b k):=fun k hk=>Ec s N k b (by have:=iQ hk;omega) (by omega) (by omega);have hlen:=uD a;unfold lP;rw[GA (s+1) (N+1) a b h1 h2 h3,Option.bind_some,mW];cases h:cY a b with
  | true=>simp
  | false =>
   simp only[Bool.false_eq_true,if_false,Bool.false_or];simpa using Oe (KN (N+1)) (N+1) a b (by omega) hkid (N+1) 0 (Nat.zero_le _) (by omega)
theorem Mc(K:Kn)(n:Nat)(l:List aa)(b:aa)(hs:l.length<1000000)(hk:∀k∈l,K.iq (Fv.c65 b) k=some (dh b k)):∀(m i:Nat),i≤l.length→l.length<m+i →
  ∃r,ic K n l (Fv.c65 b) m i=some r∧decide (r≥0)=fV b (l.drop i):=by
 intro m
 induction m with
 | zero=>intro i h1 h2;omega
 | succ m ih =>
  intro i h1 h2;simp only[ic,ou];by_cases hi:i<l.length
  ·simp only[fh hi,if_true,dR hi,bg,gN hi,hk _ (List.getElem_mem hi),Option.bind_some];rw[ID hi];cases h:dh b l[i] with
   | true=>exact⟨_,rfl,by simp⟩
   | false =>
    simp only[Bool.false_eq_true,if_false,Bool.false_or];rw[ec (by omega)];exact ih (i+1) (by omega) (by omega)
  ·simp only[fF (show l.length≤i by omega),Bool.false_eq_true,if_false];rw[List.drop_eq_nil_of_le (by omega)];exact⟨_,rfl,rfl⟩
theorem J1:∀(s N:Nat) (a b:aa),bD a≤s→s<100000→2*s+4≤N→mK (KN N) N a b=some (dh b a)
 | 0,_,a,_,h,_,_=>by have:=eP a;omega
 | s+1,0,_,_,_,_,h=>by omega
 | s+1,1,_,_,_,_,h=>by omega
 | s+1,N+2,a,b,h1,h2,h3=>by
  have hkid:∀k∈a.Kids,(KN (N+2)).iq (Fv.c65 b) k=some (dh b k):=fun k hk=>by
   show rd (KN (N+1)) (N+1) k b=_;unfold rd;show(mK (KN N) N k b).bind _=_;rw[J1 s N k b (by have:=iQ hk;omega) (by omega) (by omega)];rfl
  have hlen:=uD a;unfold mK;rw[uL (s+1) (N+2) a b h1 (by omega) (by omega),Option.bind_some,mW];simp only[tC];cases h:cY a b with
  | true=>simp
  | false =>
   simp only[Bool.false_eq_true,if_false,Bool.false_or];unfold ln sh;obtain⟨r,e1,e2⟩:=Mc (KN (N+2)) (N+2) a.Kids b (by omega) hkid (N+2) 0 (Nat.zero_le _) (by omega);have e1':ic (KN (N+2)) (N+2) a.Kids (Fv.c65 b) (N+2) 0=some r:=e1;rw[e1'];simp only[Option.bind_some,e2,List.drop_zero]
end Go.Proofs.YtocgkfoifehcbaaGreat
namespace Go.Proofs.YtocgkfoifehcbaaGreat
set_option linter.all false
open Go.RowKit
def da(r:Int):List UInt8:=(Utf8.encode r).data.toList
def cI(r:Int):Prop:=(0≤r∧r<55296)∨(57344≤r∧r≤1114111)
theorem VO{r:Int}(h:cI r):Utf8.valid r=true:=by
 unfold cI at h;unfold Utf8.valid;simp only[Bool.or_eq_true,Bool.and_eq_true,decide_eq_true_eq];omega
theorem dV{n:Nat}(h:n<256):(UInt8.ofNat n).toNat=n:=by rw[UInt8.toNat_ofNat',Nat.mod_eq_of_lt h]
theorem Ae {r:Int} (h:cI r):∃ c:Nat,r=(c:Int) ∧
    ((c<128∧da r=[UInt8.ofNat c])∨(128≤c∧c<2048∧da r=[UInt8.ofNat (192+c / 64),UInt8.ofNat (128+c % 64)]) ∨
     (2048≤c∧c<65536∧(c<55296∨57344≤c)∧da r=[UInt8.ofNat (224+c / 4096),UInt8.ofNat (128+c / 64 % 64),UInt8.ofNat (128+c % 64)]) ∨
     (65536≤c∧c≤1114111∧da r=[UInt8.ofNat (240+c / 262144),UInt8.ofNat (128+c / 4096 % 64),UInt8.ofNat (128+c / 64 % 64),UInt8.ofNat (128+c % 64)])):=by
  refine⟨r.toNat,by unfold cI at h;omega,?_⟩;unfold da Utf8.encode;simp only[VO h,if_true];unfold cI at h;generalize hc:r.toNat=c at *;by_cases h1:c<128
  · left;simp[h1]
  · by_cases h2:c<2048
    · right;left;simp[h1,h2];omega
    · by_cases h3:c<65536
      · right;right;left;simp[h1,h2,h3];omega
      · right;right;right;simp[h1,h2,h3];omega
theorem yS{r:Int}(h:cI r)(t:List UInt8):Lib.decodeL (da r++t)=(r.toNat,(da r).length):=by
 obtain⟨c,rfl,h|h|h|h⟩:=Ae h
 ·rw[h.2,Lib.decodeL_N];simp only[List.cons_append,List.nil_append,List.getD_cons_zero,dV (show c<256 by omega),Int.toNat_natCast,List.length_cons,List.length_nil];unfold Lib.decodeN;rw[if_pos h.1]
 ·rw[h.2.2,Lib.decodeL_N];simp only[List.cons_append,List.nil_append,List.getD_cons_zero,List.getD_cons_succ,dV (show 192+c / 64<256 by omega),dV (show 128+c % 64<256 by omega),Int.toNat_natCast,List.length_cons,List.length_nil];unfold Lib.decodeN;rw[if_neg (by omega),if_pos (by omega),if_pos (by omega)];congr 1;omega
 ·rw[h.2.2.2,Lib.decodeL_N];simp only[List.cons_append,List.nil_append,List.getD_cons_zero,List.getD_cons_succ,dV (show 224+c / 4096<256 by omega),dV (show 128+c / 64 % 64<256 by omega),dV (show 128+c % 64<256 by omega),Int.toNat_natCast,List.length_cons,List.length_nil];unfold Lib.decodeN;rw[if_neg (by omega),if_neg (by omega),if_pos (by omega),if_pos (by omega)];congr 1;omega
 ·rw[h.2.2,Lib.decodeL_N];simp only[List.cons_append,List.nil_append,List.getD_cons_zero,List.getD_cons_succ,dV (show 240+c / 262144<256 by omega),dV (show 128+c / 4096 % 64<256 by omega),dV (show 128+c / 64 % 64<256 by omega),dV (show 128+c % 64<256 by omega),Int.toNat_natCast,List.length_cons,List.length_nil];unfold Lib.decodeN;rw[if_neg (by omega),if_neg (by omega),if_neg (by omega),if_pos (by omega),if_pos (by omega)];congr 1;omega
theorem vP{r:Int}(h:cI r):1≤(da r).length∧(da r).length≤4:=by
 obtain⟨c,_,h|h|h|h⟩:=Ae h
 ·rw[h.2];simp
 ·rw[h.2.2];simp
 ·rw[h.2.2.2];simp
 ·rw[h.2.2];simp
theorem Vr(n b0 b1 b2 b3:Nat):cI ((Lib.decodeN n b0 b1 b2 b3).1:Int):=by
 unfold Lib.decodeN cI
 repeat' split
 all_goals simp only[]
 all_goals omega
theorem Ro(l:List UInt8):cI ((Lib.decodeL l).1:Int):=by rw[Lib.decodeL_N];exact Vr _ _ _ _ _
def fI:Nat→List UInt8→List Int
 | 0,_=>[]
 | n+1,l=>if l.isEmpty=true then [] else ((Lib.decodeL l).1:Int)::fI n (l.drop (Lib.decodeL l).2)
theorem NO:∀(n m:Nat) (l:List UInt8),l.length≤n→l.length≤m→fI n l=fI m l:=by
 intro n
 induction n with
 | zero =>
  intro m l h1 h2;have:l=[]:=List.eq_nil_of_length_eq_zero (by omega);subst this;cases m<;>simp[fI]
 | succ n ih =>
  intro m l h1 h2;cases m with
  | zero =>
   have:l=[]:=List.eq_nil_of_length_eq_zero (by omega);subst this;simp[fI]
  | succ m =>
   unfold fI;split
   ·rfl
   ·have:=Lib.decodeL_width l;rw[ih m _ (by simp;omega) (by simp;omega)]
def gf(l:List UInt8):List Int:=fI l.length l
theorem KB:gf []=[]:=rfl
theorem CW{l:List UInt8}(h:l≠[]):gf l=((Lib.decodeL l).1:Int)::gf (l.drop (Lib.decodeL l).2):=by
 unfold gf;cases l with
 | nil=>exact absurd rfl h
 | cons x r =>
  have:=Lib.decodeL_width (x::r);rw[show fI (x::r).length (x::r)=((Lib.decodeL (x::r)).1:Int)::fI r.length ((x::r).drop (Lib.decodeL (x::r)).2) from rfl];rw[NO r.length _ _ (by simp;omega) (Nat.le_refl _)]
theorem RU{r:Int}(h:cI r)(t:List UInt8):gf (da r++t)=r::gf t:=by
 have hl:=vP h;rw[CW (by intro e;rw[List.append_eq_nil_iff]at e;rw[e.1]at hl;simp at hl),yS h t];simp only[List.drop_left];congr 1;unfold cI at h;omega
def cN(rs:List Int):List UInt8:=rs.flatMap da
theorem Jh(r:Int)(rs:List Int):cN (r::rs)=da r++cN rs:=by simp[cN]
theorem J5(a b:List Int):cN (a++b)=cN a++cN b:=by simp[cN]
theorem Gc:∀{rs:List Int} (t:List UInt8),(∀r∈rs,cI r)→gf (cN rs++t)=rs++gf t
 | [],t,_=>rfl
 | r::rs,t,h=>by
  rw[Jh,List.append_assoc,RU (h r (by simp)),Gc t (fun x hx=>h x (by simp[hx]))];rfl
theorem Q6{rs:List Int}(h:∀r∈rs,cI r):gf (cN rs)=rs:=by
 have:=Gc [] h;simpa[KB]using this
theorem GU:∀(n:Nat) (l:List UInt8),∀r∈fI n l,cI r
 | 0,_,r,h=>by cases h
 | n+1,l,r,h=>by
  unfold fI at h;split at h
  ·cases h
  ·rcases List.mem_cons.1 h with rfl|h
   ·exact Ro l
   ·exact GU n _ r h
theorem EM{l:List UInt8}:∀r∈gf l,cI r:=GU _ _
theorem JM:∀(n:Nat) (l:List UInt8),(fI n l).length≤n
 | 0,_=>by simp[fI]
 | n+1,l=>by
  unfold fI;split
  ·simp
  ·have:=JM n (l.drop (Lib.decodeL l).2);simp;omega
theorem V9(l:List UInt8):(gf l).length≤l.length:=JM _ _
def fj(b:ByteArray)(p:Nat):List Int:=gf (b.data.toList.drop p)
theorem mX(b:ByteArray):b.data.toList.length=b.size:=rfl
theorem CL{b:ByteArray}{p:Nat}(h:¬ p<b.size):fj b p=[]:=by
 unfold fj;rw[List.drop_eq_nil_of_le (by rw[mX];omega)];rfl
theorem Ga{b:ByteArray}{p:Nat}(h:p<b.size):fj b p=((Utf8.decode b p).1:Int)::fj b (p+(Utf8.decode b p).2):=by
 unfold fj;rw[CW (by intro e;have:=congrArg List.length e;simp at this;have h2:=mX b;simp at h2;omega),Lib.decodeL_drop,List.drop_drop]
theorem Ez(b:ByteArray)(p:Nat):1≤(Utf8.decode b p).2:=by rw[←Lib.decodeL_drop];exact Lib.decodeL_width _
end Go.Proofs.YtocgkfoifehcbaaGreat
namespace Go.Proofs.YtocgkfoifehcbaaGreat
set_option linter.all false
open Go.RowKit
def ints(l:List UInt8):List Int:=l.map fun b=>(b.toNat:Int)
theorem NY(a b:List UInt8):ints (a++b)=ints a++ints b:=by simp[ints]
theorem Ox(a:List UInt8):(ints a).length=a.length:=by simp[ints]
theorem QO(x y:Int):fb .u8 x y=bits .and .u8 x y:=rfl
theorem vf(x y:Int):dH .u8 x y=bits .or .u8 x y:=rfl
theorem w8{n:Int}(h:0≤n∧n<256):IntKind.wrap .u8 n=n:=by rw[IntKind.wrap_u8];omega
theorem n8(y:Int):dH .u8 128 (fb .u8 (IntKind.wrap .u8 y) 63)=128+y % 64:=by
 have h:0≤IntKind.wrap .u8 y∧IntKind.wrap .u8 y<256:=by rw[IntKind.wrap_u8];omega
 rw[QO,u8_and63 _ h.1 h.2,vf,u8_or128 _ (by omega) (by omega),IntKind.wrap_u8];omega
section
variable{K:Kn}{n:Nat}
theorem VX{r:Int}(h:cI r){L:List Int}(hL:L.length≤1000000):oL K n r L=some (L++ints (da r)):=by
 have h32:IntKind.wrap .u32 r=r:=by rw[IntKind.wrap_u32];unfold cI at h;omega
 unfold oL;rw[h32];obtain⟨c,rfl,hc|hc|hc|hc⟩:=Ae h
 ·rw[if_pos (by simp;omega),cW (by simp;omega) (by omega),bg,hc.2,w8 (by omega)];simp only[ints,List.map_cons,List.map_nil,dV (show c<256 by omega)]
 ·rw[if_neg (by simp;omega)];unfold pj;rw[h32,if_pos (by simp;omega),cW (by simp;omega) (by omega),bg,hc.2.2];simp only[Option.bind_some,ints,List.map_cons,List.map_nil,dV (show 192+c / 64<256 by omega),dV (show 128+c % 64<256 by omega)];rw[w8 (n:=(c:Int) / 64) (by omega),vf 192,u8_or192 _ (by omega) (by omega),n8];congr 3<;>omega
 ·rw[if_neg (by simp;omega)];unfold pj;rw[h32,if_neg (by simp;omega)];have hj:kT K n (c:Int) L true=some (L++ints (da (c:Int))):=by
   unfold kT;rw[if_pos rfl,cW (by simp;omega) (by omega),bg,hc.2.2.2];simp only[ints,List.map_cons,List.map_nil,dV (show 224+c / 4096<256 by omega),dV (show 128+c / 64 % 64<256 by omega),dV (show 128+c % 64<256 by omega)];rw[w8 (n:=(c:Int) / 4096) (by omega),vf 224,u8_or224 _ (by omega) (by omega),n8,n8];congr 3<;>omega
  by_cases h1:(c:Int)<55296
  ·rw[if_pos (by simpa using h1),hj];rfl
  ·rw[if_neg (by simpa using h1),if_pos (by simp;omega),show decide ((c:Int)≤65535)=true by simp;omega,hj];rfl
 ·rw[if_neg (by simp;omega)];unfold pj;rw[h32,if_neg (by simp;omega),if_neg (by simp;omega),if_pos (by simp;omega),show decide ((c:Int)≤65535)=false by simp;omega];unfold kT;rw[h32,if_neg (by simp),if_pos (by simp;omega),show decide ((c:Int)≤1114111)=true by simp;omega];unfold s6;rw[if_pos rfl,cW (by simp;omega) (by omega),bg,hc.2.2];simp only[Option.bind_some,ints,List.map_cons,List.map_nil,dV (show 240+c / 262144<256 by omega),dV (show 128+c / 4096 % 64<256 by omega),dV (show 128+c / 64 % 64<256 by omega),dV (show 128+c % 64<256 by omega)];rw[w8 (n:=(c:Int) / 262144) (by omega),vf 240,u8_or240 _ (by omega) (by omega),n8,n8,n8];congr 3<;>omega
theorem LL{r:Int}(h:cI r){L:List Int}(hL:L.length≤1000000)(b:Bool):∃x,mf K n r b L=some (x,(),L++ints (da r)):=by
 unfold mf;rw[VX h hL];cases b
 ·exact⟨_,rfl⟩
 ·exact⟨_,rfl⟩
end
theorem Pv{l:List UInt8}(h:l≠[]):lF (ints l)=true:=by
 unfold lF ints;rw[Bool.and_eq_true];refine⟨?_,by cases l;exact absurd rfl h;rfl⟩;rw[List.all_eq_true];intro n hn;obtain⟨b,_,rfl⟩:=List.mem_map.1 hn;have:=UInt8.toNat_lt b;simp;omega
theorem OD(l:List UInt8):bytesOf (ints l)=⟨l.toArray⟩:=by
 unfold bytesOf ints;rw[List.map_map];congr 2
 conv=>rhs;rw[←List.map_id l]
 refine List.map_congr_left fun b _=>?_;simp
end Go.Proofs.YtocgkfoifehcbaaGreat
namespace Go.Proofs.YtocgkfoifehcbaaGreat
set_option linter.all false
open Go.RowKit
noncomputable section
def fY(r:Int):Bool:=r == 9||(r == 10||(r == 13||r == 32))
def sZ(r:Int):Int:=(ik (KN 0) 0 r).getD 0
def MC(s:Int):Int:=min (max s 0) 1048576
def xq(r s:Int):Int:=ab (Int.tdiv (ab ((ab (sZ r*MC s))+15)) 16)
def lN(a b:Int):Bool:=bif fY b||sZ b == 0 then false else bif fY a then true else bif a == 45&&b != 45 then true else decide (a≥11904)||decide (b≥11904)
def fQ(e:aD):Bool:=e.Kind == 1&&(e.Box.Style.WhiteSpace != 1&&e.Box.Style.WhiteSpace != 2)
def lf(a b:aD):Bool :=
 bif a.Kind == 3||b.Kind == 3 then (a.Kind == 3||fQ a)&&(b.Kind == 3||fQ b)
 else bif a.Kind != 1||(b.Kind != 1||(!fQ a||(a.Char != 32&&!fQ b))) then false else lN a.Char b.Char
def lz{α:Type}(x:Option α):Prop:=∃u,x=some u
theorem Cr{α:Type}(u:α):lz (some u):=⟨u,rfl⟩
theorem zH{α:Type}{c:Prop}[Decidable c]{x y:Option α}(h1:lz x)(h2:lz y):lz (if c then x else y):=by split;exact h1;exact h2
section
variable(K:Kn)(n:Nat)
theorem GW(r:Int):oO K n r=some (fY r):=by
 unfold oO fY;cases h1:(r == 9)<;>cases h2:(r == 10)<;>cases h3:(r == 13)<;>cases h4:(r == 32)<;>simp[md]
theorem MU(r:Int):lz (ik K n r):=by
 unfold ik iP;simp only[eY,ep,jm,sT]
 repeat first|exact Cr _|apply zH
theorem G0(r:Int):ik K n r=some (sZ r):=by
 obtain⟨u,hu⟩:=MU K n r;have e:ik (KN 0) 0 r=ik K n r:=rfl;unfold sZ;rw[e,hu];rfl
theorem Er(r s:Int):j7 K n r s=some (xq r s):=by
 unfold j7;rw[G0];rfl
theorem M7(a b:Int):sV K n a b=some (lN a b):=by
 unfold sV lN;rw[GW,G0];simp only[Option.bind_some];have h1:l5 K n a b true=some false:=rfl;have h2:l5 K n a b false=some (bif fY a then true else bif a == 45&&b != 45 then true else decide (a≥11904)||decide (b≥11904)):=by
  unfold l5;rw[if_neg (by simp),GW];simp only[Option.bind_some];cases fY a with
  | true=>simp
  | false =>
   simp only[Bool.false_eq_true,if_false,cond_false];unfold s7 rP;cases h3:(a == 45)<;>cases h4:(b != 45)<;>cases h5:decide (a≥11904)<;>simp
 cases fY b with
 | true=>rw[if_pos rfl,h1];rfl
 | false =>
  rw[if_neg (by simp)];cases (sZ b == 0) with
  | true=>rw[h1];rfl
  | false=>rw[h2];rfl
theorem F2(e:aD):jE K n e=some (fQ e):=by
 unfold jE fQ nF;cases h1:(e.Kind == 1)<;>cases h2:(e.Box.Style.WhiteSpace != 1)<;>simp
end
theorem JR(a b:ByteArray):(a++b).data.toList=a.data.toList++b.data.toList:=by
 rw[ByteArray.data_append,Array.toList_append]
theorem LC(a b:Int):(runesBytes [a,b]).data.toList=da a++da b:=by
 unfold runesBytes;simp only[List.foldl_cons,List.foldl_nil];rw[JR,JR];rfl
theorem RN(K:Kn){n:Nat}(hn:3≤n){a b:Int}(ha:cI a)(hb:cI b):∃l,qb K n (runesBytes [a,b])=some l∧decide ((l.length:Int)>0)=lN a b:=by
 generalize hB:runesBytes [a,b]=B;have hl:B.data.toList=da a++da b:=by rw[←hB];exact LC a b
 have la:=vP ha;have lb:=vP hb;have hs:B.size=(da a).length+(da b).length:=by rw[←mX,hl,List.length_append]
 have d0:Utf8.decode B 0=(a.toNat,(da a).length):=by
  rw[←Lib.decodeL_drop,List.drop_zero,hl,yS ha]
 have d1:Utf8.decode B (da a).length=(b.toNat,(da b).length):=by
  rw[←Lib.decodeL_drop,hl,List.drop_left];have:=yS hb [];rwa[List.append_nil]at this
 have ea:((a.toNat:Nat):Int)=a:=by unfold cI at ha;omega
 have eb:((b.toNat:Nat):Int)=b:=by unfold cI at hb;omega
 obtain⟨m,rfl⟩:∃m,n=m+3:=⟨n-3,by omega⟩;unfold qb;show ∃l,iL K (m+3) B (kh K (m+3) B (m+2)) 0 0 []=some l∧_;unfold iL;rw[if_pos (by simp;omega),if_neg (by simp)];unfold mF;rw[if_neg (by simp)];unfold lB;rw[d0];simp only[Nat.zero_add,ea];show ∃l,iL K (m+3) B (kh K (m+3) B (m+1)) a (da a).length []=some l∧_;unfold iL;rw[if_pos (by simp;omega),if_pos (by simp;omega),d1];simp only[eb];rw[M7];simp only[Option.bind_some];have fin:∀(x:Int) (l:List Int),kh K (m+3) B (m+1) x ((da a).length+(da b).length) l=some l:=fun x l=>by
  show iL K (m+3) B (kh K (m+3) B m) x _ l=some l;unfold iL;rw[if_neg (by simp;omega)]
 cases hbt:lN a b with
 | true =>
  unfold mF;rw[if_pos rfl,cW (by simp) (by omega),bg];unfold lB;rw[d1];simp only[];rw[fin];exact⟨_,rfl,by simp⟩
 | false =>
  unfold mF;rw[if_neg (by simp)];unfold lB;rw[d1];simp only[];rw[fin];exact⟨_,rfl,by simp⟩
theorem Gz(K:Kn){n:Nat}(hn:3≤n){a b:aD}(ha:cI a.Char)(hb:cI b.Char):iz K n a b=some (lf a b):=by
 obtain⟨l,h1,h2⟩:=RN K hn ha hb;have jt:ip K n a b true=some false:=rfl;have jf:ip K n a b false=some (lN a.Char b.Char):=by
  unfold ip;rw[if_neg (by simp),h1];simp only[Option.bind_some];rw[h2]
 unfold iz lf;have k1:kX K n a b true=some ((a.Kind == 3||fQ a)&&(b.Kind == 3||fQ b)):=by
  unfold kX kt;simp only[F2,Option.bind_some];cases h3:(a.Kind == 3)<;>cases h4:(b.Kind == 3)<;>cases h5:fQ a<;>cases h6:fQ b<;>simp
 have k2:kX K n a b false=some (bif a.Kind != 1||(b.Kind != 1||(!fQ a||(a.Char != 32&&!fQ b))) then false else lN a.Char b.Char):=by
  unfold kX;simp only[F2,Option.bind_some,jt];cases h3:(a.Kind != 1)<;>cases h4:(b.Kind != 1)<;>cases h5:fQ a<;>cases h6:(a.Char != 32)<;>cases h7:fQ b<;>simp[jt,jf]
 cases h3:(a.Kind == 3) with
 | true=>rw[if_pos rfl,k1,h3];rfl
 | false =>
  rw[if_neg (by simp)];cases h4:(b.Kind == 3) with
  | true=>rw[k1,h3,h4];rfl
  | false=>rw[k2];rfl
def rp(s acc:Int):List Int→Int
 | []=>acc
 | r::t=>rp s (ab (acc+xq r s)) t
theorem Nq(K:Kn)(n:Nat)(b:ByteArray)(s:Int):∀(m:Nat) (acc:Int) (p:Nat),b.size-p<m→n7 K n b s m acc p=some (rp s acc (fj b p)):=by
 intro m
 induction m with
 | zero=>intro acc p h;omega
 | succ m ih =>
  intro acc p h;show nO K n b s (n7 K n b s m) acc p=_;unfold nO;by_cases hp:p<b.size
  ·have:=Ez b p;rw[if_pos (by simpa using hp),Er,Ga hp];simp only[Option.bind_some,rp];exact ih _ _ (by omega)
  ·rw[if_neg (by simpa using hp),CL hp];rfl
theorem Em(K:Kn){n:Nat}(b:ByteArray)(s:Int)(hn:b.size<n):mT K n b s=some (rp s 0 (fj b 0)):=by
 unfold mT;exact Nq K n b s n 0 0 (by omega)
def gp(s:aJ):Int×Int:=(jY (KN 0) 0 s).getD default
theorem Ba(K:Kn)(n:Nat)(s:aJ):jY K n s=some (gp s):=rfl
def cq(x:List aD):List Int:=x.map fun e=>e.Char
def wv(x:List aD):Bool:=(x.getD (x.length-1) default).Soft
def AK(x:List aD):List Int:=bif wv x then (cq x).dropLast else cq x
def eF(rs:List Int):ByteArray:=⟨(cN rs).toArray⟩
def rM(x:List aD):aJ:=(x.getD 0 default).Box.Style
def eW(x:List aD):au :=
 { cv with Text:=eF (cq x),Width:=rp (rM x).FontSize 0 (AK x),Space:=bif wv x then xq 32 (rM x).FontSize else 0,Above:=(gp (rM x)).1,Below:=(gp (rM x)).2 }
theorem uk{rs:List Int}(h:∀r∈rs,cI r):rs.length≤(cN rs).length∧(cN rs).length≤4*rs.length:=by
 induction rs with
 | nil=>simp[cN]
 | cons r t ih =>
  have:=vP (h r (by simp));have:=ih (fun x hx=>h x (by simp[hx]));rw[Jh,List.length_append,List.length_cons];omega
theorem w7(rs:List Int):(eF rs).size=(cN rs).length:=by unfold eF;rfl
theorem yc(rs:List Int):(eF rs).data.toList=cN rs:=by unfold eF;simp
theorem Kj{rs:List Int}(h:∀r∈rs,cI r):fj (eF rs) 0=rs:=by
 unfold fj;rw[List.drop_zero,yc,Q6 h]
theorem PT{rs:List Int}(h0:rs≠[])(h:rs.getLast h0=32):cN rs=cN rs.dropLast++[32]:=by
 conv=>lhs;rw[←List.dropLast_concat_getLast h0]
 rw[J5,h];rfl
theorem PL{rs:List Int}(h0:rs≠[])(h:rs.getLast h0=32):(eF rs).extract 0 ((eF rs).size-1)=eF rs.dropLast:=by
 have e:=PT h0 h;have hs:(eF rs).size=(cN rs.dropLast).length+1:=by rw[w7,e];simp
 apply ByteArray.ext;apply Array.ext';rw[ByteArray.data_extract,Array.toList_extract,yc,yc,hs,e];simp
structure j0(e:aD):Prop where
 ch:cI e.Char
 soft:e.Soft=true→e.Char=32
theorem yN{x:List aD}(h:∀e∈x,j0 e):∀r∈cq x,cI r:=by
 intro r hr;obtain⟨e,he,rfl⟩:=List.mem_map.1 hr;exact(h e he).ch
section
variable{K:Kn}{n:Nat}{x:List aD}
theorem HZ(hx:x≠[])(hl:x.length≤2000)(ho:∀e∈x,j0 e)(hn:8010≤n)(b:Bool):ob K n x (ints (cN (cq x))) b=some (eW x):=by
 have h0:0<x.length:=List.length_pos_iff.2 hx;have hc:cq x≠[]:=by unfold cq;simp[hx]
 have hcl:(cq x).length=x.length:=by unfold cq;simp
 have hok:=yN ho;have hle:=uk hok;have hne:cN (cq x)≠[]:=by intro e;rw[e]at hle;have:=hle.1;simp only[List.length_nil]at this;omega
 have e1:ab ((x.length:Int)-1)=((x.length-1:Nat):Int):=by rw[cz (by omega) (by omega)];omega
 have hb:bytesOf (ints (cN (cq x)))=eF (cq x):=OD _;have hsz:(eF (cq x)).size=(cN (cq x)).length:=w7 _;have e2:ab (((eF (cq x)).size:Int)-1)=(((eF (cq x)).size-1:Nat):Int):=by rw[cz (by omega) (by omega)];omega
 have key:∀(v10:aJ) (Y:ByteArray→Int→Option au),(∀v14 v15,Y v14 v15=(mT K n v14 v10.FontSize).bind fun v16=>(jY K n v10).bind fun v17=>some ({ cv with Text:=bytesOf (ints (cN (cq x))),Width:=v16,Space:=v15,Above:=v17.1,Below:=v17.2 }:au))→v10=rM x →
   aH (lF (ints (cN (cq x)))) (aH (aX (ab ((x.length:Int)-1)) x.length) ((some ((List.getD x ((ab ((x.length:Int)-1))).toNat default).Soft)).bind fun v11 =>
    if v11=true then aH (cH (0:Int) (ab (((bytesOf (ints (cN (cq x)))).size:Int)-1)) (bytesOf (ints (cN (cq x)))).size) ((some (ByteArray.extract (bytesOf (ints (cN (cq x)))) (0:Int).toNat ((ab (((bytesOf (ints (cN (cq x)))).size:Int)-1))).toNat)).bind fun v12=>(j7 K n 32 v10.FontSize).bind fun v13=>Y v12 v13)
    else Y (bytesOf (ints (cN (cq x)))) 0))=some (eW x):=by
  intro v10 Y hY hv;subst hv;rw[Pv hne,bg,e1,dd (by omega) (by omega),bg];simp only[Option.bind_some,Int.toNat_natCast];have hs:(List.getD x (x.length-1) default).Soft=wv x:=rfl;rw[hs,hb,e2];cases hso:wv x with
  | true =>
   have hlast:(cq x).getLast hc=32:=by
    have hm:x.getD (x.length-1) default∈x:=by rw[cZ (by omega)];exact List.getElem_mem _
    have:=(ho _ hm).soft (by rw[hs];exact hso);rw[List.getLast_eq_getElem];unfold cq;rw[List.getElem_map];rw[cZ (by omega)]at this;simpa using this
   rw[if_pos rfl,show cH (0:Int) (((eF (cq x)).size-1:Nat):Int) (eF (cq x)).size=true by simp only[cH,Bool.and_eq_true,decide_eq_true_eq];omega,bg];simp only[Int.toNat_zero,Int.toNat_natCast];rw[PL hc hlast,Er];simp only[Option.bind_some];rw[hY,Em K (eF (cq x).dropLast) _ (by
    have h9:=uk (rs:=(cq x).dropLast) (fun r hr=>hok r ((List.dropLast_sublist _).subset hr));rw[w7];simp at h9;omega),Kj (fun r hr=>hok r ((List.dropLast_sublist _).subset hr)),Ba,hb]
   simp only[Option.bind_some];unfold eW AK;rw[hso];rfl
  | false =>
   rw[if_neg (by simp),hY,Em K (eF (cq x)) _ (by omega),Kj hok,Ba,hb];simp only[Option.bind_some];unfold eW AK;rw[hso];rfl
 unfold ob;rw[dd (i:=(0:Int)) (by omega) (by omega)];simp only[bg,Option.bind_some];cases b with
 | true=>rw[if_pos rfl];exact key _ (fun v12 v13=>rm K n _ _ v12 v13) (fun _ _=>rfl) rfl
 | false=>rw[if_neg (by simp)];exact key _ (fun v12 v13=>sP K n _ _ v12 v13) (fun _ _=>rfl) rfl
theorem N5(hx:x≠[])(hl:x.length≤2000)(ho:∀e∈x,j0 e)(hn:8010≤n):∀(m i:Nat) (b:Bool),i≤x.length→x.length<m+i→mg K n x m (i:Int) b (ints (cN ((cq x).take i)))=some (eW x):=by
 intro m
 induction m with
 | zero=>intro i b h1 h2;omega
 | succ m ih =>
  intro i b h1 h2;show pN K n x (mg K n x m) i b _=_;unfold pN;have hcl:(cq x).length=x.length:=by unfold cq;simp
  by_cases hi:i<x.length
  ·have hm:x.getD i default∈x:=by rw[cZ hi];exact List.getElem_mem _
   have hlen:=uk (rs:=(cq x).take i) (fun r hr=>yN ho r (List.mem_of_mem_take hr));have ht:(cq x).take (i+1)=(cq x).take i++[(x.getD i default).Char]:=by
    rw[List.take_add_one,List.getElem?_eq_getElem (by rw[hcl];exact hi),cZ hi];simp[cq]
   have hr:∀b,(mf K n ((List.getD x ((i:Int)).toNat default).Char) b (ints (cN ((cq x).take i)))).bind (fun v7=>mg K n x m (ab ((i:Int)+1)) true v7.2.2)=some (eW x):=fun b=>by
    rw[Int.toNat_natCast];obtain⟨y,hy⟩:=LL (K:=K) (n:=n) (ho _ hm).ch (L:=ints (cN ((cq x).take i))) (by rw[Ox];simp at hlen;omega) b;rw[hy];simp only[Option.bind_some];rw[cz (by omega) (by omega),show(i:Int)+1=((i+1:Nat):Int) by omega,← NY];have e:cN ((cq x).take i)++da (x.getD i default).Char=cN ((cq x).take (i+1)):=by
     rw[ht,J5];simp[cN]
    rw[e];exact ih (i+1) true (by omega) (by omega)
   cases b with
   | true=>rw[if_pos rfl,if_pos (by simpa using hi),dd (by omega) (by omega),bg];exact hr true
   | false=>rw[if_neg (by simp),if_pos (by simpa using hi),dd (by omega) (by omega),bg];exact hr false
  ·have ht:(cq x).take i=cq x:=List.take_of_length_le (by omega);rw[ht];cases b with
   | true=>rw[if_pos rfl,if_neg (by simpa using hi)];exact HZ hx hl ho hn true
   | false=>rw[if_neg (by simp),if_neg (by simpa using hi)];exact HZ hx hl ho hn false
theorem O6(hx:x≠[])(hl:x.length≤2000)(ho:∀e∈x,j0 e)(hn:8010≤n):mH K n x=some (eW x):=by
 unfold mH;exact N5 hx hl ho hn n 0 false (by omega) (by omega)
end
end
end Go.Proofs.YtocgkfoifehcbaaGreat
namespace Go.Proofs.YtocgkfoifehcbaaGreat
set_option linter.all false
open Go.RowKit
noncomputable section
def fA(e:aD):Bool:=e.Box.Style.WhiteSpace == 2
def iX(out:List aD):aD:=out.getD (out.length-1) default
def lj(out:List aD):Bool:=out.isEmpty||((iX out).Soft||(iX out).Kind == 2)
def kG(out:List aD)(e:aD):List aD :=
  bif fY e.Char then
    (bif fA e then (bif e.Char == 10 then out++[{ e with Kind:=2,Char:=32 }] else bif e.Char == 13 then out else out++[{ e with Char:=32 }])
     else bif lj out then out else out++[{ e with Soft:=true,Char:=32 }])
  else out++[e]
theorem GJ(out:List aD)(e:aD):(kG out e).length≤out.length+1:=by
 unfold kG;cases fY e.Char<;>cases fA e<;>cases (e.Char == 10)<;>cases (e.Char == 13)<;>cases lj out<;>simp
section
variable(K:Kn)(n:Nat)
theorem zA{out:List aD}(hl:out.length≤1000000)(e:aD):lQ K n out e=some (out++[{ e with Char:=32 }]):=by
 unfold lQ;rw[cW (by simp;omega) (by omega),bg]
theorem TX{out:List aD}(hl:out.length≤1000000)(e:aD):rx K n e out=some (kG out e):=by
 have h4:∀b,iZ K n e out b=some (bif b then out else out++[{ e with Soft:=true,Char:=32 }]):=fun b=>by
  unfold iZ;cases b with
  | true=>rfl
  | false=>rw[if_neg (by simp),zA K n hl];rfl
 have h3:∀b,fA e=b→∀c,nR K n e out c=some (bif c then out else bif b then out++[{ e with Char:=32 }] else bif lj out then out else out++[{ e with Soft:=true,Char:=32 }]):=fun b hb c=>by
  unfold nR;cases c with
  | true=>rfl
  | false =>
   have hp:(e.Box.Style.WhiteSpace == 2)=b:=hb;rw[if_neg (by simp),hp];cases b with
   | true=>rw[show(!true)=false from rfl,if_neg (by simp),zA K n hl];rfl
   | false =>
    rw[show(!false)=true from rfl,if_pos rfl];by_cases h0:out=[]
    ·subst h0;rw[if_pos (by simp),h4];rfl
    ·have hlen:0<out.length:=List.length_pos_iff.2 h0;have e1:ab ((out.length:Int)-1)=((out.length-1:Nat):Int):=by rw[cz (by omega) (by omega)];omega
     have hem:out.isEmpty=false:=by cases out;exact absurd rfl h0;rfl
     rw[if_neg (by simp;exact h0),e1,dd (by omega) (by omega)];simp only[bg,Int.toNat_natCast]
     change (if (iX out).Soft=true then iZ K n e out true else iZ K n e out ((iX out).Kind == 2))=_
     cases hs:(iX out).Soft with
     | true=>rw[if_pos rfl,h4];unfold lj;rw[hem,hs];rfl
     | false=>rw[if_neg (by simp),h4];unfold lj;rw[hem,hs];rfl
 have h2:∀c,m7 K n e out c=some (bif c then out++[{ e with Kind:=2,Char:=32 }] else bif fA e then (bif e.Char == 13 then out else out++[{ e with Char:=32 }]) else bif lj out then out else out++[{ e with Soft:=true,Char:=32 }]):=fun c=>by
  unfold m7;cases c with
  | true=>rw[if_pos rfl,zA K n hl];rfl
  | false =>
   have hp:(e.Box.Style.WhiteSpace == 2)=fA e:=rfl;rw[if_neg (by simp),hp];cases hpe:fA e with
   | true=>rw[if_pos rfl,h3 true hpe];rfl
   | false=>rw[if_neg (by simp),h3 false hpe];rfl
 have h1:iM K n e out true=some (bif fA e then (bif e.Char == 10 then out++[{ e with Kind:=2,Char:=32 }] else bif e.Char == 13 then out else out++[{ e with Char:=32 }]) else bif lj out then out else out++[{ e with Soft:=true,Char:=32 }]):=by
  unfold iM;have hp:(e.Box.Style.WhiteSpace == 2)=fA e:=rfl;rw[if_pos rfl,hp];cases hpe:fA e with
  | true=>rw[if_pos rfl,h2,hpe];rfl
  | false=>rw[if_neg (by simp),h2,hpe];rfl
 have h0:iM K n e out false=some (out++[e]):=by
  unfold iM;rw[if_neg (by simp),cW (by simp;omega) (by omega),bg]
 unfold rx kG fY;cases q1:(e.Char == 9) with
 | true=>rw[if_pos rfl,h1];rfl
 | false =>
  rw[if_neg (by simp)];cases q2:(e.Char == 10) with
  | true=>rw[if_pos rfl,h1,q2];rfl
  | false =>
   rw[if_neg (by simp)];cases q3:(e.Char == 13) with
   | true=>rw[if_pos rfl,h1,q2,q3];rfl
   | false =>
    rw[if_neg (by simp)];cases q4:(e.Char == 32) with
    | true=>rw[h1,q2,q3];rfl
    | false=>rw[h0];rfl
end
def kS(b:aa):Bool:=(gv (KN 0) 0 b).getD false
def kB(b:aa)(num:Int)(out:List aD)(rs:List Int):List aD:=rs.foldl (fun o r=>kG o ⟨1,num,r,false,b⟩) out
def vM:Nat→List aa→Int×List aD→Int×List aD
  | 0,_,s=>s
  | d+1,L,s=>L.foldl (fun s b=>bif kS b then
      (bif b.Kind == 2 then vM d b.Kids (ab (s.1+1),s.2)
       else bif b.Kind == 4 then (ab (s.1+1),s.2++[⟨2,ab (s.1+1),0,false,b⟩])
       else bif b.Kind == 5 then (ab (s.1+1),s.2++[⟨3,ab (s.1+1),0,false,b⟩])
       else bif b.Kind == 3 then (ab (s.1+1),kB b (ab (s.1+1)) s.2 (fj b.Text 0))
       else (ab (s.1+1),s.2)) else s) s
def fE (d : Nat) (s : Int × List aD) (b : aa) : Int × List aD := bif kS b then
      (bif b.Kind == 2 then vM d b.Kids (ab (s.1+1),s.2)
       else bif b.Kind == 4 then (ab (s.1+1),s.2++[⟨2,ab (s.1+1),0,false,b⟩])
       else bif b.Kind == 5 then (ab (s.1+1),s.2++[⟨3,ab (s.1+1),0,false,b⟩])
       else bif b.Kind == 3 then (ab (s.1+1),kB b (ab (s.1+1)) s.2 (fj b.Text 0))
       else (ab (s.1+1),s.2)) else s
theorem kn(d:Nat)(L:List aa)(s:Int×List aD):vM (d+1) L s=L.foldl (fE d) s:=rfl
def dv:Nat→List aa→Nat
 | 0,_=>0
 | d+1,L=>(L.map fun b=>1+b.Text.size+dv d b.Kids).sum
def Dp:Nat→List aa→Prop
 | 0,_=>False
 | d+1,L=>L.length≤1000∧∀b∈L,b.Text.size≤1000∧(b.Kind=2→Dp d b.Kids)
theorem JS(b:aa)(num:Int):∀(rs:List Int) (out:List aD),(kB b num out rs).length≤out.length+rs.length
 | [],out=>by simp[kB]
 | r::t,out=>by
  have:=JS b num t (kG out ⟨1,num,r,false,b⟩);have:=GJ out ⟨1,num,r,false,b⟩;unfold kB at *;simp only[List.foldl_cons,List.length_cons];omega
theorem OV(b:ByteArray)(p:Nat):(fj b p).length≤b.size:=by
 unfold fj;have:=V9 (b.data.toList.drop p);rw[List.length_drop,mX]at this;omega
theorem D7(d:Nat)(ih:∀L s,(vM d L s).2.length≤s.2.length+dv d L)(s:Int×List aD)(b:aa):(fE d s b).2.length≤s.2.length+(1+b.Text.size+dv d b.Kids):=by
 unfold fE;cases kS b with
 | false=>simp only[cond_false];omega
 | true =>
  simp only[cond_true];cases (b.Kind == 2) with
  | true=>have:=ih b.Kids (ab (s.1+1),s.2);simp only[cond_true];simp only[]at this;omega
  | false =>
   simp only[cond_false];cases (b.Kind == 4) with
   | true=>simp only[cond_true,List.length_append,List.length_cons,List.length_nil];omega
   | false =>
    simp only[cond_false];cases (b.Kind == 5) with
    | true=>simp only[cond_true,List.length_append,List.length_cons,List.length_nil];omega
    | false =>
     simp only[cond_false];cases (b.Kind == 3) with
     | true =>
      have:=JS b (ab (s.1+1)) (fj b.Text 0) s.2;have:=OV b.Text 0;simp only[cond_true];omega
     | false=>simp only[cond_false];omega
theorem Jm:∀(d:Nat) (L:List aa) (s:Int×List aD),(vM d L s).2.length≤s.2.length+dv d L:=by
 intro d
 induction d with
 | zero=>intro L s;simp[vM,dv]
 | succ d ih =>
  intro L
  induction L with
  | nil=>intro s;simp[vM,dv]
  | cons b r ihL =>
   intro s;have h1:=D7 d ih s b;have h2:=ihL (fE d s b);rw[kn,List.foldl_cons];rw[kn]at h2;simp only[dv,List.map_cons,List.sum_cons]at h2⊢;omega
theorem NW(K:Kn)(n:Nat)(b:aa):gv K n b=some (kS b):=by
 have e:gv (KN 0) 0 b=gv K n b:=rfl;have:lz (gv K n b):=by
  unfold gv
  repeat first|exact Cr _|apply zH
 obtain⟨u,hu⟩:=this;unfold kS;rw[e,hu];rfl
theorem RP(K:Kn)(n:Nat)(L:List aa)(i num:Int)(C:Int→Int→List aD→Option (Int×List aD))(hi:i.toNat<L.length):∀(m p:Nat) (out:List aD),(L.getD i.toNat default).Text.size-p<m→out.length+((L.getD i.toNat default).Text.size-p)≤900000 →
  nW K n L i num C m p out=C (ab (i+1)) (ab (num+1)) (kB (L.getD i.toNat default) (ab (num+1)) out (fj (L.getD i.toNat default).Text p)):=by
 intro m
 induction m with
 | zero=>intro p out h;omega
 | succ m ih =>
  intro p out h1 h2;show oq K n L i num C (nW K n L i num C m) p out=_;unfold oq;by_cases hp:p<(L.getD i.toNat default).Text.size
  ·have hw:=Ez (L.getD i.toNat default).Text p;rw[if_pos (by simpa using hp)];simp only[Option.bind_some];rw[TX K n (by omega)];simp only[Option.bind_some];have hpl:=GJ out ⟨1,ab (num+1),((Utf8.decode (L.getD i.toNat default).Text p).1:Int),false,L.getD i.toNat default⟩;rw[ih _ _ (by omega) (by omega),Ga hp];rfl
  ·rw[if_neg (by simpa using hp),CL hp];rfl
theorem Q8:∀(d N:Nat) (L:List aa) (s:Int×List aD),Dp d L→s.2.length+dv d L≤800000→d+1100≤N→js (KN N) N L s.1 s.2=some (vM d L s):=by
 intro d
 induction d with
 | zero=>intro N L s h;exact h.elim
 | succ d ih =>
  intro N L s hD hs hN;obtain⟨N,rfl⟩:∃M,N=M+1:=⟨N-1,by omega⟩;unfold Dp at hD;unfold js;have loop:∀(m i:Nat) (s:Int×List aD),i≤L.length→L.length<m+i→s.2.length+dv (d+1) (L.drop i)≤800000→lH (KN (N+1)) (N+1) L m (i:Int) s.1 s.2=some (vM (d+1) (L.drop i) s):=by
   intro m
   induction m with
   | zero=>intro i s h1 h2;omega
   | succ m ihm =>
    intro i s h1 h2 h3;show nN (KN (N+1)) (N+1) L (lH (KN (N+1)) (N+1) L m) i s.1 s.2=_;unfold nN;by_cases hi:i<L.length
    ·have hb:L.getD i default∈L:=by rw[cZ hi];exact List.getElem_mem _
     have hdr:L.drop i=L.getD i default::L.drop (i+1):=by rw[List.drop_eq_getElem_cons hi,cZ hi]
     have hw:ab ((i:Int)+1)=((i+1:Nat):Int):=by rw[cz (by omega) (by omega)];omega
     rw[hdr]at h3⊢;rw[kn,List.foldl_cons,← kn];have hvl:=D7 d (Jm d) s (L.getD i default);have h3':s.2.length+((1+(L.getD i default).Text.size+dv d (L.getD i default).Kids)+dv (d+1) (L.drop (i+1)))≤800000:=by
      simpa only[dv,List.map_cons,List.sum_cons]using h3
     have fin:=ihm (i+1) (fE d s (L.getD i default)) (by omega) (by omega) (by omega);rw[if_pos (by simpa using hi),dd (by omega) (by omega),bg,NW];simp only[Option.bind_some,Int.toNat_natCast];have step:∀s',fE d s (L.getD i default)=s'→lH (KN (N+1)) (N+1) L m (ab ((i:Int)+1)) s'.1 s'.2=some (vM (d+1) (L.drop (i+1)) (fE d s (L.getD i default))):=fun s' e=>by
      rw[←e,hw];exact fin
     cases hf:kS (L.getD i default) with
     | false =>
      rw[show(!false)=true from rfl,if_pos rfl];unfold jx;exact step s (by unfold fE;rw[hf];rfl)
     | true =>
      rw[show(!true)=false from rfl,if_neg (by simp)];cases h2':((L.getD i default).Kind == 2) with
      | true =>
       have hk:(L.getD i default).Kind=2:=by simpa using h2'
       have:=ih N (L.getD i default).Kids (ab (s.1+1),s.2) ((hD.2 _ hb).2 hk) (by simp only[];omega) (by omega);rw[if_pos rfl];show((js (KN N) N (L.getD i default).Kids (ab (s.1+1)) s.2).bind _)=_;rw[show js (KN N) N (L.getD i default).Kids (ab (s.1+1)) s.2=_ from this];simp only[Option.bind_some];unfold gM jx;exact step _ (by unfold fE;rw[hf,h2'];rfl)
      | false =>
       rw[if_neg (by simp)];cases h4':((L.getD i default).Kind == 4) with
       | true =>
        rw[if_pos rfl,cW (by simp;omega) (by omega),bg];unfold gM jx;exact step (_,_) (by unfold fE;rw[hf,h2',h4'];rfl)
       | false =>
        rw[if_neg (by simp)];cases h5':((L.getD i default).Kind == 5) with
        | true =>
         rw[if_pos rfl,cW (by simp;omega) (by omega),bg];unfold gM jx;exact step (_,_) (by unfold fE;rw[hf,h2',h4',h5'];rfl)
        | false =>
         rw[if_neg (by simp)];cases h3'':((L.getD i default).Kind == 3) with
         | true =>
          have ht:=(hD.2 _ hb).1;rw[if_pos rfl,RP (KN (N+1)) (N+1) L i s.1 _ (by simpa using hi) (N+1) 0 s.2 (by rw[Int.toNat_natCast];omega) (by rw[Int.toNat_natCast];omega)];rw[Int.toNat_natCast];exact step (_,_) (by unfold fE;rw[hf,h2',h4',h5',h3''];rfl)
         | false =>
          rw[if_neg (by simp)];unfold gM jx;exact step (_,_) (by unfold fE;rw[hf,h2',h4',h5',h3''];rfl)
    ·rw[if_neg (by simpa using hi),List.drop_eq_nil_of_le (by omega)];rfl
  have:=loop (N+1) 0 s (by omega) (by omega) (by rw[List.drop_zero];exact hs);rw[List.drop_zero]at this;exact this
def gX(d:Nat)(L:List aa):List aD:=(vM d L (0,[])).2
theorem SF{d N:Nat}{L:List aa}(hD:Dp d L)(hc:dv d L≤800000)(hN:d+1100≤N):mD (KN N) N L=some (gX d L):=by
 unfold mD;rw[show js (KN N) N L 0 []=_ from Q8 d N L (0,[]) hD (by simpa using hc) hN];rfl
theorem Ax(d:Nat)(L:List aa):(gX d L).length≤dv d L:=by
 have:=Jm d L (0,[]);unfold gX;simpa using this
theorem SE{P:aD→Prop}{out:List aD}{e:aD}(h:∀x∈out,P x)(h1:fY e.Char=false→P e)(h2:fA e=true→P { e with Kind:=2,Char:=32 })(h3:fA e=true→P { e with Char:=32 })(h4:fA e=false→P { e with Soft:=true,Char:=32 }):∀x∈kG out e,P x:=by
 have ap:∀y,P y→∀x∈out++[y],P x:=fun y hy x hx=>by
  rcases List.mem_append.1 hx with hx|hx
  ·exact h x hx
  ·rw[List.mem_singleton.1 hx];exact hy
 unfold kG;cases hs:fY e.Char with
 | false=>exact ap _ (h1 hs)
 | true =>
  simp only[cond_true];cases hp:fA e with
  | true =>
   simp only[cond_true];cases (e.Char == 10) with
   | true=>exact ap _ (h2 hp)
   | false =>
    simp only[cond_false];cases (e.Char == 13) with
    | true=>exact h
    | false=>exact ap _ (h3 hp)
  | false =>
   simp only[cond_false];cases lj out with
   | true=>exact h
   | false=>exact ap _ (h4 hp)
theorem BI{P:aD→Prop}(b:aa)(num:Int)(hP:∀r,cI r→(fY r=false→P ⟨1,num,r,false,b⟩))(h2:P ⟨2,num,32,false,b⟩)(h3:b.Style.WhiteSpace=2→P ⟨1,num,32,false,b⟩)(h4:b.Style.WhiteSpace≠2→P ⟨1,num,32,true,b⟩):∀(rs:List Int) (out:List aD),(∀r∈rs,cI r)→(∀x∈out,P x)→∀x∈kB b num out rs,P x
 | [],out,_,h=>h
 | r::t,out,hr,h=>by
  unfold kB;rw[List.foldl_cons];refine BI b num hP h2 h3 h4 t _ (fun x hx=>hr x (by simp[hx])) (SE h (fun hs=>hP r (hr r (by simp)) hs) (fun _=>h2) (fun hp=>h3 (by simpa[fA]using hp)) (fun hp=>h4 (by simpa[fA]using hp)))
theorem Nu{P:aD→Prop}(h1:∀(b:aa) (num r:Int),cI r→fY r=false→P ⟨1,num,r,false,b⟩)(h2:∀(b:aa) (num:Int),P ⟨2,num,32,false,b⟩)(h3:∀(b:aa) (num:Int),b.Style.WhiteSpace=2→P ⟨1,num,32,false,b⟩)(h4:∀(b:aa) (num:Int),b.Style.WhiteSpace≠2→P ⟨1,num,32,true,b⟩)
  (h5:∀(b:aa) (num:Int),P ⟨2,num,0,false,b⟩) (h6:∀(b:aa) (num:Int),P ⟨3,num,0,false,b⟩):∀(d:Nat) (L:List aa) (s:Int×List aD),(∀x∈s.2,P x)→∀x∈(vM d L s).2,P x:=by
 have ap:∀{out:List aD} (y:aD),(∀x∈out,P x)→P y→∀x∈out++[y],P x:=fun y h hy x hx=>by
  rcases List.mem_append.1 hx with hx|hx
  ·exact h x hx
  ·rw[List.mem_singleton.1 hx];exact hy
 intro d
 induction d with
 | zero=>intro L s h;exact h
 | succ d ih =>
  intro L
  induction L with
  | nil=>intro s h;exact h
  | cons b r ihL =>
   intro s h;rw[kn,List.foldl_cons,← kn];refine ihL _ ?_;unfold fE;cases kS b with
   | false=>exact h
   | true =>
    simp only[cond_true];cases (b.Kind == 2) with
    | true=>exact ih _ _ h
    | false =>
     simp only[cond_false];cases (b.Kind == 4) with
     | true=>exact ap _ h (h5 _ _)
     | false =>
      simp only[cond_false];cases (b.Kind == 5) with
      | true=>exact ap _ h (h6 _ _)
      | false =>
       simp only[cond_false];cases (b.Kind == 3) with
       | true=>exact BI b _ (fun r hr hs=>h1 b _ r hr hs) (h2 b _) (h3 b _) (h4 b _) _ _ EM h
       | false=>exact h
theorem yX:cI 32:=by unfold cI;omega
theorem FG:cI 0:=by unfold cI;omega
theorem Ee(d:Nat)(L:List aa):∀x∈gX d L,j0 x :=
 Nu (fun b num r hr _=>⟨hr,fun h=>by cases h⟩) (fun b num=>⟨yX,fun _=>rfl⟩) (fun b num _=>⟨yX,fun _=>rfl⟩) (fun b num _=>⟨yX,fun _=>rfl⟩) (fun b num=>⟨FG,fun h=>by cases h⟩) (fun b num=>⟨FG,fun h=>by cases h⟩) d L (0,[]) (fun x hx=>by cases hx)
end
end Go.Proofs.YtocgkfoifehcbaaGreat
namespace Go.Proofs.YtocgkfoifehcbaaGreat
set_option linter.all false
open Go.RowKit
structure R4 where
 w:Int
 s:Int
 g:Bool
 f:Bool
instance:Inhabited R4:=⟨⟨0,0,false,false⟩⟩
def vI(r:au):R4:=⟨r.Width,r.Space,r.Glued,r.Forced⟩
theorem vp{L:List au}{k:Nat}(h:k<L.length):(L.map vI)[k]'(by simpa using h)=vI (L.getD k default):=by
 rw[cZ h];simp
def gr(l:List R4)(i:Nat):Nat:=i+((l.drop i).takeWhile R4.g).length
theorem mz(l:List R4)(i:Nat):i≤gr l i:=Nat.le_add_right _ _
theorem Im{α:Type}(p:α→Bool):∀l:List α,(l.takeWhile p).length≤l.length
 | []=>Nat.le_refl _
 | x::r=>by
  rw[List.takeWhile_cons];split
  ·simp;exact Im p r
  ·simp
theorem ue{l:List R4}{i:Nat}(h:i≤l.length):gr l i≤l.length:=by
 have:=Im R4.g (l.drop i);simp at this;unfold gr;omega
theorem P1{l:List R4}{i:Nat}(h:i<l.length)(hg:l[i].g=true):gr l i=gr l (i+1):=by
 unfold gr;rw[List.drop_eq_getElem_cons h,List.takeWhile_cons,if_pos hg];simp;omega
theorem R3{l:List R4}{i:Nat}(h:i<l.length)(hg:l[i].g=false):gr l i=i:=by
 unfold gr;rw[List.drop_eq_getElem_cons h,List.takeWhile_cons,if_neg (by simp[hg])];simp
theorem PM{l:List R4}{i:Nat}(h:l.length≤i):gr l i=i:=by
 unfold gr;rw[List.drop_eq_nil_of_le h];simp
def wS(n last:Int):List R4→Int
 | []=>ab (n-last)
 | r::t=>wS (ab (n+ab (r.w+r.s))) (if r.f then last else r.s) t
def lg(l:List R4):Int:=wS 0 0 l
def ol(n:Int):List R4→Int
 | []=>n
 | r::t=>ol (ab (n+ab (r.w+r.s))) t
def fg(x:Int):List R4→Int
 | []=>x
 | r::t=>fg (if r.f then x else r.s) t
theorem Fi:∀(l:List R4) (n last:Int),wS n last l=ab (ol n l-fg last l)
 | [],n,last=>rfl
 | r::t,n,last=>by unfold wS ol fg;exact Fi t _ _
theorem zW:∀(l m:List R4) (x:Int),fg x (l++m)=fg (fg x l) m
 | [],m,x=>rfl
 | r::t,m,x=>by simp only[List.cons_append,fg];exact zW t m _
theorem Qt(n:Int):ab (ab n)=ab n:=by
 have : -9223372036854775808≤ab n∧ab n≤9223372036854775807:=by unfold ab;rw[IntKind.wrap_i64];omega
 exact cz this.1 this.2
section
variable{K:Kn}{n:Nat}{L:List au}
theorem US:∀(m:Nat) (i:Int),0≤i→i≤L.length→L.length<m+i.toNat→(L.length:Int)<9223372036854775807→pJ K n L m i=some ((gr (L.map vI) i.toNat:Nat):Int):=by
 intro m
 induction m with
 | zero=>intro i h0 h1 h2;omega
 | succ m ih =>
  intro i h0 h1 h2 hL;show o9 K n L (pJ K n L m) i=_;unfold o9;by_cases hi:i<(L.length:Int)
  ·have hk:i.toNat<L.length:=by omega
   rw[if_pos (by simpa using hi),dd h0 hi,bg];unfold oI;have hv:=vp hk;cases hg:(L.getD i.toNat default).Glued with
   | true =>
    rw[if_pos rfl,cz (by omega) (by omega),ih (i+1) (by omega) (by omega) (by omega) hL];rw[P1 (l:=L.map vI) (i:=i.toNat) (by simpa using hk) (by rw[hv];exact hg),show(i+1).toNat=i.toNat+1 by omega]
   | false =>
    rw[if_neg (by simp)];rw[R3 (l:=L.map vI) (i:=i.toNat) (by simpa using hk) (by rw[hv];exact hg)];congr 1;omega
  ·rw[if_neg (by simpa using hi)];unfold oI;rw[if_neg (by simp),PM (by simp;omega)];congr 1;omega
theorem Km{i:Int}(h0:0≤i)(h1:i<L.length)(hn:L.length<n)(hL:(L.length:Int)<9223372036854775807):lv K n L i=some ((gr (L.map vI) (i.toNat+1):Nat):Int):=by
 unfold lv;rw[cz (by omega) (by omega),US n (i+1) (by omega) (by omega) (by omega) hL,show(i+1).toNat=i.toNat+1 by omega]
theorem SA:∀(m:Nat) (k:Nat),k≤L.length→k<m→(L.length:Int)<9223372036854775807 →
  ∃j:Int,jR K n L m ((k:Int)-1)=some j∧((j = -1∧∀x,fg x ((L.map vI).take k)=x)∨(0≤j∧j<k∧∀x,fg x ((L.map vI).take k)=(L.getD j.toNat default).Space)):=by
 intro m
 induction m with
 | zero=>intro k _ h;omega
 | succ m ih =>
  intro k hk hm hL;show ∃j,kR K n L (jR K n L m) ((k:Int)-1)=some j∧_;unfold kR;cases k with
  | zero=>rw[if_neg (by simp)];exact⟨-1,rfl,.inl ⟨rfl,fun x=>by simp[fg]⟩⟩
  | succ k =>
   have e:(((k+1:Nat):Int)-1)=(k:Int):=by omega
   rw[e,if_pos (by simp),dd (by omega) (by omega),bg,Int.toNat_natCast];have hkl:k<L.length:=by omega
   have hv:=vp hkl;have ht:(L.map vI).take (k+1)=(L.map vI).take k++[vI (L.getD k default)]:=by
    rw[List.take_add_one,List.getElem?_eq_getElem (by simpa using hkl),hv];rfl
   cases hf:(L.getD k default).Forced with
   | false =>
    rw[show(!false)=true from rfl,if_pos rfl];refine⟨(k:Int),rfl,.inr ⟨by omega,by omega,fun x=>?_⟩⟩;rw[ht,zW,Int.toNat_natCast];simp only[fg,vI,hf,Bool.false_eq_true,if_false]
   | true =>
    rw[show(!true)=false from rfl,if_neg (by simp),cz (by omega) (by omega)];obtain⟨j,h1,h2⟩:=ih k (by omega) (by omega) hL;refine⟨j,h1,?_⟩;have hx:∀x,fg x ((L.map vI).take (k+1))=fg x ((L.map vI).take k):=fun x=>by
     rw[ht,zW];simp only[fg,vI,hf,if_true]
    obtain⟨a,b⟩|⟨a,b,c⟩:=h2
    ·exact .inl ⟨a,fun x=>(hx x).trans (b x)⟩
    ·exact .inr ⟨a,by omega,fun x=>(hx x).trans (c x)⟩
theorem Pm(hn:L.length<n)(hL:(L.length:Int)<9223372036854775807):∃j:Int,kD K n L=some j∧((j = -1∧∀x,fg x (L.map vI)=x)∨(0≤j∧j<L.length∧∀x,fg x (L.map vI)=(L.getD j.toNat default).Space)):=by
 unfold kD;rw[cz (by omega) (by omega)];obtain⟨j,h1,h2⟩:=SA (K:=K) (n:=n) (L:=L) n L.length (Nat.le_refl _) hn hL;refine⟨j,h1,?_⟩;rw[List.take_of_length_le (by simp)]at h2;exact h2
theorem QK(hn:L.length<n)(hL:(L.length:Int)<9223372036854775807):∀(m:Nat) (x i:Int),0≤i→i≤L.length→L.length<m+i.toNat→ab x=x →
  ol 0 (L.map vI)=ol x ((L.map vI).drop i.toNat)→ox K n L m x i=some (lg (L.map vI)):=by
 intro m
 induction m with
 | zero=>intro x i h0 h1 h2;omega
 | succ m ih =>
  intro x i h0 h1 h2 hx hs;show pR K n L (ox K n L m) x i=_;unfold pR;by_cases hi:i<(L.length:Int)
  ·have hk:i.toNat<L.length:=by omega
   rw[if_pos (by simpa using hi),dd h0 hi,bg,cz (n:=i+1) (by omega) (by omega)];refine ih _ (i+1) (by omega) (by omega) (by omega) (Qt _) ?_;rw[hs,List.drop_eq_getElem_cons (by simpa using hk),vp hk,show(i+1).toNat=i.toNat+1 by omega];rfl
  ·rw[if_neg (by simpa using hi)];rw[List.drop_eq_nil_of_le (by simp;omega)]at hs;simp only[ol]at hs;obtain⟨j,h3,h4⟩:=Pm (K:=K) (L:=L) hn hL;rw[h3];simp only[Option.bind_some,ry];unfold lg;rw[Fi,hs];obtain⟨rfl,h5⟩|⟨h5,h6,h7⟩:=h4
   ·rw[if_neg (by simp),h5];simp[hx]
   ·rw[if_pos (by simpa using h5),dd h5 h6,bg,h7]
theorem Jr(hn:L.length<n)(hL:(L.length:Int)<9223372036854775807):kg K n L=some (lg (L.map vI)):=by
 unfold kg;exact QK hn hL n 0 0 (by omega) (by omega) (by simpa using hn) (by unfold ab;rw[IntKind.wrap_i64];omega) rfl
end
def sl{α:Type}(l:List α)(a b:Nat):List α:=List.drop a (List.take b l)
theorem Vl{α β:Type}(f:α→β)(l:List α)(a b:Nat):(sl l a b).map f=sl (l.map f) a b:=by unfold sl;rw[List.map_drop,List.map_take]
theorem Cc{α:Type}(l:List α)(a b:Nat):(sl l a b).length≤l.length:=by unfold sl;simp;omega
def lE(l:List R4)(w:Int)(a:Nat):Nat→Nat→Nat
 | 0,e=>e
 | m+1,e=>if e<l.length∧(l.getD (e-1) default).f=false∧¬ lg (sl l a (gr l (e+1)))>w then lE l w a m (gr l (e+1)) else e
def bM(l:List R4)(w:Int):Nat→Nat→List Nat
 | 0,_=>[]
 | m+1,a=>if a<l.length then a::bM l w m (lE l w a l.length (gr l (a+1))) else []
theorem tA(l:List R4)(w:Int)(a:Nat):∀m e,e≤lE l w a m e
 | 0,e=>Nat.le_refl _
 | m+1,e=>by
  unfold lE;split
  ·have:=tA l w a m (gr l (e+1));have:=mz l (e+1);omega
  ·exact Nat.le_refl _
theorem xD(l:List R4)(w:Int)(a:Nat):∀m e,e≤l.length→lE l w a m e≤l.length
 | 0,e,h=>h
 | m+1,e,h=>by
  unfold lE;split
  ·rename_i h1;exact xD l w a m _ (ue (by omega))
  ·exact h
theorem NS(l:List R4)(w:Int)(a:Nat):∀(m m' e:Nat),l.length≤m+e→l.length≤m'+e→lE l w a m e=lE l w a m' e:=by
 intro m
 induction m with
 | zero =>
  intro m' e h h';cases m' with
  | zero=>rfl
  | succ m'=>unfold lE;rw[if_neg (by omega)]
 | succ m ih =>
  intro m' e h h';cases m' with
  | zero=>unfold lE;rw[if_neg (by omega)]
  | succ m' =>
   unfold lE;split
   ·have:=mz l (e+1);exact ih m' _ (by omega) (by omega)
   ·rfl
end Go.Proofs.YtocgkfoifehcbaaGreat
namespace Go.Proofs.YtocgkfoifehcbaaGreat
set_option linter.all false
open Go.RowKit
theorem MS(l:List R4)(w:Int):∀(m m' a:Nat),l.length<m+a→l.length<m'+a→bM l w m a=bM l w m' a:=by
 intro m
 induction m with
 | zero =>
  intro m' a h h';cases m' with
  | zero=>rfl
  | succ m'=>unfold bM;rw[if_neg (by omega)]
 | succ m ih =>
  intro m' a h h';cases m' with
  | zero=>unfold bM;rw[if_neg (by omega)]
  | succ m' =>
   unfold bM;split
   ·have:=tA l w a l.length (gr l (a+1));have:=mz l (a+1);rw[ih m' _ (by omega) (by omega)]
   ·rfl
theorem yI(l:List R4)(w:Int):∀(m a:Nat),(bM l w m a).length≤l.length-a
 | 0,a=>by simp[bM]
 | m+1,a=>by
  unfold bM;split
  ·have:=yI l w m (lE l w a l.length (gr l (a+1)));have:=tA l w a l.length (gr l (a+1));have:=mz l (a+1);simp;omega
  ·simp
section
variable{K:Kn}{n:Nat}{L:List au}{w:Int}
theorem UH(hn:L.length<n)(hL:(L.length:Int)<9223372036854775807)(a:Nat)(out:List Int)(C:Int→List Int→Option (List Int)):∀(m e:Nat),1≤e→a≤e→e≤L.length→L.length<m+e →
  o5 K n L w a out C m e=C ((lE (L.map vI) w a m e:Nat):Int) (out++[(a:Int)]):=by
 intro m
 induction m with
 | zero=>intro e h0 h1 h2 h3;omega
 | succ m ih =>
  intro e h0 h1 h2 h3;show pd K n L w a out C (o5 K n L w a out C m) e=_;unfold pd lE;by_cases he:e<L.length
  ·rw[if_pos (by simpa using he),cz (by omega) (by omega),dd (by omega) (by omega),bg];unfold oY;have e1:((e:Int)-1).toNat=e-1:=by omega
   have hv:=vp (L:=L) (k:=e-1) (by omega);have hf:((L.map vI).getD (e-1) default).f=(L.getD ((e:Int)-1).toNat default).Forced:=by
    rw[cZ (by simp;omega),hv,e1];rfl
   cases hb:(L.getD ((e:Int)-1).toNat default).Forced with
   | true =>
    rw[show(!true)=false from rfl,if_neg (by simp),if_neg (by rw[hf,hb];simp)];rfl
   | false =>
    have hg:=ue (l:=L.map vI) (i:=e+1) (by simp;omega);have hge:=mz (L.map vI) (e+1);simp only[List.length_map]at hg;rw[show(!false)=true from rfl,if_pos rfl,Km (by omega) (by omega) hn hL];simp only[Option.bind_some,Int.toNat_natCast];rw[show cH (a:Int) ((gr (L.map vI) (e+1):Nat):Int) L.length=true by simp only[cH,Bool.and_eq_true,decide_eq_true_eq];omega,bg];have hs:List.drop a (List.take (gr (L.map vI) (e+1)) L)=sl L a (gr (L.map vI) (e+1)):=rfl;rw[hs,Jr (by have:=Cc L a (gr (L.map vI) (e+1));omega) (by have:=Cc L a (gr (L.map vI) (e+1));omega),Vl];simp only[Option.bind_some];by_cases hw:lg (sl (L.map vI) a (gr (L.map vI) (e+1)))>w
    ·rw[if_pos (by simpa using hw),if_neg (by simp[hw])];rfl
    ·rw[if_neg (by simpa using hw),if_pos ⟨by simpa using he,by rw[hf,hb],hw⟩];exact ih _ (by omega) (by omega) (by omega) (by omega)
  ·rw[if_neg (by simpa using he),if_neg (by simp;omega)];unfold oY;rw[if_neg (by simp)];rfl
theorem O9(hn:L.length<n)(hL:(L.length:Int)≤1000000):∀(m a:Nat) (out:List Int),a≤L.length→out.length≤a→L.length<m+a→pG K n L w m a out=some (out++(bM (L.map vI) w m a).map fun (k:Nat)=>(k:Int)):=by
 intro m
 induction m with
 | zero=>intro a out h1 h2 h3;omega
 | succ m ih =>
  intro a out h1 h2 h3;show nM K n L w (pG K n L w m) a out=_;unfold nM bM;by_cases ha:a<L.length
  ·rw[if_pos (by simpa using ha),if_pos (by simpa using ha),cW (by simp;omega) (by omega),bg,Km (by omega) (by omega) hn (by omega)];simp only[Option.bind_some,Int.toNat_natCast];have hg:=ue (l:=L.map vI) (i:=a+1) (by simp;omega);have hge:=mz (L.map vI) (a+1);simp only[List.length_map]at hg;rw[UH hn (by omega) a out _ n _ (by omega) (by omega) hg (by omega)];rw[NS (L.map vI) w a n (L.map vI).length _ (by simp;omega) (by simp)];have h5:=xD (L.map vI) w a (L.map vI).length (gr (L.map vI) (a+1)) (by simpa using hg);have h6:=tA (L.map vI) w a (L.map vI).length (gr (L.map vI) (a+1));simp only[List.length_map]at h5 h6⊢;rw[ih _ _ h5 (by simp;omega) (by omega)];simp[List.append_assoc]
  ·rw[if_neg (by simpa using ha),if_neg (by simpa using ha)];simp
theorem MO(hn:L.length<n)(hL:(L.length:Int)≤1000000):tw K n L w=some ((bM (L.map vI) w (L.length+1) 0).map fun (k:Nat)=>(k:Int)):=by
 unfold tw;rw[show(0:Int)=((0:Nat):Int) from rfl,O9 hn hL n 0 [] (by omega) (by simp) (by omega),MS (L.map vI) w n (L.length+1) 0 (by simp;omega) (by simp)];simp
end
end Go.Proofs.YtocgkfoifehcbaaGreat
namespace Go.Proofs.YtocgkfoifehcbaaGreat
set_option linter.all false
open Go.RowKit
noncomputable section
def jl(o:Int):aD→List aD→Nat
 | _,[]=>0
 | a,b::r=>bif b.Kind == 1&&(b.Of == o&&!lf a b) then jl o b r+1 else 0
theorem JY(o:Int):∀(l:List aD) (a:aD),jl o a l≤l.length
 | [],_=>Nat.le_refl _
 | b::r,a=>by
  unfold jl;cases (b.Kind == 1&&(b.Of == o&&!lf a b)) with
  | true=>have:=JY o r b;simp;omega
  | false=>simp
def u9(p:Option aD)(e:aD):Bool:=match p with
 | none=>false
 | some q=>q.Kind != 2&&!lf q e
def runM(x:au)(e:aD)(g:Bool):au:={ x with Node:=e.Box.Node,Style:=e.Box.Style,Glued:=g }
def cM(pl:aa→au):Nat→Option aD→List aD→List au
 | 0,_,_=>[]
 | _+1,_,[]=>[]
 | m+1,p,e::r =>
  bif e.Kind == 2 then runM { cv with Forced:=true } e (u9 p e)::cM pl m (some e) r
  else bif e.Kind == 3 then runM (pl e.Box) e (u9 p e)::cM pl m (some e) r
  else runM (eW (e::r.take (jl e.Of e r))) e (u9 p e)::cM pl m (some (iX (e::r.take (jl e.Of e r)))) (r.drop (jl e.Of e r))
def ix(L:List aD)(i:Nat):Option aD:=if i=0 then none else some (L.getD (i-1) default)
theorem ES{α:Type}[Inhabited α]{L:List α}{i k:Nat}(h:i<L.length):sl L i (i+1+k)=L.getD i default::(L.drop (i+1)).take k:=by
 unfold sl;rw[List.drop_take,show i+1+k-i=k+1 by omega,List.drop_eq_getElem_cons h,List.take_succ_cons,cZ h]
theorem EV{α:Type}{L:List α}{a b:Nat}{x:α}(h:x∈sl L a b):x∈L:=by
 unfold sl at h;exact List.mem_of_mem_take (List.mem_of_mem_drop h)
theorem Gb{α:Type}{L:List α}{a b:Nat}(h:b≤L.length):(sl L a b).length=b-a:=by unfold sl;simp;omega
theorem Nb{L:List aD}{i k:Nat}(h:i+k<L.length):iX (L.getD i default::(L.drop (i+1)).take k)=L.getD (i+k) default:=by
 rw[←ES (by omega)];unfold iX;have hl:=Gb (L:=L) (a:=i) (b:=i+1+k) (by omega);rw[hl,cZ (by rw[hl];omega),cZ h];unfold sl;rw[List.getElem_drop,List.getElem_take];congr 1;omega
section
variable{K:Kn}{n:Nat}{v2:Fv}{L:List aD}{pl:aa→au}
theorem Ob(ho:∀e∈L,j0 e)(hl:L.length≤2000)(hn:8010≤n)(i:Nat)(acc:List au)(g:Bool)(C:Int→List au→Option (List au))(hi:i<L.length):∀(m x:Nat),i<x→x≤L.length→L.length<m+x →
  mP K n v2 L (i:Int) acc g C m (x:Int)=iV K n v2 L i acc g C ((x+jl (L.getD i default).Of (L.getD (x-1) default) (L.drop x):Nat):Int) (eW (sl L i (x+jl (L.getD i default).Of (L.getD (x-1) default) (L.drop x)))):=by
 have fin:∀y:Nat,i<y→y≤L.length→∀(D:Int→Option (List au)),ig K n v2 L (i:Int) acc g (y:Int) C D false=iV K n v2 L i acc g C (y:Int) (eW (sl L i y)):=fun y h1 h2 D=>by
  unfold ig;have hsl:List.drop i (List.take y L)=sl L i y:=rfl;have hlen:=Gb (L:=L) (a:=i) (b:=y) h2;rw[if_neg (by simp),show cH (i:Int) (y:Int) L.length=true by simp only[cH,Bool.and_eq_true,decide_eq_true_eq];omega,bg];simp only[Int.toNat_natCast];rw[hsl,O6 (by intro e;rw[e]at hlen;simp at hlen;omega) (by omega) (fun e he=>ho e (EV he)) hn];rfl
 intro m
 induction m with
 | zero=>intro x h1 h2 h3;omega
 | succ m ih =>
  intro x h1 h2 h3;show ne K n v2 L i acc g C (mP K n v2 L i acc g C m) x=_;unfold ne;by_cases hx:x<L.length
  ·have hdr:L.drop x=L.getD x default::L.drop (x+1):=by rw[List.drop_eq_getElem_cons hx,cZ hx]
   have hb:L.getD x default∈L:=by rw[cZ hx];exact List.getElem_mem _
   have ha:L.getD (x-1) default∈L:=by rw[cZ (by omega)];exact List.getElem_mem _
   have e1:ab ((x:Int)-1)=((x-1:Nat):Int):=by rw[cz (by omega) (by omega)];omega
   rw[if_pos (by simpa using hx),dd (by omega) (by omega)];simp only[bg,Int.toNat_natCast,e1];rw[hdr];unfold jl;have nog:∀{b:Bool},b=false→ig K n v2 L (i:Int) acc g (x:Int) C (mP K n v2 L i acc g C m) false=iV K n v2 L i acc g C ((x+(bif b then jl (L.getD i default).Of (L.getD x default) (L.drop (x+1))+1 else 0):Nat):Int) (eW (sl L i (x+(bif b then jl (L.getD i default).Of (L.getD x default) (L.drop (x+1))+1 else 0)))):=fun {b} hb=>by
    subst hb;exact fin x h1 h2 _
   cases hk:((L.getD x default).Kind == 1) with
   | false=>rw[if_neg (by simp)];exact nog rfl
   | true =>
    rw[if_pos rfl];cases hof:((L.getD x default).Of == (L.getD i default).Of) with
    | false=>rw[if_neg (by simp)];exact nog rfl
    | true =>
     rw[if_pos rfl,dd (by omega) (by omega),bg,Gz K (by omega) (ho _ ha).ch (ho _ hb).ch];simp only[Option.bind_some];cases hbr:lf (L.getD (x-1) default) (L.getD x default) with
     | true=>exact nog rfl
     | false =>
      unfold ig;rw[show(!false)=true from rfl,if_pos rfl,cz (by omega) (by omega),show(x:Int)+1=((x+1:Nat):Int) by omega,ih (x+1) (by omega) (by omega) (by omega)];simp only[Nat.add_sub_cancel,Bool.and_self,cond_true];rw[show x+1+jl (L.getD i default).Of (L.getD x default) (L.drop (x+1))=x+(jl (L.getD i default).Of (L.getD x default) (L.drop (x+1))+1) by omega]
  ·rw[if_neg (by simpa using hx),List.drop_eq_nil_of_le (by omega)];unfold jl;exact fin x h1 h2 _
theorem Bv(i:Nat)(acc:List au)(g:Bool)(C:Int→List au→Option (List au))(hacc:acc.length≤1000000)(y:Int)(x:au):iV K n v2 L (i:Int) acc g C y x=C y (acc++[runM x (L.getD i default) g]):=by
 unfold iV;simp only[Option.bind_some,Int.toNat_natCast];rw[cW (by simp;omega) (by omega),bg];rfl
theorem LX(ho:∀e∈L,j0 e)(hl:L.length≤2000)(hn:8010≤n)(hpl:∀e∈L,e.Kind=3→K.nG v2 e.Box=some (pl e.Box)):∀(m i:Nat) (acc:List au),i≤L.length→L.length<m+i→acc.length≤i →
  l6 K n v2 L m (i:Int) acc=some (acc++cM pl m (ix L i) (L.drop i)):=by
 intro m
 induction m with
 | zero=>intro i acc h1 h2;omega
 | succ m ih =>
  intro i acc h1 h2 h3;show pq K n v2 L (l6 K n v2 L m) i acc=_;unfold pq;by_cases hi:i<L.length
  ·have hdr:L.drop i=L.getD i default::L.drop (i+1):=by rw[List.drop_eq_getElem_cons hi,cZ hi]
   have hb:L.getD i default∈L:=by rw[cZ hi];exact List.getElem_mem _
   rw[if_pos (by simpa using hi),dd (by omega) (by omega)];simp only[bg,Int.toNat_natCast];rw[hdr];have hw:ab ((i:Int)+1)=((i+1:Nat):Int):=by rw[cz (by omega) (by omega)];omega
   have hprev:ix L (i+1)=some (L.getD i default):=by unfold ix;rw[if_neg (by omega),Nat.add_sub_cancel]
   have key:∀g,g=u9 (ix L i) (L.getD i default)→ly K n v2 L (i:Int) acc (l6 K n v2 L m) g=some (acc++cM pl (m+1) (ix L i) (L.getD i default::L.drop (i+1))):=by
    intro g hg;unfold ly cM;simp only[Option.bind_some,Int.toNat_natCast];rw[←hg];cases k2:((L.getD i default).Kind == 2) with
    | true =>
     rw[if_pos rfl,Bv i acc g _ (by omega),hw,ih (i+1) _ (by omega) (by omega) (by simp;omega),hprev];simp[List.append_assoc]
    | false =>
     rw[if_neg (by simp)];cases k3:((L.getD i default).Kind == 3) with
     | true =>
      rw[if_pos rfl,hpl _ hb (by simpa using k3)];simp only[Option.bind_some];rw[Bv i acc g _ (by omega),hw,ih (i+1) _ (by omega) (by omega) (by simp;omega),hprev];simp[List.append_assoc]
     | false =>
      rw[if_neg (by simp),hw,Ob ho hl hn i acc g _ hi n (i+1) (by omega) (by omega) (by omega),Nat.add_sub_cancel];simp only[cond_false];have hj:=JY (L.getD i default).Of (L.drop (i+1)) (L.getD i default);rw[List.length_drop]at hj;generalize jl (L.getD i default).Of (L.getD i default) (L.drop (i+1))=k at *;rw[Bv i acc g _ (by omega),ih (i+1+k) _ (by omega) (by omega) (by simp;omega),ES hi,Nb (by omega),List.drop_drop];have hp:ix L (i+1+k)=some (L.getD (i+k) default):=by unfold ix;rw[if_neg (by omega)];congr 2;omega
      rw[hp];simp[List.append_assoc]
   by_cases h0:i=0
   ·rw[if_neg (by simp;omega)];exact key false (by unfold ix;rw[if_pos h0];rfl)
   ·have ha:L.getD (i-1) default∈L:=by rw[cZ (by omega)];exact List.getElem_mem _
    have e1:ab ((i:Int)-1)=((i-1:Nat):Int):=by rw[cz (by omega) (by omega)];omega
    have hp:ix L i=some (L.getD (i-1) default):=by unfold ix;rw[if_neg h0]
    rw[if_pos (by simp;omega),e1,dd (by omega) (by omega)];simp only[bg,Int.toNat_natCast];by_cases hk:((L.getD (i-1) default).Kind != 2)=true
    ·rw[if_pos hk,Gz K (by omega) (ho _ ha).ch (ho _ hb).ch];simp only[Option.bind_some];exact key _ (by rw[hp];show _=((L.getD (i-1) default).Kind != 2&&!lf (L.getD (i-1) default) (L.getD i default));rw[hk];rfl)
    ·rw[if_neg hk];have hk':((L.getD (i-1) default).Kind != 2)=false:=by simpa using hk
     exact key false (by rw[hp];show _=((L.getD (i-1) default).Kind != 2&&!lf (L.getD (i-1) default) (L.getD i default));rw[hk'];rfl)
  ·rw[if_neg (by simpa using hi),List.drop_eq_nil_of_le (by omega)];simp[cM]
theorem Le(pl:aa→au):∀(m m':Nat) (p:Option aD) (l:List aD),l.length<m→l.length<m'→cM pl m p l=cM pl m' p l:=by
 intro m
 induction m with
 | zero=>intro m' p l h;omega
 | succ m ih =>
  intro m' p l h h';cases m' with
  | zero=>omega
  | succ m' =>
   cases l with
   | nil=>rfl
   | cons e r =>
    simp only[List.length_cons]at h h';unfold cM;rw[ih m' (some e) r (by omega) (by omega),ih m' _ (r.drop (jl e.Of e r)) (by simp;omega) (by simp;omega)]
theorem Qc(pl:aa→au):∀(m:Nat) (p:Option aD) (l:List aD),(cM pl m p l).length≤l.length:=by
 intro m
 induction m with
 | zero=>intro p l;simp[cM]
 | succ m ih =>
  intro p l;cases l with
  | nil=>simp[cM]
  | cons e r =>
   unfold cM;have h1:=ih (some e) r;have h2:=ih (some (iX (e::r.take (jl e.Of e r)))) (r.drop (jl e.Of e r));rw[List.length_drop]at h2;cases (e.Kind == 2) with
   | true=>simp;omega
   | false =>
    cases (e.Kind == 3) with
    | true=>simp;omega
    | false=>simp;omega
def oy(pl:aa→au)(L:List aD):List au:=cM pl (L.length+1) none L
end
theorem U0{N d:Nat}{B:List aa}{v2:Fv}{pl:aa→au}(hD:Dp d B)(hc:dv d B≤2000)(hN:d+9000≤N)(hpl:∀e∈gX d B,e.Kind=3→(KN N).nG v2 e.Box=some (pl e.Box)):
  nr (KN N) N B v2=some (oy pl (gX d B)):=by
 have hlen:=Ax d B;unfold nr;rw[SF hD (by omega) (by omega)];simp only[Option.bind_some];rw[show(0:Int)=((0:Nat):Int) from rfl,LX (pl:=pl) (Ee d B) (by omega) (by omega) hpl N 0 [] (by omega) (by omega) (by simp),List.drop_zero,List.nil_append];unfold oy;rw[Le pl N ((gX d B).length+1) _ _ (by omega) (by omega)];rfl
end
end Go.Proofs.YtocgkfoifehcbaaGreat
namespace Go.Proofs.YtocgkfoifehcbaaGreat
set_option linter.all false
open Go.RowKit
noncomputable section
theorem vy(b:ByteArray):b.toList=b.data.toList:=ByteArray.toList_eq b
theorem LJ:(⟨#[]⟩:ByteArray).toList=[]:=by rw[vy]
def ir(b:ByteArray):Bool:=b.data.toList.getLast? == some 32
theorem Tv(K:Kn)(n:Nat){b:ByteArray}(hb:b.size≤1000000):qA K n b ⟨#[32]⟩=some (ir b):=by
 have h1:(⟨#[32]⟩:ByteArray).size=1:=rfl;unfold qA wm qJ ir;rw[h1];by_cases h:1≤b.size
 ·have e1:ab ((b.size:Int)-((1:Nat):Int))=((b.size-1:Nat):Int):=by rw[cz (by omega) (by omega)];omega
  rw[if_pos (by simp;omega),e1,show cH ((b.size-1:Nat):Int) (b.size:Int) b.size=true by simp only[cH,Bool.and_eq_true,decide_eq_true_eq];omega,bg];simp only[Option.bind_some,Int.toNat_natCast];rw[vy,vy,ByteArray.data_extract,Array.toList_extract];have hl:b.data.toList.length=b.size:=rfl;generalize b.data.toList=l at hl;rw[←hl]at h⊢;have hne:l≠[]:=by intro e;rw[e]at h;simp at h
  have:(l.take l.length).drop (l.length-1)=[l.getLast hne]:=by
   rw[List.take_length]
   conv=>lhs;rw[←List.dropLast_concat_getLast hne]
   rw[List.length_append,List.length_dropLast];simp
  rw[List.extract_eq_drop_take,List.getLast?_eq_some_getLast hne];have e2:List.take (l.length-(l.length-1)) (List.drop (l.length-1) l)=[l.getLast hne]:=by
   rw[←this,List.take_length,List.take_of_length_le (by simp)]
  rw[e2];show some ([l.getLast hne] == [32])=some (some (l.getLast hne) == some 32);congr 1;cases hq:(l.getLast hne == 32)<;>simp_all
 ·have hs:b.size=0:=by omega
  have hl:b.data.toList=[]:=List.eq_nil_of_length_eq_zero (by rw[mX];exact hs);rw[if_neg (by simp;omega),hl];rfl
def uc(b:ByteArray):ByteArray:=b.extract 0 (b.size-1)
def stripR(r:au):au:=bif ir r.Text&&r.Style.WhiteSpace != 2 then { r with Text:=uc r.Text,Space:=0 } else r
def zC(above x:Int)(b:ai):ai:={ b with X:=ab (b.X+x),Y:=ab (b.Y+(ab ((ab (above-b.H))-ab (b.After.Pos+b.After.Neg)))) }
def Cj(s:Int):Int:=min (max s 0) 1048576
def V3(s:Int):Int:=ab (Cj s+(ab (Int.tdiv (ab (Cj s+3)) 4)))
def wt(above x:Int)(r:au):List ai:=bif r.Text.data.toList.isEmpty then [] else [⟨3,r.Node,x,ab (above-Cj r.Style.FontSize),ab (r.Width+r.Space),V3 r.Style.FontSize,0,r.Text,r.Style,cO,cO,false,[]⟩]
def jD(above x:Int)(r:au):List ai:=wt above x r++r.Box.map (zC above x)
def ge(above last:Int):Int→Int→List au→List ai
 | _,_,[]=>[]
 | i,x,r::t =>
  let r':=bif i == last then stripR r else r
  jD above x r'++ge above last (i+1) (ab (x+ab (r'.Width+r'.Space))) t
section
variable{K:Kn}{n:Nat}{L:List au}{s:aJ}{w above below last:Int}
theorem U3(r:au)(i:Int)(C:Int→Int→List ai→Option ai)(x:Int)(hb:r.Box.length≤1000):∀(m j:Nat) (acc:List ai),j≤r.Box.length→r.Box.length<m+j→acc.length≤1000000+j →
  om K n L s w above below last x i r C m (j:Int) acc=C (ab (x+ab (r.Width+r.Space))) (ab (i+1)) (acc++(r.Box.drop j).map (zC above x)):=by
 intro m
 induction m with
 | zero=>intro j acc h1 h2;omega
 | succ m ih =>
  intro j acc h1 h2 h3;show pr K n L s w above below last x i r C (om K n L s w above below last x i r C m) j acc=_;unfold pr;by_cases hj:j<r.Box.length
  ·have hd:r.Box.drop j=r.Box.getD j default::r.Box.drop (j+1):=by rw[List.drop_eq_getElem_cons hj,cZ hj]
   rw[if_pos (by simpa using hj),dd (by omega) (by omega)];simp only[bg,Option.bind_some,Int.toNat_natCast,jQ];rw[cW (by simp;omega) (by omega),bg,cz (n:=(j:Int)+1) (by omega) (by omega),show(j:Int)+1=((j+1:Nat):Int) by omega,ih (j+1) _ (by omega) (by omega) (by simp;omega),hd,List.map_cons];rw[List.append_assoc];rfl
  ·rw[if_neg (by simpa using hj),List.drop_eq_nil_of_le (by omega)];simp
theorem MY(r:au)(i:Int)(C:Int→Int→List ai→Option ai)(x:Int)(hb:r.Box.length≤1000)(hn:1001≤n)(acc:List ai)(ha:acc.length≤900000):
  jU K n L s w above below last x i acc C r=C (ab (x+ab (r.Width+r.Space))) (ab (i+1)) (acc++jD above x r):=by
 unfold jU;rw[vy,LJ];simp only[Option.bind_some];have h5:∀acc':List ai,acc'.length≤1000000→nT K n L s w above below last x i r C acc'=C (ab (x+ab (r.Width+r.Space))) (ab (i+1)) (acc'++r.Box.map (zC above x)):=fun acc' h=>by
  unfold nT;rw[show(0:Int)=((0:Nat):Int) from rfl,U3 r i C x hb n 0 acc' (by omega) (by omega) (by omega),List.drop_zero]
 unfold jD wt;cases he:r.Text.data.toList with
 | nil =>
  rw[if_neg (by simp),h5 acc (by omega)];simp
 | cons b t =>
  rw[if_pos (by simp)];simp only[qg,qa,ls,Option.bind_some];rw[cW (by simp;omega) (by omega),bg,h5 _ (by simp;omega)];simp only[List.isEmpty_cons,cond_false,List.append_assoc];rfl
theorem Vb(hb:∀r∈L,r.Box.length≤1∧r.Text.size≤100000)(hl:L.length≤2000)(hn:2002≤n):∀(m i:Nat) (x:Int) (acc:List ai),i≤L.length→L.length<m+i→acc.length≤2*i →
  je K n L s w above below last m x (i:Int) acc=some { bG with Kind:=2,W:=w,H:=ab (above+below),aE:=above,Style:=s,Kids:=acc++ge above last i x (L.drop i) }:=by
 intro m
 induction m with
 | zero=>intro i x acc h1 h2;omega
 | succ m ih =>
  intro i x acc h1 h2 h3;show mV K n L s w above below last (je K n L s w above below last m) x i acc=_;unfold mV;by_cases hi:i<L.length
  ·have hd:L.drop i=L.getD i default::L.drop (i+1):=by rw[List.drop_eq_getElem_cons hi,cZ hi]
   have hm:L.getD i default∈L:=by rw[cZ hi];exact List.getElem_mem _
   obtain⟨b1,b2⟩:=hb _ hm;have e1:ab ((i:Int)+1)=((i+1:Nat):Int):=by rw[cz (by omega) (by omega)];omega
   rw[if_pos (by simpa using hi),dd (by omega) (by omega),bg];simp only[Int.toNat_natCast];have rl:∀(y:Int) (r:au),r.Box.length≤1→(jD above y r).length≤2:=fun y r h=>by
    unfold jD wt;cases r.Text.data.toList.isEmpty<;>simp<;>omega
   have step:∀r':au,r'.Box=(L.getD i default).Box→jU K n L s w above below last x i acc (je K n L s w above below last m) r'=some { bG with Kind:=2,W:=w,H:=ab (above+below),aE:=above,Style:=s,Kids:=acc++(jD above x r'++ge above last ((i:Int)+1) (ab (x+ab (r'.Width+r'.Space))) (L.drop (i+1))) }:=fun r' hr=>by
    have hrl:=rl x r' (by rw[hr];exact b1);rw[MY r' i _ x (by rw[hr];omega) (by omega) acc (by omega),e1,ih (i+1) _ _ (by omega) (by omega) (by simp;omega)];rw[List.append_assoc];rfl
   rw[hd];unfold ge;by_cases hlast:(i:Int)=last
   ·rw[if_pos (by simpa using hlast),Tv K n (by omega)];simp only[Option.bind_some];rw[show((i:Int) == last)=true by simpa using hlast];simp only[cond_true];have j3:∀c:Bool,kW K n L s w above below last x i acc (je K n L s w above below last m) (ir (L.getD i default).Text&&c)=jU K n L s w above below last x i acc (je K n L s w above below last m) (bif ir (L.getD i default).Text&&c then { L.getD i default with Text:=uc (L.getD i default).Text,Space:=0 } else L.getD i default):=fun c=>by
     unfold kW;simp only[Int.toNat_natCast];cases hs:ir (L.getD i default).Text with
     | false=>rw[if_neg (by simp)];rfl
     | true =>
      cases c with
      | false=>rw[if_neg (by simp)];rfl
      | true =>
       have hsz:1≤(L.getD i default).Text.size:=by
        unfold ir at hs;rcases Nat.eq_zero_or_pos (L.getD i default).Text.size with h0|h0
        ·have:(L.getD i default).Text.data.toList=[]:=List.eq_nil_of_length_eq_zero (by rw[mX];exact h0);rw[this]at hs;simp at hs
        ·exact h0
       have e2:ab (((L.getD i default).Text.size:Int)-1)=(((L.getD i default).Text.size-1:Nat):Int):=by rw[cz (by omega) (by omega)];omega
       rw[if_pos (show(true&&true)=true from rfl),e2,show cH (0:Int) (((L.getD i default).Text.size-1:Nat):Int) (L.getD i default).Text.size=true by simp only[cH,Bool.and_eq_true,decide_eq_true_eq];omega,bg];simp only[Int.toNat_natCast,Int.toNat_zero];rfl
    have hst:stripR (L.getD i default)=(bif ir (L.getD i default).Text&&(L.getD i default).Style.WhiteSpace != 2 then { L.getD i default with Text:=uc (L.getD i default).Text,Space:=0 } else L.getD i default):=rfl;rw[hst];have hbox:∀c:Bool,(bif c then { L.getD i default with Text:=uc (L.getD i default).Text,Space:=0 } else L.getD i default:au).Box=(L.getD i default).Box:=fun c=>by cases c<;>rfl
    cases hs:ir (L.getD i default).Text with
    | true =>
     rw[if_pos rfl];have:=j3 ((L.getD i default).Style.WhiteSpace != 2);rw[hs,Bool.true_and]at this;rw[this,Bool.true_and];exact step _ (hbox _)
    | false =>
     rw[if_neg (by simp)];have:=j3 false;rw[hs,Bool.false_and]at this;rw[this,Bool.false_and];exact step _ rfl
   ·rw[if_neg (by simpa using hlast)];have e3:((i:Int) == last)=false:=by simpa using hlast
    rw[e3];unfold kW;rw[if_neg (by simp)];simp only[Int.toNat_natCast,cond_false];exact step _ rfl
  ·rw[if_neg (by simpa using hi),List.drop_eq_nil_of_le (by omega)];simp[ge]
end
def gC:Int×Int→List au→Int×Int
 | p,[]=>p
 | p,r::t=>gC (bif r.Forced then p else (max p.1 r.Above,max p.2 r.Below)) t
theorem Uy(p:Int×Int)(r:au)(t:List au):gC p (r::t)=gC (bif r.Forced then p else (max p.1 r.Above,max p.2 r.Below)) t:=rfl
def lX(i acc:Int):List au→Int
 | []=>acc
 | r::t=>lX (i+1) (bif r.Forced then acc else i) t
def tP(L:List au):Int:=lX 0 (-1) L
def rH(s:aJ)(w u:Int):Int:=(jh (KN 0) 0 s w u).getD 0
def lT(s:aJ)(w:Int)(L:List au):ai :=
 { bG with Kind:=2,W:=w,H:=ab ((gC (gp s) L).1+(gC (gp s) L).2),aE:=(gC (gp s) L).1,Style:=s,Kids:=[]++ge (gC (gp s) L).1 (tP L) 0 (rH s w (lg (L.map vI))) L }
theorem Gi:∀(a:List au) (r:au) (i acc:Int),lX i acc (a++[r])=bif r.Forced then lX i acc a else i+a.length
 | [],r,i,acc=>by simp[lX]
 | x::t,r,i,acc=>by
  simp only[List.cons_append,lX];rw[Gi t r (i+1)];cases r.Forced
  ·simp;omega
  ·rfl
theorem NU(K:Kn)(n:Nat)(s:aJ)(w u:Int):jh K n s w u=some (rH s w u):=by
 have e:jh (KN 0) 0 s w u=jh K n s w u:=rfl;have:lz (jh K n s w u):=by
  unfold jh
  repeat first|exact Cr _|apply zH
 obtain⟨v,hv⟩:=this;unfold rH;rw[e,hv];rfl
section
variable{K:Kn}{n:Nat}{L:List au}{s:aJ}{w:Int}
theorem R7:∀(m k:Nat),k≤L.length→k<m→(L.length:Int)<9223372036854775807→jR K n L m ((k:Int)-1)=some (lX 0 (-1) (L.take k)):=by
 intro m
 induction m with
 | zero=>intro k _ h;omega
 | succ m ih =>
  intro k hk hm hL;show kR K n L (jR K n L m) ((k:Int)-1)=_;unfold kR;cases k with
  | zero=>rw[if_neg (by simp)];rfl
  | succ k =>
   have e:(((k+1:Nat):Int)-1)=(k:Int):=by omega
   have hkl:k<L.length:=by omega
   have ht:L.take (k+1)=L.take k++[L.getD k default]:=by
    rw[List.take_add_one,List.getElem?_eq_getElem hkl,cZ hkl];rfl
   rw[e,if_pos (by simp),dd (by omega) (by omega),bg,Int.toNat_natCast,ht,Gi];have hl:(L.take k).length=k:=by simp;omega
   cases hf:(L.getD k default).Forced with
   | false=>rw[show(!false)=true from rfl,if_pos rfl,hl];simp
   | true=>rw[show(!true)=false from rfl,if_neg (by simp),cz (by omega) (by omega),ih k (by omega) (by omega) hL];rfl
theorem Oa(hn:L.length<n)(hL:(L.length:Int)<9223372036854775807):kD K n L=some (tP L):=by
 unfold kD;rw[cz (by omega) (by omega),R7 n L.length (Nat.le_refl _) hn hL,List.take_length];rfl
theorem UT(hb:∀r∈L,r.Box.length≤1∧r.Text.size≤100000)(hl:L.length≤2000)(hn:2002≤n):∀(m i:Nat) (p:Int×Int),i≤L.length→L.length<m+i→gC (gp s) L=gC p (L.drop i)→nA K n L s w m p.1 p.2 (i:Int)=some (lT s w L):=by
 intro m
 induction m with
 | zero=>intro i p h1 h2;omega
 | succ m ih =>
  intro i p h1 h2 h3;show ot K n L s w (nA K n L s w m) p.1 p.2 i=_;unfold ot;by_cases hi:i<L.length
  ·have hd:L.drop i=L.getD i default::L.drop (i+1):=by rw[List.drop_eq_getElem_cons hi,cZ hi]
   rw[hd,Uy]at h3;have e1:ab ((i:Int)+1)=((i+1:Nat):Int):=by rw[cz (by omega) (by omega)];omega
   rw[if_pos (by simpa using hi),dd (by omega) (by omega),bg];simp only[Int.toNat_natCast];unfold tz;rw[e1];cases hf:(L.getD i default).Forced with
   | false =>
    rw[hf]at h3;rw[show(!false)=true from rfl,if_pos rfl];exact ih (i+1) (_,_) (by omega) (by omega) h3
   | true =>
    rw[hf]at h3;rw[show(!true)=false from rfl,if_neg (by simp)];exact ih (i+1) p (by omega) (by omega) h3
  ·rw[List.drop_eq_nil_of_le (by omega)]at h3;have h3:gC (gp s) L=p:=h3;rw[if_neg (by simpa using hi),Jr (by omega) (by omega)];simp only[Option.bind_some,NU];rw[Oa (by omega) (by omega)];simp only[Option.bind_some];rw[show(0:Int)=((0:Nat):Int) from rfl,Vb hb hl hn n 0 _ [] (by omega) (by omega) (by simp),List.drop_zero];unfold lT;rw[h3];rfl
theorem LU(hb:∀r∈L,r.Box.length≤1∧r.Text.size≤100000)(hl:L.length≤2000)(hn:2002≤n):sI K n L s w=some (lT s w L):=by
 unfold sI;rw[Ba];simp only[Option.bind_some];exact UT hb hl hn n 0 (gp s) (by omega) (by omega) rfl
end
def fR(s:aJ)(w:Int)(X:List au):Int→List Nat→List ai×Int
 | h,a::b::r =>
  let f:=lT s w (sl X a b)
  let q:=fR s w X (ab (h+f.H)) (b::r)
  ({ f with Y:=h }::q.1,q.2)
 | h,_=>([],h)
theorem CP(s:aJ)(w:Int)(X:List au):∀(S:List Nat) (h:Int),(fR s w X h S).1.length≤S.length
 | [],h=>by simp[fR]
 | [a],h=>by simp[fR]
 | a::b::r,h=>by
  have:=CP s w X (b::r) (ab (h+(lT s w (sl X a b)).H));unfold fR;simp at this⊢;omega
section
variable{K:Kn}{n:Nat}{X:List au}{s:aJ}{w:Int}
def wD(N:Nat):List Nat→Prop
 | a::b::r=>a≤b∧b≤N∧wD N (b::r)
 | _=>True
theorem CZ{N:Nat}:∀{S:List Nat},wD N S→∀i,i+1<S.length→S.getD i 0≤S.getD (i+1) 0∧S.getD (i+1) 0≤N
 | [],_,i,h=>by simp at h
 | [a],_,i,h=>by simp at h
 | a::b::r,h,0,_=>⟨h.1,h.2.1⟩
 | a::b::r,h,i+1,hi=>by
  have:=CZ h.2.2 i (by simpa using hi);simpa using this
theorem OY(hb:∀r∈X,r.Box.length≤1∧r.Text.size≤100000)(hl:X.length≤2000)(hn:2010≤n)(v:Int)(hv:min (max v 0) 1048576=w)(S0 S:List Nat)(hS:S=S0++[X.length])(hA:wD X.length S)(hSl:S.length≤2001):∀(m i:Nat) (h:Int) (acc:List ai),i<S.length→S.length<m+i→acc.length≤i →
  nf K n s v X (S0.map fun (k:Nat)=>(k:Int)) m h ((S.length-1:Nat):Int) (i:Int) acc=some (acc++(fR s w X h (S.drop i)).1,(fR s w X h (S.drop i)).2):=by
 have hSm:(S0.map fun (k:Nat)=>(k:Int))++[(X.length:Int)]=S.map fun (k:Nat)=>(k:Int):=by rw[hS];simp
 have hget:∀j,j<S.length→(S.map fun (k:Nat)=>(k:Int)).getD j default=((S.getD j 0:Nat):Int):=fun j hj=>by
  rw[cZ (by simpa using hj),List.getElem_map];congr 1;simp[List.getD,hj]
 intro m
 induction m with
 | zero=>intro i h acc h1 h2;omega
 | succ m ih =>
  intro i h acc h1 h2 h3;show o8 K n s v X (S0.map fun (k:Nat)=>(k:Int)) (nf K n s v X (S0.map fun (k:Nat)=>(k:Int)) m) h ((S.length-1:Nat):Int) i acc=_;unfold o8;have e1:ab ((i:Int)+1)=((i+1:Nat):Int):=by rw[cz (by omega) (by omega)];omega
  rw[hSm,e1];have hd:S.drop i=S.getD i 0::S.drop (i+1):=by rw[List.drop_eq_getElem_cons h1];congr 1;simp[List.getD,h1]
  by_cases hi:i+1<S.length
  ·have g1:=hget i h1;have g2:=hget (i+1) hi;obtain⟨a1,a2⟩:=CZ hA i hi;have hd2:S.drop (i+1)=S.getD (i+1) 0::S.drop (i+2):=by rw[List.drop_eq_getElem_cons hi];congr 1;simp[List.getD,hi]
   rw[if_pos (by simp;omega),dd (by omega) (by simp;omega),bg,dd (by omega) (by simp;omega),bg];simp only[Int.toNat_natCast,g1,g2];rw[show cH ((S.getD i 0:Nat):Int) ((S.getD (i+1) 0:Nat):Int) X.length=true by simp only[cH,Bool.and_eq_true,decide_eq_true_eq];omega,bg];have hsl:List.drop (S.getD i 0) (List.take (S.getD (i+1) 0) X)=sl X (S.getD i 0) (S.getD (i+1) 0):=rfl;have h5:=Cc X (S.getD i 0) (S.getD (i+1) 0);rw[hsl,hv,LU (fun r hr=>hb r (by unfold sl at hr;exact List.mem_of_mem_take (List.mem_of_mem_drop hr))) (by omega) (by omega)];simp only[Option.bind_some];rw[cW (by simp;omega) (by omega),bg,ih (i+1) _ _ (by omega) (by omega) (by simp;omega),hd,hd2]
   conv=>rhs;unfold fR
   rw[←hd2];simp[List.append_assoc]
  ·rw[if_neg (by simp;omega),hd,List.drop_eq_nil_of_le (by omega)];simp[fR]
end
end
end Go.Proofs.YtocgkfoifehcbaaGreat
namespace Go.Proofs.YtocgkfoifehcbaaGreat
set_option linter.all false
open Go.RowKit
noncomputable section
theorem QX(l:List R4)(w:Int)(m a:Nat)(ha:a≤l.length)(hm:l.length<m+a):∃r,bM l w m a++[l.length]=a::r:=by
 cases m with
 | zero=>omega
 | succ m =>
  unfold bM;by_cases h:a<l.length
  ·rw[if_pos h];exact⟨_,rfl⟩
  ·rw[if_neg h];exact⟨[],by rw[List.nil_append,show a=l.length by omega]⟩
theorem MJ(l:List R4)(w:Int):∀(m a:Nat),a≤l.length→l.length<m+a→wD l.length (bM l w m a++[l.length]):=by
 intro m
 induction m with
 | zero=>intro a h1 h2;omega
 | succ m ih =>
  intro a h1 h2;unfold bM;by_cases h:a<l.length
  ·rw[if_pos h];have q1:=ue (l:=l) (i:=a+1) (by omega);have q2:=mz l (a+1);have q3:=xD l w a l.length _ q1;have q4:=tA l w a l.length (gr l (a+1));have h3:=ih (lE l w a l.length (gr l (a+1))) q3 (by omega);obtain⟨r,hr⟩:=QX l w m (lE l w a l.length (gr l (a+1))) q3 (by omega);rw[List.cons_append];rw[hr]at h3⊢;exact⟨by omega,q3,h3⟩
  ·rw[if_neg h];trivial
theorem Kp{P:au→Prop}{pl:aa→au}(h1:∀e g,P (runM { cv with Forced:=true } e g)):∀(m:Nat) (p:Option aD) (l:List aD),(∀e∈l,e.Kind=3→∀g,P (runM (pl e.Box) e g))→(∀e g (x:List aD),x≠[]→x.length≤l.length→(∀y∈x,y∈l)→P (runM (eW x) e g))→∀r∈cM pl m p l,P r:=by
 intro m
 induction m with
 | zero=>intro p l _ _ r hr;cases hr
 | succ m ih =>
  intro p l h2 h3 r hr;cases l with
  | nil=>cases hr
  | cons e t =>
   unfold cM at hr;cases k2:(e.Kind == 2) with
   | true =>
    rw[k2]at hr;rcases List.mem_cons.1 hr with rfl|hr
    ·exact h1 _ _
    ·exact ih (some e) t (fun e he=>h2 e (by simp[he])) (fun e g x q1 q2 q3=>h3 e g x q1 (by simp;omega) (fun y hy=>by simp[q3 y hy])) r hr
   | false =>
    cases k3:(e.Kind == 3) with
    | true =>
     rw[k2,k3]at hr;rcases List.mem_cons.1 hr with rfl|hr
     ·exact h2 e (by simp) (by simpa using k3) _
     ·exact ih (some e) t (fun e he=>h2 e (by simp[he])) (fun e g x q1 q2 q3=>h3 e g x q1 (by simp;omega) (fun y hy=>by simp[q3 y hy])) r hr
    | false =>
     rw[k2,k3]at hr;rcases List.mem_cons.1 hr with rfl|hr
     ·refine h3 _ _ _ (by simp) (by simp;omega) (fun y hy=>?_);rcases List.mem_cons.1 hy with rfl|hy
      ·simp
      ·exact List.mem_cons_of_mem _ (List.mem_of_mem_take hy)
     ·refine ih _ _ (fun e he=>h2 e (List.mem_cons_of_mem _ (List.mem_of_mem_drop he))) (fun e g x q1 q2 q3=>h3 e g x q1 (by simp at q2⊢;omega) (fun y hy=>List.mem_cons_of_mem _ (List.mem_of_mem_drop (q3 y hy)))) r hr
theorem Mt{x:List aD}(h:∀e∈x,j0 e):(eW x).Text.size≤4*x.length:=by
 have:=uk (yN h);unfold eW;simp only[];rw[w7];have:(cq x).length=x.length:=by unfold cq;simp
 omega
def eD(v:Int):Int:=min (max v 0) 1048576
def gq(X:List au)(w:Int):List Nat:=bM (X.map vI) w (X.length+1) 0++[X.length]
def eZ(L:List aa):Prop:=∀b∈L,b.Kind=3
theorem S2:∀(L:List aa) (s:Int×List aD),eZ L→(∀x∈s.2,x.Kind≠3)→∀x∈(vM 1 L s).2,x.Kind≠3:=by
 intro L
 induction L with
 | nil=>intro s _ hs;exact hs
 | cons b r ihL =>
  intro s hL hs;rw[kn,List.foldl_cons,← kn];have hb:=hL b List.mem_cons_self;refine ihL _ (fun c hc=>hL c (List.mem_cons_of_mem _ hc)) ?_;unfold fE;rw[hb];cases kS b with
  | false=>exact hs
  | true=>exact BI (P:=fun x=>x.Kind≠3) b _ (fun _ _ _=>(by show(1:Int)≠3;decide)) (by show(2:Int)≠3;decide) (fun _=>(by show(1:Int)≠3;decide)) (fun _=>(by show(1:Int)≠3;decide)) _ _ EM hs
def yr(b:aa):au:=cv
def fH(bx:List aa):List au:=oy yr (gX 1 bx)
theorem Kk(bx:List aa):(fH bx).length≤dv 1 bx:=by
 unfold fH oy;have h1:=Qc yr ((gX 1 bx).length+1) none (gX 1 bx);have h2:=Ax 1 bx;omega
theorem Aw{bx:List aa}(h:eZ bx):∀e∈gX 1 bx,e.Kind≠3:=S2 bx (0,[]) h (fun x hx=>by cases hx)
theorem K9{bx:List aa}(h:eZ bx)(hc:dv 1 bx≤2000):∀r∈fH bx,r.Box.length≤1∧r.Text.size≤100000:=by
 have hlen:=Ax 1 bx;unfold fH oy;refine Kp (P:=fun r=>r.Box.length≤1∧r.Text.size≤100000) (fun e g=>⟨by simp[runM,cv],by show(⟨#[]⟩:ByteArray).size≤100000;decide⟩) _ _ _ (fun e he h3 g=>absurd h3 (Aw h e he)) (fun e g x q1 q2 q3=>⟨by simp[runM,eW,cv],?_⟩);have:=Mt (x:=x) (fun y hy=>Ee 1 bx y (q3 y hy));show(eW x).Text.size≤100000;omega
theorem QL{bx:List aa}(h:eZ bx)(hl:bx.length≤1000)(ht:∀b∈bx,b.Text.size≤1000):Dp 1 bx:=by
 unfold Dp;exact⟨hl,fun b hb=>⟨ht b hb,fun e=>by rw[h b hb]at e;cases e⟩⟩
theorem QF{bx:List aa}(h:eZ bx)(hl:bx.length≤1000)(ht:∀b∈bx,b.Text.size≤1000)(hc:dv 1 bx≤2000){N:Nat}(hN:9001≤N)(w:Int)(env:bF):qi (KN N) N bx w env=some (fH bx):=by
 unfold qi;rw[show nr (KN N) N bx _=_ from U0 (pl:=yr) (QL h hl ht) hc (by omega) (fun e he h3=>absurd h3 (Aw h e he))];rfl
def jK(bx:List aa)(s:aJ)(v:Int):List ai×Int:=fR s (eD v) (fH bx) 0 (gq (fH bx) (eD v))
theorem UZ{bx:List aa}(h:eZ bx)(hl:bx.length≤1000)(ht:∀b∈bx,b.Text.size≤1000)(hc:dv 1 bx≤2000){N:Nat}(hN:9001≤N)(s:aJ)(v:Int)(env:bF):tm (KN N) N bx s v env=some (jK bx s v):=by
 have hr:=QF h hl ht hc hN (eD v) env;have hXl:=Kk bx;have hXo:=K9 h hc;unfold jK;generalize fH bx=X at *;unfold tm;rw[show min (max v 0) 1048576=eD v from rfl,hr];simp only[Option.bind_some];rw[MO (by omega) (by omega)];simp only[Option.bind_some];have hbl:=yI (X.map vI) (eD v) (X.length+1) 0;simp only[List.length_map]at hbl;rw[cW (by simp;omega) (by omega),bg];have hA:=MJ (X.map vI) (eD v) (X.length+1) 0 (by omega) (by simp);rw[List.length_map]at hA;have hSl:(gq X (eD v)).length≤2001:=by unfold gq;simp only[List.length_append,List.length_cons,List.length_nil];omega
 have hSp:0<(gq X (eD v)).length:=by unfold gq;simp
 have hel:(((bM (X.map vI) (eD v) (X.length+1) 0).map fun (k:Nat)=>(k:Int))++[(X.length:Int)]).length=(gq X (eD v)).length:=by unfold gq;simp
 rw[hel,show ab (((gq X (eD v)).length:Int)-1)=(((gq X (eD v)).length-1:Nat):Int) by rw[cz (by omega) (by omega)];omega];have:=OY (K:=KN N) (n:=N) (X:=X) (s:=s) (w:=eD v) hXo (by omega) (by omega) v rfl (bM (X.map vI) (eD v) (X.length+1) 0) (gq X (eD v)) rfl hA hSl N 0 0 [] hSp (by omega) (by simp);rw[List.drop_zero,List.nil_append]at this;exact this
end
end Go.Proofs.YtocgkfoifehcbaaGreat
namespace Go.Proofs.YtocgkfoifehcbaaGreat
set_option linter.all false
open Go.RowKit
set_option linter.unusedSimpArgs false
theorem LZ(K:Kn)(n:Nat)(L:List ai)(hL:(L.length:Int)≤9223372036854775807):∀(m:Nat) (i h:Int) (b:aW) (t:Bool) (mm:aW) (l:List ai),0≤i→i≤L.length→(L.length:Int)<m+i→((l.length:Int)+L.length)*584≤140737488355328+i*584 →
  ∃r,l7 K n L m h t i b mm l=some r∧(r.1.length:Int)=l.length+L.length-i∧(∀f∈r.1,f∈l∨∃g∈L,f.Kids=g.Kids):=by
 intro m
 induction m with
 | zero=>intro i _ _ _ _ _ h0 h1 h2 _;omega
 | succ m ih =>
  intro i h b t mm l h0 h1 h2 h3;simp only[l7,tD];by_cases hi:i<(L.length:Int)
  ·have hin:=dd h0 hi;have hw:ab (i+1)=i+1:=cz (by omega) (by omega);have hf:fits (l.length+1) 584=true:=cW (by omega) (by omega);have key:∀(h':Int) (t':Bool) (b' mm':aW) (y:Int),∃r,l7 K n L m h' t' (i+1) b' mm' (l++[{ L.getD i.toNat default with Y:=y }])=some r∧(r.1.length:Int)=l.length+L.length-i∧(∀f∈r.1,f∈l∨∃g∈L,f.Kids=g.Kids):=by
    intro h' t' b' mm' y;obtain⟨r,hr,hlen,hk⟩:=ih (i+1) h' b' t' mm' (l++[{ L.getD i.toNat default with Y:=y }]) (by omega) (by omega) (by omega) (by simp only[List.length_append,List.length_cons,List.length_nil];omega);refine⟨r,hr,by rw[hlen];simp only[List.length_append,List.length_cons,List.length_nil];omega,fun f hf=>?_⟩;rcases hk f hf with hm|hm
    ·rcases List.mem_append.1 hm with hm|hm
     ·exact .inl hm
     ·right;have hlt:i.toNat<L.length:=by omega
      refine⟨L[i.toNat],List.getElem_mem _,?_⟩;simp only[List.mem_cons,List.not_mem_nil,or_false]at hm;rw[hm,cZ hlt]
    ·exact .inr hm
   simp only[hi,decide_true,if_true,hin,bg,ju,jQ,Option.bind_some,qY,sn,tN,List.length_cons,List.length_nil,Nat.zero_add,hf,hw]
   repeat (first|exact key _ _ _ _ _|split)
  ·have:decide (i<(L.length:Int))=false:=by simpa using hi
   simp only[this,Bool.false_eq_true,if_false,rD];split<;>exact⟨_,rfl,by show(l.length:Int)=_;omega,fun f hf=>.inl hf⟩
theorem HF(K:Kn)(n:Nat)(L:List ai)(hn:L.length<n)(hL:L.length*584≤140737488355328):∃r,jS K n L=some r∧r.1.length=L.length∧∀f∈r.1,∃g∈L,f.Kids=g.Kids:=by
 obtain⟨r,h1,hlen,h2⟩:=LZ K n L (by omega) n 0 0 cO true cO [] (by omega) (by omega) (by omega) (by simp;omega);exact⟨r,h1,by simp only[List.length_nil]at hlen;omega,fun f hf=>(h2 f hf).elim (fun h=>by cases h) (fun h=>h)⟩
end Go.Proofs.YtocgkfoifehcbaaGreat
namespace Go.Proofs.YtocgkfoifehcbaaGreat
set_option linter.all false
open Go.RowKit
def sA(l:dg)(b:Int):Int×Bool :=
 if l.Kind=1 then (min (max l.Value (-1048576)) 1048576,true)
 else if l.Kind=2 then (min (max (ab (Int.tdiv (ab ((min (max b 0) 1048576)*(min (max l.Value (-1000000)) 1000000))) 10000)) (-1048576)) 1048576,true)
 else (0,false)
section
variable(K:Kn)(n:Nat)
theorem GI(l:dg)(b:Int):dx K n l b=some (sA l b):=by
 unfold dx sA;by_cases h1:l.Kind=1
 ·simp[h1,nB]
 ·by_cases h2:l.Kind=2
  ·simp[h2,nB,eS]
  ·simp[h1,h2]
def fe(l:dg):Prop := -16777216≤l.Value∧l.Value≤16777216
theorem fm(l:dg):∃b,d9 K n l=some b∧(b=true→fe l):=by
 unfold d9 pX;by_cases h:l.Value ≥ -16777216
 ·simp only[h,decide_true,if_true];exact⟨_,rfl,fun e=>⟨h,of_decide_eq_true e⟩⟩
 ·simp only[h,decide_false,Bool.false_eq_true,if_false];exact⟨_,rfl,fun e=>by cases e⟩
structure lU(x:aw):Prop where
 text:(x.Text.size:Int)≤60
 left:fe x.Style.Left
 top:fe x.Style.Top
 width:fe x.Style.Width
 height:fe x.Style.Height
 minw:fe x.Style.MinWidth
 maxw:fe x.Style.MaxWidth
 basis:fe x.Style.Basis
 lh:0≤x.Style.LineHeight∧x.Style.LineHeight≤65536
 fs:0≤x.Style.FontSize∧x.Style.FontSize≤65536
 grow:0≤x.Style.Grow∧x.Style.Grow≤1048576
 shrink:0≤x.Style.Shrink∧x.Style.Shrink≤1048576
 m0:fe x.Style.Margin.a0
 m1:fe x.Style.Margin.a1
 m2:fe x.Style.Margin.a2
 m3:fe x.Style.Margin.a3
 p0:fe x.Style.Padding.a0
 p1:fe x.Style.Padding.a1
 p2:fe x.Style.Padding.a2
 p3:fe x.Style.Padding.a3
theorem Og(L:List aw)(m:Int)(L1:Int→Option Bool)(i:Int)(h0:0≤i)(hi:i<L.length):jI K n L m L1 i=some false∨(lU (L.getD i.toNat default)∧jI K n L m L1 i=L1 (ab (i+1))):=by
 unfold jI;simp only[hi,decide_true,if_true,dd h0 hi,bg];generalize hx:L.getD i.toNat default=x;have j5:∀b,pk K n L m i L1 b=if b=true then some false else L1 (ab (i+1)):=fun b=>rfl;obtain⟨b1,e1,f1⟩:=fm K n x.Style.Left;obtain⟨b2,e2,f2⟩:=fm K n x.Style.Top;obtain⟨b3,e3,f3⟩:=fm K n x.Style.Width;obtain⟨b4,e4,f4⟩:=fm K n x.Style.Height;obtain⟨b5,e5,f5⟩:=fm K n x.Style.MinWidth;obtain⟨b6,e6,f6⟩:=fm K n x.Style.MaxWidth;obtain⟨b7,e7,f7⟩:=fm K n x.Style.Basis;obtain⟨c0,g0,k0⟩:=fm K n x.Style.Margin.a0;obtain⟨c1,g1,k1⟩:=fm K n x.Style.Margin.a1;obtain⟨c2,g2,k2⟩:=fm K n x.Style.Margin.a2;obtain⟨c3,g3,k3⟩:=fm K n x.Style.Margin.a3;obtain⟨d0,q0,r0⟩:=fm K n x.Style.Padding.a0;obtain⟨d1,q1,r1⟩:=fm K n x.Style.Padding.a1;obtain⟨d2,q2,r2⟩:=fm K n x.Style.Padding.a2;obtain⟨d3,q3,r3⟩:=fm K n x.Style.Padding.a3;have jt:dG K n L m i L1 true=some false:=rfl;have j1:dG K n L m i L1 false=some false∨((c0=true∧c1=true∧c2=true∧c3=true∧d0=true∧d1=true∧d2=true∧d3=true)∧dG K n L m i L1 false=L1 (ab (i+1))):=by
  simp only[dG,sX,qX,rf,pk,hx,g0,g1,g2,g3,q0,q1,q2,q3,Option.bind_some];cases c0<;>cases d0<;>cases c1<;>cases d1<;>cases c2<;>cases d2<;>cases c3<;>cases d3<;>simp
 simp only[e1,e2,e3,e4,e5,e6,e7,Option.bind_some,jt];by_cases t0:(x.Text.size:Int)>60
 ·left;simp[t0]
 simp only[t0,decide_false,Bool.false_eq_true,if_false];cases b1
 ·left;simp
 simp only[Bool.not_true,Bool.false_eq_true,if_false];cases b2
 ·left;simp
 simp only[Bool.not_true,Bool.false_eq_true,if_false];cases b3
 ·left;simp
 simp only[Bool.not_true,Bool.false_eq_true,if_false];cases b4
 ·left;simp
 simp only[Bool.not_true,Bool.false_eq_true,if_false];cases b5
 ·left;simp
 simp only[Bool.not_true,Bool.false_eq_true,if_false];cases b6
 ·left;simp
 simp only[Bool.not_true,Bool.false_eq_true,if_false];cases b7
 ·left;simp
 simp only[Bool.not_true,Bool.false_eq_true,if_false];by_cases u1:x.Style.LineHeight<0
 ·left;simp[u1]
 simp only[u1,decide_false,Bool.false_eq_true,if_false];by_cases u2:x.Style.LineHeight>65536
 ·left;simp[u2]
 simp only[u2,decide_false,Bool.false_eq_true,if_false];by_cases u3:x.Style.FontSize<0
 ·left;simp[u3]
 simp only[u3,decide_false,Bool.false_eq_true,if_false];by_cases u4:x.Style.FontSize>65536
 ·left;simp[u4]
 simp only[u4,decide_false,Bool.false_eq_true,if_false];by_cases u5:x.Style.Grow<0
 ·left;simp[u5]
 simp only[u5,decide_false,Bool.false_eq_true,if_false];by_cases u6:x.Style.Grow>1048576
 ·left;simp[u6]
 simp only[u6,decide_false,Bool.false_eq_true,if_false];by_cases u7:x.Style.Shrink<0
 ·left;simp[u7]
 simp only[u7,decide_false,Bool.false_eq_true,if_false];by_cases u8:x.Style.Shrink>1048576
 ·left;simp only[u8,decide_true];exact jt
 simp only[u8,decide_false];rcases j1 with h|⟨⟨a0,a1,a2,a3,p0,p1,p2,p3⟩,h⟩
 ·exact .inl h
 ·refine .inr ⟨⟨by omega,f1 rfl,f2 rfl,f3 rfl,f4 rfl,f5 rfl,f6 rfl,f7 rfl,⟨by omega,by omega⟩,⟨by omega,by omega⟩,⟨by omega,by omega⟩,⟨by omega,by omega⟩,k0 a0,k1 a1,k2 a2,k3 a3,r0 p0,r1 p1,r2 p2,r3 p3⟩,h⟩
theorem PR(L:List aw)(mx:Int)(hL:(L.length:Int)≤9223372036854775807):∀(m:Nat) (i:Int),0≤i→i≤L.length→(L.length:Int)<m+i →
  ∃b,lA K n L mx m i=some b∧(b=true→(L.length:Int)≤mx∧∀k,i.toNat≤k→k<L.length→lU (L.getD k default)):=by
 intro m
 induction m with
 | zero=>intro i h0 h1 h2;omega
 | succ m ih =>
  intro i h0 h1 h2;show ∃b,jI K n L mx (lA K n L mx m) i=some b∧_;by_cases hi:i<(L.length:Int)
  ·rcases Og K n L mx (lA K n L mx m) i h0 hi with h|⟨h,h'⟩
   ·exact⟨false,h,fun e=>by cases e⟩
   ·obtain⟨b,hb,hk⟩:=ih (i+1) (by omega) (by omega) (by omega);rw[h',cz (by omega) (by omega)];refine⟨b,hb,fun e=>⟨(hk e).1,fun k h3 h4=>?_⟩⟩;by_cases e2:k=i.toNat
    ·subst e2;exact h
    ·exact(hk e).2 k (by omega) h4
  ·have hd:decide (i<(L.length:Int))=false:=by simpa using hi
   unfold jI;simp only[hd,Bool.false_eq_true,if_false];exact⟨_,rfl,fun e=>⟨of_decide_eq_true e,fun k h3 h4=>by omega⟩⟩
theorem EX(L:List aw)(mx:Int)(hL:(L.length:Int)≤9223372036854775807)(hn:L.length<n):∃b,qK K n L mx=some b∧(b=true→(L.length:Int)≤mx∧∀x∈L,lU x):=by
 obtain⟨b,h1,h2⟩:=PR K n L mx hL n 0 (by omega) (by omega) (by omega);refine⟨b,h1,fun e=>⟨(h2 e).1,fun x hx=>?_⟩⟩;obtain⟨k,hk,rfl⟩:=List.mem_iff_getElem.1 hx;have:=(h2 e).2 k (by simp) hk;rwa[cZ hk]at this
end
end Go.Proofs.YtocgkfoifehcbaaGreat
namespace Go.Proofs.YtocgkfoifehcbaaGreat
set_option linter.all false
open Go.RowKit
theorem uj{i:Nat}(h:i<1000000):ab ((i:Int)+1)=((i+1:Nat):Int):=by rw[cz (by omega) (by omega)];omega
theorem t8{i n:Nat}(h:i<n):decide ((i:Int)<(n:Int))=true:=by simpa using h
theorem wI{i n:Nat}(h:n≤i):decide ((i:Int)<(n:Int))=false:=by simpa using h
theorem ng{i n:Nat}(h:i<n):aX (i:Int) n=true:=dd (by omega) (by omega)
theorem drop_at'{α:Type}[Inhabited α]{L:List α}{i:Nat}(h:i<L.length):L.drop i=L.getD i default::L.drop (i+1):=by
 rw[cZ h];exact List.drop_eq_getElem_cons h
theorem fi{α:Type}[Inhabited α]{L:List α}{i:Nat}(h:i<L.length):L.getD i default∈L:=by
 rw[cZ h];exact List.getElem_mem h
def jn(k:aa):Bool:=k.Kind == 3||k.Style.Position != 2
def ek(k:aa):Bool:=k.Kind == 1||(k.Kind == 6||k.Kind == 7)
theorem SC(K:Kn)(n:Nat)(k:aa):gv K n k=some (jn k):=by
 unfold gv jn qh;cases h:k.Kind == 3<;>simp
theorem C4(K:Kn)(n:Nat)(k:aa):nS K n k=some (ek k):=by
 unfold nS ek pf;cases h:k.Kind == 1<;>cases h2:k.Kind == 6<;>simp
theorem OF(K:Kn)(n:Nat)(hO:∀x,K.iq (Fv.fn 145) x=some (ek x))(L:List aa)(hL:L.length≤20):∀(m i:Nat),i≤L.length→L.length<m+i →
  ∃r,ic K n L (Fv.fn 145) m i=some r∧decide (r≥0)=(L.drop i).any ek:=by
 intro m
 induction m with
 | zero=>intro i h1 h2;omega
 | succ m ih =>
  intro i h1 h2;simp only[ic,ou];by_cases hi:i<L.length
  ·rw[drop_at' hi];simp only[t8 hi,if_true,ng hi,bg,hO,Option.bind_some,Int.toNat_natCast,List.any_cons,uj (show i<1000000 by omega)];cases hq:ek (L.getD i default)
   ·simp only[Bool.false_eq_true,if_false,Bool.false_or];exact ih (i+1) (by omega) (by omega)
   ·exact⟨_,rfl,by simp⟩
  ·have e:i=L.length:=by omega
   subst e;simp only[wI (Nat.le_refl _),Bool.false_eq_true,if_false,List.drop_length];exact⟨_,rfl,by simp⟩
theorem S7(K:Kn)(n:Nat)(hO:∀x,K.iq (Fv.fn 145) x=some (ek x))(L:List aa)(hL:L.length≤20)(hn:20<n):ln K n L (Fv.fn 145)=some (L.any ek):=by
 obtain⟨r,h1,h2⟩:=OF K n hO L hL n 0 (by omega) (by omega);unfold ln sh;rw[show ic K n L (Fv.fn 145) n 0=some r from h1];simp only[Option.bind_some,h2,List.drop_zero]
theorem NB(K:Kn)(n:Nat)(b:aa)(hb:b.Kids.length≤20):∀(m i:Nat) (acc:List aa),i≤b.Kids.length→b.Kids.length<m+i→acc.length≤i →
  oQ K n b m i acc=(ln K n (acc++(b.Kids.drop i).filter jn) (Fv.fn 145)).bind fun v=>some (acc++(b.Kids.drop i).filter jn,v):=by
 intro m
 induction m with
 | zero=>intro i acc h1 h2;omega
 | succ m ih =>
  intro i acc h1 h2 h3;simp only[oQ,si];by_cases hi:i<b.Kids.length
  ·rw[drop_at' hi];simp only[t8 hi,if_true,ng hi,bg,SC,Option.bind_some,qM,Int.toNat_natCast,List.length_cons,List.length_nil,uj (show i<1000000 by omega),List.filter_cons];cases hq:jn (b.Kids.getD i default)
   ·simp only[Bool.false_eq_true,if_false];exact ih (i+1) acc (by omega) (by omega) (by omega)
   ·simp only[if_true];rw[cW (by omega) (by omega),bg,ih (i+1) _ (by omega) (by omega) (by simp;omega)];simp only[List.append_assoc,List.singleton_append]
  ·have e:i=b.Kids.length:=by omega
   subst e;simp only[wI (Nat.le_refl _),Bool.false_eq_true,if_false,List.drop_length,List.filter_nil,List.append_nil]
def eQ(b:aa):List aa:=b.Kids.filter jn
theorem EF{b:aa}:(eQ b).length≤b.Kids.length:=List.length_filter_le _ _
theorem Ka(K:Kn)(n:Nat)(hO:∀x,K.iq (Fv.fn 145) x=some (ek x))(b:aa)(hb:b.Kids.length≤20)(hn:20<n):oG K n b=some (eQ b,(eQ b).any ek):=by
 have h:=NB K n b hb n 0 [] (by omega) (by omega) (by simp);unfold oG;refine (show _=_ from h).trans ?_;simp only[List.nil_append,List.drop_zero];rw[show b.Kids.filter jn=eQ b from rfl,S7 K n hO _ (Nat.le_trans EF hb) hn];rfl
def tp(f:ai)(w:Int):ai :=
 if f.Style.Position=1 then { f with X:=ab (f.X+(sA f.Style.Left w).1),Y:=if f.Style.Top.Kind=1 then ab (f.Y+(sA f.Style.Top 0).1) else f.Y } else f
theorem T3(K:Kn)(n:Nat)(f:ai)(w:Int):qx K n f w=some (tp f w):=by
 unfold qx tp;simp only[GI,Option.bind_some,rE];by_cases h:f.Style.Position=1
 ·by_cases h2:f.Style.Top.Kind=1<;>simp[h,h2]
 ·simp[h]
theorem Lm(f:ai)(w:Int):(tp f w).Kids=f.Kids:=by unfold tp;split<;>rfl
end Go.Proofs.YtocgkfoifehcbaaGreat
namespace Go.Proofs.YtocgkfoifehcbaaGreat
set_option linter.all false
open Go.RowKit
abbrev cU:=List aG
def kM(bl:Bool)(z:bO)(down:Int)(f:ai):ai :=
 if bl=true then tp { f with X:=ab (f.X+ab (z.Border.a3+z.Padding.a3)),Y:=ab (f.Y+ab (ab (z.Border.a0+z.Padding.a0)+down)) } z.Content
 else { f with X:=ab (f.X+ab (z.Border.a3+z.Padding.a3)),Y:=ab (f.Y+ab (ab (z.Border.a0+z.Padding.a0)+down)) }
theorem Ru(bl:Bool)(z:bO)(down:Int)(f:ai):(kM bl z down f).Kids=f.Kids:=by
 unfold kM;split
 ·rw[Lm]
 ·rfl
def i7(b:aa)(z:bO)(bl:Bool)(L:List ai)(d:Int)(bf af:aW)(em:Bool)(h:Int):ai :=
 ⟨1,b.Node,z.Margin.a3,0,ab (z.Content+ab (ab (ab (z.Border.a3+z.Padding.a3)+z.Border.a1)+z.Padding.a1)),ab (ab (ab (ab (h+z.Border.a0)+z.Padding.a0)+z.Border.a2)+z.Padding.a2),0,⟨#[]⟩,b.Style,bf,af,em,L.map (kM bl z d)⟩
theorem OJ{α:Type}(A R:List α)(x y:α):(A++x::R).set A.length y=A++y::R:=by
 rw[List.set_append_right _ _ (Nat.le_refl _)];simp
theorem P9{α:Type}(A R:List α)(x d:α):(A++x::R).getD A.length d=x:=by simp[List.getD_eq_getElem?_getD]
theorem Rv(K:Kn)(n:Nat)(b:aa)(z:bO)(v6:(List aa)×Bool)(L:List ai)(fr us:Int)(S:cU)(d:Int)(bf af:aW)(em:Bool)(v39 H:Int)(hl:L.length≤100000)(ho:v6.2=true→v6.1.length=L.length∧∀k∈v6.1,ek k=true):
  ∀(m:Nat) (A R:List ai),A.length+R.length=L.length→R.length<m→m9 K n b z v6 L fr us S d bf af em v39 H m (A.length:Int) (A++R) =
   some (⟨1,b.Node,z.Margin.a3,0,ab (z.Content+v39),H,0,⟨#[]⟩,b.Style,bf,af,em,A++R.map (kM v6.2 z d)⟩,fr,us,S):=by
 intro m
 induction m with
 | zero=>intro A R _ h2;omega
 | succ m ih =>
  intro A R h1 h2;simp only[m9,tF];cases R with
  | nil =>
   have e:A.length=L.length:=by simpa using h1
   simp only[wI (show L.length≤A.length by omega),Bool.false_eq_true,if_false,List.map_nil]
  | cons x R =>
   simp only[List.length_cons]at h1 h2;have hA:A.length<L.length:=by omega
   have nx:=ih (A++[kM v6.2 z d x]) R (by simp;omega) (by omega);simp only[List.append_assoc,List.singleton_append,List.length_append,List.length_cons,List.length_nil,Nat.zero_add]at nx;simp only[t8 hA,if_true,Int.toNat_natCast,OJ,P9,ng (show A.length<(A++x::R).length by simp),List.length_append,List.length_cons,ng (show A.length<A.length+(R.length+1) by omega),bg,C4,Option.bind_some,ra,pZ,T3,uj (show A.length<1000000 by omega),List.map_cons];cases hv:v6.2 with
   | false =>
    rw[hv]at nx;simp only[Bool.false_eq_true,if_false];simp only[kM,Bool.false_eq_true,if_false]at nx⊢;exact nx
   | true =>
    rw[hv]at nx;obtain⟨g1,g2⟩:=ho hv;have hin:A.length<v6.1.length:=by omega
    simp only[if_true,ng hin,bg,g2 _ (fi hin)];simp only[kM,if_true]at nx⊢;exact nx
def ku(s:aJ)(h:Int):Int:=if s.Height.Kind=1 then max (min (max s.Height.Value (-1048576)) 1048576) 0 else max h 0
def o6(a b:aW):aW:=⟨max a.Pos b.Pos,min a.Neg b.Neg⟩
def xS(x:Int):aW:=⟨max x 0,min x 0⟩
def mC(b:aa)(z:bO)(t bt outer:Bool)(h:Int)(th:Bool)(bf af:aW)(L:List ai):ai :=
 let a:=xS z.Margin.a0
 let c:=xS z.Margin.a2
 let down:=if t=true then 0 else if (!th)=true then ab (bf.Pos+bf.Neg) else if (!bt)=true then ab (bf.Pos+bf.Neg) else 0
 let before:=if t=true then o6 a bf else a
 if (th&&(t&&bt))=true then i7 b z outer L down (o6 before c) (o6 before c) true (ku b.Style 0)
 else if th=true then (if bt=true then i7 b z outer L down before (o6 c bf) false (ku b.Style down) else i7 b z outer L down before c false (ku b.Style down))
 else if bt=true then i7 b z outer L down before (o6 c af) false (ku b.Style (ab (h+down))) else i7 b z outer L down before c false (ku b.Style (ab (h+ab (down+ab (af.Pos+af.Neg)))))
section
variable(K:Kn)(n:Nat)(b:aa)(z:bO)(L:List ai)(hl:L.length≤100000)(hn:L.length<n)(fr us:Int)(S:cU)(v6:(List aa)×Bool)(ho:v6.2=true→v6.1.length=L.length∧∀k∈v6.1,ek k=true)
include hn hl ho
theorem Uq(d:Int)(bf af:aW)(em:Bool)(h:Int):nQ K n b z v6 L fr us S d bf af em h=some (i7 b z v6.2 L d bf af em h,fr,us,S):=by
 unfold nQ;simp only[xh,Option.bind_some];exact Rv K n b z v6 L fr us S d bf af em _ _ hl ho n [] L (by simp) (by omega)
theorem Pa(d h:Int)(bf af:aW)(em:Bool):jM K n b z v6 L fr us S d h bf af em=some (i7 b z v6.2 L d bf af em (ku b.Style h),fr,us,S):=by
 unfold jM;simp only[GI,Option.bind_some,qj,Uq K n b z L hl hn fr us S v6 ho];by_cases hk:b.Style.Height.Kind=1
 ·simp[hk,ku,sA]
 ·simp only[ku,hk,if_false,beq_iff_eq,Bool.false_eq_true];split<;>rfl
theorem Gx(t bt:Bool)(h:Int)(th:Bool)(bf af:aW):mL K n b z t bt v6 h th bf af L fr us S=some (mC b z t bt v6.2 h th bf af L,fr,us,S):=by
 have hc:∀x y,ju K n x y=some (o6 x y):=fun x y=>rfl;have hs:∀x,jQ K n x=some (ab (x.Pos+x.Neg)):=fun x=>rfl;have hf:∀x,sr K n x=some (xS x):=fun x=>rfl;unfold mL;simp only[hf,Option.bind_some,qe,pP,oU,hc,hs,Pa K n b z L hl hn fr us S v6 ho];unfold mC;cases t<;>cases bt<;>cases th<;>simp
end
def ia(f:aa→Int→Int→cU→Option (ai×Int×Int×cU)):List aa→Int→Int→cU→Option (List ai×Int×Int×cU)
 | [],a,b,S=>some ([],a,b,S)
 | k::r,a,b,S=>(f k a b S).bind fun x=>(ia f r x.2.1 x.2.2.1 x.2.2.2).bind fun y=>some (x.1::y.1,y.2)
theorem B6{f:aa→Int→Int→cU→Option (ai×Int×Int×cU)}:∀{l:List aa} {a b:Int} {S:cU} {r:List ai×Int×Int×cU},ia f l a b S=some r→r.1.length=l.length
 | [],a,b,S,r,h=>by injection h with h;subst h;rfl
 | k::l,a,b,S,r,h=>by
  obtain⟨x,h1,h⟩:=bind_some h;obtain⟨y,h2,h⟩:=bind_some h;injection h with h;subst h
  simp[B6 h2]
theorem Lg(K:Kn)(n:Nat)(b:aa)(z:bO)(v3 v4:Bool)(env:bF)(v6:(List aa)×Bool)(hl:v6.1.length≤1000):
  ∀(m i:Nat) (acc:List ai) (fr us:Int) (S:cU),i≤v6.1.length→v6.1.length<m+i→acc.length≤i→mu K n b z v3 v4 env v6 m i acc fr us S =
   (ia (fun k=>K.gB env.Layout k z.Content) (v6.1.drop i) fr us S).bind fun r=>(jS K n (acc++r.1)).bind fun v12=>mL K n b z v3 v4 v6 v12.2.1 v12.2.2.2.2 v12.2.2.1 v12.2.2.2.1 v12.1 r.2.1 r.2.2.1 r.2.2.2:=by
 intro m
 induction m with
 | zero=>intro i acc fr us S _ h2;omega
 | succ m ih =>
  intro i acc fr us S h1 h2 h3;simp only[mu,sD];by_cases hi:i<v6.1.length
  ·rw[drop_at' hi];simp only[t8 hi,if_true,ng hi,bg,Int.toNat_natCast,List.length_cons,List.length_nil,uj (show i<1000000 by omega),ia];cases hf:K.gB env.Layout (v6.1.getD i default) z.Content fr us S with
   | none=>rfl
   | some x =>
    simp only[Option.bind_some];rw[cW (by omega) (by omega),bg,ih (i+1) _ _ _ _ (by omega) (by omega) (by simp;omega)];cases ia (fun k=>K.gB env.Layout k z.Content) (v6.1.drop (i+1)) x.2.1 x.2.2.1 x.2.2.2 with
    | none=>rfl
    | some y=>simp only[Option.bind_some,List.append_assoc,List.singleton_append]
  ·have e:i=v6.1.length:=by omega
   subst e;simp only[wI (Nat.le_refl _),Bool.false_eq_true,if_false,List.drop_length,ia,Option.bind_some,List.append_nil]
theorem Ac(K:Kn)(n:Nat)(l:List ai)(hl:l.length≤100000):mG K n l=some l:=by
 unfold mG j8;have hf:fits (([]:List ai).length+l.length) 584=true:=by rw[List.length_nil,Nat.zero_add];exact cW (by omega) (by omega)
 rw[hf];cases l<;>simp[bg]
def DF:Nat→ai→Prop
 | 0,_=>False
 | d+1,f=>f.Kids.length≤3000∧∀k∈f.Kids,DF d k
theorem w6:∀{d:Nat} {f g:ai},f.Kids=g.Kids→DF d g→DF d f
 | 0,_,_,_,h=>h
 | d+1,f,g,e,h=>by unfold DF at h⊢;rw[e];exact h
theorem sQ:∀{d e:Nat} {f:ai},DF d f→d≤e→DF e f
 | 0,_,_,h,_=>h.elim
 | d+1,0,_,_,h=>by omega
 | d+1,e+1,f,h,hl=>by unfold DF at h⊢;exact⟨h.1,fun k hk=>sQ (h.2 k hk) (by omega)⟩
theorem AN{d:Nat}{b:aa}{z:bO}{bl:Bool}{L:List ai}{dn:Int}{bf af:aW}{em:Bool}{h:Int}(hl:L.length≤3000)(hd:∀f∈L,DF d f):DF (d+1) (i7 b z bl L dn bf af em h):=by
 unfold DF;refine⟨by simpa[i7]using hl,fun k hk=>?_⟩;have hk':k∈L.map (kM bl z dn):=hk;obtain⟨f,hf,rfl⟩:=List.mem_map.1 hk';exact w6 (Ru _ _ _ _) (hd f hf)
theorem Ha{d:Nat}{b:aa}{z:bO}{t bt o:Bool}{h:Int}{th:Bool}{bf af:aW}{L:List ai}(hl:L.length≤3000)(hd:∀f∈L,DF d f):DF (d+1) (mC b z t bt o h th bf af L):=by
 unfold mC;simp only;split
 ·exact AN hl hd
 ·split
  ·split<;>exact AN hl hd
  ·split<;>exact AN hl hd
theorem GY(N:Nat):∀x,(KN (N+1)).iq (Fv.fn 145) x=some (ek x):=fun x=>C4 (KN N) N x
theorem UO(N:Nat)(b:aa)(z:bO)(t bt:Bool)(env:bF)(hk:b.Kids.length≤20)(hN:100≤N)(ho:(eQ b).any ek=true)(hall:∀k∈eQ b,ek k=true):
  ∃G:List ai→ai,(∀(r:List ai) (d:Nat),r.length=(eQ b).length→(∀f∈r,DF d f)→DF (d+1) (G r))∧∀(fr us:Int) (S:cU),gQ (KN (N+1)) (N+1) b z t bt env fr us S =
   (ia (fun k=>(KN (N+1)).gB env.Layout k z.Content) (eQ b) fr us S).bind fun r=>some (G r.1,r.2.1,r.2.2.1,r.2.2.2):=by
 have hfl:=EF (b:=b)
 let st:List ai→(List ai)×Int×aW×aW×Bool:=fun r=>(jS (KN (N+1)) (N+1) r).getD ([],0,cO,cO,true)
 refine⟨fun r=>mC b z t bt true (st r).2.1 (st r).2.2.2.2 (st r).2.2.1 (st r).2.2.2.1 (st r).1,fun r d hr hd=>?_,fun fr us S=>?_⟩
 ·obtain⟨q,e1,e2,e3⟩:=HF (KN (N+1)) (N+1) r (by omega) (by omega);have hst:st r=q:=by show(jS (KN (N+1)) (N+1) r).getD _=q;rw[e1];rfl
  show DF (d+1) (mC b z t bt true (st r).2.1 (st r).2.2.2.2 (st r).2.2.1 (st r).2.2.2.1 (st r).1);rw[hst];refine Ha (by omega) (fun f hf=>?_);obtain⟨g,hg,e⟩:=e3 f hf;exact w6 e (hd g hg)
 ·unfold gQ;rw[Ka (KN (N+1)) (N+1) (GY N) b hk (by omega),Option.bind_some];simp only[ho,if_true];have h1:=Lg (KN (N+1)) (N+1) b z t bt env (eQ b,true) (by simp only;omega) (N+1) 0 [] fr us S (Nat.zero_le _) (by simp only;omega) (by simp);have h1':mu (KN (N+1)) (N+1) b z t bt env (eQ b,true) (N+1) 0 [] fr us S=_:=h1;rw[h1',List.drop_zero];cases hm:ia (fun k=>(KN (N+1)).gB env.Layout k z.Content) (eQ b) fr us S with
  | none=>rfl
  | some r =>
   have hr:=B6 hm;simp only[Option.bind_some,List.nil_append];obtain⟨q,e1,e2,e3⟩:=HF (KN (N+1)) (N+1) r.1 (by omega) (by omega);have hst:st r.1=q:=by show(jS (KN (N+1)) (N+1) r.1).getD _=q;rw[e1];rfl
   rw[e1,Option.bind_some,hst];exact Gx (KN (N+1)) (N+1) b z q.1 (by omega) (by omega) _ _ _ (eQ b,true) (fun _=>⟨by simp only;omega,hall⟩) t bt _ _ _ _
theorem Sg{bx:List aa}(h:eZ bx):∀r∈fH bx,r.Box=[]:=by
 unfold fH oy;exact Kp (P:=fun r=>r.Box=[]) (fun e g=>rfl) _ _ _ (fun e he h3 g=>absurd h3 (Aw h e he)) (fun e g x q1 q2 q3=>rfl)
theorem PK{f:ai}(h:f.Kids=[]):DF 1 f:=by unfold DF;rw[h];exact⟨by simp,fun k hk=>by cases hk⟩
theorem HQ(above last:Int):∀(X:List au) (i x:Int),(∀r∈X,r.Box=[])→(ge above last i x X).length≤X.length∧∀f∈ge above last i x X,DF 1 f
 | [],i,x,_=>⟨by simp[ge],fun f hf=>by simp[ge]at hf⟩
 | r::t,i,x,h=>by
  have hr:=h r List.mem_cons_self;have hs:(bif i == last then stripR r else r).Box=[]:=by
   cases (i == last)
   ·exact hr
   ·show(stripR r).Box=[];unfold stripR;cases (ir r.Text&&r.Style.WhiteSpace != 2)<;>exact hr
  simp only[ge];generalize (bif i == last then stripR r else r)=r' at *;obtain⟨h1,h2⟩:=HQ above last t (i+1) (ab (x+ab (r'.Width+r'.Space))) (fun q hq=>h q (List.mem_cons_of_mem _ hq));have hrun:(jD above x r').length≤1∧∀f∈jD above x r',DF 1 f:=by
   unfold jD wt;rw[hs];cases r'.Text.data.toList.isEmpty with
   | true=>exact⟨by simp,fun f hf=>by simp at hf⟩
   | false=>exact⟨by simp,fun f hf=>by simp at hf;subst hf;exact PK rfl⟩
  refine⟨by rw[List.length_append,List.length_cons];omega,fun f hf=>?_⟩;rcases List.mem_append.1 hf with hf|hf
  ·exact hrun.2 f hf
  ·exact h2 f hf
theorem R8{s:aJ}{w:Int}{X:List au}(h:∀r∈X,r.Box=[])(hl:X.length≤3000):DF 2 (lT s w X):=by
 obtain⟨h1,h2⟩:=HQ (gC (gp s) X).1 (tP X) X 0 (rH s w (lg (X.map vI))) h;unfold DF;exact⟨by show([]++ge _ _ _ _ X).length≤3000;rw[List.nil_append];omega,fun k hk=>h2 k (by have hk':k∈[]++ge (gC (gp s) X).1 (tP X) 0 (rH s w (lg (X.map vI))) X:=hk;simpa using hk')⟩
theorem GH{s:aJ}{w:Int}{X:List au}(h:∀r∈X,r.Box=[])(hl:X.length≤3000):∀(S:List Nat) (y:Int),∀f∈(fR s w X y S).1,DF 2 f
 | [],y=>fun f hf=>by simp[fR]at hf
 | [a],y=>fun f hf=>by simp[fR]at hf
 | a::b::r,y=>fun f hf=>by
  simp only[fR,List.mem_cons]at hf;rcases hf with rfl|hf
  ·have hsl:∀q∈sl X a b,q.Box=[]:=fun q hq=>h q (EV hq);have hlen:(sl X a b).length≤3000:=by unfold sl;rw[List.length_drop,List.length_take];omega
   exact w6 (g:=lT s w (sl X a b)) rfl (R8 hsl hlen)
  ·exact GH h hl (b::r) _ f hf
theorem N0{bx:List aa}(h:eZ bx)(hc:dv 1 bx≤2000)(s:aJ)(v:Int):(jK bx s v).1.length≤2001∧∀f∈(jK bx s v).1,DF 2 f:=by
 have hXl:=Kk bx;unfold jK;have h1:=CP s (eD v) (fH bx) (gq (fH bx) (eD v)) 0;have hbl:=yI ((fH bx).map vI) (eD v) ((fH bx).length+1) 0;simp only[List.length_map]at hbl;refine⟨?_,GH (Sg h) (by omega) _ _⟩;unfold gq at h1⊢;simp only[List.length_append,List.length_cons,List.length_nil]at h1;omega
theorem U5(N:Nat)(b:aa)(z:bO)(t bt:Bool)(env:bF)(hk:b.Kids.length≤20)(hN:9100≤N)(hT:eZ b.Kids)(ht:∀k∈b.Kids,k.Text.size≤1000)(hc:dv 1 b.Kids≤2000)(hE:∃x0 x1 x2 x3,env.Lines=.c52 x0 x1 x2 x3):
  ∃F:ai,DF 3 F∧∀(fr us:Int) (S:cU),gQ (KN (N+1)) (N+1) b z t bt env fr us S=some (F,fr,us,S):=by
 have hfl:eQ b=b.Kids:=List.filter_eq_self.2 fun k hk=>by unfold jn;rw[hT k hk];rfl
 have hno:(eQ b).any ek=false:=by
  rw[hfl,List.any_eq_false];intro k hk;unfold ek;rw[hT k hk];decide
 obtain⟨x0,x1,x2,x3,hE⟩:=hE;obtain⟨hl1,hl2⟩:=N0 hT hc b.Style z.Content;refine⟨mC b z t bt false (jK b.Kids b.Style z.Content).2 (((jK b.Kids b.Style z.Content).1.length:Int) == 0) cO cO (jK b.Kids b.Style z.Content).1,Ha (by omega) hl2,fun fr us S=>?_⟩;unfold gQ;rw[Ka (KN (N+1)) (N+1) (GY N) b hk (by omega),Option.bind_some];simp only[hno,Bool.false_eq_true,if_false];rw[hfl,hE];have hL:(KN (N+1)).pS (.c52 x0 x1 x2 x3) b.Kids b.Style z.Content=some (jK b.Kids b.Style z.Content):=by
  show rc (KN N) N b.Kids b.Style z.Content ⟨x0,x1,x2,x3⟩=_;unfold rc;rw[UZ hT (by omega) ht hc (by omega)];rfl
 rw[hL,Option.bind_some,Ac _ _ _ (by omega),Option.bind_some];exact Gx (KN (N+1)) (N+1) b z _ (by omega) (by omega) fr us S (b.Kids,false) (fun h=>by cases h) t bt _ _ _ _
end Go.Proofs.YtocgkfoifehcbaaGreat
namespace Go.Proofs.YtocgkfoifehcbaaGreat
set_option linter.all false
open Go.RowKit
theorem RV{x y:dg}:d7 x y=true↔x=y:=by
 cases x;cases y;simp[d7]
theorem Nv{a b c:aa}(h1:gI a b=true)(h2:gI b c=true):gI a c=true:=by
 simp only[gI,kJ,RV,Bool.and_eq_true,beq_iff_eq]at h1 h2⊢
 simp_all
mutual
theorem CU:∀{a b c:aa},cY a b=true→cY b c=true→cY a c=true
 | ⟨k,n,s,t,r,q,ks⟩,b,c,h1,h2=>by
  rw[mQ,Bool.and_eq_true]at h1 h2⊢;exact⟨Nv h1.1 h2.1,Jv (l:=ks) h1.2 h2.2⟩
theorem Jv:∀{l m o:List aa},dK l m=true→dK m o=true→dK l o=true
 | [],[],[],_,_=>rfl
 | a::r,b::q,c::p,h1,h2=>by
  simp only[dK,Bool.and_eq_true]at h1 h2⊢;exact⟨CU h1.1 h2.1,Jv h1.2 h2.2⟩
 | [],_::_,_,h,_=>by cases h
 | _::_,[],_,h,_=>by cases h
 | [],[],_::_,_,h=>by cases h
 | _::_,_::_,[],_,h=>by cases h
end
mutual
theorem IC:∀{a b:aa},cY a b=true→bD a=bD b
 | ⟨k,n,s,t,r,q,ks⟩,b,h1=>by
  rw[mQ,Bool.and_eq_true]at h1;rw[f0,f0 b,CF (l:=ks) h1.2]
theorem CF:∀{l m:List aa},dK l m=true→cc l=cc m
 | [],[],_=>rfl
 | a::r,b::q,h1=>by
  simp only[dK,Bool.and_eq_true]at h1;simp only[cc,IC h1.1,CF h1.2]
 | [],_::_,h=>by cases h
 | _::_,[],h=>by cases h
end
theorem CN{a b:aa}(h:cY a b=true):a.Node=b.Node:=by
 rw[mQ,Bool.and_eq_true]at h;simp only[gI,Bool.and_eq_true,beq_iff_eq]at h;exact h.1.2.1
theorem QN{a b:aa}(h:cY a b=true):a.Kind=b.Kind:=by
 rw[mQ,Bool.and_eq_true]at h;simp only[gI,Bool.and_eq_true,beq_iff_eq]at h;exact h.1.1
theorem FW{α:Type}[Inhabited α]{L:List α}{i:Nat}(h:i<L.length):L.set i (L.getD i default)=L:=by
 rw[cZ h];exact List.set_getElem_self h
theorem SH(K:Kn)(n:Nat)(f:ai)(L:List ai)(hL:L.length≤100000)(hk:∀k∈L,K.td k=some k):∀(m i:Nat),i≤L.length→L.length<m+i →
  nU K n f L m i L=some { f with Kids:=L }:=by
 intro m
 induction m with
 | zero=>intro i h1 h2;omega
 | succ m ih =>
  intro i h1 h2;simp only[nU,sW];by_cases hi:i<L.length
  ·simp only[fh hi,if_true,dR hi,bg,Int.toNat_natCast,hk _ (fi hi),Option.bind_some,FW hi];rw[ec (by omega)];exact ih (i+1) (by omega) (by omega)
  ·simp only[fF (show L.length≤i by omega),Bool.false_eq_true,if_false]
theorem u0:∀(d N:Nat) (f:ai),DF d f→d+3010≤N→kL (KN N) N f=some f
 | 0,_,_,h,_=>h.elim
 | d+1,0,_,_,h=>by omega
 | d+1,N+1,f,h,hN=>by
  unfold DF at h;unfold kL;rw[Ac _ _ _ (by omega),Option.bind_some];have e:=SH (KN (N+1)) (N+1) f f.Kids (by omega) (fun k hk=>u0 d N k (h.2 k hk) (by omega)) (N+1) 0 (Nat.zero_le _) (by omega);rw[show((0:Nat):Int)=0 from rfl]at e;rw[e];cases f;rfl
theorem SK(K:Kn)(n:Nat)(f:ai)(L:List ai)(hL:L.length≤100000)(hk:∀k∈L,K.qZ k=some k):∀(m i:Nat),i≤L.length→L.length<m+i →
  nE K n f L m i L=some { f with Kids:=L }:=by
 intro m
 induction m with
 | zero=>intro i h1 h2;omega
 | succ m ih =>
  intro i h1 h2;simp only[nE,pU];by_cases hi:i<L.length
  ·simp only[fh hi,if_true,dR hi,bg,Int.toNat_natCast,hk _ (fi hi),Option.bind_some,FW hi];rw[ec (by omega)];exact ih (i+1) (by omega) (by omega)
  ·simp only[fF (show L.length≤i by omega),Bool.false_eq_true,if_false]
theorem CG:∀(d N:Nat) (f:ai),DF d f→d+3010≤N→m5 (KN N) N f=some f
 | 0,_,_,h,_=>h.elim
 | d+1,0,_,_,h=>by omega
 | d+1,N+1,f,h,hN=>by
  unfold DF at h;unfold m5;rw[Ac _ _ _ (by omega),Option.bind_some];have e:=SK (KN (N+1)) (N+1) f f.Kids (by omega) (fun k hk=>CG d N k (h.2 k hk) (by omega)) (N+1) 0 (Nat.zero_le _) (by omega);rw[show((0:Nat):Int)=0 from rfl]at e;rw[e];cases f;rfl
def jB(w:Int)(m:aG):Prop:=m.Width=w∧bD m.Box≤100∧DF (bD m.Box+2) m.Fragment
def i8(b:aa)(w:Int)(m:aG):Bool:=m.Width == w&&cY m.Box b
def pm(b:aa)(w fr us:Int)(S R:cU):ai×Bool×Int×Int×cU :=
 match R.find? (i8 b w) with
 | some m=>(m.Fragment,true,fr,us,S)
 | none=>(bG,false,fr,us,S)
theorem Py(N:Nat)(b:aa)(w w':Int)(fr us:Int)(S:cU)(hS:S.length≤100000)(hN:3200≤N)(hm:∀m∈S,jB w' m):∀(m i:Nat),i≤S.length→S.length<m+i →
  pc (KN N) N b w fr us S m i=some (pm b w fr us S (S.drop i)):=by
 intro m
 induction m with
 | zero=>intro i h1 h2;omega
 | succ m ih =>
  intro i h1 h2;simp only[pc,ru];by_cases hi:i<S.length
  ·have nx:=ih (i+1) (by omega) (by omega);have hM:=hm _ (fi hi);rw[drop_at' hi];simp only[fh hi,if_true,dR hi,bg,Int.toNat_natCast,tk];generalize S.getD i default=M at *;rw[uL (bD M.Box) N M.Box b (Nat.le_refl _) (by have:=hM.2.1;omega) (by have:=hM.2.1;omega),Option.bind_some,ec (by omega),nx];cases h1:(M.Width == w) with
   | false=>simp[pm,i8,List.find?_cons,h1]
   | true =>
    cases h2:cY M.Box b with
    | false=>simp[pm,i8,List.find?_cons,h1,h2]
    | true =>
     rw[u0 _ N _ hM.2.2 (by have:=hM.2.1;omega)];simp[pm,i8,List.find?_cons,h1,h2]
  ·simp only[fF (show S.length≤i by omega),Bool.false_eq_true,if_false];rw[List.drop_eq_nil_of_le (by omega)];rfl
theorem TA(N:Nat)(b:aa)(w w':Int)(fr us:Int)(S:cU)(hS:S.length≤3000)(hN:3200≤N)(hm:∀m∈S,jB w' m):s8 (KN N) N b w fr us S=some (pm b w fr us S S):=by
 unfold s8;have:=Py N b w w' fr us S (by omega) hN hm N 0 (Nat.zero_le _) (by omega);simpa using this
theorem Ql(N:Nat)(b:aa)(w w':Int)(fr us:Int)(S:cU)(hS:S.length≤3000)(hN:3200≤N)(hm:∀m∈S,jB w' m):tI (KN N) N b w fr us S =
  some (match S.find? (i8 b w) with
   | some m=>(m.Fragment,true,fr,ab (us+1),S)
   | none=>(bG,false,fr,us,S)):=by
 unfold tI;rw[TA N b w w' fr us S hS hN hm,Option.bind_some];unfold pm;cases S.find? (i8 b w)<;>rfl
theorem S1(N:Nat)(b:aa)(w:Int)(f:ai)(fr us:Int)(S:cU)(hS:S.length≤3000)(hN:3200≤N)(d:Nat)(hd:DF d f)(h100:d≤150)(hf:0≤fr∧fr<100000):sw (KN N) N b w f fr us S=some (fr+1,us,S++[⟨b,w,f⟩]):=by
 unfold sw;rw[u0 d N f hd (by omega),Option.bind_some];simp only[List.length_singleton];rw[cW (by omega) (by omega),bg,cz (by omega) (by omega)]
end Go.Proofs.YtocgkfoifehcbaaGreat
namespace Go.Proofs.YtocgkfoifehcbaaGreat
set_option linter.all false
open Go.RowKit
structure jb(s:aJ):Prop where
 pos:s.Position≠2
 wi:s.Width=bp
 mn:s.MinWidth=bp
 mx:s.MaxWidth=bp
 ma:s.Margin=⟨bp,bp,bp,bp⟩
 pa:s.Padding=⟨bp,bp,bp,bp⟩
 bo:s.Border=⟨0,0,0,0⟩
theorem F9(K:Kn)(n:Nat)(w:Int):dx K n bp w=some (0,false):=rfl
theorem Dc(K:Kn)(n:Nat){s:aJ}(h:jb s){w:Int}(h0:0≤w)(h1:w≤1048576):∃z,oa K n s w=some z∧z.Content=w:=by
 have e1:min (max w 0) 1048576=w:=by omega
 have hw:ab w=w:=cz (by omega) (by omega);have hz:ab 0=0:=rfl;have hm:(max w 0)=w:=by omega
 unfold oa eS kP;simp only[h.ma,h.pa,h.bo,h.wi,F9,Option.bind_some,eS,e1];simp only[ki,Option.bind_some,Bool.not_false,if_true,rX,mN,tf,se,h.mn,h.mx,F9,Bool.false_eq_true,if_false,Int.add_zero,Int.zero_add,hz,Int.sub_zero,hw,hm];simp only[show max (0:Int) 0=0 from rfl,show min (0:Int) 1048576=0 from rfl,Int.add_zero,hw,hz,hm,Int.sub_zero,Int.sub_self,Int.le_refl,decide_true,if_true];exact⟨_,rfl,rfl⟩
mutual
/-- A block whose kids are texts,or blocks;their numbers run on. -/
def RB:Int→aa→Prop
 | lo,⟨k,n,s,_,_,_,ks⟩=>k=1∧n=lo∧jb s∧ks.length≤20∧((eZ ks∧(∀q∈ks,q.Text.size≤90)∧(∀q∈ks,q.Kids=[]))∨eO (lo+1) ks)
def eO:Int→List aa→Prop
 | _,[]=>True
 | lo,b::r=>RB lo b∧eO (lo+(bD b:Int)) r
end
theorem iC{lo:Int}{b:aa}(h:RB lo b):b.Kind=1∧b.Node=lo∧jb b.Style∧b.Kids.length≤20∧((eZ b.Kids∧(∀q∈b.Kids,q.Text.size≤90)∧(∀q∈b.Kids,q.Kids=[]))∨eO (lo+1) b.Kids):=by
 cases b;simp only[RB]at h;exact h
theorem xJ:∀{l:List aa} {lo:Int},eO lo l→∀k∈l,∃p,lo≤p∧RB p k
 | [],_,_,k,hk=>by cases hk
 | b::r,lo,h,k,hk=>by
  simp only[eO]at h;rcases List.mem_cons.1 hk with rfl|hk
  ·exact⟨lo,by omega,h.1⟩
  ·obtain⟨p,h1,h2⟩:=xJ h.2 k hk;exact⟨p,by omega,h2⟩
mutual
/-- The blocks within a box,itself included. -/
def gj:aa→List aa
 | ⟨k,n,s,t,r,c,ks⟩=>if k=1 then ⟨k,n,s,t,r,c,ks⟩::dt ks else []
def dt:List aa→List aa
 | []=>[]
 | b::r=>gj b++dt r
end
theorem tW{b:aa}(h:b.Kind=1):gj b=b::dt b.Kids:=by
 cases b;simp only at h;simp only[gj,h,if_true]
theorem Ex:∀{l:List aa},eZ l→dt l=[]
 | [],_=>rfl
 | ⟨k,n,s,t,r,c,ks⟩::q,h=>by
  have h3:k=3:=h _ List.mem_cons_self;simp only[dt,gj,h3];exact Ex (fun x hx=>h x (List.mem_cons_of_mem _ hx))
mutual
theorem yK:∀b:aa,(gj b).length≤bD b
 | ⟨k,n,s,t,r,c,ks⟩=>by
  simp only[gj,bD];have:=w4 ks;split<;>simp<;>omega
theorem w4:∀l:List aa,(dt l).length≤cc l
 | []=>Nat.le_refl _
 | b::r=>by simp only[dt,cc,List.length_append];have:=yK b;have:=w4 r;omega
end
mutual
/-- How many blocks another box does not contain. -/
def kq(old:aa):aa→Nat
 | ⟨k,n,s,t,r,c,ks⟩=>if k=1 then (if dh ⟨k,n,s,t,r,c,ks⟩ old=true then 0 else 1)+ed old ks else 0
def ed(old:aa):List aa→Nat
 | []=>0
 | b::r=>kq old b+ed old r
end
theorem IT{old b:aa}(h:b.Kind=1):kq old b=(if dh b old=true then 0 else 1)+ed old b.Kids:=by
 cases b;simp only at h;simp only[kq,h,if_true]
structure gG(w:Int)(old:aa)(lo hi:Int)(bs:List aa)(fre:Nat)(us us':Int)(S T:cU):Prop where
 ok:∀m∈T,jB w m∧lo≤m.Box.Node∧m.Box.Node<hi
 len:T.length≤bs.length
 first:(∀m∈S,m.Box.Node<lo)→us'=us∧T.length=bs.length∧∀k∈bs,∃m∈T,m.Box=k
 again:(∀k,dh k old=true→k.Kind=1→11≤k.Node→∃m∈S,m.Width=w∧cY m.Box k=true)→T.length≤fre
theorem gG.nil{w:Int}{old:aa}{lo hi:Int}{fre:Nat}{us:Int}{S:cU}:gG w old lo hi [] fre us us S [] :=
 ⟨fun m hm=>(by cases hm),Nat.le_refl _,fun _=>⟨rfl,rfl,fun k hk=>(by cases hk)⟩,fun _=>Nat.zero_le _⟩
theorem gG.app{w:Int}{old:aa}{lo mid hi:Int}{bs cs:List aa}{f g:Nat}{us u1 u2:Int}{S T U:cU}(h1:gG w old lo mid bs f us u1 S T)(h2:gG w old mid hi cs g u1 u2 (S++T) U)(hl:lo≤mid)(hh:mid≤hi):gG w old lo hi (bs++cs) (f+g) us u2 S (T++U):=by
 refine⟨fun m hm=>?_,?_,fun hS=>?_,fun hS=>?_⟩
 ·rcases List.mem_append.1 hm with hm|hm
  ·obtain⟨a,b,c⟩:=h1.ok m hm;exact⟨a,b,by omega⟩
  ·obtain⟨a,b,c⟩:=h2.ok m hm;exact⟨a,by omega,c⟩
 ·have:=h1.len;have:=h2.len;simp only[List.length_append];omega
 ·obtain⟨a1,a2,a3⟩:=h1.first hS;obtain⟨b1,b2,b3⟩:=h2.first (fun m hm=>by
   rcases List.mem_append.1 hm with hm|hm
   ·have:=hS m hm;omega
   ·exact(h1.ok m hm).2.2)
  refine⟨by rw[b1,a1],by simp only[List.length_append];omega,fun k hk=>?_⟩;rcases List.mem_append.1 hk with hk|hk
  ·obtain⟨m,q1,q2⟩:=a3 k hk;exact⟨m,List.mem_append_left _ q1,q2⟩
  ·obtain⟨m,q1,q2⟩:=b3 k hk;exact⟨m,List.mem_append_right _ q1,q2⟩
 ·have a:=h1.again hS;have b:=h2.again (fun k q1 q2 q3=>by obtain⟨m,r1,r2⟩:=hS k q1 q2 q3;exact⟨m,List.mem_append_left _ r1,r2⟩);simp only[List.length_append];omega
def zg(w:Int)(old:aa)(N:Nat)(b:aa):Prop :=
 ∀(fr us:Int) (S:cU) (lo:Int),RB lo b→11≤lo→0≤fr→fr+(bD b:Int)≤2000→S.length+bD b≤2000→(∀m∈S,jB w m) →
  ∃F us' T,rQ (KN N) N b w true (dm N true true) true fr us S=some (F,fr+(T.length:Int),us',S++T)∧DF (bD b+2) F∧gG w old lo (lo+(bD b:Int)) (gj b) (kq old b) us us' S T
theorem Hf(w:Int)(old:aa)(N:Nat):∀(l:List aa) (fr us:Int) (S:cU) (lo:Int),(∀k∈l,zg w old N k)→eO lo l→11≤lo→0≤fr→fr+(cc l:Int)≤2000→S.length+cc l≤2000→(∀m∈S,jB w m) →
  ∃r us' T,ia (fun k=>(KN (N+1)).gB (dm (N+1) true true).Layout k w) l fr us S=some (r,fr+(T.length:Int),us',S++T)∧(∀f∈r,DF (cc l+2) f)∧gG w old lo (lo+(cc l:Int)) (dt l) (ed old l) us us' S T
 | [],fr,us,S,lo,_,_,_,_,_,_,_=>⟨[],us,[],by simp[ia],fun f hf=>(by cases hf),by simp only[cc,dt];exact gG.nil⟩
 | b::r,fr,us,S,lo,hr,hb,h11,h0,hf,hS,hm=>by
  simp only[eO]at hb;simp only[cc]at hf hS⊢;obtain⟨F,u1,T,e1,e2,e3⟩:=hr b List.mem_cons_self fr us S lo hb.1 h11 h0 (by omega) (by omega) hm;have hTl:=e3.len;have hbl:=yK b;have hszb:=eP b;obtain⟨rs,u2,U,d1,d2,d3⟩:=Hf w old N r (fr+(T.length:Int)) u1 (S++T) (lo+(bD b:Int)) (fun k hk=>hr k (List.mem_cons_of_mem _ hk)) hb.2 (by omega) (by omega) (by omega) (by simp only[List.length_append];omega) (fun m hq=>by
   rcases List.mem_append.1 hq with hq|hq
   ·exact hm m hq
   ·exact(e3.ok m hq).1)
  refine⟨F::rs,u2,T++U,?_,fun f hq=>?_,?_⟩
  ·have e1':(KN (N+1)).gB (dm (N+1) true true).Layout b w fr us S=some (F,fr+(T.length:Int),u1,S++T):=e1;rw[show fr+(((T++U).length:Nat):Int)=fr+(T.length:Int)+(U.length:Int) by rw[List.length_append];omega];simp only[ia,e1',Option.bind_some,d1,List.append_assoc]
  ·rcases List.mem_cons.1 hq with rfl|hq
   ·exact sQ e2 (by omega)
   ·exact sQ (d2 f hq) (by omega)
  ·have:=e3.app d3 (by omega) (by omega);rw[show lo+((bD b+cc r:Nat):Int)=lo+(bD b:Int)+(cc r:Int) by omega];exact this
theorem Q5{l:List aa}(hl:∀q∈l,q.Text.size≤90):dv 1 l≤l.length*91:=by
 have:∀{l:List aa},(∀q∈l,q.Text.size≤90)→(l.map fun b=>1+b.Text.size+dv 0 b.Kids).sum≤l.length*91:=by
  intro l
  induction l with
  | nil=>intro _;simp
  | cons b r ih =>
   intro h;have h1:=ih (fun q hq=>h q (List.mem_cons_of_mem _ hq));have h2:=h b List.mem_cons_self;simp only[List.map_cons,List.sum_cons,List.length_cons,dv]at h1⊢;omega
 exact this hl
theorem E4(w:Int)(old:aa)(N:Nat)(b:aa)(z:bO)(hz:z.Content=w)(t bt:Bool)(fr us:Int)(S:cU)(lo:Int)(hN:9100≤N)(hr:∀k∈b.Kids,zg w old N k)(hb:RB lo b)(h10:10≤lo)(h0:0≤fr)(hf:fr+(bD b:Int)≤2000)(hS:S.length+bD b≤2000)(hm:∀m∈S,jB w m):
  ∃F us' T,gQ (KN (N+1)) (N+1) b z t bt (dm (N+1) true true) fr us S=some (F,fr+(T.length:Int),us',S++T)∧DF (bD b+2) F∧gG w old (lo+1) (lo+(bD b:Int)) (dt b.Kids) (ed old b.Kids) us us' S T:=by
 obtain⟨hk,hn,hs,hl,hc⟩:=iC hb;have hsz:=f0 b;by_cases hT:eZ b.Kids∧(∀q∈b.Kids,q.Text.size≤90)
 ·have hcnt:=Q5 hT.2;obtain⟨F,d1,d2⟩:=U5 N b z t bt (dm (N+1) true true) hl hN hT.1 (fun k hq=>by have:=hT.2 k hq;omega) (by omega) ⟨_,_,_,_,rfl⟩;refine⟨F,us,[],?_,sQ d1 (by omega),?_⟩
  ·rw[d2];simp
  ·rw[Ex hT.1];exact gG.nil
 ·have hR:eO (lo+1) b.Kids:=by
   rcases hc with hc|hc
   ·exact absurd ⟨hc.1,hc.2.1⟩ hT
   ·exact hc
  have hne:b.Kids≠[]:=fun h=>hT ⟨fun k hq=>(by rw[h]at hq;cases hq),fun k hq=>(by rw[h]at hq;cases hq)⟩;have hkk:∀k∈b.Kids,k.Kind=1∧jb k.Style:=fun k hq=>by
   obtain⟨p,_,hp⟩:=xJ hR k hq;have:=iC hp;exact⟨this.1,this.2.2.1⟩
  have hfl:eQ b=b.Kids:=List.filter_eq_self.2 fun k hq=>by
   have:=(hkk k hq).2.pos;unfold jn;simp[bne,this]
  have hout:∀k∈eQ b,ek k=true:=fun k hq=>by rw[hfl]at hq;unfold ek;rw[(hkk k hq).1];rfl
  have hany:(eQ b).any ek=true:=by
   rw[List.any_eq_true];obtain⟨x,hx⟩:=List.exists_mem_of_ne_nil _ hne;exact⟨x,by rw[hfl];exact hx,hout x (by rw[hfl];exact hx)⟩
  obtain⟨G,g1,g2⟩:=UO N b z t bt (dm (N+1) true true) hl (by omega) hany hout;obtain⟨r,us',T,r1,r2,r3⟩:=Hf w old N b.Kids fr us S (lo+1) hr hR (by omega) h0 (by omega) (by omega) hm;have hlen:=B6 r1;refine⟨G r,us',T,?_,?_,?_⟩
  ·rw[g2,hfl,hz,r1];rfl
  ·rw[hsz];exact sQ (g1 r _ (by rw[hfl];exact hlen) r2) (by omega)
  ·rw[show lo+(bD b:Int)=lo+1+(cc b.Kids:Int) by omega];exact r3
theorem NC(K:Kn)(n:Nat)(b:aa)(hs:jb b.Style){w:Int}(h0:0≤w)(h1:w≤1048576):∃z t bt,z.Content=w∧∀(env:bF) (fr us:Int) (S:cU),pC K n b w env fr us S=(gQ K n b z t bt env fr us S).bind fun v10=>some (v10.1,v10.2.1,v10.2.2.1,v10.2.2.2):=by
 obtain⟨z,e1,e2⟩:=Dc K n hs h0 h1;have j1:∀t,∃bt,∀(env:bF) (fr us:Int) (S:cU),kp K n b env fr us S z t=(gQ K n b z t bt env fr us S).bind fun v10=>some (v10.1,v10.2.1,v10.2.2.1,v10.2.2.2):=fun t=>by
  unfold kp;by_cases q1:(b.Style.Overflow == 0)=true
  ·by_cases q2:(z.Border.a2 == 0)=true
   ·by_cases q3:(z.Padding.a2 == 0)=true
    ·exact⟨_,fun env fr us S=>by rw[if_pos q1,if_pos q2,if_pos q3];rfl⟩
    ·exact⟨_,fun env fr us S=>by rw[if_pos q1,if_pos q2,if_neg q3];rfl⟩
   ·exact⟨_,fun env fr us S=>by rw[if_pos q1,if_neg q2];rfl⟩
  ·exact⟨_,fun env fr us S=>by rw[if_neg q1];rfl⟩
 have:∃t,∀(env:bF) (fr us:Int) (S:cU),pC K n b w env fr us S=kp K n b env fr us S z t:=by
  unfold pC;simp only[e1,Option.bind_some];by_cases q1:(b.Style.Overflow == 0)=true
  ·by_cases q2:(z.Border.a0 == 0)=true
   ·exact⟨_,fun env fr us S=>by rw[if_pos q1,if_pos q2]⟩
   ·exact⟨_,fun env fr us S=>by rw[if_pos q1,if_neg q2]⟩
  ·exact⟨_,fun env fr us S=>by rw[if_neg q1]⟩
 obtain⟨t,ht⟩:=this;obtain⟨bt,hbt⟩:=j1 t;exact⟨z,t,bt,e2,fun env fr us S=>by rw[ht,hbt]⟩
theorem CA(w:Int)(hw0:0≤w)(hw1:w≤1048576)(old:aa):∀(s N:Nat) (b:aa),bD b≤s→s≤90→9200+s≤N→zg w old N b
 | 0,_,b,h,_,_=>by have:=eP b;omega
 | s+1,0,b,_,_,h=>by omega
 | s+1,N+1,b,h1,h2,h3=>by
  intro fr us S lo hb h11 h0 hf hS hm;obtain⟨hk,hn,hs,hl,hc⟩:=iC hb;have hpos:=eP b;unfold rQ;simp only[if_true,bg];rw[Ql (N+1) b w w fr us S (by omega) (by omega) hm,Option.bind_some];cases hq:S.find? (i8 b w) with
  | some m =>
   have hmem:=List.mem_of_find?_eq_some hq;have hhit:=List.find?_some hq;simp only[i8,Bool.and_eq_true,beq_iff_eq]at hhit;simp only[if_true];refine⟨m.Fragment,ab (us+1),[],by simp,?_,⟨fun m hm=>(by cases hm),Nat.zero_le _,fun hS'=>?_,fun _=>Nat.zero_le _⟩⟩
   ·rw[←IC hhit.2];exact(hm m hmem).2.2
   ·have:=hS' m hmem;rw[CN hhit.2,hn]at this;omega
  | none =>
   simp only[Bool.false_eq_true,if_false];obtain⟨z,t,bt,z1,z2⟩:=NC (KN (N+1)) (N+1) b hs hw0 hw1;obtain⟨F,us',T,r1,r2,r3⟩:=E4 w old N b z z1 t bt fr us S lo (by omega) (fun k hk'=>CA w hw0 hw1 old s N k (by have:=iQ hk';omega) (by omega) (by omega)) hb (by omega) h0 hf hS hm;have hTl:=r3.len;have hbl:=w4 b.Kids;have hsz:=f0 b;unfold q8;have k6:(b.Kind == 6)=false:=by rw[hk];rfl
   have k7:(b.Kind == 7)=false:=by rw[hk];rfl
   have k5:(b.Kind == 5)=false:=by rw[hk];rfl
   simp only[k6,k7,k5,Bool.false_eq_true,if_false,z2,r1,Option.bind_some,sL,if_true,bg];rw[S1 (N+1) b w F (fr+(T.length:Int)) us' (S++T) (by simp only[List.length_append];omega) (by omega) (bD b+2) r2 (by omega) (by omega),Option.bind_some];refine⟨F,us',T++[⟨b,w,F⟩],?_,r2,?_⟩
   ·rw[show fr+(((T++[(⟨b,w,F⟩:aG)]).length:Nat):Int)=fr+(T.length:Int)+1 by rw[List.length_append];simp only[List.length_cons,List.length_nil];omega];show some (F,fr+(T.length:Int)+1,us',S++T++[(⟨b,w,F⟩:aG)])=_;rw[List.append_assoc]
   ·rw[tW hk,IT hk];refine⟨fun m hm'=>?_,?_,fun hS'=>?_,fun hS'=>?_⟩
    ·rcases List.mem_append.1 hm' with hm'|hm'
     ·obtain⟨a,b',c⟩:=r3.ok m hm';exact⟨a,by omega,c⟩
     ·simp only[List.mem_cons,List.not_mem_nil,or_false]at hm';subst hm';exact⟨⟨rfl,by show bD b≤100;omega,r2⟩,by show lo≤b.Node;omega,by show b.Node<_;omega⟩
    ·simp only[List.length_append,List.length_cons,List.length_nil];omega
    ·obtain⟨a1,a2,a3⟩:=r3.first (fun m hm'=>by have:=hS' m hm';omega);refine⟨a1,by simp only[List.length_append,List.length_cons,List.length_nil];omega,fun k hk'=>?_⟩;rcases List.mem_cons.1 hk' with rfl|hk'
     ·exact⟨_,List.mem_append_right _ List.mem_cons_self,rfl⟩
     ·obtain⟨m,q1,q2⟩:=a3 k hk';exact⟨m,List.mem_append_left _ q1,q2⟩
    ·have a:=r3.again hS';cases hcb:dh b old with
     | true =>
      obtain⟨m,q1,q2,q3⟩:=hS' b hcb hk (by omega);have:=List.find?_eq_none.1 hq m q1;simp[i8,q2,q3]at this
     | false =>
      simp only[Bool.false_eq_true,if_false,List.length_append,List.length_cons,List.length_nil];omega
end Go.Proofs.YtocgkfoifehcbaaGreat
namespace Go.Proofs.YtocgkfoifehcbaaGreat
set_option linter.all false
open Go.RowKit
theorem Ti(K:Kn)(n:Nat)(b:aa)(hs:b.Kids.length<1000000)(hsz:cc b.Kids<1000000)(hk:∀k∈b.Kids,(k.Kind=3)∨(k.Kind=1∧K.sG k=some ((dt k.Kids).length:Int))):∀(m i:Nat) (v:Nat),i≤b.Kids.length→b.Kids.length<m+i→v+cc (b.Kids.drop i)<2000000 →
  nl K n b m (v:Int) i=some ((v+(dt (b.Kids.drop i)).length:Nat):Int):=by
 intro m
 induction m with
 | zero=>intro i v h1 h2;omega
 | succ m ih =>
  intro i v h1 h2 h3;simp only[nl,qq];by_cases hi:i<b.Kids.length
  ·have hd:=drop_at' hi;rw[hd]at h3⊢;simp only[cc]at h3;simp only[fh hi,if_true,dR hi,bg,Int.toNat_natCast,dt,List.length_append];have hm:=hk _ (fi hi);have hbl:=yK (b.Kids.getD i default);generalize b.Kids.getD i default=k at *;have h1p:=eP k;rcases hm with hm|⟨hm,hb⟩
   ·have e0:gj k=[]:=by cases k;simp only at hm;simp only[gj,hm];rfl
    rw[hm,e0];simp only[show((3:Int) == 1)=false from rfl,show((3:Int) == 6)=false from rfl,Bool.false_eq_true,if_false,oP,pI];rw[ec (by omega),ih (i+1) v (by omega) (by omega) (by omega)];simp
   ·rw[hm];simp only[show((1:Int) == 1)=true from rfl,if_true,oP,pI,dR hi,bg,Int.toNat_natCast];have hd2:b.Kids.getD i default=k:=by rw[List.getD_eq_getElem?_getD];have:=congrArg List.head? hd;simp at this;rw[this];rfl
    rw[hd2,hb,Option.bind_some,ec (by omega)];rw[tW hm]at hbl⊢;simp only[List.length_cons]at hbl⊢;rw[cz (n:=1+_) (by omega) (by omega),cz (by omega) (by omega)];have:=ih (i+1) (v+(1+(dt k.Kids).length)) (by omega) (by omega) (by omega);rw[show(v:Int)+(1+((dt k.Kids).length:Int))=((v+(1+(dt k.Kids).length):Nat):Int) by omega,this];congr 2;omega
  ·simp only[fF (show b.Kids.length≤i by omega),Bool.false_eq_true,if_false];rw[List.drop_eq_nil_of_le (by omega)];rfl
theorem xN{lo:Int}{b:aa}(h:RB lo b):∀k∈b.Kids,(k.Kind=3∧k.Kids=[])∨(k.Kind=1∧k.Style.Position≠2∧∃p,lo+1≤p∧RB p k):=fun k hk=>by
 obtain⟨_,_,_,_,hc⟩:=iC h;rcases hc with hc|hc
 ·exact .inl ⟨hc.1 k hk,hc.2.2 k hk⟩
 ·obtain⟨p,h1,h2⟩:=xJ hc k hk;exact .inr ⟨(iC h2).1,(iC h2).2.2.1.pos,p,h1,h2⟩
theorem Is:∀(s N:Nat) (b:aa) (lo:Int),bD b≤s→s<100000→s+2≤N→RB lo b→pL (KN N) N b=some ((dt b.Kids).length:Int)
 | 0,_,b,_,h,_,_,_=>by have:=eP b;omega
 | s+1,0,_,_,_,_,h,_=>by omega
 | s+1,N+1,b,lo,h1,h2,h3,h4=>by
  have hsz:=f0 b;have hlen:=po b.Kids;have e:=Ti (KN (N+1)) (N+1) b (by omega) (by omega) (fun k hk=>by
   rcases xN h4 k hk with q|⟨q1,_,p,_,q⟩
   ·exact .inl q.1
   ·exact .inr ⟨q1,Is s N k p (by have:=iQ hk;omega) (by omega) (by omega) q⟩) (N+1) 0 0 (Nat.zero_le _) (by omega) (by rw[List.drop_zero];omega)
  unfold pL;simpa using e
mutual
theorem Hj(old:aa):∀b:aa,kq old b≤bD b
 | ⟨k,n,s,t,r,c,ks⟩=>by
  simp only[kq,bD];have:=HH old ks;split
  ·split<;>omega
  ·omega
theorem HH(old:aa):∀l:List aa,ed old l≤cc l
 | []=>Nat.le_refl _
 | b::r=>by simp only[ed,cc];have:=Hj old b;have:=HH old r;omega
end
theorem VZ(K:Kn)(n:Nat)(old b:aa)(hs:b.Kids.length<1000000)(hsz:cc b.Kids<1000000)(hc:∀k∈b.Kids,lP K n old k=some (dh k old))(hk:∀k∈b.Kids,(k.Kind=3)∨(k.Kind=1∧K.qt old k=some ((ed old k.Kids:Nat):Int))):∀(m i:Nat) (v:Nat),i≤b.Kids.length→b.Kids.length<m+i→v+cc (b.Kids.drop i)<2000000 →
  m8 K n old b m (v:Int) i=some ((v+ed old (b.Kids.drop i):Nat):Int):=by
 intro m
 induction m with
 | zero=>intro i v h1 h2;omega
 | succ m ih =>
  intro i v h1 h2 h3;simp only[m8,rO];by_cases hi:i<b.Kids.length
  ·have hd:=drop_at' hi;rw[hd]at h3⊢;simp only[cc]at h3;have hm:=hk _ (fi hi);have hcc:=hc _ (fi hi);have hd2:b.Kids.getD (i:Int).toNat default=b.Kids.getD i default:=by rw[Int.toNat_natCast]
   simp only[fh hi,if_true,dR hi,bg,ed,qW,qo,hd2];have hbl:=Hj old (b.Kids.getD i default);generalize b.Kids.getD i default=k at *;have h1p:=eP k;rcases hm with hm|⟨hm,hb⟩
   ·have e0:kq old k=0:=by cases k;simp only at hm;simp only[kq,hm];rfl
    rw[hm,e0];simp only[show((3:Int) == 1)=false from rfl,Bool.false_eq_true,if_false,Option.bind_some];rw[ec (by omega),ih (i+1) v (by omega) (by omega) (by omega)];simp
   ·rw[hm];simp only[show((1:Int) == 1)=true from rfl,if_true,Option.bind_some,hcc,hb];rw[IT hm]at hbl⊢;cases hq:dh k old with
    | true =>
     rw[hq]at hbl;simp only[if_true,Nat.zero_add]at hbl;simp only[Bool.not_true,Bool.false_eq_true,if_false,if_true,Nat.zero_add];rw[cz (n:=(v:Int)+_) (by omega) (by omega),ec (by omega)];have:=ih (i+1) (v+ed old k.Kids) (by omega) (by omega) (by omega);rw[show(v:Int)+((ed old k.Kids:Nat):Int)=((v+ed old k.Kids:Nat):Int) by omega,this];congr 2;omega
    | false =>
     rw[hq]at hbl;simp only[Bool.false_eq_true,if_false]at hbl;simp only[Bool.not_false,if_true,Bool.false_eq_true,if_false];rw[cz (n:=(v:Int)+1) (by omega) (by omega),cz (n:=(v:Int)+1+_) (by omega) (by omega),ec (by omega)];have:=ih (i+1) (v+(1+ed old k.Kids)) (by omega) (by omega) (by omega);rw[show(v:Int)+1+((ed old k.Kids:Nat):Int)=((v+(1+ed old k.Kids):Nat):Int) by omega,this];congr 2;omega
  ·simp only[fF (show b.Kids.length≤i by omega),Bool.false_eq_true,if_false];rw[List.drop_eq_nil_of_le (by omega)];rfl
theorem Ht(old:aa)(ho:bD old<1000):∀(s N:Nat) (b:aa) (lo:Int),bD b≤s→s<100000→s+2+bD old≤N→RB lo b→py (KN N) N old b=some ((ed old b.Kids:Nat):Int)
 | 0,_,b,_,h,_,_,_=>by have:=eP b;omega
 | s+1,0,_,_,_,_,h,_=>by omega
 | s+1,N+1,b,lo,h1,h2,h3,h4=>by
  have hsz:=f0 b;have hlen:=po b.Kids;have e:=VZ (KN (N+1)) (N+1) old b (by omega) (by omega) (fun k hk=>Ec (bD old) (N+1) old k (Nat.le_refl _) (by omega) (by omega)) (fun k hk=>by
   rcases xN h4 k hk with q|⟨q1,_,p,_,q⟩
   ·exact .inl q.1
   ·exact .inr ⟨q1,Ht old ho s N k p (by have:=iQ hk;omega) (by omega) (by omega) q⟩) (N+1) 0 0 (Nat.zero_le _) (by omega) (by rw[List.drop_zero];omega)
  unfold py;simpa using e
theorem Uz(K:Kn)(n:Nat)(l:List Int)(hl:l.length≤100000):tn K n l=some l:=by
 unfold tn j8;have hf:fits (([]:List Int).length+l.length) 8=true:=by rw[List.length_nil,Nat.zero_add];exact cW (by omega) (by omega)
 rw[hf];cases l<;>simp[bg]
theorem L7(K:Kn)(n:Nat)(p:eU)(b:aa)(ar:List Int)(hs:b.Kids.length<1000000)(hk:∀k∈b.Kids,(k.Kind=3∨k.Style.Position≠2)∧K.px p k ar=some ()):∀(m i:Nat),i≤b.Kids.length→b.Kids.length<m+i→lD K n p b ar m i=some ():=by
 intro m
 induction m with
 | zero=>intro i h1 h2;omega
 | succ m ih =>
  intro i h1 h2;simp only[lD,qV];by_cases hi:i<b.Kids.length
  ·obtain⟨q1,q2⟩:=hk _ (fi hi);have nx:=ih (i+1) (by omega) (by omega);have j3:lw K n p b ar i (lD K n p b ar m) false=some ():=by
    unfold lw;simp only[Bool.false_eq_true,if_false,Int.toNat_natCast,q2,Option.bind_some];rw[ec (by omega),nx]
   simp only[fh hi,if_true,dR hi,bg,Int.toNat_natCast];split
   ·rename_i h3;split
    ·rcases q1 with q1|q1
     ·rw[q1]at h3;exact absurd h3 (by decide)
     ·rw[show((b.Kids.getD i default).Style.Position == 2)=false by simpa using q1];exact j3
    ·exact j3
   ·exact j3
  ·simp only[fF (show b.Kids.length≤i by omega),Bool.false_eq_true,if_false]
theorem IJ(K:Kn)(n:Nat)(p:eU)(b:aa)(ar:List Int)(ha:ar.length≤90000)(hs:b.Kids.length<n)(hs2:b.Kids.length<1000000)(hk:∀k∈b.Kids,(k.Kind=3∨k.Style.Position≠2)∧∀ar2:List Int,ar2.length≤ar.length+1→K.px p k ar2=some ()):kj K n p b ar=some ():=by
 have j2:∀ar2:List Int,ar2.length≤ar.length+1→ph K n p b ar2=some ():=fun ar2 h2=>by
  unfold ph;have:=L7 K n p b ar2 hs2 (fun k hq=>⟨(hk k hq).1,(hk k hq).2 ar2 h2⟩) n 0 (Nat.zero_le _) (by omega);simpa using this
 have j1:∀c,m4 K n p b ar c=some ():=fun c=>by
  unfold m4;cases c with
  | false=>simpa using j2 ar (by omega)
  | true =>
   simp only[if_true,Uz K n ar (by omega),Option.bind_some,List.length_singleton];rw[cW (by omega) (by omega),bg,j2 _ (by simp)]
 unfold kj;split<;>exact j1 _
theorem Ii(p:eU):∀(s N:Nat) (b:aa) (lo:Int) (ar:List Int),bD b≤s→s<10000→s+2≤N→ar.length+s≤90000→RB lo b→kj (KN N) N p b ar=some ()
 | 0,_,b,_,_,h,_,_,_,_=>by have:=eP b;omega
 | s+1,0,_,_,_,_,_,h,_,_=>by omega
 | s+1,N+1,b,lo,ar,h1,h2,h3,h4,h5=>by
  have hsz:=f0 b;have hlen:=po b.Kids;refine IJ (KN (N+1)) (N+1) p b ar (by omega) (by omega) (by omega) (fun k hk=>?_);have hkl:=iQ hk;have hkp:=eP k;obtain⟨q1,q2⟩|⟨q1,q3,lo2,_,q⟩:=xN h5 k hk
  ·refine⟨.inl q1,fun ar2 ha2=>?_⟩;show kj (KN N) N p k ar2=some ();exact IJ (KN N) N p k ar2 (by omega) (by rw[q2];simp;omega) (by rw[q2];simp) (fun x hx=>by rw[q2]at hx;cases hx)
  ·exact⟨.inr q3,fun ar2 ha2=>Ii p s N k lo2 ar2 (by omega) (by omega) (by omega) (by omega) q⟩
end Go.Proofs.YtocgkfoifehcbaaGreat
namespace Go.Proofs.YtocgkfoifehcbaaGreat
set_option linter.all false
open Go.RowKit
def ga(m x:aG):Bool:=x.Width == m.Width&&cY x.Box m.Box
theorem QP(K:Kn)(n:Nat)(l:List aG)(M:aG)(hs:l.length<1000000)(hk:∀k∈l,K.oK (Fv.c39 M) k=some (ga M k)):∀(m i:Nat),i≤l.length→l.length<m+i →
  ∃r,l9 K n l (Fv.c39 M) m i=some r∧decide (r≥0)=(l.drop i).any (ga M):=by
 intro m
 induction m with
 | zero=>intro i h1 h2;omega
 | succ m ih =>
  intro i h1 h2;simp only[l9,sq];by_cases hi:i<l.length
  ·rw[drop_at' hi];simp only[fh hi,if_true,dR hi,bg,Int.toNat_natCast,hk _ (fi hi),Option.bind_some,List.any_cons];cases h:ga M (l.getD i default) with
   | true=>exact⟨_,rfl,by simp⟩
   | false =>
    simp only[Bool.false_eq_true,if_false,Bool.false_or];rw[ec (by omega)];exact ih (i+1) (by omega) (by omega)
  ·simp only[fF (show l.length≤i by omega),Bool.false_eq_true,if_false];rw[List.drop_eq_nil_of_le (by omega)];exact⟨_,rfl,rfl⟩
theorem KC(N:Nat)(l:List aG)(M:aG)(hs:l.length<5000)(hN:6000≤N)(hk:∀k∈l,bD k.Box≤100):sY (KN (N+1)) (N+1) l (Fv.c39 M)=some (l.any (ga M)):=by
 have hh:∀k∈l,(KN (N+1)).oK (Fv.c39 M) k=some (ga M k):=fun k hq=>by
  show q6 (KN N) N k M=_;unfold q6 ga;rw[uL (bD k.Box) N k.Box M.Box (Nat.le_refl _) (by have:=hk k hq;omega) (by have:=hk k hq;omega),Option.bind_some];cases (k.Width == M.Width)<;>rfl
 obtain⟨r,h1,h2⟩:=QP (KN (N+1)) (N+1) l M (by omega) hh (N+1) 0 (Nat.zero_le _) (by omega);have h1':l9 (KN (N+1)) (N+1) l (Fv.c39 M) (N+1) 0=some r:=h1;unfold sY uK;rw[h1',Option.bind_some,h2,List.drop_zero]
theorem Vk(N:Nat)(root:aa)(F:ai)(fr us:Int)(L:cU)(hL:L.length≤3000)(hr:bD root≤100)(hN:6000≤N)(d:Nat)(hd:DF d F)(h100:d≤150)(hm:∀m∈L,bD m.Box≤100):∀(m i:Nat) (acc:cU),i≤L.length→L.length<m+i→acc.length≤i→(∀x∈acc,x∈L) →
  ∃out,kH (KN (N+1)) (N+1) root (F,fr,us,L) m i acc=some (F,fr,us,out)∧(∀x∈out,x∈L)∧(∀x∈acc,x∈out)∧out.length≤L.length∧∀x∈L.drop i,dh x.Box root=true→∃y∈out,ga x y=true:=by
 intro m
 induction m with
 | zero=>intro i acc h1 h2;omega
 | succ m ih =>
  intro i acc h1 h2 h3 h4;simp only[kH,tx];by_cases hi:i<L.length
  ·have hM:=fi hi;rw[drop_at' hi];simp only[fh hi,if_true,dR hi,bg,Int.toNat_natCast,qz,sC];generalize L.getD i default=M at *;rw[KC N acc M (by omega) hN (fun k hk=>hm k (h4 k hk)),Option.bind_some,J1 (bD root) (N+1) root M.Box (Nat.le_refl _) (by omega) (by omega),ec (by omega)];have skip:(dh M.Box root=true→∃y∈acc,ga M y=true)→∃out,kH (KN (N+1)) (N+1) root (F,fr,us,L) m ((i+1:Nat):Int) acc=some (F,fr,us,out)∧(∀x∈out,x∈L)∧(∀x∈acc,x∈out)∧out.length≤L.length∧∀x∈M::L.drop (i+1),dh x.Box root=true→∃y∈out,ga x y=true:=fun hs=>by
    obtain⟨out,e1,e2,e3,e4,e5⟩:=ih (i+1) acc (by omega) (by omega) (by omega) h4;refine⟨out,e1,e2,e3,e4,fun x hx hc=>?_⟩;rcases List.mem_cons.1 hx with rfl|hx
    ·obtain⟨y,y1,y2⟩:=hs hc;exact⟨y,e3 y y1,y2⟩
    ·exact e5 x hx hc
   cases ha:acc.any (ga M) with
   | true =>
    simp only[Bool.not_true,Bool.false_eq_true,if_false];obtain⟨y,y1,y2⟩:=List.any_eq_true.1 ha;exact skip (fun _=>⟨y,y1,y2⟩)
   | false =>
    simp only[Bool.not_false,if_true,Option.bind_some];cases hc:dh M.Box root with
    | false =>
     simp only[Bool.false_eq_true,if_false];exact skip (fun h=>by rw[hc]at h;cases h)
    | true =>
     simp only[if_true,List.length_singleton];rw[cW (by omega) (by omega),bg];obtain⟨out,e1,e2,e3,e4,e5⟩:=ih (i+1) (acc++[M]) (by omega) (by omega) (by simp;omega) (fun x hx=>by
      rcases List.mem_append.1 hx with hx|hx
      ·exact h4 x hx
      ·simp only[List.mem_cons,List.not_mem_nil,or_false]at hx;subst hx;exact hM)
     refine⟨out,e1,e2,fun x hx=>e3 x (List.mem_append_left _ hx),e4,fun x hx hc=>?_⟩;rcases List.mem_cons.1 hx with rfl|hx
     ·exact⟨x,e3 x (List.mem_append_right _ List.mem_cons_self),by simp[ga,yp]⟩
     ·exact e5 x hx hc
  ·simp only[fF (show L.length≤i by omega),Bool.false_eq_true,if_false];rw[u0 d (N+1) F hd (by omega),Option.bind_some];refine⟨acc,rfl,h4,fun x hx=>hx,by omega,fun x hx=>?_⟩;rw[List.drop_eq_nil_of_le (by omega)]at hx;cases hx
theorem Hh(width:Int)(N:Nat)(old root:aa)(S:cU)(a b:Int)(hN:9400≤N)(hb:RB 10 root)(hsz:bD root≤90)(hS:S.length≤1000)(hm:∀m∈S,jB (min (max width 0) 1048576) m):
  ∃F us' out T,il (KN (N+1)) (N+1) root width 0 a b S=some (F,(T.length:Int),us',out)∧gG (min (max width 0) 1048576) old 11 (10+(bD root:Int)) (dt root.Kids) (ed old root.Kids) 0 us' S T∧(∀x∈out,jB (min (max width 0) 1048576) x)∧out.length≤S.length+bD root∧∀x∈S++T,dh x.Box root=true→∃y∈out,ga x y=true:=by
 generalize hw:min (max width 0) 1048576=w at *;have hw0:0≤w:=by omega
 have hw1:w≤1048576:=by omega
 obtain⟨hk,hn,hs,hl,hc⟩:=iC hb;obtain⟨z,z1,z2⟩:=Dc (KN (N+1)) (N+1) hs hw0 hw1;have hpos:=eP root;obtain⟨F,us',T,r1,r2,r3⟩:=E4 w old N root z z2 false false 0 0 S 10 (by omega) (fun k hk'=>CA w hw0 hw1 old (bD k) N k (Nat.le_refl _) (by have:=iQ hk';omega) (by have:=iQ hk';omega)) hb (by omega) (by omega) (by omega) (by omega) hm;have hTl:=r3.len;have hbl:=w4 root.Kids;have hse:=f0 root;have hF:DF (bD root+2) ({ F with H:=max F.H (min (max 0 0) 1048576) }:ai):=w6 rfl r2;obtain⟨out,e1,e2,e3,e4,e5⟩:=Vk N root ({ F with H:=max F.H (min (max 0 0) 1048576) }:ai) (0+(T.length:Int)) us' (S++T) (by simp only[List.length_append];omega) (by omega) (by omega) (bD root+2) hF (by omega) (fun m hq=>by
  rcases List.mem_append.1 hq with hq|hq
  ·exact(hm m hq).2.1
  ·exact(r3.ok m hq).1.2.1) (N+1) 0 [] (Nat.zero_le _) (by simp only[List.length_append];omega) (Nat.zero_le _) (fun x hx=>by cases hx)
 refine⟨({ F with H:=max F.H (min (max 0 0) 1048576) }:ai),us',out,T,?_,r3,fun x hx=>?_,?_,?_⟩
 ·unfold il uh;rw[Option.bind_some];unfold uY;rw[hw,z1,Option.bind_some];unfold xj;rw[r1,Option.bind_some];simp only[Option.bind_some];rw[CG (bD root+2) (N+1) F r2 (by omega),Option.bind_some,Ii _ (bD root) (N+1) root 10 [] (Nat.le_refl _) (by omega) (by omega) (by simp;omega) hb,Option.bind_some,Option.bind_some];have e1':kH (KN (N+1)) (N+1) root (({ F with H:=max F.H (min (max 0 0) 1048576) }:ai),0+(T.length:Int),us',S++T) (N+1) 0 []=_:=e1;rw[e1',Int.zero_add]
 ·rcases List.mem_append.1 (e2 x hx)with hq|hq
  ·exact hm x hq
  ·exact(r3.ok x hq).1
 ·rw[List.length_append]at e4;omega
 ·rw[List.drop_zero]at e5;exact e5
mutual
theorem CE:∀(b k:aa) (lo:Int),RB lo b→dh k b=true→k.Kind=1→∃q∈gj b,cY q k=true
 | ⟨kk,n,s,t,r,c,ks⟩,k,lo,h,hc,hk=>by
  rw[mW,Bool.or_eq_true]at hc;have hb:=iC h;rw[tW hb.1];rcases hc with hc|hc
  ·exact⟨_,List.mem_cons_self,hc⟩
  ·rcases hb.2.2.2.2 with q|q
   ·exact absurd hc (by rw[Ib ks k q.1 q.2.2 hk];exact Bool.false_ne_true)
   ·obtain⟨x,x1,x2⟩:=Dq ks k (lo+1) q hc hk;exact⟨x,List.mem_cons_of_mem _ x1,x2⟩
theorem Dq:∀(l:List aa) (k:aa) (lo:Int),eO lo l→fV k l=true→k.Kind=1→∃q∈dt l,cY q k=true
 | [],_,_,_,h,_=>by cases h
 | b::r,k,lo,h,hc,hk=>by
  simp only[eO]at h;simp only[fV,Bool.or_eq_true]at hc;simp only[dt];rcases hc with hc|hc
  ·obtain⟨x,x1,x2⟩:=CE b k lo h.1 hc hk;exact⟨x,List.mem_append_left _ x1,x2⟩
  ·obtain⟨x,x1,x2⟩:=Dq r k _ h.2 hc hk;exact⟨x,List.mem_append_right _ x1,x2⟩
theorem Ib:∀(l:List aa) (k:aa),eZ l→(∀q∈l,q.Kids=[])→k.Kind=1→fV k l=false
 | [],_,_,_,_=>rfl
 | b::r,k,h,h2,hk=>by
  simp only[fV,Bool.or_eq_false_iff];refine⟨?_,Ib r k (fun q hq=>h q (List.mem_cons_of_mem _ hq)) (fun q hq=>h2 q (List.mem_cons_of_mem _ hq)) hk⟩;rw[mW,h2 b List.mem_cons_self];cases he:cY b k with
  | true=>have:=QN he;rw[h b List.mem_cons_self,hk]at this;cases this
  | false=>rfl
end
mutual
theorem OQ:∀(b q:aa),q∈gj b→dh q b=true
 | ⟨kk,n,s,t,r,c,ks⟩,q,h=>by
  simp only[gj]at h;rw[mW,Bool.or_eq_true];split at h
  ·rcases List.mem_cons.1 h with rfl|h
   ·exact .inl (yp _)
   ·exact .inr (yH ks q h)
  ·cases h
theorem yH:∀(l:List aa) (q:aa),q∈dt l→fV q l=true
 | [],_,h=>by cases h
 | b::r,q,h=>by
  simp only[dt]at h;simp only[fV,Bool.or_eq_true];rcases List.mem_append.1 h with h|h
  ·exact .inl (OQ b q h)
  ·exact .inr (yH r q h)
end
theorem Tt(width:Int)(N:Nat)(old root:aa)(hN:9400≤N)(ho:RB 10 old)(hr:RB 10 root)(h1:bD old≤90)(h2:bD root≤90)(a b:Int):
  ∃F out,il (KN (N+1)) (N+1) old width 0 a b []=some (F,((dt old.Kids).length:Int),0,out)∧∀c d:Int,∃G fr us out2,il (KN (N+1)) (N+1) root width 0 c d out=some (G,fr,us,out2)∧fr≤((ed old root.Kids:Nat):Int):=by
 obtain⟨F,us,out,T,e1,e2,e3,e4,e5⟩:=Hh width N old old [] a b hN ho h1 (by simp) (fun m hm=>by cases hm);obtain⟨f1,f2,f3⟩:=e2.first (fun m hm=>by cases hm);refine⟨F,out,by rw[e1,f1,f2],fun c d=>?_⟩;obtain⟨G,us2,out2,U,g1,g2,g3,g4,g5⟩:=Hh width N old root out c d hN hr h2 (by simp at e4;omega) e3;refine⟨G,_,us2,out2,g1,?_⟩;have:=g2.again (fun k q1 q2 q3=>by
  obtain⟨q,x1,x2⟩:=CE old k 10 ho q1 q2;have hb:=iC ho;rw[tW hb.1]at x1;rcases List.mem_cons.1 x1 with rfl|x1
  ·have:=CN x2;omega
  ·obtain⟨m,m1,m2⟩:=f3 q x1;have hcq:dh m.Box old=true:=by rw[m2,mW,yH old.Kids q x1,Bool.or_true]
   obtain⟨y,y1,y2⟩:=e5 m (by simpa using m1) hcq;simp only[ga,Bool.and_eq_true,beq_iff_eq]at y2;have hw:=(e3 y y1).1;exact⟨y,y1,hw,CU (by rw[←m2];exact y2.2) x2⟩)
 omega
end Go.Proofs.YtocgkfoifehcbaaGreat
namespace Go.Proofs.YtocgkfoifehcbaaGreat
set_option linter.all false
open Go.RowKit
theorem wx{a b:Int}{n:Nat}(h0:0≤a)(h1:a≤b)(h2:b≤n):cH a b n=true:=by simp[cH,h0,h1,h2]
theorem Qz(K:Kn)(n:Nat)(l:List aw)(cs:List di)(hl:l.length≤9223372036854775807)(hc:cs.length≤9223372036854775807)(hn:l.length<n)(hn1:1<n):∀(m:Nat) (i:Int),0≤i→i≤cs.length→(cs.length:Int)<m+i →
  ∃b,pF K n l cs m i=some b∧(b=true→(l.length≤12∧0<l.length∧cs.length≤6)∧(∀s∈l,lU s)∧∀k,i.toNat≤k→k<cs.length→lU (cs.getD k default).Spec):=by
 intro m
 induction m with
 | zero=>intro i h0 h1 h2;omega
 | succ m ih =>
  intro i h0 h1 h2;simp only[pF,s9];by_cases hi:i<(cs.length:Int)
  ·rw[if_pos (decide_eq_true hi),dd h0 hi,bg];obtain⟨b,e1,e2⟩:=EX K n [(cs.getD i.toNat default).Spec] 1 (by simp) (by simpa using hn1);rw[e1,Option.bind_some];cases b with
   | false=>exact⟨false,rfl,fun h=>by cases h⟩
   | true =>
    obtain⟨b2,e3,e4⟩:=ih (i+1) (by omega) (by omega) (by omega);rw[if_neg (by simp),cz (by omega) (by omega)];refine⟨b2,e3,fun h=>⟨(e4 h).1,(e4 h).2.1,fun k h3 h4=>?_⟩⟩;by_cases e:k=i.toNat
    ·subst e;exact(e2 rfl).2 _ (by simp)
    ·exact(e4 h).2.2 k (by omega) h4
  ·have hd:¬ decide (i<(cs.length:Int))=true:=by simpa using hi
   rw[if_neg hd];obtain⟨b,e1,e2⟩:=EX K n l 12 (by omega) hn;rw[e1,Option.bind_some];cases b with
   | false=>exact⟨false,rfl,fun h=>by cases h⟩
   | true =>
    simp only[if_true,n6];split
    ·rename_i hp;have hp:=of_decide_eq_true hp;refine⟨_,rfl,fun h=>⟨⟨by have:=(e2 rfl).1;omega,by omega,by have:=of_decide_eq_true h;omega⟩,(e2 rfl).2,fun k h3 h4=>by omega⟩⟩
    ·exact⟨false,rfl,fun h=>by cases h⟩
theorem SO(K:Kn)(n:Nat)(l:List aw)(cs:List di)(hl:l.length≤9223372036854775807)(hc:cs.length≤9223372036854775807)(hn:l.length<n)(hn1:cs.length+1<n):
  ∃b,wj K n l cs=some b∧(b=true→(l.length≤12∧0<l.length∧cs.length≤6)∧(∀s∈l,lU s)∧∀c∈cs,lU c.Spec):=by
 obtain⟨b,e1,e2⟩:=Qz K n l cs hl hc hn (by omega) n 0 (by omega) (by omega) (by omega);refine⟨b,e1,fun h=>⟨(e2 h).1,(e2 h).2.1,fun c hc'=>?_⟩⟩;obtain⟨k,hk,rfl⟩:=List.mem_iff_getElem.1 hc';have:=(e2 h).2.2 k (by simp) hk;rwa[cZ hk]at this
theorem Rs(k:Nat):un (KN (k+30)) (k+30)=some true:=by kernel_rfl
end Go.Proofs.YtocgkfoifehcbaaGreat
namespace Go.Proofs.YtocgkfoifehcbaaGreat
set_option linter.all false
open Go.RowKit
structure Jo(s:aJ):Prop where
 wi:s.Width=bp
 mn:s.MinWidth=bp
 mx:s.MaxWidth=bp
 ma:s.Margin=⟨bp,bp,bp,bp⟩
 pa:s.Padding=⟨bp,bp,bp,bp⟩
 bo:s.Border=⟨0,0,0,0⟩
def Pl(t:Nat)(s:aw):Prop:=Jo s.Style∧s.Rows=0∧s.Text.size≤t
theorem LB{s:aw}(h:Jo s.Style):jb (dk s).Style:=by
 unfold dk;split
 ·exact⟨by show(0:Int)≠2;decide,h.wi,h.mn,h.mx,h.ma,h.pa,h.bo⟩
 ·rename_i hp;exact⟨by simpa using hp,h.wi,h.mn,h.mx,h.ma,h.pa,h.bo⟩
theorem N6(s:aw):(dk s).Text=s.Text:=by unfold dk;split<;>rfl
theorem Ul(s:aw):(dk s).Rows=s.Rows:=by unfold dk;split<;>rfl
theorem JF:∀{l m:List aa} {lo:Int},eO lo l→eO (lo+(cc l:Int)) m→eO lo (l++m)
 | [],m,lo,_,h=>by simpa[cc]using h
 | b::r,m,lo,h1,h2=>by
  simp only[List.cons_append,eO,cc]at h1 h2⊢;refine⟨h1.1,JF h1.2 ?_⟩;rw[show lo+(bD b:Int)+(cc r:Int)=lo+((bD b+cc r:Nat):Int) by omega];exact h2
def PC(l:List aa):Prop:=eZ l∧(∀q∈l,q.Text.size≤90)∧(∀q∈l,q.Kids=[])
theorem Ss(K:Kn)(n:Nat)(L:List aw)(hL:L.length≤20)(hP:∀s∈L,jb s.Style∧s.Text.size≤90)(a:Nat)(v3:Bool)(ih:v3=true→∀i,a<i→i<L.length→∃b i',K.gY L ((i:Nat):Int)=some (b,((i':Nat):Int))∧i<i'∧i'≤L.length∧bD b=i' - i∧RB (10+(i:Int)) b):
  ∀(m i:Nat) (acc:List aa),a<i→i≤L.length→L.length<m+i→cc acc+a+1=i→(v3=true→eO (10+(a:Int)+1) acc)→(v3=false→PC acc) →
   ∃b i',iD K n L ((a:Nat):Int) v3 m ((i:Nat):Int) acc=some (b,((i':Nat):Int))∧a<i'∧i'≤L.length∧bD b=i' - a∧RB (10+(a:Int)) b:=by
 intro m
 induction m with
 | zero=>intro i acc _ h1 h2;omega
 | succ m ihm =>
  intro i acc h0 h1 h2 h3 hk1 hk2;have hlen:=po acc;have stop:∃b i',jv K n L ((a:Nat):Int) v3 ((i:Nat):Int) acc (iD K n L ((a:Nat):Int) v3 m) false=some (b,((i':Nat):Int))∧a<i'∧i'≤L.length∧bD b=i' - a∧RB (10+(a:Int)) b:=by
   simp only[jv,Bool.false_eq_true,if_false];refine⟨_,i,rfl,h0,h1,?_,?_⟩
   ·rw[f0];show cc acc+1=i-a;omega
   ·simp only[RB];refine⟨by first|rfl|trivial,cz (by omega) (by omega),?_,by omega,?_⟩
    ·exact(hP _ (fi (by simpa using (show a<L.length by omega)))).1
    ·cases v3 with
     | true=>exact .inr (hk1 rfl)
     | false=>exact .inl (hk2 rfl)
  simp only[iD,jX];by_cases hi:i<L.length
  ·simp only[fh hi,if_true,dR hi,bg];cases hd:decide ((L.getD ((i:Nat):Int).toNat default).Depth>(L.getD ((a:Nat):Int).toNat default).Depth) with
   | false=>exact stop
   | true =>
    simp only[jv,if_true];cases v3 with
    | true =>
     obtain⟨b,i',e1,e2,e3,e4,e5⟩:=ih rfl i h0 hi;simp only[if_true,e1,Option.bind_some,List.length_cons,List.length_nil];rw[cW (by omega) (by omega),bg];refine ihm i' (acc++[b]) (by omega) e3 (by omega) (by rw[yq];simp only[cc];omega) (fun _=>JF (hk1 rfl) ⟨?_,trivial⟩) (fun h=>by cases h);rw[show 10+(a:Int)+1+(cc acc:Int)=10+(i:Int) by omega];exact e5
    | false =>
     simp only[Bool.false_eq_true,if_false,dR hi,bg,List.length_cons,List.length_nil];rw[cW (by omega) (by omega),bg,ec (by omega)];have hs:=(hP _ (fi hi)).2;refine ihm (i+1) _ (by omega) (by omega) (by omega) (by rw[yq];simp only[cc,bD];show cc acc+(cc []+1+0)+a+1=i+1;simp only[cc];omega) (fun h=>by cases h) (fun _=>?_);obtain⟨k1,k2,k3⟩:=hk2 rfl;refine⟨fun q hq=>?_,fun q hq=>?_,fun q hq=>?_⟩
     ·rcases List.mem_append.1 hq with hq|hq
      ·exact k1 q hq
      ·simp only[List.mem_cons,List.not_mem_nil,or_false]at hq;subst hq;rfl
     ·rcases List.mem_append.1 hq with hq|hq
      ·exact k2 q hq
      ·simp only[List.mem_cons,List.not_mem_nil,or_false]at hq;subst hq;exact hs
     ·rcases List.mem_append.1 hq with hq|hq
      ·exact k3 q hq
      ·simp only[List.mem_cons,List.not_mem_nil,or_false]at hq;subst hq;rfl
  ·simp only[fF (show L.length≤i by omega),Bool.false_eq_true,if_false];exact stop
theorem GT(K:Kn)(n:Nat)(L:List aw)(hL:L.length≤20)(hP:∀s∈L,jb s.Style∧s.Text.size≤90)(hn:L.length+2≤n):∀(d a:Nat),a<L.length→L.length-a≤d→∃b i',gT K n d L ((a:Nat):Int)=some (b,((i':Nat):Int))∧a<i'∧i'≤L.length∧bD b=i' - a∧RB (10+(a:Int)) b
 | 0,a,h1,h2=>by omega
 | d+1,a,h1,h2=>by
  have lp:∀v3:Bool,∃b i',iD { K with gY:=gT K n d } n L ((a:Nat):Int) v3 n ((a+1:Nat):Int) []=some (b,((i':Nat):Int))∧a<i'∧i'≤L.length∧bD b=i' - a∧RB (10+(a:Int)) b:=fun v3 =>
   Ss { K with gY:=gT K n d } n L hL hP a v3 (fun _ i h3 h4=>GT K n L hL hP hn d i h4 (by omega)) n (a+1) [] (by omega) (by omega) (by omega) (by simp[cc]) (fun _=>trivial) (fun _=>⟨fun q hq=>(by cases hq),fun q hq=>(by cases hq),fun q hq=>(by cases hq)⟩)
  show ∃b i',kv { K with gY:=gT K n d } n L ((a:Nat):Int)=some (b,((i':Nat):Int))∧_;unfold kv;simp only[dR h1,bg,ec (show a<1000000000 by omega),jT];by_cases hi:a+1<L.length
  ·simp only[fh hi,if_true,dR hi,bg];split
   ·exact lp _
   ·exact lp _
  ·simp only[fF (show L.length≤a+1 by omega),Bool.false_eq_true,if_false];exact lp _
theorem Qx(l:List aw)(hl:l.length≤1000)(hR:∀s∈l,s.Rows=0)(b:aa)(c:Bool)(hb:10≤b.Node∧b.Node<10+(l.length:Int)):hJ l b b.Kids c=some b:=by
 have hw:ab (b.Node-10)=b.Node-10:=cz (by omega) (by omega);have hin:aX (ab (b.Node-10)) l.length=true:=by rw[hw];exact dd (by omega) (by omega)
 have hid:(⟨b.Kind,b.Node,b.Style,b.Text,b.Rows,b.Cols,b.Kids⟩:aa)=b:=by cases b;rfl
 have hr:(l.getD (ab (b.Node-10)).toNat default).Rows=0:=hR _ (fi (by rw[hw];omega));unfold hJ;cases c with
 | false=>exact congrArg some hid
 | true =>
  simp only[hin,bg,hr];split
  ·rw[if_neg (by decide)];exact congrArg some hid
  ·exact congrArg some hid
mutual
theorem Iq(l:List aw)(hl:l.length≤1000)(hR:∀s∈l,s.Rows=0):∀(m:Nat) (b:aa) (lo:Int),bD b≤m→RB lo b→10≤lo→lo+(bD b:Int)≤10+(l.length:Int)→iA l m b=some b
 | 0,b,_,h,_,_,_=>by have:=eP b;omega
 | m+1,b,lo,h,hb,h10,hh=>by
  have hsz:=f0 b;obtain⟨hk,hn,hs,hl2,hc⟩:=iC hb;have e:ja (iA l m) b.Kids=some b.Kids:=by
   rcases hc with hc|hc
   ·exact Jb _ b.Kids hc.1
   ·exact Fo l hl hR m b.Kids (lo+1) (by omega) hc (by omega) (by omega)
  simp only[iA,e,Option.bind_some];exact Qx l hl hR b _ (by omega)
theorem Jb(f:aa→Option aa):∀(l:List aa),eZ l→ja f l=some l
 | [],_=>rfl
 | k::r,h=>by
  have e:=Jb f r (fun q hq=>h q (List.mem_cons_of_mem _ hq));have h3:=h k List.mem_cons_self;have hne:¬ ((k.Kind == 1)=true):=by rw[h3];decide
  simp only[ja,if_neg hne,e,Option.bind_some]
theorem Fo(l:List aw)(hl:l.length≤1000)(hR:∀s∈l,s.Rows=0):∀(m:Nat) (ks:List aa) (lo:Int),cc ks≤m→eO lo ks→10≤lo→lo+(cc ks:Int)≤10+(l.length:Int)→ja (iA l m) ks=some ks
 | m,[],_,_,_,_,_=>rfl
 | m,k::r,lo,h,hb,h10,hh=>by
  simp only[cc]at h hh;simp only[eO]at hb;have hp:=eP k;have e1:=Iq l hl hR m k lo (by omega) hb.1 h10 (by omega);have e2:=Fo l hl hR m r (lo+(bD k:Int)) (by omega) hb.2 (by omega) (by omega);simp only[ja,e1,e2,Option.bind_some,ite_self]
end
theorem I7(K:Kn)(n:Nat)(l:List aw)(h0:0<l.length)(hl:l.length≤20)(hn:l.length+2≤n)(hP:∀s∈l,Pl 90 s):∃b,lV K n l=some b∧bD b≤l.length∧RB 10 b:=by
 have hm:(l.map dk).length=l.length:=List.length_map _;have hP2:∀s∈l.map dk,jb s.Style∧s.Text.size≤90:=fun s hs=>by
  obtain⟨q,hq,rfl⟩:=List.mem_map.1 hs;exact⟨LB (hP q hq).1,by rw[N6];exact(hP q hq).2.2⟩
 have hR2:∀s∈l.map dk,s.Rows=0:=fun s hs=>by
  obtain⟨q,hq,rfl⟩:=List.mem_map.1 hs;rw[Ul];exact(hP q hq).2.1
 obtain⟨b,i',e1,e2,e3,e4,e5⟩:=GT K n (l.map dk) (by omega) hP2 (by omega) n 0 (by omega) (by omega);have e5':RB 10 b:=by simpa using e5
 refine⟨b,?_,by omega,e5'⟩;unfold lV;have e1':gT K n n (l.map dk) 0=some (b,((i':Nat):Int)):=e1;rw[cW (by omega) (by omega),bg,e1',Option.bind_some];exact Iq (l.map dk) (by omega) hR2 n b 10 (by omega) e5' (by omega) (by omega)
theorem P8(K:Kn)(n:Nat)(l:List aw)(c:di)(h0:0<l.length)(hl:l.length≤100)(ha:0≤c.At∧c.At<256)(hP:∀s∈l,Pl 60 s)(hc:Pl 60 c.Spec):∃l',sf K n l c=some l'∧0<l'.length∧l'.length≤l.length+1∧∀s∈l',Pl 90 s:=by
 have up:∀s∈l,Pl 90 s:=fun s hs=>⟨(hP s hs).1,(hP s hs).2.1,by have:=(hP s hs).2.2;omega⟩;have cup:Pl 90 c.Spec:=⟨hc.1,hc.2.1,by have:=hc.2.2;omega⟩;unfold sf;simp only[List.nil_append,List.length_nil,Nat.zero_add,List.length_singleton,List.length_append,List.length_cons];rw[cW (by omega) (by omega),bg];by_cases h2:(l.length:Int)<2
 ·rw[if_pos (decide_eq_true h2),dd (by omega) (by omega),bg,cW (by omega) (by omega),bg];refine⟨_,rfl,by simp,by simp,fun s hs=>?_⟩;rcases List.mem_append.1 hs with hs|hs
  ·exact up s hs
  ·simp only[List.mem_cons,List.not_mem_nil,or_false]at hs;subst hs;exact⟨hc.1,rfl,Nat.zero_le _⟩
 ·have hd:¬ decide ((l.length:Int)<2)=true:=by simpa using h2
  rw[if_neg hd];have w1:ab ((l.length:Int)-1)=(l.length:Int)-1:=cz (by omega) (by omega);have w2:ab c.At=c.At:=cz (by omega) (by omega);have hm0:=Int.tmod_nonneg ((l.length:Int)-1) ha.1;have hm1:=Int.tmod_lt_of_pos c.At (show 0<(l.length:Int)-1 by omega);rw[w1,w2,cz (by omega) (by omega)];have hne:(((l.length:Int)-1) != 0)=true:=by simp[bne];omega
  rw[hne,bg,Option.bind_some];generalize hat:1+c.At.tmod ((l.length:Int)-1)=at_ at *;obtain⟨a,rfl⟩:∃a:Nat,at_=(a:Int):=⟨at_.toNat,by omega⟩;have ha1:1≤a:=by omega
  have ha2:a<l.length:=by omega
  have w3:ab ((a:Int)+1)=((a+1:Nat):Int):=ec (by omega);have hla:=hP _ (fi (L:=l) (i:=((a:Nat):Int).toNat) (by simpa using ha2));simp only[dR ha2,bg,Option.bind_some,rW,w3];split
  ·refine⟨_,rfl,by simp;omega,by simp,fun s hs=>?_⟩;rcases List.mem_or_eq_of_mem_set hs with hs|hs
   ·exact up s hs
   ·subst hs;exact⟨hc.1,hla.2.1,by have:=hc.2.2;show c.Spec.Text.size≤90;omega⟩
  ·split
   ·have h1:(⟨#[120]⟩:ByteArray).size=1:=rfl;have hs:pQ (l.getD ((a:Nat):Int).toNat default).Text (⟨#[120]⟩:ByteArray)=true:=by
     unfold pQ;have:=hla.2.2;rw[h1];exact decide_eq_true (by omega)
    rw[hs,bg];refine⟨_,rfl,by simp;omega,by simp,fun s hs=>?_⟩;rcases List.mem_or_eq_of_mem_set hs with hs|hs
    ·exact up s hs
    ·subst hs;refine⟨hla.1,hla.2.1,?_⟩;have:=hla.2.2;show((l.getD ((a:Nat):Int).toNat default).Text++(⟨#[120]⟩:ByteArray)).size≤90;rw[ByteArray.size_append,h1];omega
   ·split
    ·rw[wx (by omega) (by omega) (by omega),bg,wx (by omega) (by omega) (by omega),bg];simp only[Int.toNat_natCast,show(0:Int).toNat=0 from rfl,Nat.sub_zero];have hb:(Nat.ble 1 a&&(Nat.ble a (a+1)&&Nat.ble (a+1+(l.length-(a+1))) l.length))=true:=by
      simp only[Bool.and_eq_true];exact⟨Nat.ble_eq_true_of_le ha1,Nat.ble_eq_true_of_le (by omega),Nat.ble_eq_true_of_le (by omega)⟩
     rw[hb,bg];refine⟨_,rfl,by rw[List.length_append,List.length_take];omega,by rw[List.length_append,List.length_take,List.length_take,List.length_drop];omega,fun s hs=>up s ?_⟩;rcases List.mem_append.1 hs with hs|hs
     ·exact List.mem_of_mem_take hs
     ·exact List.mem_of_mem_drop (List.mem_of_mem_take hs)
    ·rw[wx (by omega) (by omega) (by omega),bg];simp only[Int.toNat_natCast,show(0:Int).toNat=0 from rfl,List.drop_zero,List.length_take,List.length_drop];rw[cW (by omega) (by omega),bg,cW (by omega) (by omega),bg,wx (by omega) (by omega) (by omega),bg,cW (by omega) (by omega),bg];refine⟨_,rfl,by simp;omega,by simp;omega,fun s hs=>?_⟩;rcases List.mem_append.1 hs with hs|hs
     ·rcases List.mem_append.1 hs with hs|hs
      ·exact up s (List.mem_of_mem_take hs)
      ·simp only[List.mem_cons,List.not_mem_nil,or_false]at hs;subst hs;exact cup
     ·exact up s (List.mem_of_mem_take (List.mem_of_mem_drop hs))
end Go.Proofs.YtocgkfoifehcbaaGreat
namespace Go.Proofs.YtocgkfoifehcbaaGreat.QRelayoutFresh
set_option linter.all false
set_option maxRecDepth 20000
open Go.RowKit
theorem EH{α:Type}{L:List α}{i:Nat}(h:i<L.length)(x d:α):(L.set i x).getD i d=x:=by
 rw[List.getD_eq_getElem?_getD,List.getElem?_set_self h];rfl
theorem Tu(N:Nat)(hN:9400≤N)(c:di)(w:Int)(hat:0≤c.At∧c.At<256)(hct:c.Spec.Text.size≤60)(L:List aw)(h0:0<L.length)(hl:L.length≤12)(hP:∀s∈L,Pl 60 s)(m:Nat):
  ld (KN (N+1)) (N+1) c w (m+1) (L.length:Int) ((L.length:Nat):Int) L=some true:=by
 simp only[ld,oo];rw[if_neg (by simp)];obtain⟨old,o1,o2,o3⟩:=I7 (KN (N+1)) (N+1) L h0 (by omega) (by omega) (fun s hs=>⟨(hP s hs).1,(hP s hs).2.1,by have:=(hP s hs).2.2;omega⟩);rw[o1,Option.bind_some];obtain⟨L2,a1,a2,a3,a4⟩:=P8 (KN (N+1)) (N+1) L ({ c with Spec:=({ c.Spec with Rows:=0,Style:=({ cT with Height:=c.Spec.Style.Height,LineHeight:=c.Spec.Style.LineHeight }:aJ) }:aw) }:di) h0 (by omega) hat hP ⟨⟨rfl,rfl,rfl,rfl,rfl,rfl⟩,rfl,hct⟩;rw[a1,Option.bind_some];obtain⟨root,r1,r2,r3⟩:=I7 (KN (N+1)) (N+1) L2 a2 (by omega) (by omega) a4;rw[r1,Option.bind_some];obtain⟨F,out,e1,e2⟩:=Tt w N old root hN o3 r3 (by omega) (by omega) 0 0;rw[e1,Option.bind_some,Is (bD old) (N+1) old 10 (Nat.le_refl _) (by omega) (by omega) o3,Option.bind_some];obtain⟨G,fr,us,out2,e3,e4⟩:=e2 ((dt old.Kids).length:Int) 0;simp only[bne_self_eq_false,Bool.false_eq_true,if_false,rA];rw[e3,Option.bind_some,Ht old (by omega) (bD root) (N+1) root 10 (Nat.le_refl _) (by omega) (by omega) r3,Option.bind_some]
 simp[e4]
theorem Nj(N:Nat)(hN:9400≤N)(c:di)(w:Int)(hat:0≤c.At∧c.At<256)(hct:c.Spec.Text.size≤60)(len:Nat)(h0:0<len)(hl:len≤12):∀(m i:Nat) (L:List aw),L.length=len→i≤len→len<m+i→(∀s∈L,s.Text.size≤60)→(∀k,k<i→Pl 60 (L.getD k default)) →
  ld (KN (N+1)) (N+1) c w m (len:Int) ((i:Nat):Int) L=some true:=by
 intro m
 induction m with
 | zero=>intro i L _ _ h _ _;omega
 | succ m ih =>
  intro i L hL h1 h2 h3 h4;by_cases hi:i<len
  ·have hi':i<L.length:=by omega
   simp only[ld,oo];simp only[fh hi,if_true,Int.toNat_natCast,List.set_set,List.length_set,dR hi',bg,Option.bind_some,EH hi'];rw[ec (by omega)];have ht:=h3 _ (fi hi');refine ih (i+1) _ (by rw[List.length_set];exact hL) (by omega) (by omega) (fun s hs=>?_) (fun k hk=>?_)
   ·rcases List.mem_or_eq_of_mem_set hs with hs|hs
    ·exact h3 s hs
    ·subst hs;exact ht
   ·by_cases he:k=i
    ·subst he;rw[EH hi'];exact⟨⟨rfl,rfl,rfl,rfl,rfl,rfl⟩,rfl,ht⟩
    ·have hne:∀y:aw,(L.set i y).getD k default=L.getD k default:=fun y=>by
      rw[List.getD_eq_getElem?_getD,List.getD_eq_getElem?_getD,List.getElem?_set_ne (fun h=>he h.symm)]
     rw[hne];exact h4 k (by omega)
  ·have e:i=len:=by omega
   subst e;have hP:∀s∈L,Pl 60 s:=fun s hs=>by
    obtain⟨k,hk,rfl⟩:=List.mem_iff_getElem.1 hs;have:=h4 k (by omega);rwa[cZ hk]at this
   have:=Tu N hN c w hat hct L (by omega) (by omega) hP m;rw[hL]at this;exact this
theorem holds(x0:List aw)(x1:di)(x2:Int)(h0:cp Tryz.prog 22 ((Au aA) x0))(h1:cp Tryz.prog 39 (dw x1))(h2:cp Tryz.prog 3 ((ba .i64) x2)):∃n,uG (KN n) n x0 x1 x2=some true:=by
 obtain⟨l,hl,hm,_⟩:=h0.sl_inv Tryz.underlying22;simp only[Au,List.cons.injEq,AV.sl.injEq,and_true]at hl;have hlen:l.length=x0.length:=by rw[←hl,List.length_map]
 have hm':l.length≤9223372036854775807:=hm;have hat:0≤x1.At∧x1.At<256:=by
  have hg:=h1.gen;rw[Tryz.underlying39]at hg;obtain⟨parts,hcs,hl3,hp⟩:=hg;have hl3:parts.length=3:=hl3;obtain⟨p0,r0,e0,hl0⟩:=ce hl3;subst e0;obtain⟨n,rfl,hw⟩:=(hp 0 _ p0 rfl rfl).int_inv Tryz.underlying5;have e:(dw x1).head?=some (.int .u8 n):=by rw[hcs];rfl
  have e2:(dw x1).head?=some (.int .u8 x1.At):=by kernel_rfl
  rw[e2]at e;injection e with e;injection e with _ e
  rw[e];have:0≤n∧n≤255:=by simpa[Lit.wf,IntKind.min,IntKind.max,IntKind.signed,IntKind.bits]using hw
  omega
 refine⟨x0.length+20000+30,?_⟩;unfold uG;rw[Rs (x0.length+20000),Option.bind_some];obtain⟨N,hN⟩:∃N,x0.length+20000+30=N+1:=⟨x0.length+20029,by omega⟩;rw[hN];obtain⟨b,e1,e2⟩:=SO (KN (N+1)) (N+1) x0 [x1] (by omega) (by simp) (by omega) (by simp;omega);rw[e1,Option.bind_some];cases b with
 | false=>rfl
 | true =>
  obtain⟨⟨f1,f2,_⟩,f3,f4⟩:=e2 rfl;simp only[Bool.not_true,Bool.false_eq_true,if_false,List.nil_append,List.length_nil,Nat.zero_add];rw[cW (by omega) (by omega),bg];have ht:x1.Spec.Text.size≤60:=by have:=(f4 x1 (by simp)).text;omega
  exact Nj N (by omega) x1 x2 hat ht x0.length f2 f1 (N+1) 0 x0 rfl (Nat.zero_le _) (by omega) (fun s hs=>by have:=(f3 s hs).text;omega) (fun k hk=>by omega)
end Go.Proofs.YtocgkfoifehcbaaGreat.QRelayoutFresh
