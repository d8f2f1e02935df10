/- Plain laws about the plain functions: words for all of them. No program in sight. -/
import Derived.Test.YtocgkfoifehcbaaGreatRfGf
import Derived.Lib.TrimUEq
import Derived.Laws.BitsLemmas
import Derived.Test.YtocgkfoifehcbaaGreatRfGop
namespace Go.Proofs.YtocgkfoifehcbaaGreat
set_option linter.all false
open Go.RowKit
theorem cB{n:Int}(h1 : -9223372036854775808≤n)(h2:n≤9223372036854775807):ab n=n:=by
 unfold ab;rw[IntKind.wrap_i64];omega
theorem bg{α:Type}(x:Option α):aH true x=x:=rfl
theorem db{i:Int}{n:Nat}(h0:0≤i)(h1:i<n):aX i n=true:=by simp[aX,h0,h1]
theorem cX{α:Type}[Inhabited α]{L:List α}{k:Nat}(h:k<L.length):L.getD k default=L[k]:=by simp[List.getD_eq_getElem?_getD,List.getElem?_eq_getElem h]
theorem cW{n b:Nat}(h:n*b≤140737488355328)(hb:0<b):fits n b=true:=by
 have h1:n≤n*b:=Nat.le_mul_of_pos_right n hb;have h2:n≤9223372036854775807:=by omega
 simp only[fits,Bool.and_eq_true,decide_eq_true_eq];exact⟨h2,h⟩
end Go.Proofs.YtocgkfoifehcbaaGreat
namespace Go.Proofs.YtocgkfoifehcbaaGreat
set_option linter.all false
open Go.RowKit
mutual
/-- How many boxes. -/
def bD:aa→Nat
 | ⟨_,_,_,_,_,_,ks⟩=>cc ks+1
def cc:List aa→Nat
 | []=>0
 | b::r=>bD b+cc r
end
theorem f8(b:aa):bD b=cc b.Kids+1:=by cases b;simp only[bD]
theorem eO(b:aa):1≤bD b:=by rw[f8];omega
theorem JY:∀{l:List aa} {b:aa},b∈l→bD b≤cc l
 | [],b,h=>by cases h
 | c::r,b,h=>by
  simp only[cc];rcases List.mem_cons.1 h with rfl|h
  ·omega
  ·have:=JY h;omega
theorem pK:∀(l:List aa),l.length≤cc l
 | []=>Nat.le_refl _
 | c::r=>by simp only[cc,List.length_cons];have:=pK r;have:=eO c;omega
theorem Cq:∀(l m:List aa),cc (l++m)=cc l+cc m
 | [],m=>by simp[cc]
 | c::r,m=>by simp only[List.cons_append,cc,Cq r m];omega
theorem iw{b k:aa}(h:k∈b.Kids):bD k<bD b:=by rw[f8 b];have:=JY h;omega
theorem un(b:aa):b.Kids.length<bD b:=by rw[f8];have:=pK b.Kids;omega
def gn(a b:aa):Bool:=(a.Kind == b.Kind)&&((a.Node == b.Node)&&((jW a.Style b.Style)&&((a.Text.toList == b.Text.toList)&&((a.Rows == b.Rows)&&(a.Cols == b.Cols)))))
mutual
def cZ:aa→aa→Bool
 | ⟨k,n,s,t,r,c,ks⟩,b=>gn ⟨k,n,s,t,r,c,[]⟩ b&&dJ ks b.Kids
def dJ:List aa→List aa→Bool
 | [],[]=>true
 | a::r,b::q=>cZ a b&&dJ r q
 | _,_=>false
end
theorem mS(a b:aa):cZ a b=(gn a b&&dJ a.Kids b.Kids):=by cases a;simp only[cZ];rfl
theorem xE:∀{l m:List aa},dJ l m=true→l.length=m.length
 | [],[],_=>rfl
 | a::r,b::q,h=>by simp only[dJ,Bool.and_eq_true]at h;simp[xE h.2]
 | [],_::_,h=>by cases h
 | _::_,[],h=>by cases h
theorem Qp(x:dg):eg x x=true:=by simp[eg]
theorem QM(x:aJ):jW x x=true:=by simp[jW,Qp]
theorem OH(a:aa):gn a a=true:=by simp[gn,QM]
mutual
theorem zV:∀a:aa,cZ a a=true
 | ⟨k,n,s,t,r,c,ks⟩=>by
  rw[mS,OH,Bool.true_and];exact Il ks
theorem Il:∀l:List aa,dJ l l=true
 | []=>rfl
 | a::r=>by simp only[dJ,zV a,Il r,Bool.and_self]
end
theorem eh{i:Nat}(h:i<1000000000):ab ((i:Int)+1)=((i+1:Nat):Int):=by rw[cB (by omega) (by omega)];omega
theorem dP{i n:Nat}(h:i<n):aX ((i:Nat):Int) n=true:=db (by omega) (by omega)
theorem fw{i n:Nat}(h:i<n):decide (((i:Nat):Int)<((n:Nat):Int))=true:=decide_eq_true (by omega)
theorem fK{i n:Nat}(h:n≤i):decide (((i:Nat):Int)<((n:Nat):Int))=false:=decide_eq_false (by omega)
theorem gN{α:Type}[Inhabited α]{L:List α}{k:Nat}(h:k<L.length):L.getD ((k:Nat):Int).toNat default=L[k]:=by rw[Int.toNat_natCast];exact cX h
theorem E2{l m:List aa}{i:Nat}(h1:i<l.length)(h2:i<m.length):dJ (l.drop i) (m.drop i)=(cZ l[i] m[i]&&dJ (l.drop (i+1)) (m.drop (i+1))):=by
 rw[List.drop_eq_getElem_cons h1,List.drop_eq_getElem_cons h2];simp only[dJ]
theorem VZ(K:Kn)(n:Nat)(a b:aa)(hl:a.Kids.length=b.Kids.length)(hs:a.Kids.length<1000000)(hk:∀k∈a.Kids,∀q,K.nO k q=some (cZ k q)):∀(m i:Nat),i≤a.Kids.length→a.Kids.length<m+i →
  mW K n a b m i=some (dJ (a.Kids.drop i) (b.Kids.drop i)):=by
 intro m
 induction m with
 | zero=>intro i h1 h2;omega
 | succ m ih =>
  intro i h1 h2;simp only[mW,rT];by_cases hi:i<a.Kids.length
  ·simp only[fw hi,if_true,dP hi,dP (show i<b.Kids.length by omega),bg,gN hi,gN (show i<b.Kids.length by omega),hk _ (List.getElem_mem hi),Option.bind_some];rw[E2 hi (by omega)];cases h:cZ a.Kids[i] b.Kids[i] with
   | false=>simp
   | true =>
    simp only[Bool.not_true,Bool.false_eq_true,if_false,Bool.true_and];rw[eh (by omega)];exact ih (i+1) (by omega) (by omega)
  ·simp only[fK (show a.Kids.length≤i by omega),Bool.false_eq_true,if_false];rw[List.drop_eq_nil_of_le (by omega),List.drop_eq_nil_of_le (by omega)];rfl
theorem IJ:∀(s N:Nat) (a b:aa),bD a≤s→s<1000000→s+2≤N→nt (KN N) N a b=some (cZ a b)
 | 0,_,a,_,h,_,_=>by have:=eO a;omega
 | s+1,0,_,_,_,_,h=>by omega
 | s+1,N+1,a,b,h1,h2,h3=>by
  have hkid:∀k∈a.Kids,∀q,(KN (N+1)).nO k q=some (cZ k q):=fun k hk q=>IJ s N k q (by have:=iw hk;omega) (by omega) (by omega);have hlen:=un a;have jt:gk (KN (N+1)) (N+1) a b true=some false:=rfl;have jf:a.Kids.length=b.Kids.length→gk (KN (N+1)) (N+1) a b false=some (dJ a.Kids b.Kids):=fun hl=>by
   have:=VZ (KN (N+1)) (N+1) a b hl (by omega) hkid (N+1) 0 (Nat.zero_le _) (by omega);simpa[gk]using this
  unfold nt;rw[mS];unfold gn;cases c1:(a.Kind == b.Kind) with
  | false=>simp[bne,c1,jt]
  | true =>
  cases c2:(a.Node == b.Node) with
  | false=>simp[bne,c1,c2,jt]
  | true =>
  cases c3:(jW a.Style b.Style) with
  | false=>simp[bne,c1,c2,jt]
  | true =>
  cases c4:(a.Text.toList == b.Text.toList) with
  | false=>simp[bne,c1,c2,jt]
  | true =>
  cases c5:(a.Rows == b.Rows) with
  | false=>simp[bne,c1,c2,c5,jt]
  | true =>
  cases c6:(a.Cols == b.Cols) with
  | false=>simp[bne,c1,c2,c5,c6,jt]
  | true =>
   simp only[bne,c1,c2,c5,c6,Bool.not_true,Bool.false_eq_true,if_false,Bool.true_and];by_cases hl:a.Kids.length=b.Kids.length
   ·have:(((a.Kids.length:Nat):Int) == ((b.Kids.length:Nat):Int))=true:=by rw[hl];simp
    rw[this,Bool.not_true,jf hl]
   ·have:(((a.Kids.length:Nat):Int) == ((b.Kids.length:Nat):Int))=false:=by simp;omega
    rw[this,Bool.not_false,jt];cases he:dJ a.Kids b.Kids with
    | false=>rfl
    | true=>exact absurd (xE he) hl
theorem SB(K:Kn)(n:Nat)(l q:List aa)(hl:l.length=q.length)(hs:l.length<1000000)(hk:∀k∈l,∀p,K.ly (Fv.fn 27) k p=some (cZ k p)):∀(m i:Nat),i≤l.length→l.length<m+i →
  o5 K n l q (Fv.fn 27) m i=some (dJ (l.drop i) (q.drop i)):=by
 intro m
 induction m with
 | zero=>intro i h1 h2;omega
 | succ m ih =>
  intro i h1 h2;simp only[o5,rc];by_cases hi:i<l.length
  ·simp only[fw hi,if_true,dP hi,dP (show i<q.length by omega),bg,gN hi,gN (show i<q.length by omega),hk _ (List.getElem_mem hi),Option.bind_some];rw[E2 hi (by omega)];cases h:cZ l[i] q[i] with
   | false=>simp
   | true =>
    simp only[Bool.not_true,Bool.false_eq_true,if_false,Bool.true_and];rw[eh (by omega)];exact ih (i+1) (by omega) (by omega)
  ·simp only[fK (show l.length≤i by omega),Bool.false_eq_true,if_false];rw[List.drop_eq_nil_of_le (by omega),List.drop_eq_nil_of_le (by omega)];rfl
theorem TU(K:Kn)(n:Nat)(l q:List aa)(hs:l.length<1000000)(hn:l.length<n)(hk:∀k∈l,∀p,K.ly (Fv.fn 27) k p=some (cZ k p)):qH K n l q (Fv.fn 27)=some (dJ l q):=by
 unfold qH;by_cases hl:l.length=q.length
 ·have:(((l.length:Nat):Int) != ((q.length:Nat):Int))=false:=by rw[hl];simp
  rw[this];simpa using SB K n l q hl hs hk n 0 (Nat.zero_le _) (by omega)
 ·have:(((l.length:Nat):Int) != ((q.length:Nat):Int))=true:=by simp[bne];omega
  rw[this,if_pos rfl];cases he:dJ l q with
  | false=>rfl
  | true=>exact absurd (xE he) hl
theorem vA:∀(s N:Nat) (a b:aa),bD a≤s→s<1000000→s+2≤N→j4 (KN N) N a b=some (cZ a b)
 | 0,_,a,_,h,_,_=>by have:=eO a;omega
 | s+1,0,_,_,_,_,h=>by omega
 | s+1,N+1,a,b,h1,h2,h3=>by
  have hkid:∀k∈a.Kids,∀q,(KN (N+1)).ly (Fv.fn 27) k q=some (cZ k q):=fun k hk q=>vA s N k q (by have:=iw hk;omega) (by omega) (by omega);have hlen:=un a;have he:=TU (KN (N+1)) (N+1) a.Kids b.Kids (by omega) (by omega) hkid;unfold j4;rw[mS,he];unfold gn;simp only[ij,Option.bind_some];cases c1:(a.Kind == b.Kind) with
  | false=>simp
  | true =>
  cases c2:(a.Node == b.Node) with
  | false=>simp
  | true =>
  cases c3:(jW a.Style b.Style) with
  | false=>simp
  | true =>
  cases c4:(a.Text.toList == b.Text.toList) with
  | false=>simp
  | true =>
  cases c5:(a.Rows == b.Rows) with
  | false=>simp
  | true =>
  cases c6:(a.Cols == b.Cols) with
  | false=>simp
  | true=>simp
end Go.Proofs.YtocgkfoifehcbaaGreat
namespace Go.Proofs.YtocgkfoifehcbaaGreat
set_option linter.all false
open Go.RowKit
mutual
/-- b is within a box. -/
def dh(b:aa):aa→Bool
 | ⟨k,n,s,t,r,c,ks⟩=>cZ ⟨k,n,s,t,r,c,ks⟩ b||fP b ks
def fP(b:aa):List aa→Bool
 | []=>false
 | k::r=>dh b k||fP b r
end
theorem nG(b a:aa):dh b a=(cZ a b||fP b a.Kids):=by cases a;simp only[dh]
theorem GI{b:aa}{l:List aa}{i:Nat}(h:i<l.length):fP b (l.drop i)=(dh b l[i]||fP b (l.drop (i+1))):=by
 rw[List.drop_eq_getElem_cons h];simp only[fP]
theorem VL(K:Kn)(n:Nat)(a b:aa)(hs:a.Kids.length<1000000)(hk:∀k∈a.Kids,K.oe k b=some (dh b k)):∀(m i:Nat),i≤a.Kids.length→a.Kids.length<m+i →
  o7 K n a b m i=some (fP b (a.Kids.drop i)):=by
 intro m
 induction m with
 | zero=>intro i h1 h2;omega
 | succ m ih =>
  intro i h1 h2;simp only[o7,ss];by_cases hi:i<a.Kids.length
  ·simp only[fw hi,if_true,dP hi,bg,gN hi,hk _ (List.getElem_mem hi),Option.bind_some];rw[GI hi];cases h:dh b a.Kids[i] with
   | true=>simp
   | false =>
    simp only[Bool.false_eq_true,if_false,Bool.false_or];rw[eh (by omega)];exact ih (i+1) (by omega) (by omega)
  ·simp only[fK (show a.Kids.length≤i by omega),Bool.false_eq_true,if_false];rw[List.drop_eq_nil_of_le (by omega)];rfl
theorem Ig:∀(s N:Nat) (a b:aa),bD a≤s→s<1000000→s+2≤N→mc (KN N) N a b=some (dh b a)
 | 0,_,a,_,h,_,_=>by have:=eO a;omega
 | s+1,0,_,_,_,_,h=>by omega
 | s+1,N+1,a,b,h1,h2,h3=>by
  have hkid:∀k∈a.Kids,(KN (N+1)).oe k b=some (dh b k):=fun k hk=>Ig s N k b (by have:=iw hk;omega) (by omega) (by omega);have hlen:=un a;unfold mc;rw[IJ (s+1) (N+1) a b h1 h2 h3,Option.bind_some,nG];cases h:cZ a b with
  | true=>simp
  | false =>
   simp only[Bool.false_eq_true,if_false,Bool.false_or];simpa using VL (KN (N+1)) (N+1) a b (by omega) hkid (N+1) 0 (Nat.zero_le _) (by omega)
theorem QY(K:Kn)(n:Nat)(l:List aa)(b:aa)(hs:l.length<1000000)(hk:∀k∈l,K.iQ (Fv.c65 b) k=some (dh b k)):∀(m i:Nat),i≤l.length→l.length<m+i →
  ∃r,iB K n l (Fv.c65 b) m i=some r∧decide (r≥0)=fP b (l.drop i):=by
 intro m
 induction m with
 | zero=>intro i h1 h2;omega
 | succ m ih =>
  intro i h1 h2;simp only[iB,oG];by_cases hi:i<l.length
  ·simp only[fw hi,if_true,dP hi,bg,gN hi,hk _ (List.getElem_mem hi),Option.bind_some];rw[GI hi];cases h:dh b l[i] with
   | true=>exact⟨_,rfl,by simp⟩
   | false =>
    simp only[Bool.false_eq_true,if_false,Bool.false_or];rw[eh (by omega)];exact ih (i+1) (by omega) (by omega)
  ·simp only[fK (show l.length≤i by omega),Bool.false_eq_true,if_false];rw[List.drop_eq_nil_of_le (by omega)];exact⟨_,rfl,rfl⟩
theorem H7:∀(s N:Nat) (a b:aa),bD a≤s→s<100000→2*s+4≤N→lA (KN N) N a b=some (dh b a)
 | 0,_,a,_,h,_,_=>by have:=eO a;omega
 | s+1,0,_,_,_,_,h=>by omega
 | s+1,1,_,_,_,_,h=>by omega
 | s+1,N+2,a,b,h1,h2,h3=>by
  have hkid:∀k∈a.Kids,(KN (N+2)).iQ (Fv.c65 b) k=some (dh b k):=fun k hk=>by
   show qG (KN (N+1)) (N+1) k b=_;unfold qG;show(lA (KN N) N k b).bind _=_;rw[H7 s N k b (by have:=iw hk;omega) (by omega) (by omega)];rfl
  have hlen:=un a;unfold lA;rw[vA (s+1) (N+2) a b h1 (by omega) (by omega),Option.bind_some,nG];simp only[qJ];cases h:cZ a b with
  | true=>simp
  | false =>
   simp only[Bool.false_eq_true,if_false,Bool.false_or];unfold ku qr;obtain⟨r,e1,e2⟩:=QY (KN (N+2)) (N+2) a.Kids b (by omega) hkid (N+2) 0 (Nat.zero_le _) (by omega);have e1':iB (KN (N+2)) (N+2) a.Kids (Fv.c65 b) (N+2) 0=some r:=e1;rw[e1'];simp only[Option.bind_some,e2,List.drop_zero]
end Go.Proofs.YtocgkfoifehcbaaGreat
namespace Go.Proofs.YtocgkfoifehcbaaGreat
set_option linter.all false
open Go.RowKit
def da(r:Int):List UInt8:=(Utf8.encode r).data.toList
def cI(r:Int):Prop:=(0≤r∧r<55296)∨(57344≤r∧r≤1114111)
theorem KC{r:Int}(h:cI r):Utf8.valid r=true:=by
 unfold cI at h;unfold Utf8.valid;simp only[Bool.or_eq_true,Bool.and_eq_true,decide_eq_true_eq];omega
theorem dZ{n:Nat}(h:n<256):(UInt8.ofNat n).toNat=n:=by rw[UInt8.toNat_ofNat',Nat.mod_eq_of_lt h]
theorem Az {r:Int} (h:cI r):∃ c:Nat,r=(c:Int) ∧
    ((c<128∧da r=[UInt8.ofNat c])∨(128≤c∧c<2048∧da r=[UInt8.ofNat (192+c / 64),UInt8.ofNat (128+c % 64)]) ∨
     (2048≤c∧c<65536∧(c<55296∨57344≤c)∧da r=[UInt8.ofNat (224+c / 4096),UInt8.ofNat (128+c / 64 % 64),UInt8.ofNat (128+c % 64)]) ∨
     (65536≤c∧c≤1114111∧da r=[UInt8.ofNat (240+c / 262144),UInt8.ofNat (128+c / 4096 % 64),UInt8.ofNat (128+c / 64 % 64),UInt8.ofNat (128+c % 64)])):=by
  refine⟨r.toNat,by unfold cI at h;omega,?_⟩;unfold da Utf8.encode;simp only[KC h,if_true];unfold cI at h;generalize hc:r.toNat=c at *;by_cases h1:c<128
  · left;simp[h1]
  · by_cases h2:c<2048
    · right;left;simp[h1,h2];omega
    · by_cases h3:c<65536
      · right;right;left;simp[h1,h2,h3];omega
      · right;right;right;simp[h1,h2,h3];omega
theorem z4{r:Int}(h:cI r)(t:List UInt8):Lib.decodeL (da r++t)=(r.toNat,(da r).length):=by
 obtain⟨c,rfl,h|h|h|h⟩:=Az h
 ·rw[h.2,Lib.decodeL_N];simp only[List.cons_append,List.nil_append,List.getD_cons_zero,dZ (show c<256 by omega),Int.toNat_natCast,List.length_cons,List.length_nil];unfold Lib.decodeN;rw[if_pos h.1]
 ·rw[h.2.2,Lib.decodeL_N];simp only[List.cons_append,List.nil_append,List.getD_cons_zero,List.getD_cons_succ,dZ (show 192+c / 64<256 by omega),dZ (show 128+c % 64<256 by omega),Int.toNat_natCast,List.length_cons,List.length_nil];unfold Lib.decodeN;rw[if_neg (by omega),if_pos (by omega),if_pos (by omega)];congr 1;omega
 ·rw[h.2.2.2,Lib.decodeL_N];simp only[List.cons_append,List.nil_append,List.getD_cons_zero,List.getD_cons_succ,dZ (show 224+c / 4096<256 by omega),dZ (show 128+c / 64 % 64<256 by omega),dZ (show 128+c % 64<256 by omega),Int.toNat_natCast,List.length_cons,List.length_nil];unfold Lib.decodeN;rw[if_neg (by omega),if_neg (by omega),if_pos (by omega),if_pos (by omega)];congr 1;omega
 ·rw[h.2.2,Lib.decodeL_N];simp only[List.cons_append,List.nil_append,List.getD_cons_zero,List.getD_cons_succ,dZ (show 240+c / 262144<256 by omega),dZ (show 128+c / 4096 % 64<256 by omega),dZ (show 128+c / 64 % 64<256 by omega),dZ (show 128+c % 64<256 by omega),Int.toNat_natCast,List.length_cons,List.length_nil];unfold Lib.decodeN;rw[if_neg (by omega),if_neg (by omega),if_neg (by omega),if_pos (by omega),if_pos (by omega)];congr 1;omega
theorem vx{r:Int}(h:cI r):1≤(da r).length∧(da r).length≤4:=by
 obtain⟨c,_,h|h|h|h⟩:=Az h
 ·rw[h.2];simp
 ·rw[h.2.2];simp
 ·rw[h.2.2.2];simp
 ·rw[h.2.2];simp
theorem LA(n b0 b1 b2 b3:Nat):cI ((Lib.decodeN n b0 b1 b2 b3).1:Int):=by
 unfold Lib.decodeN cI
 repeat' split
 all_goals simp only[]
 all_goals omega
theorem OV(l:List UInt8):cI ((Lib.decodeL l).1:Int):=by rw[Lib.decodeL_N];exact LA _ _ _ _ _
def fS:Nat→List UInt8→List Int
 | 0,_=>[]
 | n+1,l=>if l.isEmpty=true then [] else ((Lib.decodeL l).1:Int)::fS n (l.drop (Lib.decodeL l).2)
theorem SS:∀(n m:Nat) (l:List UInt8),l.length≤n→l.length≤m→fS n l=fS m l:=by
 intro n
 induction n with
 | zero =>
  intro m l h1 h2;have:l=[]:=List.eq_nil_of_length_eq_zero (by omega);subst this;cases m<;>simp[fS]
 | succ n ih =>
  intro m l h1 h2;cases m with
  | zero =>
   have:l=[]:=List.eq_nil_of_length_eq_zero (by omega);subst this;simp[fS]
  | succ m =>
   unfold fS;split
   ·rfl
   ·have:=Lib.decodeL_width l;rw[ih m _ (by simp;omega) (by simp;omega)]
def f0(l:List UInt8):List Int:=fS l.length l
theorem SV:f0 []=[]:=rfl
theorem Im{l:List UInt8}(h:l≠[]):f0 l=((Lib.decodeL l).1:Int)::f0 (l.drop (Lib.decodeL l).2):=by
 unfold f0;cases l with
 | nil=>exact absurd rfl h
 | cons x r =>
  have:=Lib.decodeL_width (x::r);rw[show fS (x::r).length (x::r)=((Lib.decodeL (x::r)).1:Int)::fS r.length ((x::r).drop (Lib.decodeL (x::r)).2) from rfl];rw[SS r.length _ _ (by simp;omega) (Nat.le_refl _)]
theorem KQ{r:Int}(h:cI r)(t:List UInt8):f0 (da r++t)=r::f0 t:=by
 have hl:=vx h;rw[Im (by intro e;rw[List.append_eq_nil_iff]at e;rw[e.1]at hl;simp at hl),z4 h t];simp only[List.drop_left];congr 1;unfold cI at h;omega
def cN(rs:List Int):List UInt8:=rs.flatMap da
theorem Ee(r:Int)(rs:List Int):cN (r::rs)=da r++cN rs:=by simp[cN]
theorem JQ(a b:List Int):cN (a++b)=cN a++cN b:=by simp[cN]
theorem CA:∀{rs:List Int} (t:List UInt8),(∀r∈rs,cI r)→f0 (cN rs++t)=rs++f0 t
 | [],t,_=>rfl
 | r::rs,t,h=>by
  rw[Ee,List.append_assoc,KQ (h r (by simp)),CA t (fun x hx=>h x (by simp[hx]))];rfl
theorem SC{rs:List Int}(h:∀r∈rs,cI r):f0 (cN rs)=rs:=by
 have:=CA [] h;simpa[SV]using this
theorem Ir:∀(n:Nat) (l:List UInt8),∀r∈fS n l,cI r
 | 0,_,r,h=>by cases h
 | n+1,l,r,h=>by
  unfold fS at h;split at h
  ·cases h
  ·rcases List.mem_cons.1 h with rfl|h
   ·exact OV l
   ·exact Ir n _ r h
theorem Hn{l:List UInt8}:∀r∈f0 l,cI r:=Ir _ _
theorem Eh:∀(n:Nat) (l:List UInt8),(fS n l).length≤n
 | 0,_=>by simp[fS]
 | n+1,l=>by
  unfold fS;split
  ·simp
  ·have:=Eh n (l.drop (Lib.decodeL l).2);simp;omega
theorem K9(l:List UInt8):(f0 l).length≤l.length:=Eh _ _
def fx(b:ByteArray)(p:Nat):List Int:=f0 (b.data.toList.drop p)
theorem nK(b:ByteArray):b.data.toList.length=b.size:=rfl
theorem F3{b:ByteArray}{p:Nat}(h:¬ p<b.size):fx b p=[]:=by
 unfold fx;rw[List.drop_eq_nil_of_le (by rw[nK];omega)];rfl
theorem JV{b:ByteArray}{p:Nat}(h:p<b.size):fx b p=((Utf8.decode b p).1:Int)::fx b (p+(Utf8.decode b p).2):=by
 unfold fx;rw[Im (by intro e;have:=congrArg List.length e;simp at this;have h2:=nK b;simp at h2;omega),Lib.decodeL_drop,List.drop_drop]
theorem Ia(b:ByteArray)(p:Nat):1≤(Utf8.decode b p).2:=by rw[←Lib.decodeL_drop];exact Lib.decodeL_width _
end Go.Proofs.YtocgkfoifehcbaaGreat
namespace Go.Proofs.YtocgkfoifehcbaaGreat
set_option linter.all false
open Go.RowKit
def ints(l:List UInt8):List Int:=l.map fun b=>(b.toNat:Int)
theorem U9(a b:List UInt8):ints (a++b)=ints a++ints b:=by simp[ints]
theorem OZ(a:List UInt8):(ints a).length=a.length:=by simp[ints]
theorem OP(x y:Int):ff .u8 x y=bits .and .u8 x y:=rfl
theorem tZ(x y:Int):dG .u8 x y=bits .or .u8 x y:=rfl
theorem w8{n:Int}(h:0≤n∧n<256):IntKind.wrap .u8 n=n:=by rw[IntKind.wrap_u8];omega
theorem oB(y:Int):dG .u8 128 (ff .u8 (IntKind.wrap .u8 y) 63)=128+y % 64:=by
 have h:0≤IntKind.wrap .u8 y∧IntKind.wrap .u8 y<256:=by rw[IntKind.wrap_u8];omega
 rw[OP,u8_and63 _ h.1 h.2,tZ,u8_or128 _ (by omega) (by omega),IntKind.wrap_u8];omega
section
variable{K:Kn}{n:Nat}
theorem ON{r:Int}(h:cI r){L:List Int}(hL:L.length≤1000000):oE K n r L=some (L++ints (da r)):=by
 have h32:IntKind.wrap .u32 r=r:=by rw[IntKind.wrap_u32];unfold cI at h;omega
 unfold oE;rw[h32];obtain⟨c,rfl,hc|hc|hc|hc⟩:=Az h
 ·rw[if_pos (by simp;omega),cW (by simp;omega) (by omega),bg,hc.2,w8 (by omega)];simp only[ints,List.map_cons,List.map_nil,dZ (show c<256 by omega)]
 ·rw[if_neg (by simp;omega)];unfold o8;rw[h32,if_pos (by simp;omega),cW (by simp;omega) (by omega),bg,hc.2.2];simp only[Option.bind_some,ints,List.map_cons,List.map_nil,dZ (show 192+c / 64<256 by omega),dZ (show 128+c % 64<256 by omega)];rw[w8 (n:=(c:Int) / 64) (by omega),tZ 192,u8_or192 _ (by omega) (by omega),oB];congr 3<;>omega
 ·rw[if_neg (by simp;omega)];unfold o8;rw[h32,if_neg (by simp;omega)];have hj:jV K n (c:Int) L true=some (L++ints (da (c:Int))):=by
   unfold jV;rw[if_pos rfl,cW (by simp;omega) (by omega),bg,hc.2.2.2];simp only[ints,List.map_cons,List.map_nil,dZ (show 224+c / 4096<256 by omega),dZ (show 128+c / 64 % 64<256 by omega),dZ (show 128+c % 64<256 by omega)];rw[w8 (n:=(c:Int) / 4096) (by omega),tZ 224,u8_or224 _ (by omega) (by omega),oB,oB];congr 3<;>omega
  by_cases h1:(c:Int)<55296
  ·rw[if_pos (by simpa using h1),hj];rfl
  ·rw[if_neg (by simpa using h1),if_pos (by simp;omega),show decide ((c:Int)≤65535)=true by simp;omega,hj];rfl
 ·rw[if_neg (by simp;omega)];unfold o8;rw[h32,if_neg (by simp;omega),if_neg (by simp;omega),if_pos (by simp;omega),show decide ((c:Int)≤65535)=false by simp;omega];unfold jV;rw[h32,if_neg (by simp),if_pos (by simp;omega),show decide ((c:Int)≤1114111)=true by simp;omega];unfold ro;rw[if_pos rfl,cW (by simp;omega) (by omega),bg,hc.2.2];simp only[Option.bind_some,ints,List.map_cons,List.map_nil,dZ (show 240+c / 262144<256 by omega),dZ (show 128+c / 4096 % 64<256 by omega),dZ (show 128+c / 64 % 64<256 by omega),dZ (show 128+c % 64<256 by omega)];rw[w8 (n:=(c:Int) / 262144) (by omega),tZ 240,u8_or240 _ (by omega) (by omega),oB,oB,oB];congr 3<;>omega
theorem Tw{r:Int}(h:cI r){L:List Int}(hL:L.length≤1000000)(b:Bool):∃x,mz K n r b L=some (x,(),L++ints (da r)):=by
 unfold mz;rw[ON h hL];cases b
 ·exact⟨_,rfl⟩
 ·exact⟨_,rfl⟩
end
theorem Qq{l:List UInt8}(h:l≠[]):l3 (ints l)=true:=by
 unfold l3 ints;rw[Bool.and_eq_true];refine⟨?_,by cases l;exact absurd rfl h;rfl⟩;rw[List.all_eq_true];intro n hn;obtain⟨b,_,rfl⟩:=List.mem_map.1 hn;have:=UInt8.toNat_lt b;simp;omega
theorem MP(l:List UInt8):bytesOf (ints l)=⟨l.toArray⟩:=by
 unfold bytesOf ints;rw[List.map_map];congr 2
 conv=>rhs;rw[←List.map_id l]
 refine List.map_congr_left fun b _=>?_;simp
end Go.Proofs.YtocgkfoifehcbaaGreat
namespace Go.Proofs.YtocgkfoifehcbaaGreat
set_option linter.all false
open Go.RowKit
noncomputable section
def fU(r:Int):Bool:=r == 9||(r == 10||(r == 13||r == 32))
def rz(r:Int):Int:=(im (KN 0) 0 r).getD 0
def Qv(s:Int):Int:=min (max s 0) 1048576
def yr(r s:Int):Int:=ab (Int.tdiv (ab ((ab (rz r*Qv s))+15)) 16)
def lV(a b:Int):Bool:=bif fU b||rz b == 0 then false else bif fU a then true else bif a == 45&&b != 45 then true else decide (a≥11904)||decide (b≥11904)
def fY(e:aD):Bool:=e.Kind == 1&&(e.Box.Style.WhiteSpace != 1&&e.Box.Style.WhiteSpace != 2)
def ke(a b:aD):Bool :=
 bif a.Kind == 3||b.Kind == 3 then (a.Kind == 3||fY a)&&(b.Kind == 3||fY b)
 else bif a.Kind != 1||(b.Kind != 1||(!fY a||(a.Char != 32&&!fY b))) then false else lV a.Char b.Char
def mw{α:Type}(x:Option α):Prop:=∃u,x=some u
theorem xY{α:Type}(u:α):mw (some u):=⟨u,rfl⟩
theorem Ab{α:Type}{c:Prop}[Decidable c]{x y:Option α}(h1:mw x)(h2:mw y):mw (if c then x else y):=by split;exact h1;exact h2
section
variable(K:Kn)(n:Nat)
theorem IV(r:Int):pj K n r=some (fU r):=by
 unfold pj fU;cases h1:(r == 9)<;>cases h2:(r == 10)<;>cases h3:(r == 13)<;>cases h4:(r == 32)<;>simp[ml]
theorem LN(r:Int):mw (im K n r):=by
 unfold im iJ;simp only[eX,ey,jH,ry]
 repeat first|exact xY _|apply Ab
theorem Gj(r:Int):im K n r=some (rz r):=by
 obtain⟨u,hu⟩:=LN K n r;have e:im (KN 0) 0 r=im K n r:=rfl;unfold rz;rw[e,hu];rfl
theorem IB(r s:Int):kW K n r s=some (yr r s):=by
 unfold kW;rw[Gj];rfl
theorem Oh(a b:Int):rW K n a b=some (lV a b):=by
 unfold rW lV;rw[IV,Gj];simp only[Option.bind_some];have h1:lP K n a b true=some false:=rfl;have h2:lP K n a b false=some (bif fU a then true else bif a == 45&&b != 45 then true else decide (a≥11904)||decide (b≥11904)):=by
  unfold lP;rw[if_neg (by simp),IV];simp only[Option.bind_some];cases fU a with
  | true=>simp
  | false =>
   simp only[Bool.false_eq_true,if_false,cond_false];unfold q6 tw;cases h3:(a == 45)<;>cases h4:(b != 45)<;>cases h5:decide (a≥11904)<;>simp
 cases fU b with
 | true=>rw[if_pos rfl,h1];rfl
 | false =>
  rw[if_neg (by simp)];cases (rz b == 0) with
  | true=>rw[h1];rfl
  | false=>rw[h2];rfl
theorem Gf(e:aD):jz K n e=some (fY e):=by
 unfold jz fY py;cases h1:(e.Kind == 1)<;>cases h2:(e.Box.Style.WhiteSpace != 1)<;>simp
end
theorem D5(a b:ByteArray):(a++b).data.toList=a.data.toList++b.data.toList:=by
 rw[ByteArray.data_append,Array.toList_append]
theorem LU(a b:Int):(runesBytes [a,b]).data.toList=da a++da b:=by
 unfold runesBytes;simp only[List.foldl_cons,List.foldl_nil];rw[D5,D5];rfl
theorem Ll(K:Kn){n:Nat}(hn:3≤n){a b:Int}(ha:cI a)(hb:cI b):∃l,rp K n (runesBytes [a,b])=some l∧decide ((l.length:Int)>0)=lV a b:=by
 generalize hB:runesBytes [a,b]=B;have hl:B.data.toList=da a++da b:=by rw[←hB];exact LU a b
 have la:=vx ha;have lb:=vx hb;have hs:B.size=(da a).length+(da b).length:=by rw[←nK,hl,List.length_append]
 have d0:Utf8.decode B 0=(a.toNat,(da a).length):=by
  rw[←Lib.decodeL_drop,List.drop_zero,hl,z4 ha]
 have d1:Utf8.decode B (da a).length=(b.toNat,(da b).length):=by
  rw[←Lib.decodeL_drop,hl,List.drop_left];have:=z4 hb [];rwa[List.append_nil]at this
 have ea:((a.toNat:Nat):Int)=a:=by unfold cI at ha;omega
 have eb:((b.toNat:Nat):Int)=b:=by unfold cI at hb;omega
 obtain⟨m,rfl⟩:∃m,n=m+3:=⟨n-3,by omega⟩;unfold rp;show ∃l,ig K (m+3) B (kp K (m+3) B (m+2)) 0 0 []=some l∧_;unfold ig;rw[if_pos (by simp;omega),if_neg (by simp)];unfold lI;rw[if_neg (by simp)];unfold mI;rw[d0];simp only[Nat.zero_add,ea];show ∃l,ig K (m+3) B (kp K (m+3) B (m+1)) a (da a).length []=some l∧_;unfold ig;rw[if_pos (by simp;omega),if_pos (by simp;omega),d1];simp only[eb];rw[Oh];simp only[Option.bind_some];have fin:∀(x:Int) (l:List Int),kp K (m+3) B (m+1) x ((da a).length+(da b).length) l=some l:=fun x l=>by
  show ig K (m+3) B (kp K (m+3) B m) x _ l=some l;unfold ig;rw[if_neg (by simp;omega)]
 cases hbt:lV a b with
 | true =>
  unfold lI;rw[if_pos rfl,cW (by simp) (by omega),bg];unfold mI;rw[d1];simp only[];rw[fin];exact⟨_,rfl,by simp⟩
 | false =>
  unfold lI;rw[if_neg (by simp)];unfold mI;rw[d1];simp only[];rw[fin];exact⟨_,rfl,by simp⟩
theorem J7(K:Kn){n:Nat}(hn:3≤n){a b:aD}(ha:cI a.Char)(hb:cI b.Char):ik K n a b=some (ke a b):=by
 obtain⟨l,h1,h2⟩:=Ll K hn ha hb;have jt:ii K n a b true=some false:=rfl;have jf:ii K n a b false=some (lV a.Char b.Char):=by
  unfold ii;rw[if_neg (by simp),h1];simp only[Option.bind_some];rw[h2]
 unfold ik ke;have k1:jS K n a b true=some ((a.Kind == 3||fY a)&&(b.Kind == 3||fY b)):=by
  unfold jS kg;simp only[Gf,Option.bind_some];cases h3:(a.Kind == 3)<;>cases h4:(b.Kind == 3)<;>cases h5:fY a<;>cases h6:fY b<;>simp
 have k2:jS K n a b false=some (bif a.Kind != 1||(b.Kind != 1||(!fY a||(a.Char != 32&&!fY b))) then false else lV a.Char b.Char):=by
  unfold jS;simp only[Gf,Option.bind_some,jt];cases h3:(a.Kind != 1)<;>cases h4:(b.Kind != 1)<;>cases h5:fY a<;>cases h6:(a.Char != 32)<;>cases h7:fY b<;>simp[jt,jf]
 cases h3:(a.Kind == 3) with
 | true=>rw[if_pos rfl,k1,h3];rfl
 | false =>
  rw[if_neg (by simp)];cases h4:(b.Kind == 3) with
  | true=>rw[k1,h3,h4];rfl
  | false=>rw[k2];rfl
def tm(s acc:Int):List Int→Int
 | []=>acc
 | r::t=>tm s (ab (acc+yr r s)) t
theorem Nr(K:Kn)(n:Nat)(b:ByteArray)(s:Int):∀(m:Nat) (acc:Int) (p:Nat),b.size-p<m→nR K n b s m acc p=some (tm s acc (fx b p)):=by
 intro m
 induction m with
 | zero=>intro acc p h;omega
 | succ m ih =>
  intro acc p h;show nB K n b s (nR K n b s m) acc p=_;unfold nB;by_cases hp:p<b.size
  ·have:=Ia b p;rw[if_pos (by simpa using hp),IB,JV hp];simp only[Option.bind_some,tm];exact ih _ _ (by omega)
  ·rw[if_neg (by simpa using hp),F3 hp];rfl
theorem CN(K:Kn){n:Nat}(b:ByteArray)(s:Int)(hn:b.size<n):lS K n b s=some (tm s 0 (fx b 0)):=by
 unfold lS;exact Nr K n b s n 0 0 (by omega)
def gy(s:aJ):Int×Int:=(kB (KN 0) 0 s).getD default
theorem A6(K:Kn)(n:Nat)(s:aJ):kB K n s=some (gy s):=rfl
def cp(x:List aD):List Int:=x.map fun e=>e.Char
def xl(x:List aD):Bool:=(x.getD (x.length-1) default).Soft
def Ba(x:List aD):List Int:=bif xl x then (cp x).dropLast else cp x
def eB(rs:List Int):ByteArray:=⟨(cN rs).toArray⟩
def qq(x:List aD):aJ:=(x.getD 0 default).Box.Style
def fg(x:List aD):au :=
 { cy with Text:=eB (cp x),Width:=tm (qq x).FontSize 0 (Ba x),Space:=bif xl x then yr 32 (qq x).FontSize else 0,Above:=(gy (qq x)).1,Below:=(gy (qq x)).2 }
theorem wd{rs:List Int}(h:∀r∈rs,cI r):rs.length≤(cN rs).length∧(cN rs).length≤4*rs.length:=by
 induction rs with
 | nil=>simp[cN]
 | cons r t ih =>
  have:=vx (h r (by simp));have:=ih (fun x hx=>h x (by simp[hx]));rw[Ee,List.length_append,List.length_cons];omega
theorem vp(rs:List Int):(eB rs).size=(cN rs).length:=by unfold eB;rfl
theorem xL(rs:List Int):(eB rs).data.toList=cN rs:=by unfold eB;simp
theorem Hz{rs:List Int}(h:∀r∈rs,cI r):fx (eB rs) 0=rs:=by
 unfold fx;rw[List.drop_zero,xL,SC h]
theorem PZ{rs:List Int}(h0:rs≠[])(h:rs.getLast h0=32):cN rs=cN rs.dropLast++[32]:=by
 conv=>lhs;rw[←List.dropLast_concat_getLast h0]
 rw[JQ,h];rfl
theorem RN{rs:List Int}(h0:rs≠[])(h:rs.getLast h0=32):(eB rs).extract 0 ((eB rs).size-1)=eB rs.dropLast:=by
 have e:=PZ h0 h;have hs:(eB rs).size=(cN rs.dropLast).length+1:=by rw[vp,e];simp
 apply ByteArray.ext;apply Array.ext';rw[ByteArray.data_extract,Array.toList_extract,xL,xL,hs,e];simp
structure jT(e:aD):Prop where
 ch:cI e.Char
 soft:e.Soft=true→e.Char=32
theorem yG{x:List aD}(h:∀e∈x,jT e):∀r∈cp x,cI r:=by
 intro r hr;obtain⟨e,he,rfl⟩:=List.mem_map.1 hr;exact(h e he).ch
section
variable{K:Kn}{n:Nat}{x:List aD}
theorem G0(hx:x≠[])(hl:x.length≤2000)(ho:∀e∈x,jT e)(hn:8010≤n)(b:Bool):pq K n x (ints (cN (cp x))) b=some (fg x):=by
 have h0:0<x.length:=List.length_pos_iff.2 hx;have hc:cp x≠[]:=by unfold cp;simp[hx]
 have hcl:(cp x).length=x.length:=by unfold cp;simp
 have hok:=yG ho;have hle:=wd hok;have hne:cN (cp x)≠[]:=by intro e;rw[e]at hle;have:=hle.1;simp only[List.length_nil]at this;omega
 have e1:ab ((x.length:Int)-1)=((x.length-1:Nat):Int):=by rw[cB (by omega) (by omega)];omega
 have hb:bytesOf (ints (cN (cp x)))=eB (cp x):=MP _;have hsz:(eB (cp x)).size=(cN (cp x)).length:=vp _;have e2:ab (((eB (cp x)).size:Int)-1)=(((eB (cp x)).size-1:Nat):Int):=by rw[cB (by omega) (by omega)];omega
 have key:∀(v10:aJ) (Y:ByteArray→Int→Option au),(∀v14 v15,Y v14 v15=(lS K n v14 v10.FontSize).bind fun v16=>(kB K n v10).bind fun v17=>some ({ cy with Text:=bytesOf (ints (cN (cp x))),Width:=v16,Space:=v15,Above:=v17.1,Below:=v17.2 }:au))→v10=qq x →
   aH (l3 (ints (cN (cp x)))) (aH (aX (ab ((x.length:Int)-1)) x.length) ((some ((List.getD x ((ab ((x.length:Int)-1))).toNat default).Soft)).bind fun v11 =>
    if v11=true then aH (cH (0:Int) (ab (((bytesOf (ints (cN (cp x)))).size:Int)-1)) (bytesOf (ints (cN (cp x)))).size) ((some (ByteArray.extract (bytesOf (ints (cN (cp x)))) (0:Int).toNat ((ab (((bytesOf (ints (cN (cp x)))).size:Int)-1))).toNat)).bind fun v12=>(kW K n 32 v10.FontSize).bind fun v13=>Y v12 v13)
    else Y (bytesOf (ints (cN (cp x)))) 0))=some (fg x):=by
  intro v10 Y hY hv;subst hv;rw[Qq hne,bg,e1,db (by omega) (by omega),bg];simp only[Option.bind_some,Int.toNat_natCast];have hs:(List.getD x (x.length-1) default).Soft=xl x:=rfl;rw[hs,hb,e2];cases hso:xl x with
  | true =>
   have hlast:(cp x).getLast hc=32:=by
    have hm:x.getD (x.length-1) default∈x:=by rw[cX (by omega)];exact List.getElem_mem _
    have:=(ho _ hm).soft (by rw[hs];exact hso);rw[List.getLast_eq_getElem];unfold cp;rw[List.getElem_map];rw[cX (by omega)]at this;simpa using this
   rw[if_pos rfl,show cH (0:Int) (((eB (cp x)).size-1:Nat):Int) (eB (cp x)).size=true by simp only[cH,Bool.and_eq_true,decide_eq_true_eq];omega,bg];simp only[Int.toNat_zero,Int.toNat_natCast];rw[RN hc hlast,IB];simp only[Option.bind_some];rw[hY,CN K (eB (cp x).dropLast) _ (by
    have h9:=wd (rs:=(cp x).dropLast) (fun r hr=>hok r ((List.dropLast_sublist _).subset hr));rw[vp];simp at h9;omega),Hz (fun r hr=>hok r ((List.dropLast_sublist _).subset hr)),A6,hb]
   simp only[Option.bind_some];unfold fg Ba;rw[hso];rfl
  | false =>
   rw[if_neg (by simp),hY,CN K (eB (cp x)) _ (by omega),Hz hok,A6,hb];simp only[Option.bind_some];unfold fg Ba;rw[hso];rfl
 unfold pq;rw[db (i:=(0:Int)) (by omega) (by omega)];simp only[bg,Option.bind_some];cases b with
 | true=>rw[if_pos rfl];exact key _ (fun v12 v13=>rN K n _ _ v12 v13) (fun _ _=>rfl) rfl
 | false=>rw[if_neg (by simp)];exact key _ (fun v12 v13=>s5 K n _ _ v12 v13) (fun _ _=>rfl) rfl
theorem T2(hx:x≠[])(hl:x.length≤2000)(ho:∀e∈x,jT e)(hn:8010≤n):∀(m i:Nat) (b:Bool),i≤x.length→x.length<m+i→mE K n x m (i:Int) b (ints (cN ((cp x).take i)))=some (fg x):=by
 intro m
 induction m with
 | zero=>intro i b h1 h2;omega
 | succ m ih =>
  intro i b h1 h2;show nV K n x (mE K n x m) i b _=_;unfold nV;have hcl:(cp x).length=x.length:=by unfold cp;simp
  by_cases hi:i<x.length
  ·have hm:x.getD i default∈x:=by rw[cX hi];exact List.getElem_mem _
   have hlen:=wd (rs:=(cp x).take i) (fun r hr=>yG ho r (List.mem_of_mem_take hr));have ht:(cp x).take (i+1)=(cp x).take i++[(x.getD i default).Char]:=by
    rw[List.take_add_one,List.getElem?_eq_getElem (by rw[hcl];exact hi),cX hi];simp[cp]
   have hr:∀b,(mz K n ((List.getD x ((i:Int)).toNat default).Char) b (ints (cN ((cp x).take i)))).bind (fun v7=>mE K n x m (ab ((i:Int)+1)) true v7.2.2)=some (fg x):=fun b=>by
    rw[Int.toNat_natCast];obtain⟨y,hy⟩:=Tw (K:=K) (n:=n) (ho _ hm).ch (L:=ints (cN ((cp x).take i))) (by rw[OZ];simp at hlen;omega) b;rw[hy];simp only[Option.bind_some];rw[cB (by omega) (by omega),show(i:Int)+1=((i+1:Nat):Int) by omega,← U9];have e:cN ((cp x).take i)++da (x.getD i default).Char=cN ((cp x).take (i+1)):=by
     rw[ht,JQ];simp[cN]
    rw[e];exact ih (i+1) true (by omega) (by omega)
   cases b with
   | true=>rw[if_pos rfl,if_pos (by simpa using hi),db (by omega) (by omega),bg];exact hr true
   | false=>rw[if_neg (by simp),if_pos (by simpa using hi),db (by omega) (by omega),bg];exact hr false
  ·have ht:(cp x).take i=cp x:=List.take_of_length_le (by omega);rw[ht];cases b with
   | true=>rw[if_pos rfl,if_neg (by simpa using hi)];exact G0 hx hl ho hn true
   | false=>rw[if_neg (by simp),if_neg (by simpa using hi)];exact G0 hx hl ho hn false
theorem Qh(hx:x≠[])(hl:x.length≤2000)(ho:∀e∈x,jT e)(hn:8010≤n):lR K n x=some (fg x):=by
 unfold lR;exact T2 hx hl ho hn n 0 false (by omega) (by omega)
end
end
end Go.Proofs.YtocgkfoifehcbaaGreat
namespace Go.Proofs.YtocgkfoifehcbaaGreat
set_option linter.all false
open Go.RowKit
noncomputable section
def fC(e:aD):Bool:=e.Box.Style.WhiteSpace == 2
def jG(out:List aD):aD:=out.getD (out.length-1) default
def j0(out:List aD):Bool:=out.isEmpty||((jG out).Soft||(jG out).Kind == 2)
def kL(out:List aD)(e:aD):List aD :=
  bif fU e.Char then
    (bif fC e then (bif e.Char == 10 then out++[{ e with Kind:=2,Char:=32 }] else bif e.Char == 13 then out else out++[{ e with Char:=32 }])
     else bif j0 out then out else out++[{ e with Soft:=true,Char:=32 }])
  else out++[e]
theorem Is(out:List aD)(e:aD):(kL out e).length≤out.length+1:=by
 unfold kL;cases fU e.Char<;>cases fC e<;>cases (e.Char == 10)<;>cases (e.Char == 13)<;>cases j0 out<;>simp
section
variable(K:Kn)(n:Nat)
theorem yl{out:List aD}(hl:out.length≤1000000)(e:aD):ls K n out e=some (out++[{ e with Char:=32 }]):=by
 unfold ls;rw[cW (by simp;omega) (by omega),bg]
theorem Qk{out:List aD}(hl:out.length≤1000000)(e:aD):pW K n e out=some (kL out e):=by
 have h4:∀b,jP K n e out b=some (bif b then out else out++[{ e with Soft:=true,Char:=32 }]):=fun b=>by
  unfold jP;cases b with
  | true=>rfl
  | false=>rw[if_neg (by simp),yl K n hl];rfl
 have h3:∀b,fC e=b→∀c,oc K n e out c=some (bif c then out else bif b then out++[{ e with Char:=32 }] else bif j0 out then out else out++[{ e with Soft:=true,Char:=32 }]):=fun b hb c=>by
  unfold oc;cases c with
  | true=>rfl
  | false =>
   have hp:(e.Box.Style.WhiteSpace == 2)=b:=hb;rw[if_neg (by simp),hp];cases b with
   | true=>rw[show(!true)=false from rfl,if_neg (by simp),yl K n hl];rfl
   | false =>
    rw[show(!false)=true from rfl,if_pos rfl];by_cases h0:out=[]
    ·subst h0;rw[if_pos (by simp),h4];rfl
    ·have hlen:0<out.length:=List.length_pos_iff.2 h0;have e1:ab ((out.length:Int)-1)=((out.length-1:Nat):Int):=by rw[cB (by omega) (by omega)];omega
     have hem:out.isEmpty=false:=by cases out;exact absurd rfl h0;rfl
     rw[if_neg (by simp;exact h0),e1,db (by omega) (by omega)];simp only[bg,Int.toNat_natCast]
     change (if (jG out).Soft=true then jP K n e out true else jP K n e out ((jG out).Kind == 2))=_
     cases hs:(jG out).Soft with
     | true=>rw[if_pos rfl,h4];unfold j0;rw[hem,hs];rfl
     | false=>rw[if_neg (by simp),h4];unfold j0;rw[hem,hs];rfl
 have h2:∀c,pM K n e out c=some (bif c then out++[{ e with Kind:=2,Char:=32 }] else bif fC e then (bif e.Char == 13 then out else out++[{ e with Char:=32 }]) else bif j0 out then out else out++[{ e with Soft:=true,Char:=32 }]):=fun c=>by
  unfold pM;cases c with
  | true=>rw[if_pos rfl,yl K n hl];rfl
  | false =>
   have hp:(e.Box.Style.WhiteSpace == 2)=fC e:=rfl;rw[if_neg (by simp),hp];cases hpe:fC e with
   | true=>rw[if_pos rfl,h3 true hpe];rfl
   | false=>rw[if_neg (by simp),h3 false hpe];rfl
 have h1:iM K n e out true=some (bif fC e then (bif e.Char == 10 then out++[{ e with Kind:=2,Char:=32 }] else bif e.Char == 13 then out else out++[{ e with Char:=32 }]) else bif j0 out then out else out++[{ e with Soft:=true,Char:=32 }]):=by
  unfold iM;have hp:(e.Box.Style.WhiteSpace == 2)=fC e:=rfl;rw[if_pos rfl,hp];cases hpe:fC e with
  | true=>rw[if_pos rfl,h2,hpe];rfl
  | false=>rw[if_neg (by simp),h2,hpe];rfl
 have h0:iM K n e out false=some (out++[e]):=by
  unfold iM;rw[if_neg (by simp),cW (by simp;omega) (by omega),bg]
 unfold pW kL fU;cases q1:(e.Char == 9) with
 | true=>rw[if_pos rfl,h1];rfl
 | false =>
  rw[if_neg (by simp)];cases q2:(e.Char == 10) with
  | true=>rw[if_pos rfl,h1,q2];rfl
  | false =>
   rw[if_neg (by simp)];cases q3:(e.Char == 13) with
   | true=>rw[if_pos rfl,h1,q2,q3];rfl
   | false =>
    rw[if_neg (by simp)];cases q4:(e.Char == 32) with
    | true=>rw[h1,q2,q3];rfl
    | false=>rw[h0];rfl
end
def ln(b:aa):Bool:=(gz (KN 0) 0 b).getD false
def jU(b:aa)(num:Int)(out:List aD)(rs:List Int):List aD:=rs.foldl (fun o r=>kL o ⟨1,num,r,false,b⟩) out
def vM:Nat→List aa→Int×List aD→Int×List aD
  | 0,_,s=>s
  | d+1,L,s=>L.foldl (fun s b=>bif ln b then
      (bif b.Kind == 2 then vM d b.Kids (ab (s.1+1),s.2)
       else bif b.Kind == 4 then (ab (s.1+1),s.2++[⟨2,ab (s.1+1),0,false,b⟩])
       else bif b.Kind == 5 then (ab (s.1+1),s.2++[⟨3,ab (s.1+1),0,false,b⟩])
       else bif b.Kind == 3 then (ab (s.1+1),jU b (ab (s.1+1)) s.2 (fx b.Text 0))
       else (ab (s.1+1),s.2)) else s) s
def fB (d : Nat) (s : Int × List aD) (b : aa) : Int × List aD := bif ln b then
      (bif b.Kind == 2 then vM d b.Kids (ab (s.1+1),s.2)
       else bif b.Kind == 4 then (ab (s.1+1),s.2++[⟨2,ab (s.1+1),0,false,b⟩])
       else bif b.Kind == 5 then (ab (s.1+1),s.2++[⟨3,ab (s.1+1),0,false,b⟩])
       else bif b.Kind == 3 then (ab (s.1+1),jU b (ab (s.1+1)) s.2 (fx b.Text 0))
       else (ab (s.1+1),s.2)) else s
theorem kR(d:Nat)(L:List aa)(s:Int×List aD):vM (d+1) L s=L.foldl (fB d) s:=rfl
def dt:Nat→List aa→Nat
 | 0,_=>0
 | d+1,L=>(L.map fun b=>1+b.Text.size+dt d b.Kids).sum
def Dp:Nat→List aa→Prop
 | 0,_=>False
 | d+1,L=>L.length≤1000∧∀b∈L,b.Text.size≤1000∧(b.Kind=2→Dp d b.Kids)
theorem JT(b:aa)(num:Int):∀(rs:List Int) (out:List aD),(jU b num out rs).length≤out.length+rs.length
 | [],out=>by simp[jU]
 | r::t,out=>by
  have:=JT b num t (kL out ⟨1,num,r,false,b⟩);have:=Is out ⟨1,num,r,false,b⟩;unfold jU at *;simp only[List.foldl_cons,List.length_cons];omega
theorem QS(b:ByteArray)(p:Nat):(fx b p).length≤b.size:=by
 unfold fx;have:=K9 (b.data.toList.drop p);rw[List.length_drop,nK]at this;omega
theorem EM(d:Nat)(ih:∀L s,(vM d L s).2.length≤s.2.length+dt d L)(s:Int×List aD)(b:aa):(fB d s b).2.length≤s.2.length+(1+b.Text.size+dt d b.Kids):=by
 unfold fB;cases ln b with
 | false=>simp only[cond_false];omega
 | true =>
  simp only[cond_true];cases (b.Kind == 2) with
  | true=>have:=ih b.Kids (ab (s.1+1),s.2);simp only[cond_true];simp only[]at this;omega
  | false =>
   simp only[cond_false];cases (b.Kind == 4) with
   | true=>simp only[cond_true,List.length_append,List.length_cons,List.length_nil];omega
   | false =>
    simp only[cond_false];cases (b.Kind == 5) with
    | true=>simp only[cond_true,List.length_append,List.length_cons,List.length_nil];omega
    | false =>
     simp only[cond_false];cases (b.Kind == 3) with
     | true =>
      have:=JT b (ab (s.1+1)) (fx b.Text 0) s.2;have:=QS b.Text 0;simp only[cond_true];omega
     | false=>simp only[cond_false];omega
theorem JM:∀(d:Nat) (L:List aa) (s:Int×List aD),(vM d L s).2.length≤s.2.length+dt d L:=by
 intro d
 induction d with
 | zero=>intro L s;simp[vM,dt]
 | succ d ih =>
  intro L
  induction L with
  | nil=>intro s;simp[vM,dt]
  | cons b r ihL =>
   intro s;have h1:=EM d ih s b;have h2:=ihL (fB d s b);rw[kR,List.foldl_cons];rw[kR]at h2;simp only[dt,List.map_cons,List.sum_cons]at h2⊢;omega
theorem UM(K:Kn)(n:Nat)(b:aa):gz K n b=some (ln b):=by
 have e:gz (KN 0) 0 b=gz K n b:=rfl;have:mw (gz K n b):=by
  unfold gz
  repeat first|exact xY _|apply Ab
 obtain⟨u,hu⟩:=this;unfold ln;rw[e,hu];rfl
theorem TE(K:Kn)(n:Nat)(L:List aa)(i num:Int)(C:Int→Int→List aD→Option (Int×List aD))(hi:i.toNat<L.length):∀(m p:Nat) (out:List aD),(L.getD i.toNat default).Text.size-p<m→out.length+((L.getD i.toNat default).Text.size-p)≤900000 →
  oL K n L i num C m p out=C (ab (i+1)) (ab (num+1)) (jU (L.getD i.toNat default) (ab (num+1)) out (fx (L.getD i.toNat default).Text p)):=by
 intro m
 induction m with
 | zero=>intro p out h;omega
 | succ m ih =>
  intro p out h1 h2;show ng K n L i num C (oL K n L i num C m) p out=_;unfold ng;by_cases hp:p<(L.getD i.toNat default).Text.size
  ·have hw:=Ia (L.getD i.toNat default).Text p;rw[if_pos (by simpa using hp)];simp only[Option.bind_some];rw[Qk K n (by omega)];simp only[Option.bind_some];have hpl:=Is out ⟨1,ab (num+1),((Utf8.decode (L.getD i.toNat default).Text p).1:Int),false,L.getD i.toNat default⟩;rw[ih _ _ (by omega) (by omega),JV hp];rfl
  ·rw[if_neg (by simpa using hp),F3 hp];rfl
theorem VX:∀(d N:Nat) (L:List aa) (s:Int×List aD),Dp d L→s.2.length+dt d L≤800000→d+1100≤N→ji (KN N) N L s.1 s.2=some (vM d L s):=by
 intro d
 induction d with
 | zero=>intro N L s h;exact h.elim
 | succ d ih =>
  intro N L s hD hs hN;obtain⟨N,rfl⟩:∃M,N=M+1:=⟨N-1,by omega⟩;unfold Dp at hD;unfold ji;have loop:∀(m i:Nat) (s:Int×List aD),i≤L.length→L.length<m+i→s.2.length+dt (d+1) (L.drop i)≤800000→lY (KN (N+1)) (N+1) L m (i:Int) s.1 s.2=some (vM (d+1) (L.drop i) s):=by
   intro m
   induction m with
   | zero=>intro i s h1 h2;omega
   | succ m ihm =>
    intro i s h1 h2 h3;show nF (KN (N+1)) (N+1) L (lY (KN (N+1)) (N+1) L m) i s.1 s.2=_;unfold nF;by_cases hi:i<L.length
    ·have hb:L.getD i default∈L:=by rw[cX hi];exact List.getElem_mem _
     have hdr:L.drop i=L.getD i default::L.drop (i+1):=by rw[List.drop_eq_getElem_cons hi,cX hi]
     have hw:ab ((i:Int)+1)=((i+1:Nat):Int):=by rw[cB (by omega) (by omega)];omega
     rw[hdr]at h3⊢;rw[kR,List.foldl_cons,← kR];have hvl:=EM d (JM d) s (L.getD i default);have h3':s.2.length+((1+(L.getD i default).Text.size+dt d (L.getD i default).Kids)+dt (d+1) (L.drop (i+1)))≤800000:=by
      simpa only[dt,List.map_cons,List.sum_cons]using h3
     have fin:=ihm (i+1) (fB d s (L.getD i default)) (by omega) (by omega) (by omega);rw[if_pos (by simpa using hi),db (by omega) (by omega),bg,UM];simp only[Option.bind_some,Int.toNat_natCast];have step:∀s',fB d s (L.getD i default)=s'→lY (KN (N+1)) (N+1) L m (ab ((i:Int)+1)) s'.1 s'.2=some (vM (d+1) (L.drop (i+1)) (fB d s (L.getD i default))):=fun s' e=>by
      rw[←e,hw];exact fin
     cases hf:ln (L.getD i default) with
     | false =>
      rw[show(!false)=true from rfl,if_pos rfl];unfold jh;exact step s (by unfold fB;rw[hf];rfl)
     | true =>
      rw[show(!true)=false from rfl,if_neg (by simp)];cases h2':((L.getD i default).Kind == 2) with
      | true =>
       have hk:(L.getD i default).Kind=2:=by simpa using h2'
       have:=ih N (L.getD i default).Kids (ab (s.1+1),s.2) ((hD.2 _ hb).2 hk) (by simp only[];omega) (by omega);rw[if_pos rfl];show((ji (KN N) N (L.getD i default).Kids (ab (s.1+1)) s.2).bind _)=_;rw[show ji (KN N) N (L.getD i default).Kids (ab (s.1+1)) s.2=_ from this];simp only[Option.bind_some];unfold gR jh;exact step _ (by unfold fB;rw[hf,h2'];rfl)
      | false =>
       rw[if_neg (by simp)];cases h4':((L.getD i default).Kind == 4) with
       | true =>
        rw[if_pos rfl,cW (by simp;omega) (by omega),bg];unfold gR jh;exact step (_,_) (by unfold fB;rw[hf,h2',h4'];rfl)
       | false =>
        rw[if_neg (by simp)];cases h5':((L.getD i default).Kind == 5) with
        | true =>
         rw[if_pos rfl,cW (by simp;omega) (by omega),bg];unfold gR jh;exact step (_,_) (by unfold fB;rw[hf,h2',h4',h5'];rfl)
        | false =>
         rw[if_neg (by simp)];cases h3'':((L.getD i default).Kind == 3) with
         | true =>
          have ht:=(hD.2 _ hb).1;rw[if_pos rfl,TE (KN (N+1)) (N+1) L i s.1 _ (by simpa using hi) (N+1) 0 s.2 (by rw[Int.toNat_natCast];omega) (by rw[Int.toNat_natCast];omega)];rw[Int.toNat_natCast];exact step (_,_) (by unfold fB;rw[hf,h2',h4',h5',h3''];rfl)
         | false =>
          rw[if_neg (by simp)];unfold gR jh;exact step (_,_) (by unfold fB;rw[hf,h2',h4',h5',h3''];rfl)
    ·rw[if_neg (by simpa using hi),List.drop_eq_nil_of_le (by omega)];rfl
  have:=loop (N+1) 0 s (by omega) (by omega) (by rw[List.drop_zero];exact hs);rw[List.drop_zero]at this;exact this
def gT(d:Nat)(L:List aa):List aD:=(vM d L (0,[])).2
theorem Od{d N:Nat}{L:List aa}(hD:Dp d L)(hc:dt d L≤800000)(hN:d+1100≤N):lQ (KN N) N L=some (gT d L):=by
 unfold lQ;rw[show ji (KN N) N L 0 []=_ from VX d N L (0,[]) hD (by simpa using hc) hN];rfl
theorem BK(d:Nat)(L:List aa):(gT d L).length≤dt d L:=by
 have:=JM d L (0,[]);unfold gT;simpa using this
theorem ME{P:aD→Prop}{out:List aD}{e:aD}(h:∀x∈out,P x)(h1:fU e.Char=false→P e)(h2:fC e=true→P { e with Kind:=2,Char:=32 })(h3:fC e=true→P { e with Char:=32 })(h4:fC e=false→P { e with Soft:=true,Char:=32 }):∀x∈kL out e,P x:=by
 have ap:∀y,P y→∀x∈out++[y],P x:=fun y hy x hx=>by
  rcases List.mem_append.1 hx with hx|hx
  ·exact h x hx
  ·rw[List.mem_singleton.1 hx];exact hy
 unfold kL;cases hs:fU e.Char with
 | false=>exact ap _ (h1 hs)
 | true =>
  simp only[cond_true];cases hp:fC e with
  | true =>
   simp only[cond_true];cases (e.Char == 10) with
   | true=>exact ap _ (h2 hp)
   | false =>
    simp only[cond_false];cases (e.Char == 13) with
    | true=>exact h
    | false=>exact ap _ (h3 hp)
  | false =>
   simp only[cond_false];cases j0 out with
   | true=>exact h
   | false=>exact ap _ (h4 hp)
theorem B1{P:aD→Prop}(b:aa)(num:Int)(hP:∀r,cI r→(fU r=false→P ⟨1,num,r,false,b⟩))(h2:P ⟨2,num,32,false,b⟩)(h3:b.Style.WhiteSpace=2→P ⟨1,num,32,false,b⟩)(h4:b.Style.WhiteSpace≠2→P ⟨1,num,32,true,b⟩):∀(rs:List Int) (out:List aD),(∀r∈rs,cI r)→(∀x∈out,P x)→∀x∈jU b num out rs,P x
 | [],out,_,h=>h
 | r::t,out,hr,h=>by
  unfold jU;rw[List.foldl_cons];refine B1 b num hP h2 h3 h4 t _ (fun x hx=>hr x (by simp[hx])) (ME h (fun hs=>hP r (hr r (by simp)) hs) (fun _=>h2) (fun hp=>h3 (by simpa[fC]using hp)) (fun hp=>h4 (by simpa[fC]using hp)))
theorem TM{P:aD→Prop}(h1:∀(b:aa) (num r:Int),cI r→fU r=false→P ⟨1,num,r,false,b⟩)(h2:∀(b:aa) (num:Int),P ⟨2,num,32,false,b⟩)(h3:∀(b:aa) (num:Int),b.Style.WhiteSpace=2→P ⟨1,num,32,false,b⟩)(h4:∀(b:aa) (num:Int),b.Style.WhiteSpace≠2→P ⟨1,num,32,true,b⟩)
  (h5:∀(b:aa) (num:Int),P ⟨2,num,0,false,b⟩) (h6:∀(b:aa) (num:Int),P ⟨3,num,0,false,b⟩):∀(d:Nat) (L:List aa) (s:Int×List aD),(∀x∈s.2,P x)→∀x∈(vM d L s).2,P x:=by
 have ap:∀{out:List aD} (y:aD),(∀x∈out,P x)→P y→∀x∈out++[y],P x:=fun y h hy x hx=>by
  rcases List.mem_append.1 hx with hx|hx
  ·exact h x hx
  ·rw[List.mem_singleton.1 hx];exact hy
 intro d
 induction d with
 | zero=>intro L s h;exact h
 | succ d ih =>
  intro L
  induction L with
  | nil=>intro s h;exact h
  | cons b r ihL =>
   intro s h;rw[kR,List.foldl_cons,← kR];refine ihL _ ?_;unfold fB;cases ln b with
   | false=>exact h
   | true =>
    simp only[cond_true];cases (b.Kind == 2) with
    | true=>exact ih _ _ h
    | false =>
     simp only[cond_false];cases (b.Kind == 4) with
     | true=>exact ap _ h (h5 _ _)
     | false =>
      simp only[cond_false];cases (b.Kind == 5) with
      | true=>exact ap _ h (h6 _ _)
      | false =>
       simp only[cond_false];cases (b.Kind == 3) with
       | true=>exact B1 b _ (fun r hr hs=>h1 b _ r hr hs) (h2 b _) (h3 b _) (h4 b _) _ _ Hn h
       | false=>exact h
theorem Cc:cI 32:=by unfold cI;omega
theorem CM:cI 0:=by unfold cI;omega
theorem E7(d:Nat)(L:List aa):∀x∈gT d L,jT x :=
 TM (fun b num r hr _=>⟨hr,fun h=>by cases h⟩) (fun b num=>⟨Cc,fun _=>rfl⟩) (fun b num _=>⟨Cc,fun _=>rfl⟩) (fun b num _=>⟨Cc,fun _=>rfl⟩) (fun b num=>⟨CM,fun h=>by cases h⟩) (fun b num=>⟨CM,fun h=>by cases h⟩) d L (0,[]) (fun x hx=>by cases hx)
end
end Go.Proofs.YtocgkfoifehcbaaGreat
namespace Go.Proofs.YtocgkfoifehcbaaGreat
set_option linter.all false
open Go.RowKit
structure R4 where
 w:Int
 s:Int
 g:Bool
 f:Bool
instance:Inhabited R4:=⟨⟨0,0,false,false⟩⟩
def vI(r:au):R4:=⟨r.Width,r.Space,r.Glued,r.Forced⟩
theorem wN{L:List au}{k:Nat}(h:k<L.length):(L.map vI)[k]'(by simpa using h)=vI (L.getD k default):=by
 rw[cX h];simp
def gr(l:List R4)(i:Nat):Nat:=i+((l.drop i).takeWhile R4.g).length
theorem mC(l:List R4)(i:Nat):i≤gr l i:=Nat.le_add_right _ _
theorem Hs{α:Type}(p:α→Bool):∀l:List α,(l.takeWhile p).length≤l.length
 | []=>Nat.le_refl _
 | x::r=>by
  rw[List.takeWhile_cons];split
  ·simp;exact Hs p r
  ·simp
theorem va{l:List R4}{i:Nat}(h:i≤l.length):gr l i≤l.length:=by
 have:=Hs R4.g (l.drop i);simp at this;unfold gr;omega
theorem NU{l:List R4}{i:Nat}(h:i<l.length)(hg:l[i].g=true):gr l i=gr l (i+1):=by
 unfold gr;rw[List.drop_eq_getElem_cons h,List.takeWhile_cons,if_pos hg];simp;omega
theorem OE{l:List R4}{i:Nat}(h:i<l.length)(hg:l[i].g=false):gr l i=i:=by
 unfold gr;rw[List.drop_eq_getElem_cons h,List.takeWhile_cons,if_neg (by simp[hg])];simp
theorem SW{l:List R4}{i:Nat}(h:l.length≤i):gr l i=i:=by
 unfold gr;rw[List.drop_eq_nil_of_le h];simp
def wS(n last:Int):List R4→Int
 | []=>ab (n-last)
 | r::t=>wS (ab (n+ab (r.w+r.s))) (if r.f then last else r.s) t
def kG(l:List R4):Int:=wS 0 0 l
def pc(n:Int):List R4→Int
 | []=>n
 | r::t=>pc (ab (n+ab (r.w+r.s))) t
def eW(x:Int):List R4→Int
 | []=>x
 | r::t=>eW (if r.f then x else r.s) t
theorem Ii:∀(l:List R4) (n last:Int),wS n last l=ab (pc n l-eW last l)
 | [],n,last=>rfl
 | r::t,n,last=>by unfold wS pc eW;exact Ii t _ _
theorem xS:∀(l m:List R4) (x:Int),eW x (l++m)=eW (eW x l) m
 | [],m,x=>rfl
 | r::t,m,x=>by simp only[List.cons_append,eW];exact xS t m _
theorem SI(n:Int):ab (ab n)=ab n:=by
 have : -9223372036854775808≤ab n∧ab n≤9223372036854775807:=by unfold ab;rw[IntKind.wrap_i64];omega
 exact cB this.1 this.2
section
variable{K:Kn}{n:Nat}{L:List au}
theorem P6:∀(m:Nat) (i:Int),0≤i→i≤L.length→L.length<m+i.toNat→(L.length:Int)<9223372036854775807→pR K n L m i=some ((gr (L.map vI) i.toNat:Nat):Int):=by
 intro m
 induction m with
 | zero=>intro i h0 h1 h2;omega
 | succ m ih =>
  intro i h0 h1 h2 hL;show o9 K n L (pR K n L m) i=_;unfold o9;by_cases hi:i<(L.length:Int)
  ·have hk:i.toNat<L.length:=by omega
   rw[if_pos (by simpa using hi),db h0 hi,bg];unfold n6;have hv:=wN hk;cases hg:(L.getD i.toNat default).Glued with
   | true =>
    rw[if_pos rfl,cB (by omega) (by omega),ih (i+1) (by omega) (by omega) (by omega) hL];rw[NU (l:=L.map vI) (i:=i.toNat) (by simpa using hk) (by rw[hv];exact hg),show(i+1).toNat=i.toNat+1 by omega]
   | false =>
    rw[if_neg (by simp)];rw[OE (l:=L.map vI) (i:=i.toNat) (by simpa using hk) (by rw[hv];exact hg)];congr 1;omega
  ·rw[if_neg (by simpa using hi)];unfold n6;rw[if_neg (by simp),SW (by simp;omega)];congr 1;omega
theorem F4{i:Int}(h0:0≤i)(h1:i<L.length)(hn:L.length<n)(hL:(L.length:Int)<9223372036854775807):mA K n L i=some ((gr (L.map vI) (i.toNat+1):Nat):Int):=by
 unfold mA;rw[cB (by omega) (by omega),P6 n (i+1) (by omega) (by omega) (by omega) hL,show(i+1).toNat=i.toNat+1 by omega]
theorem Oc:∀(m:Nat) (k:Nat),k≤L.length→k<m→(L.length:Int)<9223372036854775807 →
  ∃j:Int,lj K n L m ((k:Int)-1)=some j∧((j = -1∧∀x,eW x ((L.map vI).take k)=x)∨(0≤j∧j<k∧∀x,eW x ((L.map vI).take k)=(L.getD j.toNat default).Space)):=by
 intro m
 induction m with
 | zero=>intro k _ h;omega
 | succ m ih =>
  intro k hk hm hL;show ∃j,ky K n L (lj K n L m) ((k:Int)-1)=some j∧_;unfold ky;cases k with
  | zero=>rw[if_neg (by simp)];exact⟨-1,rfl,.inl ⟨rfl,fun x=>by simp[eW]⟩⟩
  | succ k =>
   have e:(((k+1:Nat):Int)-1)=(k:Int):=by omega
   rw[e,if_pos (by simp),db (by omega) (by omega),bg,Int.toNat_natCast];have hkl:k<L.length:=by omega
   have hv:=wN hkl;have ht:(L.map vI).take (k+1)=(L.map vI).take k++[vI (L.getD k default)]:=by
    rw[List.take_add_one,List.getElem?_eq_getElem (by simpa using hkl),hv];rfl
   cases hf:(L.getD k default).Forced with
   | false =>
    rw[show(!false)=true from rfl,if_pos rfl];refine⟨(k:Int),rfl,.inr ⟨by omega,by omega,fun x=>?_⟩⟩;rw[ht,xS,Int.toNat_natCast];simp only[eW,vI,hf,Bool.false_eq_true,if_false]
   | true =>
    rw[show(!true)=false from rfl,if_neg (by simp),cB (by omega) (by omega)];obtain⟨j,h1,h2⟩:=ih k (by omega) (by omega) hL;refine⟨j,h1,?_⟩;have hx:∀x,eW x ((L.map vI).take (k+1))=eW x ((L.map vI).take k):=fun x=>by
     rw[ht,xS];simp only[eW,vI,hf,if_true]
    obtain⟨a,b⟩|⟨a,b,c⟩:=h2
    ·exact .inl ⟨a,fun x=>(hx x).trans (b x)⟩
    ·exact .inr ⟨a,by omega,fun x=>(hx x).trans (c x)⟩
theorem Kx(hn:L.length<n)(hL:(L.length:Int)<9223372036854775807):∃j:Int,kS K n L=some j∧((j = -1∧∀x,eW x (L.map vI)=x)∨(0≤j∧j<L.length∧∀x,eW x (L.map vI)=(L.getD j.toNat default).Space)):=by
 unfold kS;rw[cB (by omega) (by omega)];obtain⟨j,h1,h2⟩:=Oc (K:=K) (n:=n) (L:=L) n L.length (Nat.le_refl _) hn hL;refine⟨j,h1,?_⟩;rw[List.take_of_length_le (by simp)]at h2;exact h2
theorem Tn(hn:L.length<n)(hL:(L.length:Int)<9223372036854775807):∀(m:Nat) (x i:Int),0≤i→i≤L.length→L.length<m+i.toNat→ab x=x →
  pc 0 (L.map vI)=pc x ((L.map vI).drop i.toNat)→o4 K n L m x i=some (kG (L.map vI)):=by
 intro m
 induction m with
 | zero=>intro x i h0 h1 h2;omega
 | succ m ih =>
  intro x i h0 h1 h2 hx hs;show oH K n L (o4 K n L m) x i=_;unfold oH;by_cases hi:i<(L.length:Int)
  ·have hk:i.toNat<L.length:=by omega
   rw[if_pos (by simpa using hi),db h0 hi,bg,cB (n:=i+1) (by omega) (by omega)];refine ih _ (i+1) (by omega) (by omega) (by omega) (SI _) ?_;rw[hs,List.drop_eq_getElem_cons (by simpa using hk),wN hk,show(i+1).toNat=i.toNat+1 by omega];rfl
  ·rw[if_neg (by simpa using hi)];rw[List.drop_eq_nil_of_le (by simp;omega)]at hs;simp only[pc]at hs;obtain⟨j,h3,h4⟩:=Kx (K:=K) (L:=L) hn hL;rw[h3];simp only[Option.bind_some,tN];unfold kG;rw[Ii,hs];obtain⟨rfl,h5⟩|⟨h5,h6,h7⟩:=h4
   ·rw[if_neg (by simp),h5];simp[hx]
   ·rw[if_pos (by simpa using h5),db h5 h6,bg,h7]
theorem Hj(hn:L.length<n)(hL:(L.length:Int)<9223372036854775807):kX K n L=some (kG (L.map vI)):=by
 unfold kX;exact Tn hn hL n 0 0 (by omega) (by omega) (by simpa using hn) (by unfold ab;rw[IntKind.wrap_i64];omega) rfl
end
def sl{α:Type}(l:List α)(a b:Nat):List α:=List.drop a (List.take b l)
theorem O0{α β:Type}(f:α→β)(l:List α)(a b:Nat):(sl l a b).map f=sl (l.map f) a b:=by unfold sl;rw[List.map_drop,List.map_take]
theorem ym{α:Type}(l:List α)(a b:Nat):(sl l a b).length≤l.length:=by unfold sl;simp;omega
def lE(l:List R4)(w:Int)(a:Nat):Nat→Nat→Nat
 | 0,e=>e
 | m+1,e=>if e<l.length∧(l.getD (e-1) default).f=false∧¬ kG (sl l a (gr l (e+1)))>w then lE l w a m (gr l (e+1)) else e
def bM(l:List R4)(w:Int):Nat→Nat→List Nat
 | 0,_=>[]
 | m+1,a=>if a<l.length then a::bM l w m (lE l w a l.length (gr l (a+1))) else []
theorem rS(l:List R4)(w:Int)(a:Nat):∀m e,e≤lE l w a m e
 | 0,e=>Nat.le_refl _
 | m+1,e=>by
  unfold lE;split
  ·have:=rS l w a m (gr l (e+1));have:=mC l (e+1);omega
  ·exact Nat.le_refl _
theorem yB(l:List R4)(w:Int)(a:Nat):∀m e,e≤l.length→lE l w a m e≤l.length
 | 0,e,h=>h
 | m+1,e,h=>by
  unfold lE;split
  ·rename_i h1;exact yB l w a m _ (va (by omega))
  ·exact h
theorem Ug(l:List R4)(w:Int)(a:Nat):∀(m m' e:Nat),l.length≤m+e→l.length≤m'+e→lE l w a m e=lE l w a m' e:=by
 intro m
 induction m with
 | zero =>
  intro m' e h h';cases m' with
  | zero=>rfl
  | succ m'=>unfold lE;rw[if_neg (by omega)]
 | succ m ih =>
  intro m' e h h';cases m' with
  | zero=>unfold lE;rw[if_neg (by omega)]
  | succ m' =>
   unfold lE;split
   ·have:=mC l (e+1);exact ih m' _ (by omega) (by omega)
   ·rfl
end Go.Proofs.YtocgkfoifehcbaaGreat
namespace Go.Proofs.YtocgkfoifehcbaaGreat
set_option linter.all false
open Go.RowKit
theorem T1(l:List R4)(w:Int):∀(m m' a:Nat),l.length<m+a→l.length<m'+a→bM l w m a=bM l w m' a:=by
 intro m
 induction m with
 | zero =>
  intro m' a h h';cases m' with
  | zero=>rfl
  | succ m'=>unfold bM;rw[if_neg (by omega)]
 | succ m ih =>
  intro m' a h h';cases m' with
  | zero=>unfold bM;rw[if_neg (by omega)]
  | succ m' =>
   unfold bM;split
   ·have:=rS l w a l.length (gr l (a+1));have:=mC l (a+1);rw[ih m' _ (by omega) (by omega)]
   ·rfl
theorem yH(l:List R4)(w:Int):∀(m a:Nat),(bM l w m a).length≤l.length-a
 | 0,a=>by simp[bM]
 | m+1,a=>by
  unfold bM;split
  ·have:=yH l w m (lE l w a l.length (gr l (a+1)));have:=rS l w a l.length (gr l (a+1));have:=mC l (a+1);simp;omega
  ·simp
section
variable{K:Kn}{n:Nat}{L:List au}{w:Int}
theorem Rq(hn:L.length<n)(hL:(L.length:Int)<9223372036854775807)(a:Nat)(out:List Int)(C:Int→List Int→Option (List Int)):∀(m e:Nat),1≤e→a≤e→e≤L.length→L.length<m+e →
  oN K n L w a out C m e=C ((lE (L.map vI) w a m e:Nat):Int) (out++[(a:Int)]):=by
 intro m
 induction m with
 | zero=>intro e h0 h1 h2 h3;omega
 | succ m ih =>
  intro e h0 h1 h2 h3;show pG K n L w a out C (oN K n L w a out C m) e=_;unfold pG lE;by_cases he:e<L.length
  ·rw[if_pos (by simpa using he),cB (by omega) (by omega),db (by omega) (by omega),bg];unfold nr;have e1:((e:Int)-1).toNat=e-1:=by omega
   have hv:=wN (L:=L) (k:=e-1) (by omega);have hf:((L.map vI).getD (e-1) default).f=(L.getD ((e:Int)-1).toNat default).Forced:=by
    rw[cX (by simp;omega),hv,e1];rfl
   cases hb:(L.getD ((e:Int)-1).toNat default).Forced with
   | true =>
    rw[show(!true)=false from rfl,if_neg (by simp),if_neg (by rw[hf,hb];simp)];rfl
   | false =>
    have hg:=va (l:=L.map vI) (i:=e+1) (by simp;omega);have hge:=mC (L.map vI) (e+1);simp only[List.length_map]at hg;rw[show(!false)=true from rfl,if_pos rfl,F4 (by omega) (by omega) hn hL];simp only[Option.bind_some,Int.toNat_natCast];rw[show cH (a:Int) ((gr (L.map vI) (e+1):Nat):Int) L.length=true by simp only[cH,Bool.and_eq_true,decide_eq_true_eq];omega,bg];have hs:List.drop a (List.take (gr (L.map vI) (e+1)) L)=sl L a (gr (L.map vI) (e+1)):=rfl;rw[hs,Hj (by have:=ym L a (gr (L.map vI) (e+1));omega) (by have:=ym L a (gr (L.map vI) (e+1));omega),O0];simp only[Option.bind_some];by_cases hw:kG (sl (L.map vI) a (gr (L.map vI) (e+1)))>w
    ·rw[if_pos (by simpa using hw),if_neg (by simp[hw])];rfl
    ·rw[if_neg (by simpa using hw),if_pos ⟨by simpa using he,by rw[hf,hb],hw⟩];exact ih _ (by omega) (by omega) (by omega) (by omega)
  ·rw[if_neg (by simpa using he),if_neg (by simp;omega)];unfold nr;rw[if_neg (by simp)];rfl
theorem Sp(hn:L.length<n)(hL:(L.length:Int)≤1000000):∀(m a:Nat) (out:List Int),a≤L.length→out.length≤a→L.length<m+a→oA K n L w m a out=some (out++(bM (L.map vI) w m a).map fun (k:Nat)=>(k:Int)):=by
 intro m
 induction m with
 | zero=>intro a out h1 h2 h3;omega
 | succ m ih =>
  intro a out h1 h2 h3;show oi K n L w (oA K n L w m) a out=_;unfold oi bM;by_cases ha:a<L.length
  ·rw[if_pos (by simpa using ha),if_pos (by simpa using ha),cW (by simp;omega) (by omega),bg,F4 (by omega) (by omega) hn (by omega)];simp only[Option.bind_some,Int.toNat_natCast];have hg:=va (l:=L.map vI) (i:=a+1) (by simp;omega);have hge:=mC (L.map vI) (a+1);simp only[List.length_map]at hg;rw[Rq hn (by omega) a out _ n _ (by omega) (by omega) hg (by omega)];rw[Ug (L.map vI) w a n (L.map vI).length _ (by simp;omega) (by simp)];have h5:=yB (L.map vI) w a (L.map vI).length (gr (L.map vI) (a+1)) (by simpa using hg);have h6:=rS (L.map vI) w a (L.map vI).length (gr (L.map vI) (a+1));simp only[List.length_map]at h5 h6⊢;rw[ih _ _ h5 (by simp;omega) (by omega)];simp[List.append_assoc]
  ·rw[if_neg (by simpa using ha),if_neg (by simpa using ha)];simp
theorem MT(hn:L.length<n)(hL:(L.length:Int)≤1000000):qu K n L w=some ((bM (L.map vI) w (L.length+1) 0).map fun (k:Nat)=>(k:Int)):=by
 unfold qu;rw[show(0:Int)=((0:Nat):Int) from rfl,Sp hn hL n 0 [] (by omega) (by simp) (by omega),T1 (L.map vI) w n (L.length+1) 0 (by simp;omega) (by simp)];simp
end
end Go.Proofs.YtocgkfoifehcbaaGreat
namespace Go.Proofs.YtocgkfoifehcbaaGreat
set_option linter.all false
open Go.RowKit
noncomputable section
def jl(o:Int):aD→List aD→Nat
 | _,[]=>0
 | a,b::r=>bif b.Kind == 1&&(b.Of == o&&!ke a b) then jl o b r+1 else 0
theorem Jv(o:Int):∀(l:List aD) (a:aD),jl o a l≤l.length
 | [],_=>Nat.le_refl _
 | b::r,a=>by
  unfold jl;cases (b.Kind == 1&&(b.Of == o&&!ke a b)) with
  | true=>have:=Jv o r b;simp;omega
  | false=>simp
def vk(p:Option aD)(e:aD):Bool:=match p with
 | none=>false
 | some q=>q.Kind != 2&&!ke q e
def runM(x:au)(e:aD)(g:Bool):au:={ x with Node:=e.Box.Node,Style:=e.Box.Style,Glued:=g }
def cM(pl:aa→au):Nat→Option aD→List aD→List au
 | 0,_,_=>[]
 | _+1,_,[]=>[]
 | m+1,p,e::r =>
  bif e.Kind == 2 then runM { cy with Forced:=true } e (vk p e)::cM pl m (some e) r
  else bif e.Kind == 3 then runM (pl e.Box) e (vk p e)::cM pl m (some e) r
  else runM (fg (e::r.take (jl e.Of e r))) e (vk p e)::cM pl m (some (jG (e::r.take (jl e.Of e r)))) (r.drop (jl e.Of e r))
def iD(L:List aD)(i:Nat):Option aD:=if i=0 then none else some (L.getD (i-1) default)
theorem HI{α:Type}[Inhabited α]{L:List α}{i k:Nat}(h:i<L.length):sl L i (i+1+k)=L.getD i default::(L.drop (i+1)).take k:=by
 unfold sl;rw[List.drop_take,show i+1+k-i=k+1 by omega,List.drop_eq_getElem_cons h,List.take_succ_cons,cX h]
theorem IU{α:Type}{L:List α}{a b:Nat}{x:α}(h:x∈sl L a b):x∈L:=by
 unfold sl at h;exact List.mem_of_mem_take (List.mem_of_mem_drop h)
theorem Hq{α:Type}{L:List α}{a b:Nat}(h:b≤L.length):(sl L a b).length=b-a:=by unfold sl;simp;omega
theorem VK{L:List aD}{i k:Nat}(h:i+k<L.length):jG (L.getD i default::(L.drop (i+1)).take k)=L.getD (i+k) default:=by
 rw[←HI (by omega)];unfold jG;have hl:=Hq (L:=L) (a:=i) (b:=i+1+k) (by omega);rw[hl,cX (by rw[hl];omega),cX h];unfold sl;rw[List.getElem_drop,List.getElem_take];congr 1;omega
section
variable{K:Kn}{n:Nat}{v2:Fv}{L:List aD}{pl:aa→au}
theorem R8(ho:∀e∈L,jT e)(hl:L.length≤2000)(hn:8010≤n)(i:Nat)(acc:List au)(g:Bool)(C:Int→List au→Option (List au))(hi:i<L.length):∀(m x:Nat),i<x→x≤L.length→L.length<m+x →
  mD K n v2 L (i:Int) acc g C m (x:Int)=iv K n v2 L i acc g C ((x+jl (L.getD i default).Of (L.getD (x-1) default) (L.drop x):Nat):Int) (fg (sl L i (x+jl (L.getD i default).Of (L.getD (x-1) default) (L.drop x)))):=by
 have fin:∀y:Nat,i<y→y≤L.length→∀(D:Int→Option (List au)),ix K n v2 L (i:Int) acc g (y:Int) C D false=iv K n v2 L i acc g C (y:Int) (fg (sl L i y)):=fun y h1 h2 D=>by
  unfold ix;have hsl:List.drop i (List.take y L)=sl L i y:=rfl;have hlen:=Hq (L:=L) (a:=i) (b:=y) h2;rw[if_neg (by simp),show cH (i:Int) (y:Int) L.length=true by simp only[cH,Bool.and_eq_true,decide_eq_true_eq];omega,bg];simp only[Int.toNat_natCast];rw[hsl,Qh (by intro e;rw[e]at hlen;simp at hlen;omega) (by omega) (fun e he=>ho e (IU he)) hn];rfl
 intro m
 induction m with
 | zero=>intro x h1 h2 h3;omega
 | succ m ih =>
  intro x h1 h2 h3;show nI K n v2 L i acc g C (mD K n v2 L i acc g C m) x=_;unfold nI;by_cases hx:x<L.length
  ·have hdr:L.drop x=L.getD x default::L.drop (x+1):=by rw[List.drop_eq_getElem_cons hx,cX hx]
   have hb:L.getD x default∈L:=by rw[cX hx];exact List.getElem_mem _
   have ha:L.getD (x-1) default∈L:=by rw[cX (by omega)];exact List.getElem_mem _
   have e1:ab ((x:Int)-1)=((x-1:Nat):Int):=by rw[cB (by omega) (by omega)];omega
   rw[if_pos (by simpa using hx),db (by omega) (by omega)];simp only[bg,Int.toNat_natCast,e1];rw[hdr];unfold jl;have nog:∀{b:Bool},b=false→ix K n v2 L (i:Int) acc g (x:Int) C (mD K n v2 L i acc g C m) false=iv K n v2 L i acc g C ((x+(bif b then jl (L.getD i default).Of (L.getD x default) (L.drop (x+1))+1 else 0):Nat):Int) (fg (sl L i (x+(bif b then jl (L.getD i default).Of (L.getD x default) (L.drop (x+1))+1 else 0)))):=fun {b} hb=>by
    subst hb;exact fin x h1 h2 _
   cases hk:((L.getD x default).Kind == 1) with
   | false=>rw[if_neg (by simp)];exact nog rfl
   | true =>
    rw[if_pos rfl];cases hof:((L.getD x default).Of == (L.getD i default).Of) with
    | false=>rw[if_neg (by simp)];exact nog rfl
    | true =>
     rw[if_pos rfl,db (by omega) (by omega),bg,J7 K (by omega) (ho _ ha).ch (ho _ hb).ch];simp only[Option.bind_some];cases hbr:ke (L.getD (x-1) default) (L.getD x default) with
     | true=>exact nog rfl
     | false =>
      unfold ix;rw[show(!false)=true from rfl,if_pos rfl,cB (by omega) (by omega),show(x:Int)+1=((x+1:Nat):Int) by omega,ih (x+1) (by omega) (by omega) (by omega)];simp only[Nat.add_sub_cancel,Bool.and_self,cond_true];rw[show x+1+jl (L.getD i default).Of (L.getD x default) (L.drop (x+1))=x+(jl (L.getD i default).Of (L.getD x default) (L.drop (x+1))+1) by omega]
  ·rw[if_neg (by simpa using hx),List.drop_eq_nil_of_le (by omega)];unfold jl;exact fin x h1 h2 _
theorem Af(i:Nat)(acc:List au)(g:Bool)(C:Int→List au→Option (List au))(hacc:acc.length≤1000000)(y:Int)(x:au):iv K n v2 L (i:Int) acc g C y x=C y (acc++[runM x (L.getD i default) g]):=by
 unfold iv;simp only[Option.bind_some,Int.toNat_natCast];rw[cW (by simp;omega) (by omega),bg];rfl
theorem To(ho:∀e∈L,jT e)(hl:L.length≤2000)(hn:8010≤n)(hpl:∀e∈L,e.Kind=3→K.ol v2 e.Box=some (pl e.Box)):∀(m i:Nat) (acc:List au),i≤L.length→L.length<m+i→acc.length≤i →
  lr K n v2 L m (i:Int) acc=some (acc++cM pl m (iD L i) (L.drop i)):=by
 intro m
 induction m with
 | zero=>intro i acc h1 h2;omega
 | succ m ih =>
  intro i acc h1 h2 h3;show oK K n v2 L (lr K n v2 L m) i acc=_;unfold oK;by_cases hi:i<L.length
  ·have hdr:L.drop i=L.getD i default::L.drop (i+1):=by rw[List.drop_eq_getElem_cons hi,cX hi]
   have hb:L.getD i default∈L:=by rw[cX hi];exact List.getElem_mem _
   rw[if_pos (by simpa using hi),db (by omega) (by omega)];simp only[bg,Int.toNat_natCast];rw[hdr];have hw:ab ((i:Int)+1)=((i+1:Nat):Int):=by rw[cB (by omega) (by omega)];omega
   have hprev:iD L (i+1)=some (L.getD i default):=by unfold iD;rw[if_neg (by omega),Nat.add_sub_cancel]
   have key:∀g,g=vk (iD L i) (L.getD i default)→lU K n v2 L (i:Int) acc (lr K n v2 L m) g=some (acc++cM pl (m+1) (iD L i) (L.getD i default::L.drop (i+1))):=by
    intro g hg;unfold lU cM;simp only[Option.bind_some,Int.toNat_natCast];rw[←hg];cases k2:((L.getD i default).Kind == 2) with
    | true =>
     rw[if_pos rfl,Af i acc g _ (by omega),hw,ih (i+1) _ (by omega) (by omega) (by simp;omega),hprev];simp[List.append_assoc]
    | false =>
     rw[if_neg (by simp)];cases k3:((L.getD i default).Kind == 3) with
     | true =>
      rw[if_pos rfl,hpl _ hb (by simpa using k3)];simp only[Option.bind_some];rw[Af i acc g _ (by omega),hw,ih (i+1) _ (by omega) (by omega) (by simp;omega),hprev];simp[List.append_assoc]
     | false =>
      rw[if_neg (by simp),hw,R8 ho hl hn i acc g _ hi n (i+1) (by omega) (by omega) (by omega),Nat.add_sub_cancel];simp only[cond_false];have hj:=Jv (L.getD i default).Of (L.drop (i+1)) (L.getD i default);rw[List.length_drop]at hj;generalize jl (L.getD i default).Of (L.getD i default) (L.drop (i+1))=k at *;rw[Af i acc g _ (by omega),ih (i+1+k) _ (by omega) (by omega) (by simp;omega),HI hi,VK (by omega),List.drop_drop];have hp:iD L (i+1+k)=some (L.getD (i+k) default):=by unfold iD;rw[if_neg (by omega)];congr 2;omega
      rw[hp];simp[List.append_assoc]
   by_cases h0:i=0
   ·rw[if_neg (by simp;omega)];exact key false (by unfold iD;rw[if_pos h0];rfl)
   ·have ha:L.getD (i-1) default∈L:=by rw[cX (by omega)];exact List.getElem_mem _
    have e1:ab ((i:Int)-1)=((i-1:Nat):Int):=by rw[cB (by omega) (by omega)];omega
    have hp:iD L i=some (L.getD (i-1) default):=by unfold iD;rw[if_neg h0]
    rw[if_pos (by simp;omega),e1,db (by omega) (by omega)];simp only[bg,Int.toNat_natCast];by_cases hk:((L.getD (i-1) default).Kind != 2)=true
    ·rw[if_pos hk,J7 K (by omega) (ho _ ha).ch (ho _ hb).ch];simp only[Option.bind_some];exact key _ (by rw[hp];show _=((L.getD (i-1) default).Kind != 2&&!ke (L.getD (i-1) default) (L.getD i default));rw[hk];rfl)
    ·rw[if_neg hk];have hk':((L.getD (i-1) default).Kind != 2)=false:=by simpa using hk
     exact key false (by rw[hp];show _=((L.getD (i-1) default).Kind != 2&&!ke (L.getD (i-1) default) (L.getD i default));rw[hk'];rfl)
  ·rw[if_neg (by simpa using hi),List.drop_eq_nil_of_le (by omega)];simp[cM]
theorem TF(pl:aa→au):∀(m m':Nat) (p:Option aD) (l:List aD),l.length<m→l.length<m'→cM pl m p l=cM pl m' p l:=by
 intro m
 induction m with
 | zero=>intro m' p l h;omega
 | succ m ih =>
  intro m' p l h h';cases m' with
  | zero=>omega
  | succ m' =>
   cases l with
   | nil=>rfl
   | cons e r =>
    simp only[List.length_cons]at h h';unfold cM;rw[ih m' (some e) r (by omega) (by omega),ih m' _ (r.drop (jl e.Of e r)) (by simp;omega) (by simp;omega)]
theorem OL(pl:aa→au):∀(m:Nat) (p:Option aD) (l:List aD),(cM pl m p l).length≤l.length:=by
 intro m
 induction m with
 | zero=>intro p l;simp[cM]
 | succ m ih =>
  intro p l;cases l with
  | nil=>simp[cM]
  | cons e r =>
   unfold cM;have h1:=ih (some e) r;have h2:=ih (some (jG (e::r.take (jl e.Of e r)))) (r.drop (jl e.Of e r));rw[List.length_drop]at h2;cases (e.Kind == 2) with
   | true=>simp;omega
   | false =>
    cases (e.Kind == 3) with
    | true=>simp;omega
    | false=>simp;omega
def nE(pl:aa→au)(L:List aD):List au:=cM pl (L.length+1) none L
end
theorem Nu{N d:Nat}{B:List aa}{v2:Fv}{pl:aa→au}(hD:Dp d B)(hc:dt d B≤2000)(hN:d+9000≤N)(hpl:∀e∈gT d B,e.Kind=3→(KN N).ol v2 e.Box=some (pl e.Box)):
  pu (KN N) N B v2=some (nE pl (gT d B)):=by
 have hlen:=BK d B;unfold pu;rw[Od hD (by omega) (by omega)];simp only[Option.bind_some];rw[show(0:Int)=((0:Nat):Int) from rfl,To (pl:=pl) (E7 d B) (by omega) (by omega) hpl N 0 [] (by omega) (by omega) (by simp),List.drop_zero,List.nil_append];unfold nE;rw[TF pl N ((gT d B).length+1) _ _ (by omega) (by omega)];rfl
end
end Go.Proofs.YtocgkfoifehcbaaGreat
namespace Go.Proofs.YtocgkfoifehcbaaGreat
set_option linter.all false
open Go.RowKit
noncomputable section
theorem wR(b:ByteArray):b.toList=b.data.toList:=ByteArray.toList_eq b
theorem RC:(⟨#[]⟩:ByteArray).toList=[]:=by rw[wR]
def iE(b:ByteArray):Bool:=b.data.toList.getLast? == some 32
theorem MK(K:Kn)(n:Nat){b:ByteArray}(hb:b.size≤1000000):sc K n b ⟨#[32]⟩=some (iE b):=by
 have h1:(⟨#[32]⟩:ByteArray).size=1:=rfl;unfold sc wA ru iE;rw[h1];by_cases h:1≤b.size
 ·have e1:ab ((b.size:Int)-((1:Nat):Int))=((b.size-1:Nat):Int):=by rw[cB (by omega) (by omega)];omega
  rw[if_pos (by simp;omega),e1,show cH ((b.size-1:Nat):Int) (b.size:Int) b.size=true by simp only[cH,Bool.and_eq_true,decide_eq_true_eq];omega,bg];simp only[Option.bind_some,Int.toNat_natCast];rw[wR,wR,ByteArray.data_extract,Array.toList_extract];have hl:b.data.toList.length=b.size:=rfl;generalize b.data.toList=l at hl;rw[←hl]at h⊢;have hne:l≠[]:=by intro e;rw[e]at h;simp at h
  have:(l.take l.length).drop (l.length-1)=[l.getLast hne]:=by
   rw[List.take_length]
   conv=>lhs;rw[←List.dropLast_concat_getLast hne]
   rw[List.length_append,List.length_dropLast];simp
  rw[List.extract_eq_drop_take,List.getLast?_eq_some_getLast hne];have e2:List.take (l.length-(l.length-1)) (List.drop (l.length-1) l)=[l.getLast hne]:=by
   rw[←this,List.take_length,List.take_of_length_le (by simp)]
  rw[e2];show some ([l.getLast hne] == [32])=some (some (l.getLast hne) == some 32);congr 1;cases hq:(l.getLast hne == 32)<;>simp_all
 ·have hs:b.size=0:=by omega
  have hl:b.data.toList=[]:=List.eq_nil_of_length_eq_zero (by rw[nK];exact hs);rw[if_neg (by simp;omega),hl];rfl
def vf(b:ByteArray):ByteArray:=b.extract 0 (b.size-1)
def stripR(r:au):au:=bif iE r.Text&&r.Style.WhiteSpace != 2 then { r with Text:=vf r.Text,Space:=0 } else r
def yd(above x:Int)(b:ai):ai:={ b with X:=ab (b.X+x),Y:=ab (b.Y+(ab ((ab (above-b.H))-ab (b.After.Pos+b.After.Neg)))) }
def Ag(s:Int):Int:=min (max s 0) 1048576
def M4(s:Int):Int:=ab (Ag s+(ab (Int.tdiv (ab (Ag s+3)) 4)))
def vn(above x:Int)(r:au):List ai:=bif r.Text.data.toList.isEmpty then [] else [⟨3,r.Node,x,ab (above-Ag r.Style.FontSize),ab (r.Width+r.Space),M4 r.Style.FontSize,0,r.Text,r.Style,cR,cR,false,[]⟩]
def jg(above x:Int)(r:au):List ai:=vn above x r++r.Box.map (yd above x)
def gh(above last:Int):Int→Int→List au→List ai
 | _,_,[]=>[]
 | i,x,r::t =>
  let r':=bif i == last then stripR r else r
  jg above x r'++gh above last (i+1) (ab (x+ab (r'.Width+r'.Space))) t
section
variable{K:Kn}{n:Nat}{L:List au}{s:aJ}{w above below last:Int}
theorem Sj(r:au)(i:Int)(C:Int→Int→List ai→Option ai)(x:Int)(hb:r.Box.length≤1000):∀(m j:Nat) (acc:List ai),j≤r.Box.length→r.Box.length<m+j→acc.length≤1000000+j →
  pJ K n L s w above below last x i r C m (j:Int) acc=C (ab (x+ab (r.Width+r.Space))) (ab (i+1)) (acc++(r.Box.drop j).map (yd above x)):=by
 intro m
 induction m with
 | zero=>intro j acc h1 h2;omega
 | succ m ih =>
  intro j acc h1 h2 h3;show pw K n L s w above below last x i r C (pJ K n L s w above below last x i r C m) j acc=_;unfold pw;by_cases hj:j<r.Box.length
  ·have hd:r.Box.drop j=r.Box.getD j default::r.Box.drop (j+1):=by rw[List.drop_eq_getElem_cons hj,cX hj]
   rw[if_pos (by simpa using hj),db (by omega) (by omega)];simp only[bg,Option.bind_some,Int.toNat_natCast,js];rw[cW (by simp;omega) (by omega),bg,cB (n:=(j:Int)+1) (by omega) (by omega),show(j:Int)+1=((j+1:Nat):Int) by omega,ih (j+1) _ (by omega) (by omega) (by simp;omega),hd,List.map_cons];rw[List.append_assoc];rfl
  ·rw[if_neg (by simpa using hj),List.drop_eq_nil_of_le (by omega)];simp
theorem R1(r:au)(i:Int)(C:Int→Int→List ai→Option ai)(x:Int)(hb:r.Box.length≤1000)(hn:1001≤n)(acc:List ai)(ha:acc.length≤900000):
  kz K n L s w above below last x i acc C r=C (ab (x+ab (r.Width+r.Space))) (ab (i+1)) (acc++jg above x r):=by
 unfold kz;rw[wR,RC];simp only[Option.bind_some];have h5:∀acc':List ai,acc'.length≤1000000→m7 K n L s w above below last x i r C acc'=C (ab (x+ab (r.Width+r.Space))) (ab (i+1)) (acc'++r.Box.map (yd above x)):=fun acc' h=>by
  unfold m7;rw[show(0:Int)=((0:Nat):Int) from rfl,Sj r i C x hb n 0 acc' (by omega) (by omega) (by omega),List.drop_zero]
 unfold jg vn;cases he:r.Text.data.toList with
 | nil =>
  rw[if_neg (by simp),h5 acc (by omega)];simp
 | cons b t =>
  rw[if_pos (by simp)];simp only[pU,sg,mM,Option.bind_some];rw[cW (by simp;omega) (by omega),bg,h5 _ (by simp;omega)];simp only[List.isEmpty_cons,cond_false,List.append_assoc];rfl
theorem OC(hb:∀r∈L,r.Box.length≤1∧r.Text.size≤100000)(hl:L.length≤2000)(hn:2002≤n):∀(m i:Nat) (x:Int) (acc:List ai),i≤L.length→L.length<m+i→acc.length≤2*i →
  jL K n L s w above below last m x (i:Int) acc=some { bG with Kind:=2,W:=w,H:=ab (above+below),aE:=above,Style:=s,Kids:=acc++gh above last i x (L.drop i) }:=by
 intro m
 induction m with
 | zero=>intro i x acc h1 h2;omega
 | succ m ih =>
  intro i x acc h1 h2 h3;show oP K n L s w above below last (jL K n L s w above below last m) x i acc=_;unfold oP;by_cases hi:i<L.length
  ·have hd:L.drop i=L.getD i default::L.drop (i+1):=by rw[List.drop_eq_getElem_cons hi,cX hi]
   have hm:L.getD i default∈L:=by rw[cX hi];exact List.getElem_mem _
   obtain⟨b1,b2⟩:=hb _ hm;have e1:ab ((i:Int)+1)=((i+1:Nat):Int):=by rw[cB (by omega) (by omega)];omega
   rw[if_pos (by simpa using hi),db (by omega) (by omega),bg];simp only[Int.toNat_natCast];have rl:∀(y:Int) (r:au),r.Box.length≤1→(jg above y r).length≤2:=fun y r h=>by
    unfold jg vn;cases r.Text.data.toList.isEmpty<;>simp<;>omega
   have step:∀r':au,r'.Box=(L.getD i default).Box→kz K n L s w above below last x i acc (jL K n L s w above below last m) r'=some { bG with Kind:=2,W:=w,H:=ab (above+below),aE:=above,Style:=s,Kids:=acc++(jg above x r'++gh above last ((i:Int)+1) (ab (x+ab (r'.Width+r'.Space))) (L.drop (i+1))) }:=fun r' hr=>by
    have hrl:=rl x r' (by rw[hr];exact b1);rw[R1 r' i _ x (by rw[hr];omega) (by omega) acc (by omega),e1,ih (i+1) _ _ (by omega) (by omega) (by simp;omega)];rw[List.append_assoc];rfl
   rw[hd];unfold gh;by_cases hlast:(i:Int)=last
   ·rw[if_pos (by simpa using hlast),MK K n (by omega)];simp only[Option.bind_some];rw[show((i:Int) == last)=true by simpa using hlast];simp only[cond_true];have j3:∀c:Bool,kw K n L s w above below last x i acc (jL K n L s w above below last m) (iE (L.getD i default).Text&&c)=kz K n L s w above below last x i acc (jL K n L s w above below last m) (bif iE (L.getD i default).Text&&c then { L.getD i default with Text:=vf (L.getD i default).Text,Space:=0 } else L.getD i default):=fun c=>by
     unfold kw;simp only[Int.toNat_natCast];cases hs:iE (L.getD i default).Text with
     | false=>rw[if_neg (by simp)];rfl
     | true =>
      cases c with
      | false=>rw[if_neg (by simp)];rfl
      | true =>
       have hsz:1≤(L.getD i default).Text.size:=by
        unfold iE at hs;rcases Nat.eq_zero_or_pos (L.getD i default).Text.size with h0|h0
        ·have:(L.getD i default).Text.data.toList=[]:=List.eq_nil_of_length_eq_zero (by rw[nK];exact h0);rw[this]at hs;simp at hs
        ·exact h0
       have e2:ab (((L.getD i default).Text.size:Int)-1)=(((L.getD i default).Text.size-1:Nat):Int):=by rw[cB (by omega) (by omega)];omega
       rw[if_pos (show(true&&true)=true from rfl),e2,show cH (0:Int) (((L.getD i default).Text.size-1:Nat):Int) (L.getD i default).Text.size=true by simp only[cH,Bool.and_eq_true,decide_eq_true_eq];omega,bg];simp only[Int.toNat_natCast,Int.toNat_zero];rfl
    have hst:stripR (L.getD i default)=(bif iE (L.getD i default).Text&&(L.getD i default).Style.WhiteSpace != 2 then { L.getD i default with Text:=vf (L.getD i default).Text,Space:=0 } else L.getD i default):=rfl;rw[hst];have hbox:∀c:Bool,(bif c then { L.getD i default with Text:=vf (L.getD i default).Text,Space:=0 } else L.getD i default:au).Box=(L.getD i default).Box:=fun c=>by cases c<;>rfl
    cases hs:iE (L.getD i default).Text with
    | true =>
     rw[if_pos rfl];have:=j3 ((L.getD i default).Style.WhiteSpace != 2);rw[hs,Bool.true_and]at this;rw[this,Bool.true_and];exact step _ (hbox _)
    | false =>
     rw[if_neg (by simp)];have:=j3 false;rw[hs,Bool.false_and]at this;rw[this,Bool.false_and];exact step _ rfl
   ·rw[if_neg (by simpa using hlast)];have e3:((i:Int) == last)=false:=by simpa using hlast
    rw[e3];unfold kw;rw[if_neg (by simp)];simp only[Int.toNat_natCast,cond_false];exact step _ rfl
  ·rw[if_neg (by simpa using hi),List.drop_eq_nil_of_le (by omega)];simp[gh]
end
def gI:Int×Int→List au→Int×Int
 | p,[]=>p
 | p,r::t=>gI (bif r.Forced then p else (max p.1 r.Above,max p.2 r.Below)) t
theorem NW(p:Int×Int)(r:au)(t:List au):gI p (r::t)=gI (bif r.Forced then p else (max p.1 r.Above,max p.2 r.Below)) t:=rfl
def lG(i acc:Int):List au→Int
 | []=>acc
 | r::t=>lG (i+1) (bif r.Forced then acc else i) t
def tQ(L:List au):Int:=lG 0 (-1) L
def sC(s:aJ)(w u:Int):Int:=(jx (KN 0) 0 s w u).getD 0
def lq(s:aJ)(w:Int)(L:List au):ai :=
 { bG with Kind:=2,W:=w,H:=ab ((gI (gy s) L).1+(gI (gy s) L).2),aE:=(gI (gy s) L).1,Style:=s,Kids:=[]++gh (gI (gy s) L).1 (tQ L) 0 (sC s w (kG (L.map vI))) L }
theorem Fp:∀(a:List au) (r:au) (i acc:Int),lG i acc (a++[r])=bif r.Forced then lG i acc a else i+a.length
 | [],r,i,acc=>by simp[lG]
 | x::t,r,i,acc=>by
  simp only[List.cons_append,lG];rw[Fp t r (i+1)];cases r.Forced
  ·simp;omega
  ·rfl
theorem Ql(K:Kn)(n:Nat)(s:aJ)(w u:Int):jx K n s w u=some (sC s w u):=by
 have e:jx (KN 0) 0 s w u=jx K n s w u:=rfl;have:mw (jx K n s w u):=by
  unfold jx
  repeat first|exact xY _|apply Ab
 obtain⟨v,hv⟩:=this;unfold sC;rw[e,hv];rfl
section
variable{K:Kn}{n:Nat}{L:List au}{s:aJ}{w:Int}
theorem V5:∀(m k:Nat),k≤L.length→k<m→(L.length:Int)<9223372036854775807→lj K n L m ((k:Int)-1)=some (lG 0 (-1) (L.take k)):=by
 intro m
 induction m with
 | zero=>intro k _ h;omega
 | succ m ih =>
  intro k hk hm hL;show ky K n L (lj K n L m) ((k:Int)-1)=_;unfold ky;cases k with
  | zero=>rw[if_neg (by simp)];rfl
  | succ k =>
   have e:(((k+1:Nat):Int)-1)=(k:Int):=by omega
   have hkl:k<L.length:=by omega
   have ht:L.take (k+1)=L.take k++[L.getD k default]:=by
    rw[List.take_add_one,List.getElem?_eq_getElem hkl,cX hkl];rfl
   rw[e,if_pos (by simp),db (by omega) (by omega),bg,Int.toNat_natCast,ht,Fp];have hl:(L.take k).length=k:=by simp;omega
   cases hf:(L.getD k default).Forced with
   | false=>rw[show(!false)=true from rfl,if_pos rfl,hl];simp
   | true=>rw[show(!true)=false from rfl,if_neg (by simp),cB (by omega) (by omega),ih k (by omega) (by omega) hL];rfl
theorem Q0(hn:L.length<n)(hL:(L.length:Int)<9223372036854775807):kS K n L=some (tQ L):=by
 unfold kS;rw[cB (by omega) (by omega),V5 n L.length (Nat.le_refl _) hn hL,List.take_length];rfl
theorem KR(hb:∀r∈L,r.Box.length≤1∧r.Text.size≤100000)(hl:L.length≤2000)(hn:2002≤n):∀(m i:Nat) (p:Int×Int),i≤L.length→L.length<m+i→gI (gy s) L=gI p (L.drop i)→nA K n L s w m p.1 p.2 (i:Int)=some (lq s w L):=by
 intro m
 induction m with
 | zero=>intro i p h1 h2;omega
 | succ m ih =>
  intro i p h1 h2 h3;show oY K n L s w (nA K n L s w m) p.1 p.2 i=_;unfold oY;by_cases hi:i<L.length
  ·have hd:L.drop i=L.getD i default::L.drop (i+1):=by rw[List.drop_eq_getElem_cons hi,cX hi]
   rw[hd,NW]at h3;have e1:ab ((i:Int)+1)=((i+1:Nat):Int):=by rw[cB (by omega) (by omega)];omega
   rw[if_pos (by simpa using hi),db (by omega) (by omega),bg];simp only[Int.toNat_natCast];unfold sV;rw[e1];cases hf:(L.getD i default).Forced with
   | false =>
    rw[hf]at h3;rw[show(!false)=true from rfl,if_pos rfl];exact ih (i+1) (_,_) (by omega) (by omega) h3
   | true =>
    rw[hf]at h3;rw[show(!true)=false from rfl,if_neg (by simp)];exact ih (i+1) p (by omega) (by omega) h3
  ·rw[List.drop_eq_nil_of_le (by omega)]at h3;have h3:gI (gy s) L=p:=h3;rw[if_neg (by simpa using hi),Hj (by omega) (by omega)];simp only[Option.bind_some,Ql];rw[Q0 (by omega) (by omega)];simp only[Option.bind_some];rw[show(0:Int)=((0:Nat):Int) from rfl,OC hb hl hn n 0 _ [] (by omega) (by omega) (by simp),List.drop_zero];unfold lq;rw[h3];rfl
theorem Te(hb:∀r∈L,r.Box.length≤1∧r.Text.size≤100000)(hl:L.length≤2000)(hn:2002≤n):qY K n L s w=some (lq s w L):=by
 unfold qY;rw[A6];simp only[Option.bind_some];exact KR hb hl hn n 0 (gy s) (by omega) (by omega) rfl
end
def fM(s:aJ)(w:Int)(X:List au):Int→List Nat→List ai×Int
 | h,a::b::r =>
  let f:=lq s w (sl X a b)
  let q:=fM s w X (ab (h+f.H)) (b::r)
  ({ f with Y:=h }::q.1,q.2)
 | h,_=>([],h)
theorem Hr(s:aJ)(w:Int)(X:List au):∀(S:List Nat) (h:Int),(fM s w X h S).1.length≤S.length
 | [],h=>by simp[fM]
 | [a],h=>by simp[fM]
 | a::b::r,h=>by
  have:=Hr s w X (b::r) (ab (h+(lq s w (sl X a b)).H));unfold fM;simp at this⊢;omega
section
variable{K:Kn}{n:Nat}{X:List au}{s:aJ}{w:Int}
def uP(N:Nat):List Nat→Prop
 | a::b::r=>a≤b∧b≤N∧uP N (b::r)
 | _=>True
theorem HH{N:Nat}:∀{S:List Nat},uP N S→∀i,i+1<S.length→S.getD i 0≤S.getD (i+1) 0∧S.getD (i+1) 0≤N
 | [],_,i,h=>by simp at h
 | [a],_,i,h=>by simp at h
 | a::b::r,h,0,_=>⟨h.1,h.2.1⟩
 | a::b::r,h,i+1,hi=>by
  have:=HH h.2.2 i (by simpa using hi);simpa using this
theorem Px(hb:∀r∈X,r.Box.length≤1∧r.Text.size≤100000)(hl:X.length≤2000)(hn:2010≤n)(v:Int)(hv:min (max v 0) 1048576=w)(S0 S:List Nat)(hS:S=S0++[X.length])(hA:uP X.length S)(hSl:S.length≤2001):∀(m i:Nat) (h:Int) (acc:List ai),i<S.length→S.length<m+i→acc.length≤i →
  nW K n s v X (S0.map fun (k:Nat)=>(k:Int)) m h ((S.length-1:Nat):Int) (i:Int) acc=some (acc++(fM s w X h (S.drop i)).1,(fM s w X h (S.drop i)).2):=by
 have hSm:(S0.map fun (k:Nat)=>(k:Int))++[(X.length:Int)]=S.map fun (k:Nat)=>(k:Int):=by rw[hS];simp
 have hget:∀j,j<S.length→(S.map fun (k:Nat)=>(k:Int)).getD j default=((S.getD j 0:Nat):Int):=fun j hj=>by
  rw[cX (by simpa using hj),List.getElem_map];congr 1;simp[List.getD,hj]
 intro m
 induction m with
 | zero=>intro i h acc h1 h2;omega
 | succ m ih =>
  intro i h acc h1 h2 h3;show nN K n s v X (S0.map fun (k:Nat)=>(k:Int)) (nW K n s v X (S0.map fun (k:Nat)=>(k:Int)) m) h ((S.length-1:Nat):Int) i acc=_;unfold nN;have e1:ab ((i:Int)+1)=((i+1:Nat):Int):=by rw[cB (by omega) (by omega)];omega
  rw[hSm,e1];have hd:S.drop i=S.getD i 0::S.drop (i+1):=by rw[List.drop_eq_getElem_cons h1];congr 1;simp[List.getD,h1]
  by_cases hi:i+1<S.length
  ·have g1:=hget i h1;have g2:=hget (i+1) hi;obtain⟨a1,a2⟩:=HH hA i hi;have hd2:S.drop (i+1)=S.getD (i+1) 0::S.drop (i+2):=by rw[List.drop_eq_getElem_cons hi];congr 1;simp[List.getD,hi]
   rw[if_pos (by simp;omega),db (by omega) (by simp;omega),bg,db (by omega) (by simp;omega),bg];simp only[Int.toNat_natCast,g1,g2];rw[show cH ((S.getD i 0:Nat):Int) ((S.getD (i+1) 0:Nat):Int) X.length=true by simp only[cH,Bool.and_eq_true,decide_eq_true_eq];omega,bg];have hsl:List.drop (S.getD i 0) (List.take (S.getD (i+1) 0) X)=sl X (S.getD i 0) (S.getD (i+1) 0):=rfl;have h5:=ym X (S.getD i 0) (S.getD (i+1) 0);rw[hsl,hv,Te (fun r hr=>hb r (by unfold sl at hr;exact List.mem_of_mem_take (List.mem_of_mem_drop hr))) (by omega) (by omega)];simp only[Option.bind_some];rw[cW (by simp;omega) (by omega),bg,ih (i+1) _ _ (by omega) (by omega) (by simp;omega),hd,hd2]
   conv=>rhs;unfold fM
   rw[←hd2];simp[List.append_assoc]
  ·rw[if_neg (by simp;omega),hd,List.drop_eq_nil_of_le (by omega)];simp[fM]
end
end
end Go.Proofs.YtocgkfoifehcbaaGreat
namespace Go.Proofs.YtocgkfoifehcbaaGreat
set_option linter.all false
open Go.RowKit
noncomputable section
theorem Ri(l:List R4)(w:Int)(m a:Nat)(ha:a≤l.length)(hm:l.length<m+a):∃r,bM l w m a++[l.length]=a::r:=by
 cases m with
 | zero=>omega
 | succ m =>
  unfold bM;by_cases h:a<l.length
  ·rw[if_pos h];exact⟨_,rfl⟩
  ·rw[if_neg h];exact⟨[],by rw[List.nil_append,show a=l.length by omega]⟩
theorem V7(l:List R4)(w:Int):∀(m a:Nat),a≤l.length→l.length<m+a→uP l.length (bM l w m a++[l.length]):=by
 intro m
 induction m with
 | zero=>intro a h1 h2;omega
 | succ m ih =>
  intro a h1 h2;unfold bM;by_cases h:a<l.length
  ·rw[if_pos h];have q1:=va (l:=l) (i:=a+1) (by omega);have q2:=mC l (a+1);have q3:=yB l w a l.length _ q1;have q4:=rS l w a l.length (gr l (a+1));have h3:=ih (lE l w a l.length (gr l (a+1))) q3 (by omega);obtain⟨r,hr⟩:=Ri l w m (lE l w a l.length (gr l (a+1))) q3 (by omega);rw[List.cons_append];rw[hr]at h3⊢;exact⟨by omega,q3,h3⟩
  ·rw[if_neg h];trivial
theorem Fr{P:au→Prop}{pl:aa→au}(h1:∀e g,P (runM { cy with Forced:=true } e g)):∀(m:Nat) (p:Option aD) (l:List aD),(∀e∈l,e.Kind=3→∀g,P (runM (pl e.Box) e g))→(∀e g (x:List aD),x≠[]→x.length≤l.length→(∀y∈x,y∈l)→P (runM (fg x) e g))→∀r∈cM pl m p l,P r:=by
 intro m
 induction m with
 | zero=>intro p l _ _ r hr;cases hr
 | succ m ih =>
  intro p l h2 h3 r hr;cases l with
  | nil=>cases hr
  | cons e t =>
   unfold cM at hr;cases k2:(e.Kind == 2) with
   | true =>
    rw[k2]at hr;rcases List.mem_cons.1 hr with rfl|hr
    ·exact h1 _ _
    ·exact ih (some e) t (fun e he=>h2 e (by simp[he])) (fun e g x q1 q2 q3=>h3 e g x q1 (by simp;omega) (fun y hy=>by simp[q3 y hy])) r hr
   | false =>
    cases k3:(e.Kind == 3) with
    | true =>
     rw[k2,k3]at hr;rcases List.mem_cons.1 hr with rfl|hr
     ·exact h2 e (by simp) (by simpa using k3) _
     ·exact ih (some e) t (fun e he=>h2 e (by simp[he])) (fun e g x q1 q2 q3=>h3 e g x q1 (by simp;omega) (fun y hy=>by simp[q3 y hy])) r hr
    | false =>
     rw[k2,k3]at hr;rcases List.mem_cons.1 hr with rfl|hr
     ·refine h3 _ _ _ (by simp) (by simp;omega) (fun y hy=>?_);rcases List.mem_cons.1 hy with rfl|hy
      ·simp
      ·exact List.mem_cons_of_mem _ (List.mem_of_mem_take hy)
     ·refine ih _ _ (fun e he=>h2 e (List.mem_cons_of_mem _ (List.mem_of_mem_drop he))) (fun e g x q1 q2 q3=>h3 e g x q1 (by simp at q2⊢;omega) (fun y hy=>List.mem_cons_of_mem _ (List.mem_of_mem_drop (q3 y hy)))) r hr
theorem VS{x:List aD}(h:∀e∈x,jT e):(fg x).Text.size≤4*x.length:=by
 have:=wd (yG h);unfold fg;simp only[];rw[vp];have:(cp x).length=x.length:=by unfold cp;simp
 omega
def eE(v:Int):Int:=min (max v 0) 1048576
def gH(X:List au)(w:Int):List Nat:=bM (X.map vI) w (X.length+1) 0++[X.length]
def fc(L:List aa):Prop:=∀b∈L,b.Kind=3
theorem Mo:∀(L:List aa) (s:Int×List aD),fc L→(∀x∈s.2,x.Kind≠3)→∀x∈(vM 1 L s).2,x.Kind≠3:=by
 intro L
 induction L with
 | nil=>intro s _ hs;exact hs
 | cons b r ihL =>
  intro s hL hs;rw[kR,List.foldl_cons,← kR];have hb:=hL b List.mem_cons_self;refine ihL _ (fun c hc=>hL c (List.mem_cons_of_mem _ hc)) ?_;unfold fB;rw[hb];cases ln b with
  | false=>exact hs
  | true=>exact B1 (P:=fun x=>x.Kind≠3) b _ (fun _ _ _=>(by show(1:Int)≠3;decide)) (by show(2:Int)≠3;decide) (fun _=>(by show(1:Int)≠3;decide)) (fun _=>(by show(1:Int)≠3;decide)) _ _ Hn hs
def BW(b:aa):au:=cy
def fX(bx:List aa):List au:=nE BW (gT 1 bx)
theorem Dr(bx:List aa):(fX bx).length≤dt 1 bx:=by
 unfold fX nE;have h1:=OL BW ((gT 1 bx).length+1) none (gT 1 bx);have h2:=BK 1 bx;omega
theorem y9{bx:List aa}(h:fc bx):∀e∈gT 1 bx,e.Kind≠3:=Mo bx (0,[]) h (fun x hx=>by cases hx)
theorem PJ{bx:List aa}(h:fc bx)(hc:dt 1 bx≤2000):∀r∈fX bx,r.Box.length≤1∧r.Text.size≤100000:=by
 have hlen:=BK 1 bx;unfold fX nE;refine Fr (P:=fun r=>r.Box.length≤1∧r.Text.size≤100000) (fun e g=>⟨by simp[runM,cy],by show(⟨#[]⟩:ByteArray).size≤100000;decide⟩) _ _ _ (fun e he h3 g=>absurd h3 (y9 h e he)) (fun e g x q1 q2 q3=>⟨by simp[runM,fg,cy],?_⟩);have:=VS (x:=x) (fun y hy=>E7 1 bx y (q3 y hy));show(fg x).Text.size≤100000;omega
theorem S5{bx:List aa}(h:fc bx)(hl:bx.length≤1000)(ht:∀b∈bx,b.Text.size≤1000):Dp 1 bx:=by
 unfold Dp;exact⟨hl,fun b hb=>⟨ht b hb,fun e=>by rw[h b hb]at e;cases e⟩⟩
theorem KS{bx:List aa}(h:fc bx)(hl:bx.length≤1000)(ht:∀b∈bx,b.Text.size≤1000)(hc:dt 1 bx≤2000){N:Nat}(hN:9001≤N)(w:Int)(env:bF):rY (KN N) N bx w env=some (fX bx):=by
 unfold rY;rw[show pu (KN N) N bx _=_ from Nu (pl:=BW) (S5 h hl ht) hc (by omega) (fun e he h3=>absurd h3 (y9 h e he))];rfl
def i7(bx:List aa)(s:aJ)(v:Int):List ai×Int:=fM s (eE v) (fX bx) 0 (gH (fX bx) (eE v))
theorem QL{bx:List aa}(h:fc bx)(hl:bx.length≤1000)(ht:∀b∈bx,b.Text.size≤1000)(hc:dt 1 bx≤2000){N:Nat}(hN:9001≤N)(s:aJ)(v:Int)(env:bF):rD (KN N) N bx s v env=some (i7 bx s v):=by
 have hr:=KS h hl ht hc hN (eE v) env;have hXl:=Dr bx;have hXo:=PJ h hc;unfold i7;generalize fX bx=X at *;unfold rD;rw[show min (max v 0) 1048576=eE v from rfl,hr];simp only[Option.bind_some];rw[MT (by omega) (by omega)];simp only[Option.bind_some];have hbl:=yH (X.map vI) (eE v) (X.length+1) 0;simp only[List.length_map]at hbl;rw[cW (by simp;omega) (by omega),bg];have hA:=V7 (X.map vI) (eE v) (X.length+1) 0 (by omega) (by simp);rw[List.length_map]at hA;have hSl:(gH X (eE v)).length≤2001:=by unfold gH;simp only[List.length_append,List.length_cons,List.length_nil];omega
 have hSp:0<(gH X (eE v)).length:=by unfold gH;simp
 have hel:(((bM (X.map vI) (eE v) (X.length+1) 0).map fun (k:Nat)=>(k:Int))++[(X.length:Int)]).length=(gH X (eE v)).length:=by unfold gH;simp
 rw[hel,show ab (((gH X (eE v)).length:Int)-1)=(((gH X (eE v)).length-1:Nat):Int) by rw[cB (by omega) (by omega)];omega];have:=Px (K:=KN N) (n:=N) (X:=X) (s:=s) (w:=eE v) hXo (by omega) (by omega) v rfl (bM (X.map vI) (eE v) (X.length+1) 0) (gH X (eE v)) rfl hA hSl N 0 0 [] hSp (by omega) (by simp);rw[List.drop_zero,List.nil_append]at this;exact this
end
end Go.Proofs.YtocgkfoifehcbaaGreat
namespace Go.Proofs.YtocgkfoifehcbaaGreat
set_option linter.all false
open Go.RowKit
set_option linter.unusedSimpArgs false
theorem P1(K:Kn)(n:Nat)(L:List ai)(hL:(L.length:Int)≤9223372036854775807):∀(m:Nat) (i h:Int) (b:aW) (t:Bool) (mm:aW) (l:List ai),0≤i→i≤L.length→(L.length:Int)<m+i→((l.length:Int)+L.length)*584≤140737488355328+i*584 →
  ∃r,mi K n L m h t i b mm l=some r∧(r.1.length:Int)=l.length+L.length-i∧(∀f∈r.1,f∈l∨∃g∈L,f.Kids=g.Kids):=by
 intro m
 induction m with
 | zero=>intro i _ _ _ _ _ h0 h1 h2 _;omega
 | succ m ih =>
  intro i h b t mm l h0 h1 h2 h3;simp only[mi,qo];by_cases hi:i<(L.length:Int)
  ·have hin:=db h0 hi;have hw:ab (i+1)=i+1:=cB (by omega) (by omega);have hf:fits (l.length+1) 584=true:=cW (by omega) (by omega);have key:∀(h':Int) (t':Bool) (b' mm':aW) (y:Int),∃r,mi K n L m h' t' (i+1) b' mm' (l++[{ L.getD i.toNat default with Y:=y }])=some r∧(r.1.length:Int)=l.length+L.length-i∧(∀f∈r.1,f∈l∨∃g∈L,f.Kids=g.Kids):=by
    intro h' t' b' mm' y;obtain⟨r,hr,hlen,hk⟩:=ih (i+1) h' b' t' mm' (l++[{ L.getD i.toNat default with Y:=y }]) (by omega) (by omega) (by omega) (by simp only[List.length_append,List.length_cons,List.length_nil];omega);refine⟨r,hr,by rw[hlen];simp only[List.length_append,List.length_cons,List.length_nil];omega,fun f hf=>?_⟩;rcases hk f hf with hm|hm
    ·rcases List.mem_append.1 hm with hm|hm
     ·exact .inl hm
     ·right;have hlt:i.toNat<L.length:=by omega
      refine⟨L[i.toNat],List.getElem_mem _,?_⟩;simp only[List.mem_cons,List.not_mem_nil,or_false]at hm;rw[hm,cX hlt]
    ·exact .inr hm
   simp only[hi,decide_true,if_true,hin,bg,i0,js,Option.bind_some,rm,tD,qe,List.length_cons,List.length_nil,Nat.zero_add,hf,hw]
   repeat (first|exact key _ _ _ _ _|split)
  ·have:decide (i<(L.length:Int))=false:=by simpa using hi
   simp only[this,Bool.false_eq_true,if_false,tn];split<;>exact⟨_,rfl,by show(l.length:Int)=_;omega,fun f hf=>.inl hf⟩
theorem Jg(K:Kn)(n:Nat)(L:List ai)(hn:L.length<n)(hL:L.length*584≤140737488355328):∃r,j7 K n L=some r∧r.1.length=L.length∧∀f∈r.1,∃g∈L,f.Kids=g.Kids:=by
 obtain⟨r,h1,hlen,h2⟩:=P1 K n L (by omega) n 0 0 cR true cR [] (by omega) (by omega) (by omega) (by simp;omega);exact⟨r,h1,by simp only[List.length_nil]at hlen;omega,fun f hf=>(h2 f hf).elim (fun h=>by cases h) (fun h=>h)⟩
end Go.Proofs.YtocgkfoifehcbaaGreat
namespace Go.Proofs.YtocgkfoifehcbaaGreat
set_option linter.all false
open Go.RowKit
def sY(l:dg)(b:Int):Int×Bool :=
 if l.Kind=1 then (min (max l.Value (-1048576)) 1048576,true)
 else if l.Kind=2 then (min (max (ab (Int.tdiv (ab ((min (max b 0) 1048576)*(min (max l.Value (-1000000)) 1000000))) 10000)) (-1048576)) 1048576,true)
 else (0,false)
section
variable(K:Kn)(n:Nat)
theorem Ko(l:dg)(b:Int):dz K n l b=some (sY l b):=by
 unfold dz sY;by_cases h1:l.Kind=1
 ·simp[h1,pf]
 ·by_cases h2:l.Kind=2
  ·simp[h2,pf,eM]
  ·simp[h1,h2]
def eY(l:dg):Prop := -16777216≤l.Value∧l.Value≤16777216
theorem fp(l:dg):∃b,d7 K n l=some b∧(b=true→eY l):=by
 unfold d7 pZ;by_cases h:l.Value ≥ -16777216
 ·simp only[h,decide_true,if_true];exact⟨_,rfl,fun e=>⟨h,of_decide_eq_true e⟩⟩
 ·simp only[h,decide_false,Bool.false_eq_true,if_false];exact⟨_,rfl,fun e=>by cases e⟩
structure mL(x:av):Prop where
 text:(x.Text.size:Int)≤60
 left:eY x.Style.Left
 top:eY x.Style.Top
 width:eY x.Style.Width
 height:eY x.Style.Height
 minw:eY x.Style.MinWidth
 maxw:eY x.Style.MaxWidth
 basis:eY x.Style.Basis
 lh:0≤x.Style.LineHeight∧x.Style.LineHeight≤65536
 fs:0≤x.Style.FontSize∧x.Style.FontSize≤65536
 grow:0≤x.Style.Grow∧x.Style.Grow≤1048576
 shrink:0≤x.Style.Shrink∧x.Style.Shrink≤1048576
 m0:eY x.Style.Margin.a0
 m1:eY x.Style.Margin.a1
 m2:eY x.Style.Margin.a2
 m3:eY x.Style.Margin.a3
 p0:eY x.Style.Padding.a0
 p1:eY x.Style.Padding.a1
 p2:eY x.Style.Padding.a2
 p3:eY x.Style.Padding.a3
theorem RI(L:List av)(m:Int)(L1:Int→Option Bool)(i:Int)(h0:0≤i)(hi:i<L.length):jv K n L m L1 i=some false∨(mL (L.getD i.toNat default)∧jv K n L m L1 i=L1 (ab (i+1))):=by
 unfold jv;simp only[hi,decide_true,if_true,db h0 hi,bg];generalize hx:L.getD i.toNat default=x;have j5:∀b,nY K n L m i L1 b=if b=true then some false else L1 (ab (i+1)):=fun b=>rfl;obtain⟨b1,e1,f1⟩:=fp K n x.Style.Left;obtain⟨b2,e2,f2⟩:=fp K n x.Style.Top;obtain⟨b3,e3,f3⟩:=fp K n x.Style.Width;obtain⟨b4,e4,f4⟩:=fp K n x.Style.Height;obtain⟨b5,e5,f5⟩:=fp K n x.Style.MinWidth;obtain⟨b6,e6,f6⟩:=fp K n x.Style.MaxWidth;obtain⟨b7,e7,f7⟩:=fp K n x.Style.Basis;obtain⟨c0,g0,k0⟩:=fp K n x.Style.Margin.a0;obtain⟨c1,g1,k1⟩:=fp K n x.Style.Margin.a1;obtain⟨c2,g2,k2⟩:=fp K n x.Style.Margin.a2;obtain⟨c3,g3,k3⟩:=fp K n x.Style.Margin.a3;obtain⟨d0,q0,r0⟩:=fp K n x.Style.Padding.a0;obtain⟨d1,q1,r1⟩:=fp K n x.Style.Padding.a1;obtain⟨d2,q2,r2⟩:=fp K n x.Style.Padding.a2;obtain⟨d3,q3,r3⟩:=fp K n x.Style.Padding.a3;have jt:dK K n L m i L1 true=some false:=rfl;have j1:dK K n L m i L1 false=some false∨((c0=true∧c1=true∧c2=true∧c3=true∧d0=true∧d1=true∧d2=true∧d3=true)∧dK K n L m i L1 false=L1 (ab (i+1))):=by
  simp only[dK,rx,sn,sf,nY,hx,g0,g1,g2,g3,q0,q1,q2,q3,Option.bind_some];cases c0<;>cases d0<;>cases c1<;>cases d1<;>cases c2<;>cases d2<;>cases c3<;>cases d3<;>simp
 simp only[e1,e2,e3,e4,e5,e6,e7,Option.bind_some,jt];by_cases t0:(x.Text.size:Int)>60
 ·left;simp[t0]
 simp only[t0,decide_false,Bool.false_eq_true,if_false];cases b1
 ·left;simp
 simp only[Bool.not_true,Bool.false_eq_true,if_false];cases b2
 ·left;simp
 simp only[Bool.not_true,Bool.false_eq_true,if_false];cases b3
 ·left;simp
 simp only[Bool.not_true,Bool.false_eq_true,if_false];cases b4
 ·left;simp
 simp only[Bool.not_true,Bool.false_eq_true,if_false];cases b5
 ·left;simp
 simp only[Bool.not_true,Bool.false_eq_true,if_false];cases b6
 ·left;simp
 simp only[Bool.not_true,Bool.false_eq_true,if_false];cases b7
 ·left;simp
 simp only[Bool.not_true,Bool.false_eq_true,if_false];by_cases u1:x.Style.LineHeight<0
 ·left;simp[u1]
 simp only[u1,decide_false,Bool.false_eq_true,if_false];by_cases u2:x.Style.LineHeight>65536
 ·left;simp[u2]
 simp only[u2,decide_false,Bool.false_eq_true,if_false];by_cases u3:x.Style.FontSize<0
 ·left;simp[u3]
 simp only[u3,decide_false,Bool.false_eq_true,if_false];by_cases u4:x.Style.FontSize>65536
 ·left;simp[u4]
 simp only[u4,decide_false,Bool.false_eq_true,if_false];by_cases u5:x.Style.Grow<0
 ·left;simp[u5]
 simp only[u5,decide_false,Bool.false_eq_true,if_false];by_cases u6:x.Style.Grow>1048576
 ·left;simp[u6]
 simp only[u6,decide_false,Bool.false_eq_true,if_false];by_cases u7:x.Style.Shrink<0
 ·left;simp[u7]
 simp only[u7,decide_false,Bool.false_eq_true,if_false];by_cases u8:x.Style.Shrink>1048576
 ·left;simp only[u8,decide_true];exact jt
 simp only[u8,decide_false];rcases j1 with h|⟨⟨a0,a1,a2,a3,p0,p1,p2,p3⟩,h⟩
 ·exact .inl h
 ·refine .inr ⟨⟨by omega,f1 rfl,f2 rfl,f3 rfl,f4 rfl,f5 rfl,f6 rfl,f7 rfl,⟨by omega,by omega⟩,⟨by omega,by omega⟩,⟨by omega,by omega⟩,⟨by omega,by omega⟩,k0 a0,k1 a1,k2 a2,k3 a3,r0 p0,r1 p1,r2 p2,r3 p3⟩,h⟩
theorem Ly(L:List av)(mx:Int)(hL:(L.length:Int)≤9223372036854775807):∀(m:Nat) (i:Int),0≤i→i≤L.length→(L.length:Int)<m+i →
  ∃b,lF K n L mx m i=some b∧(b=true→(L.length:Int)≤mx∧∀k,i.toNat≤k→k<L.length→mL (L.getD k default)):=by
 intro m
 induction m with
 | zero=>intro i h0 h1 h2;omega
 | succ m ih =>
  intro i h0 h1 h2;show ∃b,jv K n L mx (lF K n L mx m) i=some b∧_;by_cases hi:i<(L.length:Int)
  ·rcases RI K n L mx (lF K n L mx m) i h0 hi with h|⟨h,h'⟩
   ·exact⟨false,h,fun e=>by cases e⟩
   ·obtain⟨b,hb,hk⟩:=ih (i+1) (by omega) (by omega) (by omega);rw[h',cB (by omega) (by omega)];refine⟨b,hb,fun e=>⟨(hk e).1,fun k h3 h4=>?_⟩⟩;by_cases e2:k=i.toNat
    ·subst e2;exact h
    ·exact(hk e).2 k (by omega) h4
  ·have hd:decide (i<(L.length:Int))=false:=by simpa using hi
   unfold jv;simp only[hd,Bool.false_eq_true,if_false];exact⟨_,rfl,fun e=>⟨of_decide_eq_true e,fun k h3 h4=>by omega⟩⟩
theorem EV(L:List av)(mx:Int)(hL:(L.length:Int)≤9223372036854775807)(hn:L.length<n):∃b,sH K n L mx=some b∧(b=true→(L.length:Int)≤mx∧∀x∈L,mL x):=by
 obtain⟨b,h1,h2⟩:=Ly K n L mx hL n 0 (by omega) (by omega) (by omega);refine⟨b,h1,fun e=>⟨(h2 e).1,fun x hx=>?_⟩⟩;obtain⟨k,hk,rfl⟩:=List.mem_iff_getElem.1 hx;have:=(h2 e).2 k (by simp) hk;rwa[cX hk]at this
end
end Go.Proofs.YtocgkfoifehcbaaGreat
namespace Go.Proofs.YtocgkfoifehcbaaGreat
set_option linter.all false
open Go.RowKit
theorem xf{i:Nat}(h:i<1000000):ab ((i:Int)+1)=((i+1:Nat):Int):=by rw[cB (by omega) (by omega)];omega
theorem ud{i n:Nat}(h:i<n):decide ((i:Int)<(n:Int))=true:=by simpa using h
theorem wG{i n:Nat}(h:n≤i):decide ((i:Int)<(n:Int))=false:=by simpa using h
theorem pA{i n:Nat}(h:i<n):aX (i:Int) n=true:=db (by omega) (by omega)
theorem drop_at'{α:Type}[Inhabited α]{L:List α}{i:Nat}(h:i<L.length):L.drop i=L.getD i default::L.drop (i+1):=by
 rw[cX h];exact List.drop_eq_getElem_cons h
theorem fD{α:Type}[Inhabited α]{L:List α}{i:Nat}(h:i<L.length):L.getD i default∈L:=by
 rw[cX h];exact List.getElem_mem h
def jQ(k:aa):Bool:=k.Kind == 3||k.Style.Position != 2
def ed(k:aa):Bool:=k.Kind == 1||(k.Kind == 6||k.Kind == 7)
theorem P5(K:Kn)(n:Nat)(k:aa):gz K n k=some (jQ k):=by
 unfold gz jQ qO;cases h:k.Kind == 3<;>simp
theorem DS(K:Kn)(n:Nat)(k:aa):oJ K n k=some (ed k):=by
 unfold oJ ed oI;cases h:k.Kind == 1<;>cases h2:k.Kind == 6<;>simp
theorem Vv(K:Kn)(n:Nat)(hO:∀x,K.iQ (Fv.fn 145) x=some (ed x))(L:List aa)(hL:L.length≤20):∀(m i:Nat),i≤L.length→L.length<m+i →
  ∃r,iB K n L (Fv.fn 145) m i=some r∧decide (r≥0)=(L.drop i).any ed:=by
 intro m
 induction m with
 | zero=>intro i h1 h2;omega
 | succ m ih =>
  intro i h1 h2;simp only[iB,oG];by_cases hi:i<L.length
  ·rw[drop_at' hi];simp only[ud hi,if_true,pA hi,bg,hO,Option.bind_some,Int.toNat_natCast,List.any_cons,xf (show i<1000000 by omega)];cases hq:ed (L.getD i default)
   ·simp only[Bool.false_eq_true,if_false,Bool.false_or];exact ih (i+1) (by omega) (by omega)
   ·exact⟨_,rfl,by simp⟩
  ·have e:i=L.length:=by omega
   subst e;simp only[wG (Nat.le_refl _),Bool.false_eq_true,if_false,List.drop_length];exact⟨_,rfl,by simp⟩
theorem M9(K:Kn)(n:Nat)(hO:∀x,K.iQ (Fv.fn 145) x=some (ed x))(L:List aa)(hL:L.length≤20)(hn:20<n):ku K n L (Fv.fn 145)=some (L.any ed):=by
 obtain⟨r,h1,h2⟩:=Vv K n hO L hL n 0 (by omega) (by omega);unfold ku qr;rw[show iB K n L (Fv.fn 145) n 0=some r from h1];simp only[Option.bind_some,h2,List.drop_zero]
theorem MY(K:Kn)(n:Nat)(b:aa)(hb:b.Kids.length≤20):∀(m i:Nat) (acc:List aa),i≤b.Kids.length→b.Kids.length<m+i→acc.length≤i →
  oD K n b m i acc=(ku K n (acc++(b.Kids.drop i).filter jQ) (Fv.fn 145)).bind fun v=>some (acc++(b.Kids.drop i).filter jQ,v):=by
 intro m
 induction m with
 | zero=>intro i acc h1 h2;omega
 | succ m ih =>
  intro i acc h1 h2 h3;simp only[oD,rA];by_cases hi:i<b.Kids.length
  ·rw[drop_at' hi];simp only[ud hi,if_true,pA hi,bg,P5,Option.bind_some,sE,Int.toNat_natCast,List.length_cons,List.length_nil,xf (show i<1000000 by omega),List.filter_cons];cases hq:jQ (b.Kids.getD i default)
   ·simp only[Bool.false_eq_true,if_false];exact ih (i+1) acc (by omega) (by omega) (by omega)
   ·simp only[if_true];rw[cW (by omega) (by omega),bg,ih (i+1) _ (by omega) (by omega) (by simp;omega)];simp only[List.append_assoc,List.singleton_append]
  ·have e:i=b.Kids.length:=by omega
   subst e;simp only[wG (Nat.le_refl _),Bool.false_eq_true,if_false,List.drop_length,List.filter_nil,List.append_nil]
def eJ(b:aa):List aa:=b.Kids.filter jQ
theorem FX{b:aa}:(eJ b).length≤b.Kids.length:=List.length_filter_le _ _
theorem Jl(K:Kn)(n:Nat)(hO:∀x,K.iQ (Fv.fn 145) x=some (ed x))(b:aa)(hb:b.Kids.length≤20)(hn:20<n):n7 K n b=some (eJ b,(eJ b).any ed):=by
 have h:=MY K n b hb n 0 [] (by omega) (by omega) (by simp);unfold n7;refine (show _=_ from h).trans ?_;simp only[List.nil_append,List.drop_zero];rw[show b.Kids.filter jQ=eJ b from rfl,M9 K n hO _ (Nat.le_trans FX hb) hn];rfl
def qg(f:ai)(w:Int):ai :=
 if f.Style.Position=1 then { f with X:=ab (f.X+(sY f.Style.Left w).1),Y:=if f.Style.Top.Kind=1 then ab (f.Y+(sY f.Style.Top 0).1) else f.Y } else f
theorem LR(K:Kn)(n:Nat)(f:ai)(w:Int):qK K n f w=some (qg f w):=by
 unfold qK qg;simp only[Ko,Option.bind_some,sw];by_cases h:f.Style.Position=1
 ·by_cases h2:f.Style.Top.Kind=1<;>simp[h,h2]
 ·simp[h]
theorem Uw(f:ai)(w:Int):(qg f w).Kids=f.Kids:=by unfold qg;split<;>rfl
end Go.Proofs.YtocgkfoifehcbaaGreat
namespace Go.Proofs.YtocgkfoifehcbaaGreat
set_option linter.all false
open Go.RowKit
abbrev cU:=List aG
def kQ(bl:Bool)(z:bN)(down:Int)(f:ai):ai :=
 if bl=true then qg { f with X:=ab (f.X+ab (z.Border.a3+z.Padding.a3)),Y:=ab (f.Y+ab (ab (z.Border.a0+z.Padding.a0)+down)) } z.Content
 else { f with X:=ab (f.X+ab (z.Border.a3+z.Padding.a3)),Y:=ab (f.Y+ab (ab (z.Border.a0+z.Padding.a0)+down)) }
theorem SF(bl:Bool)(z:bN)(down:Int)(f:ai):(kQ bl z down f).Kids=f.Kids:=by
 unfold kQ;split
 ·rw[Uw]
 ·rfl
def jJ(b:aa)(z:bN)(bl:Bool)(L:List ai)(d:Int)(bf af:aW)(em:Bool)(h:Int):ai :=
 ⟨1,b.Node,z.Margin.a3,0,ab (z.Content+ab (ab (ab (z.Border.a3+z.Padding.a3)+z.Border.a1)+z.Padding.a1)),ab (ab (ab (ab (h+z.Border.a0)+z.Padding.a0)+z.Border.a2)+z.Padding.a2),0,⟨#[]⟩,b.Style,bf,af,em,L.map (kQ bl z d)⟩
theorem PW{α:Type}(A R:List α)(x y:α):(A++x::R).set A.length y=A++y::R:=by
 rw[List.set_append_right _ _ (Nat.le_refl _)];simp
theorem Q9{α:Type}(A R:List α)(x d:α):(A++x::R).getD A.length d=x:=by simp[List.getD_eq_getElem?_getD]
theorem VT(K:Kn)(n:Nat)(b:aa)(z:bN)(v6:(List aa)×Bool)(L:List ai)(fr us:Int)(S:cU)(d:Int)(bf af:aW)(em:Bool)(v39 H:Int)(hl:L.length≤100000)(ho:v6.2=true→v6.1.length=L.length∧∀k∈v6.1,ed k=true):
  ∀(m:Nat) (A R:List ai),A.length+R.length=L.length→R.length<m→nC K n b z v6 L fr us S d bf af em v39 H m (A.length:Int) (A++R) =
   some (⟨1,b.Node,z.Margin.a3,0,ab (z.Content+v39),H,0,⟨#[]⟩,b.Style,bf,af,em,A++R.map (kQ v6.2 z d)⟩,fr,us,S):=by
 intro m
 induction m with
 | zero=>intro A R _ h2;omega
 | succ m ih =>
  intro A R h1 h2;simp only[nC,tu];cases R with
  | nil =>
   have e:A.length=L.length:=by simpa using h1
   simp only[wG (show L.length≤A.length by omega),Bool.false_eq_true,if_false,List.map_nil]
  | cons x R =>
   simp only[List.length_cons]at h1 h2;have hA:A.length<L.length:=by omega
   have nx:=ih (A++[kQ v6.2 z d x]) R (by simp;omega) (by omega);simp only[List.append_assoc,List.singleton_append,List.length_append,List.length_cons,List.length_nil,Nat.zero_add]at nx;simp only[ud hA,if_true,Int.toNat_natCast,PW,Q9,pA (show A.length<(A++x::R).length by simp),List.length_append,List.length_cons,pA (show A.length<A.length+(R.length+1) by omega),bg,DS,Option.bind_some,qI,qy,LR,xf (show A.length<1000000 by omega),List.map_cons];cases hv:v6.2 with
   | false =>
    rw[hv]at nx;simp only[Bool.false_eq_true,if_false];simp only[kQ,Bool.false_eq_true,if_false]at nx⊢;exact nx
   | true =>
    rw[hv]at nx;obtain⟨g1,g2⟩:=ho hv;have hin:A.length<v6.1.length:=by omega
    simp only[if_true,pA hin,bg,g2 _ (fD hin)];simp only[kQ,if_true]at nx⊢;exact nx
def kP(s:aJ)(h:Int):Int:=if s.Height.Kind=1 then max (min (max s.Height.Value (-1048576)) 1048576) 0 else max h 0
def nQ(a b:aW):aW:=⟨max a.Pos b.Pos,min a.Neg b.Neg⟩
def Bw(x:Int):aW:=⟨max x 0,min x 0⟩
def l6(b:aa)(z:bN)(t bt outer:Bool)(h:Int)(th:Bool)(bf af:aW)(L:List ai):ai :=
 let a:=Bw z.Margin.a0
 let c:=Bw z.Margin.a2
 let down:=if t=true then 0 else if (!th)=true then ab (bf.Pos+bf.Neg) else if (!bt)=true then ab (bf.Pos+bf.Neg) else 0
 let before:=if t=true then nQ a bf else a
 if (th&&(t&&bt))=true then jJ b z outer L down (nQ before c) (nQ before c) true (kP b.Style 0)
 else if th=true then (if bt=true then jJ b z outer L down before (nQ c bf) false (kP b.Style down) else jJ b z outer L down before c false (kP b.Style down))
 else if bt=true then jJ b z outer L down before (nQ c af) false (kP b.Style (ab (h+down))) else jJ b z outer L down before c false (kP b.Style (ab (h+ab (down+ab (af.Pos+af.Neg)))))
section
variable(K:Kn)(n:Nat)(b:aa)(z:bN)(L:List ai)(hl:L.length≤100000)(hn:L.length<n)(fr us:Int)(S:cU)(v6:(List aa)×Bool)(ho:v6.2=true→v6.1.length=L.length∧∀k∈v6.1,ed k=true)
include hn hl ho
theorem Ot(d:Int)(bf af:aW)(em:Bool)(h:Int):ne K n b z v6 L fr us S d bf af em h=some (jJ b z v6.2 L d bf af em h,fr,us,S):=by
 unfold ne;simp only[vP,Option.bind_some];exact VT K n b z v6 L fr us S d bf af em _ _ hl ho n [] L (by simp) (by omega)
theorem TN(d h:Int)(bf af:aW)(em:Bool):i8 K n b z v6 L fr us S d h bf af em=some (jJ b z v6.2 L d bf af em (kP b.Style h),fr,us,S):=by
 unfold i8;simp only[Ko,Option.bind_some,qz,Ot K n b z L hl hn fr us S v6 ho];by_cases hk:b.Style.Height.Kind=1
 ·simp[hk,kP,sY]
 ·simp only[kP,hk,if_false,beq_iff_eq,Bool.false_eq_true];split<;>rfl
theorem Ho(t bt:Bool)(h:Int)(th:Bool)(bf af:aW):lJ K n b z t bt v6 h th bf af L fr us S=some (l6 b z t bt v6.2 h th bf af L,fr,us,S):=by
 have hc:∀x y,i0 K n x y=some (nQ x y):=fun x y=>rfl;have hs:∀x,js K n x=some (ab (x.Pos+x.Neg)):=fun x=>rfl;have hf:∀x,sF K n x=some (Bw x):=fun x=>rfl;unfold lJ;simp only[hf,Option.bind_some,qC,pN,nn,hc,hs,TN K n b z L hl hn fr us S v6 ho];unfold l6;cases t<;>cases bt<;>cases th<;>simp
end
def gZ(f:aa→Int→Int→cU→Option (ai×Int×Int×cU)):List aa→Int→Int→cU→Option (List ai×Int×Int×cU)
 | [],a,b,S=>some ([],a,b,S)
 | k::r,a,b,S=>(f k a b S).bind fun x=>(gZ f r x.2.1 x.2.2.1 x.2.2.2).bind fun y=>some (x.1::y.1,y.2)
theorem xJ{f:aa→Int→Int→cU→Option (ai×Int×Int×cU)}:∀{l:List aa} {a b:Int} {S:cU} {r:List ai×Int×Int×cU},gZ f l a b S=some r→r.1.length=l.length
 | [],a,b,S,r,h=>by injection h with h;subst h;rfl
 | k::l,a,b,S,r,h=>by
  obtain⟨x,h1,h⟩:=bind_some h;obtain⟨y,h2,h⟩:=bind_some h;injection h with h;subst h
  simp[xJ h2]
theorem UV(K:Kn)(n:Nat)(b:aa)(z:bN)(v3 v4:Bool)(env:bF)(v6:(List aa)×Bool)(hl:v6.1.length≤1000):
  ∀(m i:Nat) (acc:List ai) (fr us:Int) (S:cU),i≤v6.1.length→v6.1.length<m+i→acc.length≤i→mF K n b z v3 v4 env v6 m i acc fr us S =
   (gZ (fun k=>K.gm env.Layout k z.Content) (v6.1.drop i) fr us S).bind fun r=>(j7 K n (acc++r.1)).bind fun v12=>lJ K n b z v3 v4 v6 v12.2.1 v12.2.2.2.2 v12.2.2.1 v12.2.2.2.1 v12.1 r.2.1 r.2.2.1 r.2.2.2:=by
 intro m
 induction m with
 | zero=>intro i acc fr us S _ h2;omega
 | succ m ih =>
  intro i acc fr us S h1 h2 h3;simp only[mF,sQ];by_cases hi:i<v6.1.length
  ·rw[drop_at' hi];simp only[ud hi,if_true,pA hi,bg,Int.toNat_natCast,List.length_cons,List.length_nil,xf (show i<1000000 by omega),gZ];cases hf:K.gm env.Layout (v6.1.getD i default) z.Content fr us S with
   | none=>rfl
   | some x =>
    simp only[Option.bind_some];rw[cW (by omega) (by omega),bg,ih (i+1) _ _ _ _ (by omega) (by omega) (by simp;omega)];cases gZ (fun k=>K.gm env.Layout k z.Content) (v6.1.drop (i+1)) x.2.1 x.2.2.1 x.2.2.2 with
    | none=>rfl
    | some y=>simp only[Option.bind_some,List.append_assoc,List.singleton_append]
  ·have e:i=v6.1.length:=by omega
   subst e;simp only[wG (Nat.le_refl _),Bool.false_eq_true,if_false,List.drop_length,gZ,Option.bind_some,List.append_nil]
theorem xT(K:Kn)(n:Nat)(l:List ai)(hl:l.length≤100000):lK K n l=some l:=by
 unfold lK jY;have hf:fits (([]:List ai).length+l.length) 584=true:=by rw[List.length_nil,Nat.zero_add];exact cW (by omega) (by omega)
 rw[hf];cases l<;>simp[bg]
def DF:Nat→ai→Prop
 | 0,_=>False
 | d+1,f=>f.Kids.length≤3000∧∀k∈f.Kids,DF d k
theorem vC:∀{d:Nat} {f g:ai},f.Kids=g.Kids→DF d g→DF d f
 | 0,_,_,_,h=>h
 | d+1,f,g,e,h=>by unfold DF at h⊢;rw[e];exact h
theorem qF:∀{d e:Nat} {f:ai},DF d f→d≤e→DF e f
 | 0,_,_,h,_=>h.elim
 | d+1,0,_,_,h=>by omega
 | d+1,e+1,f,h,hl=>by unfold DF at h⊢;exact⟨h.1,fun k hk=>qF (h.2 k hk) (by omega)⟩
theorem xV{d:Nat}{b:aa}{z:bN}{bl:Bool}{L:List ai}{dn:Int}{bf af:aW}{em:Bool}{h:Int}(hl:L.length≤3000)(hd:∀f∈L,DF d f):DF (d+1) (jJ b z bl L dn bf af em h):=by
 unfold DF;refine⟨by simpa[jJ]using hl,fun k hk=>?_⟩;have hk':k∈L.map (kQ bl z dn):=hk;obtain⟨f,hf,rfl⟩:=List.mem_map.1 hk';exact vC (SF _ _ _ _) (hd f hf)
theorem Fc{d:Nat}{b:aa}{z:bN}{t bt o:Bool}{h:Int}{th:Bool}{bf af:aW}{L:List ai}(hl:L.length≤3000)(hd:∀f∈L,DF d f):DF (d+1) (l6 b z t bt o h th bf af L):=by
 unfold l6;simp only;split
 ·exact xV hl hd
 ·split
  ·split<;>exact xV hl hd
  ·split<;>exact xV hl hd
theorem Jm(N:Nat):∀x,(KN (N+1)).iQ (Fv.fn 145) x=some (ed x):=fun x=>DS (KN N) N x
theorem MQ(N:Nat)(b:aa)(z:bN)(t bt:Bool)(env:bF)(hk:b.Kids.length≤20)(hN:100≤N)(ho:(eJ b).any ed=true)(hall:∀k∈eJ b,ed k=true):
  ∃G:List ai→ai,(∀(r:List ai) (d:Nat),r.length=(eJ b).length→(∀f∈r,DF d f)→DF (d+1) (G r))∧∀(fr us:Int) (S:cU),gK (KN (N+1)) (N+1) b z t bt env fr us S =
   (gZ (fun k=>(KN (N+1)).gm env.Layout k z.Content) (eJ b) fr us S).bind fun r=>some (G r.1,r.2.1,r.2.2.1,r.2.2.2):=by
 have hfl:=FX (b:=b)
 let st:List ai→(List ai)×Int×aW×aW×Bool:=fun r=>(j7 (KN (N+1)) (N+1) r).getD ([],0,cR,cR,true)
 refine⟨fun r=>l6 b z t bt true (st r).2.1 (st r).2.2.2.2 (st r).2.2.1 (st r).2.2.2.1 (st r).1,fun r d hr hd=>?_,fun fr us S=>?_⟩
 ·obtain⟨q,e1,e2,e3⟩:=Jg (KN (N+1)) (N+1) r (by omega) (by omega);have hst:st r=q:=by show(j7 (KN (N+1)) (N+1) r).getD _=q;rw[e1];rfl
  show DF (d+1) (l6 b z t bt true (st r).2.1 (st r).2.2.2.2 (st r).2.2.1 (st r).2.2.2.1 (st r).1);rw[hst];refine Fc (by omega) (fun f hf=>?_);obtain⟨g,hg,e⟩:=e3 f hf;exact vC e (hd g hg)
 ·unfold gK;rw[Jl (KN (N+1)) (N+1) (Jm N) b hk (by omega),Option.bind_some];simp only[ho,if_true];have h1:=UV (KN (N+1)) (N+1) b z t bt env (eJ b,true) (by simp only;omega) (N+1) 0 [] fr us S (Nat.zero_le _) (by simp only;omega) (by simp);have h1':mF (KN (N+1)) (N+1) b z t bt env (eJ b,true) (N+1) 0 [] fr us S=_:=h1;rw[h1',List.drop_zero];cases hm:gZ (fun k=>(KN (N+1)).gm env.Layout k z.Content) (eJ b) fr us S with
  | none=>rfl
  | some r =>
   have hr:=xJ hm;simp only[Option.bind_some,List.nil_append];obtain⟨q,e1,e2,e3⟩:=Jg (KN (N+1)) (N+1) r.1 (by omega) (by omega);have hst:st r.1=q:=by show(j7 (KN (N+1)) (N+1) r.1).getD _=q;rw[e1];rfl
   rw[e1,Option.bind_some,hst];exact Ho (KN (N+1)) (N+1) b z q.1 (by omega) (by omega) _ _ _ (eJ b,true) (fun _=>⟨by simp only;omega,hall⟩) t bt _ _ _ _
theorem MC{bx:List aa}(h:fc bx):∀r∈fX bx,r.Box=[]:=by
 unfold fX nE;exact Fr (P:=fun r=>r.Box=[]) (fun e g=>rfl) _ _ _ (fun e he h3 g=>absurd h3 (y9 h e he)) (fun e g x q1 q2 q3=>rfl)
theorem Oy{f:ai}(h:f.Kids=[]):DF 1 f:=by unfold DF;rw[h];exact⟨by simp,fun k hk=>by cases hk⟩
theorem Ha(above last:Int):∀(X:List au) (i x:Int),(∀r∈X,r.Box=[])→(gh above last i x X).length≤X.length∧∀f∈gh above last i x X,DF 1 f
 | [],i,x,_=>⟨by simp[gh],fun f hf=>by simp[gh]at hf⟩
 | r::t,i,x,h=>by
  have hr:=h r List.mem_cons_self;have hs:(bif i == last then stripR r else r).Box=[]:=by
   cases (i == last)
   ·exact hr
   ·show(stripR r).Box=[];unfold stripR;cases (iE r.Text&&r.Style.WhiteSpace != 2)<;>exact hr
  simp only[gh];generalize (bif i == last then stripR r else r)=r' at *;obtain⟨h1,h2⟩:=Ha above last t (i+1) (ab (x+ab (r'.Width+r'.Space))) (fun q hq=>h q (List.mem_cons_of_mem _ hq));have hrun:(jg above x r').length≤1∧∀f∈jg above x r',DF 1 f:=by
   unfold jg vn;rw[hs];cases r'.Text.data.toList.isEmpty with
   | true=>exact⟨by simp,fun f hf=>by simp at hf⟩
   | false=>exact⟨by simp,fun f hf=>by simp at hf;subst hf;exact Oy rfl⟩
  refine⟨by rw[List.length_append,List.length_cons];omega,fun f hf=>?_⟩;rcases List.mem_append.1 hf with hf|hf
  ·exact hrun.2 f hf
  ·exact h2 f hf
theorem Sq{s:aJ}{w:Int}{X:List au}(h:∀r∈X,r.Box=[])(hl:X.length≤3000):DF 2 (lq s w X):=by
 obtain⟨h1,h2⟩:=Ha (gI (gy s) X).1 (tQ X) X 0 (sC s w (kG (X.map vI))) h;unfold DF;exact⟨by show([]++gh _ _ _ _ X).length≤3000;rw[List.nil_append];omega,fun k hk=>h2 k (by have hk':k∈[]++gh (gI (gy s) X).1 (tQ X) 0 (sC s w (kG (X.map vI))) X:=hk;simpa using hk')⟩
theorem Dq{s:aJ}{w:Int}{X:List au}(h:∀r∈X,r.Box=[])(hl:X.length≤3000):∀(S:List Nat) (y:Int),∀f∈(fM s w X y S).1,DF 2 f
 | [],y=>fun f hf=>by simp[fM]at hf
 | [a],y=>fun f hf=>by simp[fM]at hf
 | a::b::r,y=>fun f hf=>by
  simp only[fM,List.mem_cons]at hf;rcases hf with rfl|hf
  ·have hsl:∀q∈sl X a b,q.Box=[]:=fun q hq=>h q (IU hq);have hlen:(sl X a b).length≤3000:=by unfold sl;rw[List.length_drop,List.length_take];omega
   exact vC (g:=lq s w (sl X a b)) rfl (Sq hsl hlen)
  ·exact Dq h hl (b::r) _ f hf
theorem RK{bx:List aa}(h:fc bx)(hc:dt 1 bx≤2000)(s:aJ)(v:Int):(i7 bx s v).1.length≤2001∧∀f∈(i7 bx s v).1,DF 2 f:=by
 have hXl:=Dr bx;unfold i7;have h1:=Hr s (eE v) (fX bx) (gH (fX bx) (eE v)) 0;have hbl:=yH ((fX bx).map vI) (eE v) ((fX bx).length+1) 0;simp only[List.length_map]at hbl;refine⟨?_,Dq (MC h) (by omega) _ _⟩;unfold gH at h1⊢;simp only[List.length_append,List.length_cons,List.length_nil]at h1;omega
theorem RD(N:Nat)(b:aa)(z:bN)(t bt:Bool)(env:bF)(hk:b.Kids.length≤20)(hN:9100≤N)(hT:fc b.Kids)(ht:∀k∈b.Kids,k.Text.size≤1000)(hc:dt 1 b.Kids≤2000)(hE:∃x0 x1 x2 x3,env.Lines=.c52 x0 x1 x2 x3):
  ∃F:ai,DF 3 F∧∀(fr us:Int) (S:cU),gK (KN (N+1)) (N+1) b z t bt env fr us S=some (F,fr,us,S):=by
 have hfl:eJ b=b.Kids:=List.filter_eq_self.2 fun k hk=>by unfold jQ;rw[hT k hk];rfl
 have hno:(eJ b).any ed=false:=by
  rw[hfl,List.any_eq_false];intro k hk;unfold ed;rw[hT k hk];decide
 obtain⟨x0,x1,x2,x3,hE⟩:=hE;obtain⟨hl1,hl2⟩:=RK hT hc b.Style z.Content;refine⟨l6 b z t bt false (i7 b.Kids b.Style z.Content).2 (((i7 b.Kids b.Style z.Content).1.length:Int) == 0) cR cR (i7 b.Kids b.Style z.Content).1,Fc (by omega) hl2,fun fr us S=>?_⟩;unfold gK;rw[Jl (KN (N+1)) (N+1) (Jm N) b hk (by omega),Option.bind_some];simp only[hno,Bool.false_eq_true,if_false];rw[hfl,hE];have hL:(KN (N+1)).rB (.c52 x0 x1 x2 x3) b.Kids b.Style z.Content=some (i7 b.Kids b.Style z.Content):=by
  show q8 (KN N) N b.Kids b.Style z.Content ⟨x0,x1,x2,x3⟩=_;unfold q8;rw[QL hT (by omega) ht hc (by omega)];rfl
 rw[hL,Option.bind_some,xT _ _ _ (by omega),Option.bind_some];exact Ho (KN (N+1)) (N+1) b z _ (by omega) (by omega) fr us S (b.Kids,false) (fun h=>by cases h) t bt _ _ _ _
end Go.Proofs.YtocgkfoifehcbaaGreat
namespace Go.Proofs.YtocgkfoifehcbaaGreat
set_option linter.all false
open Go.RowKit
theorem Th{x y:dg}:eg x y=true↔x=y:=by
 cases x;cases y;simp[eg]
theorem SX{a b c:aa}(h1:gn a b=true)(h2:gn b c=true):gn a c=true:=by
 simp only[gn,jW,Th,Bool.and_eq_true,beq_iff_eq]at h1 h2⊢
 simp_all
mutual
theorem Fm:∀{a b c:aa},cZ a b=true→cZ b c=true→cZ a c=true
 | ⟨k,n,s,t,r,q,ks⟩,b,c,h1,h2=>by
  rw[mS,Bool.and_eq_true]at h1 h2⊢;exact⟨SX h1.1 h2.1,Gq (l:=ks) h1.2 h2.2⟩
theorem Gq:∀{l m o:List aa},dJ l m=true→dJ m o=true→dJ l o=true
 | [],[],[],_,_=>rfl
 | a::r,b::q,c::p,h1,h2=>by
  simp only[dJ,Bool.and_eq_true]at h1 h2⊢;exact⟨Fm h1.1 h2.1,Gq h1.2 h2.2⟩
 | [],_::_,_,h,_=>by cases h
 | _::_,[],_,h,_=>by cases h
 | [],[],_::_,_,h=>by cases h
 | _::_,_::_,[],_,h=>by cases h
end
mutual
theorem IT:∀{a b:aa},cZ a b=true→bD a=bD b
 | ⟨k,n,s,t,r,q,ks⟩,b,h1=>by
  rw[mS,Bool.and_eq_true]at h1;rw[f8,f8 b,DQ (l:=ks) h1.2]
theorem DQ:∀{l m:List aa},dJ l m=true→cc l=cc m
 | [],[],_=>rfl
 | a::r,b::q,h1=>by
  simp only[dJ,Bool.and_eq_true]at h1;simp only[cc,IT h1.1,DQ h1.2]
 | [],_::_,h=>by cases h
 | _::_,[],h=>by cases h
end
theorem JO{a b:aa}(h:cZ a b=true):a.Node=b.Node:=by
 rw[mS,Bool.and_eq_true]at h;simp only[gn,Bool.and_eq_true,beq_iff_eq]at h;exact h.1.2.1
theorem NJ{a b:aa}(h:cZ a b=true):a.Kind=b.Kind:=by
 rw[mS,Bool.and_eq_true]at h;simp only[gn,Bool.and_eq_true,beq_iff_eq]at h;exact h.1.1
theorem IE{α:Type}[Inhabited α]{L:List α}{i:Nat}(h:i<L.length):L.set i (L.getD i default)=L:=by
 rw[cX h];exact List.set_getElem_self h
theorem T9(K:Kn)(n:Nat)(f:ai)(L:List ai)(hL:L.length≤100000)(hk:∀k∈L,K.rO k=some k):∀(m i:Nat),i≤L.length→L.length<m+i →
  oy K n f L m i L=some { f with Kids:=L }:=by
 intro m
 induction m with
 | zero=>intro i h1 h2;omega
 | succ m ih =>
  intro i h1 h2;simp only[oy,rd];by_cases hi:i<L.length
  ·simp only[fw hi,if_true,dP hi,bg,Int.toNat_natCast,hk _ (fD hi),Option.bind_some,IE hi];rw[eh (by omega)];exact ih (i+1) (by omega) (by omega)
  ·simp only[fK (show L.length≤i by omega),Bool.false_eq_true,if_false]
theorem xc:∀(d N:Nat) (f:ai),DF d f→d+3010≤N→kD (KN N) N f=some f
 | 0,_,_,h,_=>h.elim
 | d+1,0,_,_,h=>by omega
 | d+1,N+1,f,h,hN=>by
  unfold DF at h;unfold kD;rw[xT _ _ _ (by omega),Option.bind_some];have e:=T9 (KN (N+1)) (N+1) f f.Kids (by omega) (fun k hk=>xc d N k (h.2 k hk) (by omega)) (N+1) 0 (Nat.zero_le _) (by omega);rw[show((0:Nat):Int)=0 from rfl]at e;rw[e];cases f;rfl
theorem Sk(K:Kn)(n:Nat)(f:ai)(L:List ai)(hL:L.length≤100000)(hk:∀k∈L,K.sG k=some k):∀(m i:Nat),i≤L.length→L.length<m+i →
  oU K n f L m i L=some { f with Kids:=L }:=by
 intro m
 induction m with
 | zero=>intro i h1 h2;omega
 | succ m ih =>
  intro i h1 h2;simp only[oU,rh];by_cases hi:i<L.length
  ·simp only[fw hi,if_true,dP hi,bg,Int.toNat_natCast,hk _ (fD hi),Option.bind_some,IE hi];rw[eh (by omega)];exact ih (i+1) (by omega) (by omega)
  ·simp only[fK (show L.length≤i by omega),Bool.false_eq_true,if_false]
theorem Ec:∀(d N:Nat) (f:ai),DF d f→d+3010≤N→ov (KN N) N f=some f
 | 0,_,_,h,_=>h.elim
 | d+1,0,_,_,h=>by omega
 | d+1,N+1,f,h,hN=>by
  unfold DF at h;unfold ov;rw[xT _ _ _ (by omega),Option.bind_some];have e:=Sk (KN (N+1)) (N+1) f f.Kids (by omega) (fun k hk=>Ec d N k (h.2 k hk) (by omega)) (N+1) 0 (Nat.zero_le _) (by omega);rw[show((0:Nat):Int)=0 from rfl]at e;rw[e];cases f;rfl
def jB(w:Int)(m:aG):Prop:=m.Width=w∧bD m.Box≤100∧DF (bD m.Box+2) m.Fragment
def ja(b:aa)(w:Int)(m:aG):Bool:=m.Width == w&&cZ m.Box b
def m6(b:aa)(w fr us:Int)(S R:cU):ai×Bool×Int×Int×cU :=
 match R.find? (ja b w) with
 | some m=>(m.Fragment,true,fr,us,S)
 | none=>(bG,false,fr,us,S)
theorem Nf(N:Nat)(b:aa)(w w':Int)(fr us:Int)(S:cU)(hS:S.length≤100000)(hN:3200≤N)(hm:∀m∈S,jB w' m):∀(m i:Nat),i≤S.length→S.length<m+i →
  pC (KN N) N b w fr us S m i=some (m6 b w fr us S (S.drop i)):=by
 intro m
 induction m with
 | zero=>intro i h1 h2;omega
 | succ m ih =>
  intro i h1 h2;simp only[pC,qb];by_cases hi:i<S.length
  ·have nx:=ih (i+1) (by omega) (by omega);have hM:=hm _ (fD hi);rw[drop_at' hi];simp only[fw hi,if_true,dP hi,bg,Int.toNat_natCast,qw];generalize S.getD i default=M at *;rw[vA (bD M.Box) N M.Box b (Nat.le_refl _) (by have:=hM.2.1;omega) (by have:=hM.2.1;omega),Option.bind_some,eh (by omega),nx];cases h1:(M.Width == w) with
   | false=>simp[m6,ja,List.find?_cons,h1]
   | true =>
    cases h2:cZ M.Box b with
    | false=>simp[m6,ja,List.find?_cons,h1,h2]
    | true =>
     rw[xc _ N _ hM.2.2 (by have:=hM.2.1;omega)];simp[m6,ja,List.find?_cons,h1,h2]
  ·simp only[fK (show S.length≤i by omega),Bool.false_eq_true,if_false];rw[List.drop_eq_nil_of_le (by omega)];rfl
theorem NG(N:Nat)(b:aa)(w w':Int)(fr us:Int)(S:cU)(hS:S.length≤3000)(hN:3200≤N)(hm:∀m∈S,jB w' m):su (KN N) N b w fr us S=some (m6 b w fr us S S):=by
 unfold su;have:=Nf N b w w' fr us S (by omega) hN hm N 0 (Nat.zero_le _) (by omega);simpa using this
theorem TP(N:Nat)(b:aa)(w w':Int)(fr us:Int)(S:cU)(hS:S.length≤3000)(hN:3200≤N)(hm:∀m∈S,jB w' m):rC (KN N) N b w fr us S =
  some (match S.find? (ja b w) with
   | some m=>(m.Fragment,true,fr,ab (us+1),S)
   | none=>(bG,false,fr,us,S)):=by
 unfold rC;rw[NG N b w w' fr us S hS hN hm,Option.bind_some];unfold m6;cases S.find? (ja b w)<;>rfl
theorem PE(N:Nat)(b:aa)(w:Int)(f:ai)(fr us:Int)(S:cU)(hS:S.length≤3000)(hN:3200≤N)(d:Nat)(hd:DF d f)(h100:d≤150)(hf:0≤fr∧fr<100000):qP (KN N) N b w f fr us S=some (fr+1,us,S++[⟨b,w,f⟩]):=by
 unfold qP;rw[xc d N f hd (by omega),Option.bind_some];simp only[List.length_singleton];rw[cW (by omega) (by omega),bg,cB (by omega) (by omega)]
end Go.Proofs.YtocgkfoifehcbaaGreat
namespace Go.Proofs.YtocgkfoifehcbaaGreat
set_option linter.all false
open Go.RowKit
structure jk(s:aJ):Prop where
 pos:s.Position≠2
 wi:s.Width=bp
 mn:s.MinWidth=bp
 mx:s.MaxWidth=bp
 ma:s.Margin=⟨bp,bp,bp,bp⟩
 pa:s.Padding=⟨bp,bp,bp,bp⟩
 bo:s.Border=⟨0,0,0,0⟩
theorem JW(K:Kn)(n:Nat)(w:Int):dz K n bp w=some (0,false):=rfl
theorem Ij(K:Kn)(n:Nat){s:aJ}(h:jk s){w:Int}(h0:0≤w)(h1:w≤1048576):∃z,pe K n s w=some z∧z.Content=w:=by
 have e1:min (max w 0) 1048576=w:=by omega
 have hw:ab w=w:=cB (by omega) (by omega);have hz:ab 0=0:=rfl;have hm:(max w 0)=w:=by omega
 unfold pe eM kh;simp only[h.ma,h.pa,h.bo,h.wi,JW,Option.bind_some,eM,e1];simp only[kn,Option.bind_some,Bool.not_false,if_true,rq,mP,ta,se,h.mn,h.mx,JW,Bool.false_eq_true,if_false,Int.add_zero,Int.zero_add,hz,Int.sub_zero,hw,hm];simp only[show max (0:Int) 0=0 from rfl,show min (0:Int) 1048576=0 from rfl,Int.add_zero,hw,hz,hm,Int.sub_zero,Int.sub_self,Int.le_refl,decide_true,if_true];exact⟨_,rfl,rfl⟩
mutual
/-- A block whose kids are texts,or blocks;their numbers run on. -/
def RB:Int→aa→Prop
 | lo,⟨k,n,s,_,_,_,ks⟩=>k=1∧n=lo∧jk s∧ks.length≤20∧((fc ks∧(∀q∈ks,q.Text.size≤90)∧(∀q∈ks,q.Kids=[]))∨eL (lo+1) ks)
def eL:Int→List aa→Prop
 | _,[]=>True
 | lo,b::r=>RB lo b∧eL (lo+(bD b:Int)) r
end
theorem iR{lo:Int}{b:aa}(h:RB lo b):b.Kind=1∧b.Node=lo∧jk b.Style∧b.Kids.length≤20∧((fc b.Kids∧(∀q∈b.Kids,q.Text.size≤90)∧(∀q∈b.Kids,q.Kids=[]))∨eL (lo+1) b.Kids):=by
 cases b;simp only[RB]at h;exact h
theorem Bo:∀{l:List aa} {lo:Int},eL lo l→∀k∈l,∃p,lo≤p∧RB p k
 | [],_,_,k,hk=>by cases hk
 | b::r,lo,h,k,hk=>by
  simp only[eL]at h;rcases List.mem_cons.1 hk with rfl|hk
  ·exact⟨lo,by omega,h.1⟩
  ·obtain⟨p,h1,h2⟩:=Bo h.2 k hk;exact⟨p,by omega,h2⟩
mutual
/-- The blocks within a box,itself included. -/
def gE:aa→List aa
 | ⟨k,n,s,t,r,c,ks⟩=>if k=1 then ⟨k,n,s,t,r,c,ks⟩::dv ks else []
def dv:List aa→List aa
 | []=>[]
 | b::r=>gE b++dv r
end
theorem wa{b:aa}(h:b.Kind=1):gE b=b::dv b.Kids:=by
 cases b;simp only at h;simp only[gE,h,if_true]
theorem FO:∀{l:List aa},fc l→dv l=[]
 | [],_=>rfl
 | ⟨k,n,s,t,r,c,ks⟩::q,h=>by
  have h3:k=3:=h _ List.mem_cons_self;simp only[dv,gE,h3];exact FO (fun x hx=>h x (List.mem_cons_of_mem _ hx))
mutual
theorem Br:∀b:aa,(gE b).length≤bD b
 | ⟨k,n,s,t,r,c,ks⟩=>by
  simp only[gE,bD];have:=ve ks;split<;>simp<;>omega
theorem ve:∀l:List aa,(dv l).length≤cc l
 | []=>Nat.le_refl _
 | b::r=>by simp only[dv,cc,List.length_append];have:=Br b;have:=ve r;omega
end
mutual
/-- How many blocks another box does not contain. -/
def jZ(old:aa):aa→Nat
 | ⟨k,n,s,t,r,c,ks⟩=>if k=1 then (if dh ⟨k,n,s,t,r,c,ks⟩ old=true then 0 else 1)+d8 old ks else 0
def d8(old:aa):List aa→Nat
 | []=>0
 | b::r=>jZ old b+d8 old r
end
theorem Hl{old b:aa}(h:b.Kind=1):jZ old b=(if dh b old=true then 0 else 1)+d8 old b.Kids:=by
 cases b;simp only at h;simp only[jZ,h,if_true]
structure gq(w:Int)(old:aa)(lo hi:Int)(bs:List aa)(fre:Nat)(us us':Int)(S T:cU):Prop where
 ok:∀m∈T,jB w m∧lo≤m.Box.Node∧m.Box.Node<hi
 len:T.length≤bs.length
 first:(∀m∈S,m.Box.Node<lo)→us'=us∧T.length=bs.length∧∀k∈bs,∃m∈T,m.Box=k
 again:(∀k,dh k old=true→k.Kind=1→11≤k.Node→∃m∈S,m.Width=w∧cZ m.Box k=true)→T.length≤fre
theorem gq.nil{w:Int}{old:aa}{lo hi:Int}{fre:Nat}{us:Int}{S:cU}:gq w old lo hi [] fre us us S [] :=
 ⟨fun m hm=>(by cases hm),Nat.le_refl _,fun _=>⟨rfl,rfl,fun k hk=>(by cases hk)⟩,fun _=>Nat.zero_le _⟩
theorem gq.app{w:Int}{old:aa}{lo mid hi:Int}{bs cs:List aa}{f g:Nat}{us u1 u2:Int}{S T U:cU}(h1:gq w old lo mid bs f us u1 S T)(h2:gq w old mid hi cs g u1 u2 (S++T) U)(hl:lo≤mid)(hh:mid≤hi):gq w old lo hi (bs++cs) (f+g) us u2 S (T++U):=by
 refine⟨fun m hm=>?_,?_,fun hS=>?_,fun hS=>?_⟩
 ·rcases List.mem_append.1 hm with hm|hm
  ·obtain⟨a,b,c⟩:=h1.ok m hm;exact⟨a,b,by omega⟩
  ·obtain⟨a,b,c⟩:=h2.ok m hm;exact⟨a,by omega,c⟩
 ·have:=h1.len;have:=h2.len;simp only[List.length_append];omega
 ·obtain⟨a1,a2,a3⟩:=h1.first hS;obtain⟨b1,b2,b3⟩:=h2.first (fun m hm=>by
   rcases List.mem_append.1 hm with hm|hm
   ·have:=hS m hm;omega
   ·exact(h1.ok m hm).2.2)
  refine⟨by rw[b1,a1],by simp only[List.length_append];omega,fun k hk=>?_⟩;rcases List.mem_append.1 hk with hk|hk
  ·obtain⟨m,q1,q2⟩:=a3 k hk;exact⟨m,List.mem_append_left _ q1,q2⟩
  ·obtain⟨m,q1,q2⟩:=b3 k hk;exact⟨m,List.mem_append_right _ q1,q2⟩
 ·have a:=h1.again hS;have b:=h2.again (fun k q1 q2 q3=>by obtain⟨m,r1,r2⟩:=hS k q1 q2 q3;exact⟨m,List.mem_append_left _ r1,r2⟩);simp only[List.length_append];omega
def y5(w:Int)(old:aa)(N:Nat)(b:aa):Prop :=
 ∀(fr us:Int) (S:cU) (lo:Int),RB lo b→11≤lo→0≤fr→fr+(bD b:Int)≤2000→S.length+bD b≤2000→(∀m∈S,jB w m) →
  ∃F us' T,rU (KN N) N b w true (dm N true true) true fr us S=some (F,fr+(T.length:Int),us',S++T)∧DF (bD b+2) F∧gq w old lo (lo+(bD b:Int)) (gE b) (jZ old b) us us' S T
theorem JB(w:Int)(old:aa)(N:Nat):∀(l:List aa) (fr us:Int) (S:cU) (lo:Int),(∀k∈l,y5 w old N k)→eL lo l→11≤lo→0≤fr→fr+(cc l:Int)≤2000→S.length+cc l≤2000→(∀m∈S,jB w m) →
  ∃r us' T,gZ (fun k=>(KN (N+1)).gm (dm (N+1) true true).Layout k w) l fr us S=some (r,fr+(T.length:Int),us',S++T)∧(∀f∈r,DF (cc l+2) f)∧gq w old lo (lo+(cc l:Int)) (dv l) (d8 old l) us us' S T
 | [],fr,us,S,lo,_,_,_,_,_,_,_=>⟨[],us,[],by simp[gZ],fun f hf=>(by cases hf),by simp only[cc,dv];exact gq.nil⟩
 | b::r,fr,us,S,lo,hr,hb,h11,h0,hf,hS,hm=>by
  simp only[eL]at hb;simp only[cc]at hf hS⊢;obtain⟨F,u1,T,e1,e2,e3⟩:=hr b List.mem_cons_self fr us S lo hb.1 h11 h0 (by omega) (by omega) hm;have hTl:=e3.len;have hbl:=Br b;have hszb:=eO b;obtain⟨rs,u2,U,d1,d2,d3⟩:=JB w old N r (fr+(T.length:Int)) u1 (S++T) (lo+(bD b:Int)) (fun k hk=>hr k (List.mem_cons_of_mem _ hk)) hb.2 (by omega) (by omega) (by omega) (by simp only[List.length_append];omega) (fun m hq=>by
   rcases List.mem_append.1 hq with hq|hq
   ·exact hm m hq
   ·exact(e3.ok m hq).1)
  refine⟨F::rs,u2,T++U,?_,fun f hq=>?_,?_⟩
  ·have e1':(KN (N+1)).gm (dm (N+1) true true).Layout b w fr us S=some (F,fr+(T.length:Int),u1,S++T):=e1;rw[show fr+(((T++U).length:Nat):Int)=fr+(T.length:Int)+(U.length:Int) by rw[List.length_append];omega];simp only[gZ,e1',Option.bind_some,d1,List.append_assoc]
  ·rcases List.mem_cons.1 hq with rfl|hq
   ·exact qF e2 (by omega)
   ·exact qF (d2 f hq) (by omega)
  ·have:=e3.app d3 (by omega) (by omega);rw[show lo+((bD b+cc r:Nat):Int)=lo+(bD b:Int)+(cc r:Int) by omega];exact this
theorem OJ{l:List aa}(hl:∀q∈l,q.Text.size≤90):dt 1 l≤l.length*91:=by
 have:∀{l:List aa},(∀q∈l,q.Text.size≤90)→(l.map fun b=>1+b.Text.size+dt 0 b.Kids).sum≤l.length*91:=by
  intro l
  induction l with
  | nil=>intro _;simp
  | cons b r ih =>
   intro h;have h1:=ih (fun q hq=>h q (List.mem_cons_of_mem _ hq));have h2:=h b List.mem_cons_self;simp only[List.map_cons,List.sum_cons,List.length_cons,dt]at h1⊢;omega
 exact this hl
theorem FP(w:Int)(old:aa)(N:Nat)(b:aa)(z:bN)(hz:z.Content=w)(t bt:Bool)(fr us:Int)(S:cU)(lo:Int)(hN:9100≤N)(hr:∀k∈b.Kids,y5 w old N k)(hb:RB lo b)(h10:10≤lo)(h0:0≤fr)(hf:fr+(bD b:Int)≤2000)(hS:S.length+bD b≤2000)(hm:∀m∈S,jB w m):
  ∃F us' T,gK (KN (N+1)) (N+1) b z t bt (dm (N+1) true true) fr us S=some (F,fr+(T.length:Int),us',S++T)∧DF (bD b+2) F∧gq w old (lo+1) (lo+(bD b:Int)) (dv b.Kids) (d8 old b.Kids) us us' S T:=by
 obtain⟨hk,hn,hs,hl,hc⟩:=iR hb;have hsz:=f8 b;by_cases hT:fc b.Kids∧(∀q∈b.Kids,q.Text.size≤90)
 ·have hcnt:=OJ hT.2;obtain⟨F,d1,d2⟩:=RD N b z t bt (dm (N+1) true true) hl hN hT.1 (fun k hq=>by have:=hT.2 k hq;omega) (by omega) ⟨_,_,_,_,rfl⟩;refine⟨F,us,[],?_,qF d1 (by omega),?_⟩
  ·rw[d2];simp
  ·rw[FO hT.1];exact gq.nil
 ·have hR:eL (lo+1) b.Kids:=by
   rcases hc with hc|hc
   ·exact absurd ⟨hc.1,hc.2.1⟩ hT
   ·exact hc
  have hne:b.Kids≠[]:=fun h=>hT ⟨fun k hq=>(by rw[h]at hq;cases hq),fun k hq=>(by rw[h]at hq;cases hq)⟩;have hkk:∀k∈b.Kids,k.Kind=1∧jk k.Style:=fun k hq=>by
   obtain⟨p,_,hp⟩:=Bo hR k hq;have:=iR hp;exact⟨this.1,this.2.2.1⟩
  have hfl:eJ b=b.Kids:=List.filter_eq_self.2 fun k hq=>by
   have:=(hkk k hq).2.pos;unfold jQ;simp[bne,this]
  have hout:∀k∈eJ b,ed k=true:=fun k hq=>by rw[hfl]at hq;unfold ed;rw[(hkk k hq).1];rfl
  have hany:(eJ b).any ed=true:=by
   rw[List.any_eq_true];obtain⟨x,hx⟩:=List.exists_mem_of_ne_nil _ hne;exact⟨x,by rw[hfl];exact hx,hout x (by rw[hfl];exact hx)⟩
  obtain⟨G,g1,g2⟩:=MQ N b z t bt (dm (N+1) true true) hl (by omega) hany hout;obtain⟨r,us',T,r1,r2,r3⟩:=JB w old N b.Kids fr us S (lo+1) hr hR (by omega) h0 (by omega) (by omega) hm;have hlen:=xJ r1;refine⟨G r,us',T,?_,?_,?_⟩
  ·rw[g2,hfl,hz,r1];rfl
  ·rw[hsz];exact qF (g1 r _ (by rw[hfl];exact hlen) r2) (by omega)
  ·rw[show lo+(bD b:Int)=lo+1+(cc b.Kids:Int) by omega];exact r3
theorem My(K:Kn)(n:Nat)(b:aa)(hs:jk b.Style){w:Int}(h0:0≤w)(h1:w≤1048576):∃z t bt,z.Content=w∧∀(env:bF) (fr us:Int) (S:cU),nl K n b w env fr us S=(gK K n b z t bt env fr us S).bind fun v10=>some (v10.1,v10.2.1,v10.2.2.1,v10.2.2.2):=by
 obtain⟨z,e1,e2⟩:=Ij K n hs h0 h1;have j1:∀t,∃bt,∀(env:bF) (fr us:Int) (S:cU),kZ K n b env fr us S z t=(gK K n b z t bt env fr us S).bind fun v10=>some (v10.1,v10.2.1,v10.2.2.1,v10.2.2.2):=fun t=>by
  unfold kZ;by_cases q1:(b.Style.Overflow == 0)=true
  ·by_cases q2:(z.Border.a2 == 0)=true
   ·by_cases q3:(z.Padding.a2 == 0)=true
    ·exact⟨_,fun env fr us S=>by rw[if_pos q1,if_pos q2,if_pos q3];rfl⟩
    ·exact⟨_,fun env fr us S=>by rw[if_pos q1,if_pos q2,if_neg q3];rfl⟩
   ·exact⟨_,fun env fr us S=>by rw[if_pos q1,if_neg q2];rfl⟩
  ·exact⟨_,fun env fr us S=>by rw[if_neg q1];rfl⟩
 have:∃t,∀(env:bF) (fr us:Int) (S:cU),nl K n b w env fr us S=kZ K n b env fr us S z t:=by
  unfold nl;simp only[e1,Option.bind_some];by_cases q1:(b.Style.Overflow == 0)=true
  ·by_cases q2:(z.Border.a0 == 0)=true
   ·exact⟨_,fun env fr us S=>by rw[if_pos q1,if_pos q2]⟩
   ·exact⟨_,fun env fr us S=>by rw[if_pos q1,if_neg q2]⟩
  ·exact⟨_,fun env fr us S=>by rw[if_neg q1]⟩
 obtain⟨t,ht⟩:=this;obtain⟨bt,hbt⟩:=j1 t;exact⟨z,t,bt,e2,fun env fr us S=>by rw[ht,hbt]⟩
theorem CP(w:Int)(hw0:0≤w)(hw1:w≤1048576)(old:aa):∀(s N:Nat) (b:aa),bD b≤s→s≤90→9200+s≤N→y5 w old N b
 | 0,_,b,h,_,_=>by have:=eO b;omega
 | s+1,0,b,_,_,h=>by omega
 | s+1,N+1,b,h1,h2,h3=>by
  intro fr us S lo hb h11 h0 hf hS hm;obtain⟨hk,hn,hs,hl,hc⟩:=iR hb;have hpos:=eO b;unfold rU;simp only[if_true,bg];rw[TP (N+1) b w w fr us S (by omega) (by omega) hm,Option.bind_some];cases hq:S.find? (ja b w) with
  | some m =>
   have hmem:=List.mem_of_find?_eq_some hq;have hhit:=List.find?_some hq;simp only[ja,Bool.and_eq_true,beq_iff_eq]at hhit;simp only[if_true];refine⟨m.Fragment,ab (us+1),[],by simp,?_,⟨fun m hm=>(by cases hm),Nat.zero_le _,fun hS'=>?_,fun _=>Nat.zero_le _⟩⟩
   ·rw[←IT hhit.2];exact(hm m hmem).2.2
   ·have:=hS' m hmem;rw[JO hhit.2,hn]at this;omega
  | none =>
   simp only[Bool.false_eq_true,if_false];obtain⟨z,t,bt,z1,z2⟩:=My (KN (N+1)) (N+1) b hs hw0 hw1;obtain⟨F,us',T,r1,r2,r3⟩:=FP w old N b z z1 t bt fr us S lo (by omega) (fun k hk'=>CP w hw0 hw1 old s N k (by have:=iw hk';omega) (by omega) (by omega)) hb (by omega) h0 hf hS hm;have hTl:=r3.len;have hbl:=ve b.Kids;have hsz:=f8 b;unfold qf;have k6:(b.Kind == 6)=false:=by rw[hk];rfl
   have k7:(b.Kind == 7)=false:=by rw[hk];rfl
   have k5:(b.Kind == 5)=false:=by rw[hk];rfl
   simp only[k6,k7,k5,Bool.false_eq_true,if_false,z2,r1,Option.bind_some,q7,if_true,bg,g_layout_Env_1_j3];rw[PE (N+1) b w F (fr+(T.length:Int)) us' (S++T) (by simp only[List.length_append];omega) (by omega) (bD b+2) r2 (by omega) (by omega),Option.bind_some];refine⟨F,us',T++[⟨b,w,F⟩],?_,r2,?_⟩
   ·rw[show fr+(((T++[(⟨b,w,F⟩:aG)]).length:Nat):Int)=fr+(T.length:Int)+1 by rw[List.length_append];simp only[List.length_cons,List.length_nil];omega];simp only[List.append_assoc]
   ·rw[wa hk,Hl hk];refine⟨fun m hm'=>?_,?_,fun hS'=>?_,fun hS'=>?_⟩
    ·rcases List.mem_append.1 hm' with hm'|hm'
     ·obtain⟨a,b',c⟩:=r3.ok m hm';exact⟨a,by omega,c⟩
     ·simp only[List.mem_cons,List.not_mem_nil,or_false]at hm';subst hm';exact⟨⟨rfl,by show bD b≤100;omega,r2⟩,by show lo≤b.Node;omega,by show b.Node<_;omega⟩
    ·simp only[List.length_append,List.length_cons,List.length_nil];omega
    ·obtain⟨a1,a2,a3⟩:=r3.first (fun m hm'=>by have:=hS' m hm';omega);refine⟨a1,by simp only[List.length_append,List.length_cons,List.length_nil];omega,fun k hk'=>?_⟩;rcases List.mem_cons.1 hk' with rfl|hk'
     ·exact⟨_,List.mem_append_right _ List.mem_cons_self,rfl⟩
     ·obtain⟨m,q1,q2⟩:=a3 k hk';exact⟨m,List.mem_append_left _ q1,q2⟩
    ·have a:=r3.again hS';cases hcb:dh b old with
     | true =>
      obtain⟨m,q1,q2,q3⟩:=hS' b hcb hk (by omega);have:=List.find?_eq_none.1 hq m q1;simp[ja,q2,q3]at this
     | false =>
      simp only[Bool.false_eq_true,if_false,List.length_append,List.length_cons,List.length_nil];omega
end Go.Proofs.YtocgkfoifehcbaaGreat
namespace Go.Proofs.YtocgkfoifehcbaaGreat
set_option linter.all false
open Go.RowKit
theorem QV(K:Kn)(n:Nat)(b:aa)(hs:b.Kids.length<1000000)(hsz:cc b.Kids<1000000)(hk:∀k∈b.Kids,(k.Kind=3)∨(k.Kind=1∧K.sB k=some ((dv k.Kids).length:Int))):∀(m i:Nat) (v:Nat),i≤b.Kids.length→b.Kids.length<m+i→v+cc (b.Kids.drop i)<2000000 →
  oo K n b m (v:Int) i=some ((v+(dv (b.Kids.drop i)).length:Nat):Int):=by
 intro m
 induction m with
 | zero=>intro i v h1 h2;omega
 | succ m ih =>
  intro i v h1 h2 h3;simp only[oo,rP];by_cases hi:i<b.Kids.length
  ·have hd:=drop_at' hi;rw[hd]at h3⊢;simp only[cc]at h3;simp only[fw hi,if_true,dP hi,bg,Int.toNat_natCast,dv,List.length_append];have hm:=hk _ (fD hi);have hbl:=Br (b.Kids.getD i default);generalize b.Kids.getD i default=k at *;have h1p:=eO k;rcases hm with hm|⟨hm,hb⟩
   ·have e0:gE k=[]:=by cases k;simp only at hm;simp only[gE,hm];rfl
    rw[hm,e0];simp only[show((3:Int) == 1)=false from rfl,show((3:Int) == 6)=false from rfl,Bool.false_eq_true,if_false,oO,mV];rw[eh (by omega),ih (i+1) v (by omega) (by omega) (by omega)];simp
   ·rw[hm];simp only[show((1:Int) == 1)=true from rfl,if_true,oO,mV,dP hi,bg,Int.toNat_natCast];have hd2:b.Kids.getD i default=k:=by rw[List.getD_eq_getElem?_getD];have:=congrArg List.head? hd;simp at this;rw[this];rfl
    rw[hd2,hb,Option.bind_some,eh (by omega)];rw[wa hm]at hbl⊢;simp only[List.length_cons]at hbl⊢;rw[cB (n:=1+_) (by omega) (by omega),cB (by omega) (by omega)];have:=ih (i+1) (v+(1+(dv k.Kids).length)) (by omega) (by omega) (by omega);rw[show(v:Int)+(1+((dv k.Kids).length:Int))=((v+(1+(dv k.Kids).length):Nat):Int) by omega,this];congr 2;omega
  ·simp only[fK (show b.Kids.length≤i by omega),Bool.false_eq_true,if_false];rw[List.drop_eq_nil_of_le (by omega)];rfl
theorem AB{lo:Int}{b:aa}(h:RB lo b):∀k∈b.Kids,(k.Kind=3∧k.Kids=[])∨(k.Kind=1∧k.Style.Position≠2∧∃p,lo+1≤p∧RB p k):=fun k hk=>by
 obtain⟨_,_,_,_,hc⟩:=iR h;rcases hc with hc|hc
 ·exact .inl ⟨hc.1 k hk,hc.2.2 k hk⟩
 ·obtain⟨p,h1,h2⟩:=Bo hc k hk;exact .inr ⟨(iR h2).1,(iR h2).2.2.1.pos,p,h1,h2⟩
theorem Jk:∀(s N:Nat) (b:aa) (lo:Int),bD b≤s→s<100000→s+2≤N→RB lo b→nk (KN N) N b=some ((dv b.Kids).length:Int)
 | 0,_,b,_,h,_,_,_=>by have:=eO b;omega
 | s+1,0,_,_,_,_,h,_=>by omega
 | s+1,N+1,b,lo,h1,h2,h3,h4=>by
  have hsz:=f8 b;have hlen:=pK b.Kids;have e:=QV (KN (N+1)) (N+1) b (by omega) (by omega) (fun k hk=>by
   rcases AB h4 k hk with q|⟨q1,_,p,_,q⟩
   ·exact .inl q.1
   ·exact .inr ⟨q1,Jk s N k p (by have:=iw hk;omega) (by omega) (by omega) q⟩) (N+1) 0 0 (Nat.zero_le _) (by omega) (by rw[List.drop_zero];omega)
  unfold nk;simpa using e
mutual
theorem E1(old:aa):∀b:aa,jZ old b≤bD b
 | ⟨k,n,s,t,r,c,ks⟩=>by
  simp only[jZ,bD];have:=FL old ks;split
  ·split<;>omega
  ·omega
theorem FL(old:aa):∀l:List aa,d8 old l≤cc l
 | []=>Nat.le_refl _
 | b::r=>by simp only[d8,cc];have:=E1 old b;have:=FL old r;omega
end
theorem OB(K:Kn)(n:Nat)(old b:aa)(hs:b.Kids.length<1000000)(hsz:cc b.Kids<1000000)(hc:∀k∈b.Kids,mc K n old k=some (dh k old))(hk:∀k∈b.Kids,(k.Kind=3)∨(k.Kind=1∧K.pT old k=some ((d8 old k.Kids:Nat):Int))):∀(m i:Nat) (v:Nat),i≤b.Kids.length→b.Kids.length<m+i→v+cc (b.Kids.drop i)<2000000 →
  oZ K n old b m (v:Int) i=some ((v+d8 old (b.Kids.drop i):Nat):Int):=by
 intro m
 induction m with
 | zero=>intro i v h1 h2;omega
 | succ m ih =>
  intro i v h1 h2 h3;simp only[oZ,sN];by_cases hi:i<b.Kids.length
  ·have hd:=drop_at' hi;rw[hd]at h3⊢;simp only[cc]at h3;have hm:=hk _ (fD hi);have hcc:=hc _ (fD hi);have hd2:b.Kids.getD (i:Int).toNat default=b.Kids.getD i default:=by rw[Int.toNat_natCast]
   simp only[fw hi,if_true,dP hi,bg,d8,pX,sv,hd2];have hbl:=E1 old (b.Kids.getD i default);generalize b.Kids.getD i default=k at *;have h1p:=eO k;rcases hm with hm|⟨hm,hb⟩
   ·have e0:jZ old k=0:=by cases k;simp only at hm;simp only[jZ,hm];rfl
    rw[hm,e0];simp only[show((3:Int) == 1)=false from rfl,Bool.false_eq_true,if_false,Option.bind_some];rw[eh (by omega),ih (i+1) v (by omega) (by omega) (by omega)];simp
   ·rw[hm];simp only[show((1:Int) == 1)=true from rfl,if_true,Option.bind_some,hcc,hb];rw[Hl hm]at hbl⊢;cases hq:dh k old with
    | true =>
     rw[hq]at hbl;simp only[if_true,Nat.zero_add]at hbl;simp only[Bool.not_true,Bool.false_eq_true,if_false,if_true,Nat.zero_add];rw[cB (n:=(v:Int)+_) (by omega) (by omega),eh (by omega)];have:=ih (i+1) (v+d8 old k.Kids) (by omega) (by omega) (by omega);rw[show(v:Int)+((d8 old k.Kids:Nat):Int)=((v+d8 old k.Kids:Nat):Int) by omega,this];congr 2;omega
    | false =>
     rw[hq]at hbl;simp only[Bool.false_eq_true,if_false]at hbl;simp only[Bool.not_false,if_true,Bool.false_eq_true,if_false];rw[cB (n:=(v:Int)+1) (by omega) (by omega),cB (n:=(v:Int)+1+_) (by omega) (by omega),eh (by omega)];have:=ih (i+1) (v+(1+d8 old k.Kids)) (by omega) (by omega) (by omega);rw[show(v:Int)+1+((d8 old k.Kids:Nat):Int)=((v+(1+d8 old k.Kids):Nat):Int) by omega,this];congr 2;omega
  ·simp only[fK (show b.Kids.length≤i by omega),Bool.false_eq_true,if_false];rw[List.drop_eq_nil_of_le (by omega)];rfl
theorem CQ(old:aa)(ho:bD old<1000):∀(s N:Nat) (b:aa) (lo:Int),bD b≤s→s<100000→s+2+bD old≤N→RB lo b→oX (KN N) N old b=some ((d8 old b.Kids:Nat):Int)
 | 0,_,b,_,h,_,_,_=>by have:=eO b;omega
 | s+1,0,_,_,_,_,h,_=>by omega
 | s+1,N+1,b,lo,h1,h2,h3,h4=>by
  have hsz:=f8 b;have hlen:=pK b.Kids;have e:=OB (KN (N+1)) (N+1) old b (by omega) (by omega) (fun k hk=>Ig (bD old) (N+1) old k (Nat.le_refl _) (by omega) (by omega)) (fun k hk=>by
   rcases AB h4 k hk with q|⟨q1,_,p,_,q⟩
   ·exact .inl q.1
   ·exact .inr ⟨q1,CQ old ho s N k p (by have:=iw hk;omega) (by omega) (by omega) q⟩) (N+1) 0 0 (Nat.zero_le _) (by omega) (by rw[List.drop_zero];omega)
  unfold oX;simpa using e
theorem PK(K:Kn)(n:Nat)(l:List Int)(hl:l.length≤100000):rI K n l=some l:=by
 unfold rI jY;have hf:fits (([]:List Int).length+l.length) 8=true:=by rw[List.length_nil,Nat.zero_add];exact cW (by omega) (by omega)
 rw[hf];cases l<;>simp[bg]
theorem UC(K:Kn)(n:Nat)(p:fd)(b:aa)(ar:List Int)(hs:b.Kids.length<1000000)(hk:∀k∈b.Kids,(k.Kind=3∨k.Style.Position≠2)∧K.ny p k ar=some ()):∀(m i:Nat),i≤b.Kids.length→b.Kids.length<m+i→mT K n p b ar m i=some ():=by
 intro m
 induction m with
 | zero=>intro i h1 h2;omega
 | succ m ih =>
  intro i h1 h2;simp only[mT,tB];by_cases hi:i<b.Kids.length
  ·obtain⟨q1,q2⟩:=hk _ (fD hi);have nx:=ih (i+1) (by omega) (by omega);have j3:mo K n p b ar i (mT K n p b ar m) false=some ():=by
    unfold mo;simp only[Bool.false_eq_true,if_false,Int.toNat_natCast,q2,Option.bind_some];rw[eh (by omega),nx]
   simp only[fw hi,if_true,dP hi,bg,Int.toNat_natCast];split
   ·rename_i h3;split
    ·rcases q1 with q1|q1
     ·rw[q1]at h3;exact absurd h3 (by decide)
     ·rw[show((b.Kids.getD i default).Style.Position == 2)=false by simpa using q1];exact j3
    ·exact j3
   ·exact j3
  ·simp only[fK (show b.Kids.length≤i by omega),Bool.false_eq_true,if_false]
theorem J0(K:Kn)(n:Nat)(p:fd)(b:aa)(ar:List Int)(ha:ar.length≤90000)(hs:b.Kids.length<n)(hs2:b.Kids.length<1000000)(hk:∀k∈b.Kids,(k.Kind=3∨k.Style.Position≠2)∧∀ar2:List Int,ar2.length≤ar.length+1→K.ny p k ar2=some ()):kM K n p b ar=some ():=by
 have j2:∀ar2:List Int,ar2.length≤ar.length+1→mY K n p b ar2=some ():=fun ar2 h2=>by
  unfold mY;have:=UC K n p b ar2 hs2 (fun k hq=>⟨(hk k hq).1,(hk k hq).2 ar2 h2⟩) n 0 (Nat.zero_le _) (by omega);simpa using this
 have j1:∀c,oa K n p b ar c=some ():=fun c=>by
  unfold oa;cases c with
  | false=>simpa using j2 ar (by omega)
  | true =>
   simp only[if_true,PK K n ar (by omega),Option.bind_some,List.length_singleton];rw[cW (by omega) (by omega),bg,j2 _ (by simp)]
 unfold kM;split<;>exact j1 _
theorem Gk(p:fd):∀(s N:Nat) (b:aa) (lo:Int) (ar:List Int),bD b≤s→s<10000→s+2≤N→ar.length+s≤90000→RB lo b→kM (KN N) N p b ar=some ()
 | 0,_,b,_,_,h,_,_,_,_=>by have:=eO b;omega
 | s+1,0,_,_,_,_,_,h,_,_=>by omega
 | s+1,N+1,b,lo,ar,h1,h2,h3,h4,h5=>by
  have hsz:=f8 b;have hlen:=pK b.Kids;refine J0 (KN (N+1)) (N+1) p b ar (by omega) (by omega) (by omega) (fun k hk=>?_);have hkl:=iw hk;have hkp:=eO k;obtain⟨q1,q2⟩|⟨q1,q3,lo2,_,q⟩:=AB h5 k hk
  ·refine⟨.inl q1,fun ar2 ha2=>?_⟩;show kM (KN N) N p k ar2=some ();exact J0 (KN N) N p k ar2 (by omega) (by rw[q2];simp;omega) (by rw[q2];simp) (fun x hx=>by rw[q2]at hx;cases hx)
  ·exact⟨.inr q3,fun ar2 ha2=>Gk p s N k lo2 ar2 (by omega) (by omega) (by omega) (by omega) q⟩
end Go.Proofs.YtocgkfoifehcbaaGreat
namespace Go.Proofs.YtocgkfoifehcbaaGreat
set_option linter.all false
open Go.RowKit
def ge(m x:aG):Bool:=x.Width == m.Width&&cZ x.Box m.Box
theorem NF(K:Kn)(n:Nat)(l:List aG)(M:aG)(hs:l.length<1000000)(hk:∀k∈l,K.nh (Fv.c39 M) k=some (ge M k)):∀(m i:Nat),i≤l.length→l.length<m+i →
  ∃r,lw K n l (Fv.c39 M) m i=some r∧decide (r≥0)=(l.drop i).any (ge M):=by
 intro m
 induction m with
 | zero=>intro i h1 h2;omega
 | succ m ih =>
  intro i h1 h2;simp only[lw,sy];by_cases hi:i<l.length
  ·rw[drop_at' hi];simp only[fw hi,if_true,dP hi,bg,Int.toNat_natCast,hk _ (fD hi),Option.bind_some,List.any_cons];cases h:ge M (l.getD i default) with
   | true=>exact⟨_,rfl,by simp⟩
   | false =>
    simp only[Bool.false_eq_true,if_false,Bool.false_or];rw[eh (by omega)];exact ih (i+1) (by omega) (by omega)
  ·simp only[fK (show l.length≤i by omega),Bool.false_eq_true,if_false];rw[List.drop_eq_nil_of_le (by omega)];exact⟨_,rfl,rfl⟩
theorem NQ(N:Nat)(l:List aG)(M:aG)(hs:l.length<5000)(hN:6000≤N)(hk:∀k∈l,bD k.Box≤100):rj (KN (N+1)) (N+1) l (Fv.c39 M)=some (l.any (ge M)):=by
 have hh:∀k∈l,(KN (N+1)).nh (Fv.c39 M) k=some (ge M k):=fun k hq=>by
  show tq (KN N) N k M=_;unfold tq ge;rw[vA (bD k.Box) N k.Box M.Box (Nat.le_refl _) (by have:=hk k hq;omega) (by have:=hk k hq;omega),Option.bind_some];cases (k.Width == M.Width)<;>rfl
 obtain⟨r,h1,h2⟩:=NF (KN (N+1)) (N+1) l M (by omega) hh (N+1) 0 (Nat.zero_le _) (by omega);have h1':lw (KN (N+1)) (N+1) l (Fv.c39 M) (N+1) 0=some r:=h1;unfold rj w9;rw[h1',Option.bind_some,h2,List.drop_zero]
theorem Q1(N:Nat)(root:aa)(F:ai)(fr us:Int)(L:cU)(hL:L.length≤3000)(hr:bD root≤100)(hN:6000≤N)(d:Nat)(hd:DF d F)(h100:d≤150)(hm:∀m∈L,bD m.Box≤100):∀(m i:Nat) (acc:cU),i≤L.length→L.length<m+i→acc.length≤i→(∀x∈acc,x∈L) →
  ∃out,kv (KN (N+1)) (N+1) root (F,fr,us,L) m i acc=some (F,fr,us,out)∧(∀x∈out,x∈L)∧(∀x∈acc,x∈out)∧out.length≤L.length∧∀x∈L.drop i,dh x.Box root=true→∃y∈out,ge x y=true:=by
 intro m
 induction m with
 | zero=>intro i acc h1 h2;omega
 | succ m ih =>
  intro i acc h1 h2 h3 h4;simp only[kv,tr];by_cases hi:i<L.length
  ·have hM:=fD hi;rw[drop_at' hi];simp only[fw hi,if_true,dP hi,bg,Int.toNat_natCast,tF,sM];generalize L.getD i default=M at *;rw[NQ N acc M (by omega) hN (fun k hk=>hm k (h4 k hk)),Option.bind_some,H7 (bD root) (N+1) root M.Box (Nat.le_refl _) (by omega) (by omega),eh (by omega)];have skip:(dh M.Box root=true→∃y∈acc,ge M y=true)→∃out,kv (KN (N+1)) (N+1) root (F,fr,us,L) m ((i+1:Nat):Int) acc=some (F,fr,us,out)∧(∀x∈out,x∈L)∧(∀x∈acc,x∈out)∧out.length≤L.length∧∀x∈M::L.drop (i+1),dh x.Box root=true→∃y∈out,ge x y=true:=fun hs=>by
    obtain⟨out,e1,e2,e3,e4,e5⟩:=ih (i+1) acc (by omega) (by omega) (by omega) h4;refine⟨out,e1,e2,e3,e4,fun x hx hc=>?_⟩;rcases List.mem_cons.1 hx with rfl|hx
    ·obtain⟨y,y1,y2⟩:=hs hc;exact⟨y,e3 y y1,y2⟩
    ·exact e5 x hx hc
   cases ha:acc.any (ge M) with
   | true =>
    simp only[Bool.not_true,Bool.false_eq_true,if_false];obtain⟨y,y1,y2⟩:=List.any_eq_true.1 ha;exact skip (fun _=>⟨y,y1,y2⟩)
   | false =>
    simp only[Bool.not_false,if_true,Option.bind_some];cases hc:dh M.Box root with
    | false =>
     simp only[Bool.false_eq_true,if_false];exact skip (fun h=>by rw[hc]at h;cases h)
    | true =>
     simp only[if_true,List.length_singleton];rw[cW (by omega) (by omega),bg];obtain⟨out,e1,e2,e3,e4,e5⟩:=ih (i+1) (acc++[M]) (by omega) (by omega) (by simp;omega) (fun x hx=>by
      rcases List.mem_append.1 hx with hx|hx
      ·exact h4 x hx
      ·simp only[List.mem_cons,List.not_mem_nil,or_false]at hx;subst hx;exact hM)
     refine⟨out,e1,e2,fun x hx=>e3 x (List.mem_append_left _ hx),e4,fun x hx hc=>?_⟩;rcases List.mem_cons.1 hx with rfl|hx
     ·exact⟨x,e3 x (List.mem_append_right _ List.mem_cons_self),by simp[ge,zV]⟩
     ·exact e5 x hx hc
  ·simp only[fK (show L.length≤i by omega),Bool.false_eq_true,if_false];rw[xc d (N+1) F hd (by omega),Option.bind_some];refine⟨acc,rfl,h4,fun x hx=>hx,by omega,fun x hx=>?_⟩;rw[List.drop_eq_nil_of_le (by omega)]at hx;cases hx
theorem D0(width:Int)(N:Nat)(old root:aa)(S:cU)(a b:Int)(hN:9400≤N)(hb:RB 10 root)(hsz:bD root≤90)(hS:S.length≤1000)(hm:∀m∈S,jB (min (max width 0) 1048576) m):
  ∃F us' out T,iH (KN (N+1)) (N+1) root width 0 a b S=some (F,(T.length:Int),us',out)∧gq (min (max width 0) 1048576) old 11 (10+(bD root:Int)) (dv root.Kids) (d8 old root.Kids) 0 us' S T∧(∀x∈out,jB (min (max width 0) 1048576) x)∧out.length≤S.length+bD root∧∀x∈S++T,dh x.Box root=true→∃y∈out,ge x y=true:=by
 generalize hw:min (max width 0) 1048576=w at *;have hw0:0≤w:=by omega
 have hw1:w≤1048576:=by omega
 obtain⟨hk,hn,hs,hl,hc⟩:=iR hb;obtain⟨z,z1,z2⟩:=Ij (KN (N+1)) (N+1) hs hw0 hw1;have hpos:=eO root;obtain⟨F,us',T,r1,r2,r3⟩:=FP w old N root z z2 false false 0 0 S 10 (by omega) (fun k hk'=>CP w hw0 hw1 old (bD k) N k (Nat.le_refl _) (by have:=iw hk';omega) (by have:=iw hk';omega)) hb (by omega) (by omega) (by omega) (by omega) hm;have hTl:=r3.len;have hbl:=ve root.Kids;have hse:=f8 root;have hF:DF (bD root+2) ({ F with H:=max F.H (min (max 0 0) 1048576) }:ai):=vC rfl r2;obtain⟨out,e1,e2,e3,e4,e5⟩:=Q1 N root ({ F with H:=max F.H (min (max 0 0) 1048576) }:ai) (0+(T.length:Int)) us' (S++T) (by simp only[List.length_append];omega) (by omega) (by omega) (bD root+2) hF (by omega) (fun m hq=>by
  rcases List.mem_append.1 hq with hq|hq
  ·exact(hm m hq).2.1
  ·exact(r3.ok m hq).1.2.1) (N+1) 0 [] (Nat.zero_le _) (by simp only[List.length_append];omega) (Nat.zero_le _) (fun x hx=>by cases hx)
 refine⟨({ F with H:=max F.H (min (max 0 0) 1048576) }:ai),us',out,T,?_,r3,fun x hx=>?_,?_,?_⟩
 ·unfold iH uc;rw[Option.bind_some];unfold vY;rw[hw,z1,Option.bind_some];unfold wO;rw[r1,Option.bind_some];simp only[Option.bind_some];rw[Ec (bD root+2) (N+1) F r2 (by omega),Option.bind_some,Gk _ (bD root) (N+1) root 10 [] (Nat.le_refl _) (by omega) (by omega) (by simp;omega) hb,Option.bind_some,Option.bind_some];have e1':kv (KN (N+1)) (N+1) root (({ F with H:=max F.H (min (max 0 0) 1048576) }:ai),0+(T.length:Int),us',S++T) (N+1) 0 []=_:=e1;rw[e1',Int.zero_add]
 ·rcases List.mem_append.1 (e2 x hx)with hq|hq
  ·exact hm x hq
  ·exact(r3.ok x hq).1
 ·rw[List.length_append]at e4;omega
 ·rw[List.drop_zero]at e5;exact e5
mutual
theorem I0:∀(b k:aa) (lo:Int),RB lo b→dh k b=true→k.Kind=1→∃q∈gE b,cZ q k=true
 | ⟨kk,n,s,t,r,c,ks⟩,k,lo,h,hc,hk=>by
  rw[nG,Bool.or_eq_true]at hc;have hb:=iR h;rw[wa hb.1];rcases hc with hc|hc
  ·exact⟨_,List.mem_cons_self,hc⟩
  ·rcases hb.2.2.2.2 with q|q
   ·exact absurd hc (by rw[Di ks k q.1 q.2.2 hk];exact Bool.false_ne_true)
   ·obtain⟨x,x1,x2⟩:=C6 ks k (lo+1) q hc hk;exact⟨x,List.mem_cons_of_mem _ x1,x2⟩
theorem C6:∀(l:List aa) (k:aa) (lo:Int),eL lo l→fP k l=true→k.Kind=1→∃q∈dv l,cZ q k=true
 | [],_,_,_,h,_=>by cases h
 | b::r,k,lo,h,hc,hk=>by
  simp only[eL]at h;simp only[fP,Bool.or_eq_true]at hc;simp only[dv];rcases hc with hc|hc
  ·obtain⟨x,x1,x2⟩:=I0 b k lo h.1 hc hk;exact⟨x,List.mem_append_left _ x1,x2⟩
  ·obtain⟨x,x1,x2⟩:=C6 r k _ h.2 hc hk;exact⟨x,List.mem_append_right _ x1,x2⟩
theorem Di:∀(l:List aa) (k:aa),fc l→(∀q∈l,q.Kids=[])→k.Kind=1→fP k l=false
 | [],_,_,_,_=>rfl
 | b::r,k,h,h2,hk=>by
  simp only[fP,Bool.or_eq_false_iff];refine⟨?_,Di r k (fun q hq=>h q (List.mem_cons_of_mem _ hq)) (fun q hq=>h2 q (List.mem_cons_of_mem _ hq)) hk⟩;rw[nG,h2 b List.mem_cons_self];cases he:cZ b k with
  | true=>have:=NJ he;rw[h b List.mem_cons_self,hk]at this;cases this
  | false=>rfl
end
mutual
theorem V0:∀(b q:aa),q∈gE b→dh q b=true
 | ⟨kk,n,s,t,r,c,ks⟩,q,h=>by
  simp only[gE]at h;rw[nG,Bool.or_eq_true];split at h
  ·rcases List.mem_cons.1 h with rfl|h
   ·exact .inl (zV _)
   ·exact .inr (Ax ks q h)
  ·cases h
theorem Ax:∀(l:List aa) (q:aa),q∈dv l→fP q l=true
 | [],_,h=>by cases h
 | b::r,q,h=>by
  simp only[dv]at h;simp only[fP,Bool.or_eq_true];rcases List.mem_append.1 h with h|h
  ·exact .inl (V0 b q h)
  ·exact .inr (Ax r q h)
end
theorem Rs(width:Int)(N:Nat)(old root:aa)(hN:9400≤N)(ho:RB 10 old)(hr:RB 10 root)(h1:bD old≤90)(h2:bD root≤90)(a b:Int):
  ∃F out,iH (KN (N+1)) (N+1) old width 0 a b []=some (F,((dv old.Kids).length:Int),0,out)∧∀c d:Int,∃G fr us out2,iH (KN (N+1)) (N+1) root width 0 c d out=some (G,fr,us,out2)∧fr≤((d8 old root.Kids:Nat):Int):=by
 obtain⟨F,us,out,T,e1,e2,e3,e4,e5⟩:=D0 width N old old [] a b hN ho h1 (by simp) (fun m hm=>by cases hm);obtain⟨f1,f2,f3⟩:=e2.first (fun m hm=>by cases hm);refine⟨F,out,by rw[e1,f1,f2],fun c d=>?_⟩;obtain⟨G,us2,out2,U,g1,g2,g3,g4,g5⟩:=D0 width N old root out c d hN hr h2 (by simp at e4;omega) e3;refine⟨G,_,us2,out2,g1,?_⟩;have:=g2.again (fun k q1 q2 q3=>by
  obtain⟨q,x1,x2⟩:=I0 old k 10 ho q1 q2;have hb:=iR ho;rw[wa hb.1]at x1;rcases List.mem_cons.1 x1 with rfl|x1
  ·have:=JO x2;omega
  ·obtain⟨m,m1,m2⟩:=f3 q x1;have hcq:dh m.Box old=true:=by rw[m2,nG,Ax old.Kids q x1,Bool.or_true]
   obtain⟨y,y1,y2⟩:=e5 m (by simpa using m1) hcq;simp only[ge,Bool.and_eq_true,beq_iff_eq]at y2;have hw:=(e3 y y1).1;exact⟨y,y1,hw,Fm (by rw[←m2];exact y2.2) x2⟩)
 omega
end Go.Proofs.YtocgkfoifehcbaaGreat
namespace Go.Proofs.YtocgkfoifehcbaaGreat
set_option linter.all false
open Go.RowKit
theorem wg{a b:Int}{n:Nat}(h0:0≤a)(h1:a≤b)(h2:b≤n):cH a b n=true:=by simp[cH,h0,h1,h2]
theorem RG(K:Kn)(n:Nat)(l:List av)(cs:List di)(hl:l.length≤9223372036854775807)(hc:cs.length≤9223372036854775807)(hn:l.length<n)(hn1:1<n):∀(m:Nat) (i:Int),0≤i→i≤cs.length→(cs.length:Int)<m+i →
  ∃b,pE K n l cs m i=some b∧(b=true→(l.length≤12∧0<l.length∧cs.length≤6)∧(∀s∈l,mL s)∧∀k,i.toNat≤k→k<cs.length→mL (cs.getD k default).Spec):=by
 intro m
 induction m with
 | zero=>intro i h0 h1 h2;omega
 | succ m ih =>
  intro i h0 h1 h2;simp only[pE,tz];by_cases hi:i<(cs.length:Int)
  ·rw[if_pos (decide_eq_true hi),db h0 hi,bg];obtain⟨b,e1,e2⟩:=EV K n [(cs.getD i.toNat default).Spec] 1 (by simp) (by simpa using hn1);rw[e1,Option.bind_some];cases b with
   | false=>exact⟨false,rfl,fun h=>by cases h⟩
   | true =>
    obtain⟨b2,e3,e4⟩:=ih (i+1) (by omega) (by omega) (by omega);rw[if_neg (by simp),cB (by omega) (by omega)];refine⟨b2,e3,fun h=>⟨(e4 h).1,(e4 h).2.1,fun k h3 h4=>?_⟩⟩;by_cases e:k=i.toNat
    ·subst e;exact(e2 rfl).2 _ (by simp)
    ·exact(e4 h).2.2 k (by omega) h4
  ·have hd:¬ decide (i<(cs.length:Int))=true:=by simpa using hi
   rw[if_neg hd];obtain⟨b,e1,e2⟩:=EV K n l 12 (by omega) hn;rw[e1,Option.bind_some];cases b with
   | false=>exact⟨false,rfl,fun h=>by cases h⟩
   | true =>
    simp only[if_true,nc];split
    ·rename_i hp;have hp:=of_decide_eq_true hp;refine⟨_,rfl,fun h=>⟨⟨by have:=(e2 rfl).1;omega,by omega,by have:=of_decide_eq_true h;omega⟩,(e2 rfl).2,fun k h3 h4=>by omega⟩⟩
    ·exact⟨false,rfl,fun h=>by cases h⟩
theorem VC(K:Kn)(n:Nat)(l:List av)(cs:List di)(hl:l.length≤9223372036854775807)(hc:cs.length≤9223372036854775807)(hn:l.length<n)(hn1:cs.length+1<n):
  ∃b,vV K n l cs=some b∧(b=true→(l.length≤12∧0<l.length∧cs.length≤6)∧(∀s∈l,mL s)∧∀c∈cs,mL c.Spec):=by
 obtain⟨b,e1,e2⟩:=RG K n l cs hl hc hn (by omega) n 0 (by omega) (by omega) (by omega);refine⟨b,e1,fun h=>⟨(e2 h).1,(e2 h).2.1,fun c hc'=>?_⟩⟩;obtain⟨k,hk,rfl⟩:=List.mem_iff_getElem.1 hc';have:=(e2 h).2.2 k (by simp) hk;rwa[cX hk]at this
theorem LF(k:Nat):t9 (KN (k+30)) (k+30)=some true:=by kernel_rfl
end Go.Proofs.YtocgkfoifehcbaaGreat
namespace Go.Proofs.YtocgkfoifehcbaaGreat
set_option linter.all false
open Go.RowKit
structure IL(s:aJ):Prop where
 wi:s.Width=bp
 mn:s.MinWidth=bp
 mx:s.MaxWidth=bp
 ma:s.Margin=⟨bp,bp,bp,bp⟩
 pa:s.Padding=⟨bp,bp,bp,bp⟩
 bo:s.Border=⟨0,0,0,0⟩
def Pl(t:Nat)(s:av):Prop:=IL s.Style∧s.Rows=0∧s.Text.size≤t
theorem NK{s:av}(h:IL s.Style):jk (dj s).Style:=by
 unfold dj;split
 ·exact⟨by show(0:Int)≠2;decide,h.wi,h.mn,h.mx,h.ma,h.pa,h.bo⟩
 ·rename_i hp;exact⟨by simpa using hp,h.wi,h.mn,h.mx,h.ma,h.pa,h.bo⟩
theorem Ss(s:av):(dj s).Text=s.Text:=by unfold dj;split<;>rfl
theorem UK(s:av):(dj s).Rows=s.Rows:=by unfold dj;split<;>rfl
theorem CI:∀{l m:List aa} {lo:Int},eL lo l→eL (lo+(cc l:Int)) m→eL lo (l++m)
 | [],m,lo,_,h=>by simpa[cc]using h
 | b::r,m,lo,h1,h2=>by
  simp only[List.cons_append,eL,cc]at h1 h2⊢;refine⟨h1.1,CI h1.2 ?_⟩;rw[show lo+(bD b:Int)+(cc r:Int)=lo+((bD b+cc r:Nat):Int) by omega];exact h2
def UF(l:List aa):Prop:=fc l∧(∀q∈l,q.Text.size≤90)∧(∀q∈l,q.Kids=[])
theorem QW(K:Kn)(n:Nat)(L:List av)(hL:L.length≤20)(hP:∀s∈L,jk s.Style∧s.Text.size≤90)(a:Nat)(v3:Bool)(ih:v3=true→∀i,a<i→i<L.length→∃b i',K.gY L ((i:Nat):Int)=some (b,((i':Nat):Int))∧i<i'∧i'≤L.length∧bD b=i' - i∧RB (10+(i:Int)) b):
  ∀(m i:Nat) (acc:List aa),a<i→i≤L.length→L.length<m+i→cc acc+a+1=i→(v3=true→eL (10+(a:Int)+1) acc)→(v3=false→UF acc) →
   ∃b i',iV K n L ((a:Nat):Int) v3 m ((i:Nat):Int) acc=some (b,((i':Nat):Int))∧a<i'∧i'≤L.length∧bD b=i' - a∧RB (10+(a:Int)) b:=by
 intro m
 induction m with
 | zero=>intro i acc _ h1 h2;omega
 | succ m ihm =>
  intro i acc h0 h1 h2 h3 hk1 hk2;have hlen:=pK acc;have stop:∃b i',jN K n L ((a:Nat):Int) v3 ((i:Nat):Int) acc (iV K n L ((a:Nat):Int) v3 m) false=some (b,((i':Nat):Int))∧a<i'∧i'≤L.length∧bD b=i' - a∧RB (10+(a:Int)) b:=by
   simp only[jN,Bool.false_eq_true,if_false];refine⟨_,i,rfl,h0,h1,?_,?_⟩
   ·rw[f8];show cc acc+1=i-a;omega
   ·simp only[RB];refine⟨by first|rfl|trivial,cB (by omega) (by omega),?_,by omega,?_⟩
    ·exact(hP _ (fD (by simpa using (show a<L.length by omega)))).1
    ·cases v3 with
     | true=>exact .inr (hk1 rfl)
     | false=>exact .inl (hk2 rfl)
  simp only[iV,kt];by_cases hi:i<L.length
  ·simp only[fw hi,if_true,dP hi,bg];cases hd:decide ((L.getD ((i:Nat):Int).toNat default).Depth>(L.getD ((a:Nat):Int).toNat default).Depth) with
   | false=>exact stop
   | true =>
    simp only[jN,if_true];cases v3 with
    | true =>
     obtain⟨b,i',e1,e2,e3,e4,e5⟩:=ih rfl i h0 hi;simp only[if_true,e1,Option.bind_some,List.length_cons,List.length_nil];rw[cW (by omega) (by omega),bg];refine ihm i' (acc++[b]) (by omega) e3 (by omega) (by rw[Cq];simp only[cc];omega) (fun _=>CI (hk1 rfl) ⟨?_,trivial⟩) (fun h=>by cases h);rw[show 10+(a:Int)+1+(cc acc:Int)=10+(i:Int) by omega];exact e5
    | false =>
     simp only[Bool.false_eq_true,if_false,dP hi,bg,List.length_cons,List.length_nil];rw[cW (by omega) (by omega),bg,eh (by omega)];have hs:=(hP _ (fD hi)).2;refine ihm (i+1) _ (by omega) (by omega) (by omega) (by rw[Cq];simp only[cc,bD];show cc acc+(cc []+1+0)+a+1=i+1;simp only[cc];omega) (fun h=>by cases h) (fun _=>?_);obtain⟨k1,k2,k3⟩:=hk2 rfl;refine⟨fun q hq=>?_,fun q hq=>?_,fun q hq=>?_⟩
     ·rcases List.mem_append.1 hq with hq|hq
      ·exact k1 q hq
      ·simp only[List.mem_cons,List.not_mem_nil,or_false]at hq;subst hq;rfl
     ·rcases List.mem_append.1 hq with hq|hq
      ·exact k2 q hq
      ·simp only[List.mem_cons,List.not_mem_nil,or_false]at hq;subst hq;exact hs
     ·rcases List.mem_append.1 hq with hq|hq
      ·exact k3 q hq
      ·simp only[List.mem_cons,List.not_mem_nil,or_false]at hq;subst hq;rfl
  ·simp only[fK (show L.length≤i by omega),Bool.false_eq_true,if_false];exact stop
theorem Kf(K:Kn)(n:Nat)(L:List av)(hL:L.length≤20)(hP:∀s∈L,jk s.Style∧s.Text.size≤90)(hn:L.length+2≤n):∀(d a:Nat),a<L.length→L.length-a≤d→∃b i',gJ K n d L ((a:Nat):Int)=some (b,((i':Nat):Int))∧a<i'∧i'≤L.length∧bD b=i' - a∧RB (10+(a:Int)) b
 | 0,a,h1,h2=>by omega
 | d+1,a,h1,h2=>by
  have lp:∀v3:Bool,∃b i',iV { K with gY:=gJ K n d } n L ((a:Nat):Int) v3 n ((a+1:Nat):Int) []=some (b,((i':Nat):Int))∧a<i'∧i'≤L.length∧bD b=i' - a∧RB (10+(a:Int)) b:=fun v3 =>
   QW { K with gY:=gJ K n d } n L hL hP a v3 (fun _ i h3 h4=>Kf K n L hL hP hn d i h4 (by omega)) n (a+1) [] (by omega) (by omega) (by omega) (by simp[cc]) (fun _=>trivial) (fun _=>⟨fun q hq=>(by cases hq),fun q hq=>(by cases hq),fun q hq=>(by cases hq)⟩)
  show ∃b i',ki { K with gY:=gJ K n d } n L ((a:Nat):Int)=some (b,((i':Nat):Int))∧_;unfold ki;simp only[dP h1,bg,eh (show a<1000000000 by omega),kT];by_cases hi:a+1<L.length
  ·simp only[fw hi,if_true,dP hi,bg];split
   ·exact lp _
   ·exact lp _
  ·simp only[fK (show L.length≤a+1 by omega),Bool.false_eq_true,if_false];exact lp _
theorem SY(l:List av)(hl:l.length≤1000)(hR:∀s∈l,s.Rows=0)(b:aa)(c:Bool)(hb:10≤b.Node∧b.Node<10+(l.length:Int)):gP l b b.Kids c=some b:=by
 have hw:ab (b.Node-10)=b.Node-10:=cB (by omega) (by omega);have hin:aX (ab (b.Node-10)) l.length=true:=by rw[hw];exact db (by omega) (by omega)
 have hid:(⟨b.Kind,b.Node,b.Style,b.Text,b.Rows,b.Cols,b.Kids⟩:aa)=b:=by cases b;rfl
 have hr:(l.getD (ab (b.Node-10)).toNat default).Rows=0:=hR _ (fD (by rw[hw];omega));unfold gP;cases c with
 | false=>exact congrArg some hid
 | true =>
  simp only[hin,bg,hr];split
  ·rw[if_neg (by decide)];exact congrArg some hid
  ·exact congrArg some hid
mutual
theorem Dt(l:List av)(hl:l.length≤1000)(hR:∀s∈l,s.Rows=0):∀(m:Nat) (b:aa) (lo:Int),bD b≤m→RB lo b→10≤lo→lo+(bD b:Int)≤10+(l.length:Int)→ip l m b=some b
 | 0,b,_,h,_,_,_=>by have:=eO b;omega
 | m+1,b,lo,h,hb,h10,hh=>by
  have hsz:=f8 b;obtain⟨hk,hn,hs,hl2,hc⟩:=iR hb;have e:jd (ip l m) b.Kids=some b.Kids:=by
   rcases hc with hc|hc
   ·exact J3 _ b.Kids hc.1
   ·exact H0 l hl hR m b.Kids (lo+1) (by omega) hc (by omega) (by omega)
  simp only[ip,e,Option.bind_some];exact SY l hl hR b _ (by omega)
theorem J3(f:aa→Option aa):∀(l:List aa),fc l→jd f l=some l
 | [],_=>rfl
 | k::r,h=>by
  have e:=J3 f r (fun q hq=>h q (List.mem_cons_of_mem _ hq));have h3:=h k List.mem_cons_self;have hne:¬ ((k.Kind == 1)=true):=by rw[h3];decide
  simp only[jd,if_neg hne,e,Option.bind_some]
theorem H0(l:List av)(hl:l.length≤1000)(hR:∀s∈l,s.Rows=0):∀(m:Nat) (ks:List aa) (lo:Int),cc ks≤m→eL lo ks→10≤lo→lo+(cc ks:Int)≤10+(l.length:Int)→jd (ip l m) ks=some ks
 | m,[],_,_,_,_,_=>rfl
 | m,k::r,lo,h,hb,h10,hh=>by
  simp only[cc]at h hh;simp only[eL]at hb;have hp:=eO k;have e1:=Dt l hl hR m k lo (by omega) hb.1 h10 (by omega);have e2:=H0 l hl hR m r (lo+(bD k:Int)) (by omega) hb.2 (by omega) (by omega);simp only[jd,e1,e2,Option.bind_some,ite_self]
end
theorem E3(K:Kn)(n:Nat)(l:List av)(h0:0<l.length)(hl:l.length≤20)(hn:l.length+2≤n)(hP:∀s∈l,Pl 90 s):∃b,lz K n l=some b∧bD b≤l.length∧RB 10 b:=by
 have hm:(l.map dj).length=l.length:=List.length_map _;have hP2:∀s∈l.map dj,jk s.Style∧s.Text.size≤90:=fun s hs=>by
  obtain⟨q,hq,rfl⟩:=List.mem_map.1 hs;exact⟨NK (hP q hq).1,by rw[Ss];exact(hP q hq).2.2⟩
 have hR2:∀s∈l.map dj,s.Rows=0:=fun s hs=>by
  obtain⟨q,hq,rfl⟩:=List.mem_map.1 hs;rw[UK];exact(hP q hq).2.1
 obtain⟨b,i',e1,e2,e3,e4,e5⟩:=Kf K n (l.map dj) (by omega) hP2 (by omega) n 0 (by omega) (by omega);have e5':RB 10 b:=by simpa using e5
 refine⟨b,?_,by omega,e5'⟩;unfold lz;have e1':gJ K n n (l.map dj) 0=some (b,((i':Nat):Int)):=e1;rw[cW (by omega) (by omega),bg,e1',Option.bind_some];exact Dt (l.map dj) (by omega) hR2 n b 10 (by omega) e5' (by omega) (by omega)
theorem Lj(K:Kn)(n:Nat)(l:List av)(c:di)(h0:0<l.length)(hl:l.length≤100)(ha:0≤c.At∧c.At<256)(hP:∀s∈l,Pl 60 s)(hc:Pl 60 c.Spec):∃l',rb K n l c=some l'∧0<l'.length∧l'.length≤l.length+1∧∀s∈l',Pl 90 s:=by
 have up:∀s∈l,Pl 90 s:=fun s hs=>⟨(hP s hs).1,(hP s hs).2.1,by have:=(hP s hs).2.2;omega⟩;have cup:Pl 90 c.Spec:=⟨hc.1,hc.2.1,by have:=hc.2.2;omega⟩;unfold rb;simp only[List.nil_append,List.length_nil,Nat.zero_add,List.length_singleton,List.length_append,List.length_cons];rw[cW (by omega) (by omega),bg];by_cases h2:(l.length:Int)<2
 ·rw[if_pos (decide_eq_true h2),db (by omega) (by omega),bg,cW (by omega) (by omega),bg];refine⟨_,rfl,by simp,by simp,fun s hs=>?_⟩;rcases List.mem_append.1 hs with hs|hs
  ·exact up s hs
  ·simp only[List.mem_cons,List.not_mem_nil,or_false]at hs;subst hs;exact⟨hc.1,rfl,Nat.zero_le _⟩
 ·have hd:¬ decide ((l.length:Int)<2)=true:=by simpa using h2
  rw[if_neg hd];have w1:ab ((l.length:Int)-1)=(l.length:Int)-1:=cB (by omega) (by omega);have w2:ab c.At=c.At:=cB (by omega) (by omega);have hm0:=Int.tmod_nonneg ((l.length:Int)-1) ha.1;have hm1:=Int.tmod_lt_of_pos c.At (show 0<(l.length:Int)-1 by omega);rw[w1,w2,cB (by omega) (by omega)];have hne:(((l.length:Int)-1) != 0)=true:=by simp[bne];omega
  rw[hne,bg,Option.bind_some];generalize hat:1+c.At.tmod ((l.length:Int)-1)=at_ at *;obtain⟨a,rfl⟩:∃a:Nat,at_=(a:Int):=⟨at_.toNat,by omega⟩;have ha1:1≤a:=by omega
  have ha2:a<l.length:=by omega
  have w3:ab ((a:Int)+1)=((a+1:Nat):Int):=eh (by omega);have hla:=hP _ (fD (L:=l) (i:=((a:Nat):Int).toNat) (by simpa using ha2));simp only[dP ha2,bg,Option.bind_some,sU,w3];split
  ·refine⟨_,rfl,by simp;omega,by simp,fun s hs=>?_⟩;rcases List.mem_or_eq_of_mem_set hs with hs|hs
   ·exact up s hs
   ·subst hs;exact⟨hc.1,hla.2.1,by have:=hc.2.2;show c.Spec.Text.size≤90;omega⟩
  ·split
   ·have h1:(⟨#[120]⟩:ByteArray).size=1:=rfl;have hs:pk (l.getD ((a:Nat):Int).toNat default).Text (⟨#[120]⟩:ByteArray)=true:=by
     unfold pk;have:=hla.2.2;rw[h1];exact decide_eq_true (by omega)
    rw[hs,bg];refine⟨_,rfl,by simp;omega,by simp,fun s hs=>?_⟩;rcases List.mem_or_eq_of_mem_set hs with hs|hs
    ·exact up s hs
    ·subst hs;refine⟨hla.1,hla.2.1,?_⟩;have:=hla.2.2;show((l.getD ((a:Nat):Int).toNat default).Text++(⟨#[120]⟩:ByteArray)).size≤90;rw[ByteArray.size_append,h1];omega
   ·split
    ·rw[wg (by omega) (by omega) (by omega),bg,wg (by omega) (by omega) (by omega),bg];simp only[Int.toNat_natCast,show(0:Int).toNat=0 from rfl,Nat.sub_zero];have hb:(Nat.ble 1 a&&(Nat.ble a (a+1)&&Nat.ble (a+1+(l.length-(a+1))) l.length))=true:=by
      simp only[Bool.and_eq_true];exact⟨Nat.ble_eq_true_of_le ha1,Nat.ble_eq_true_of_le (by omega),Nat.ble_eq_true_of_le (by omega)⟩
     rw[hb,bg];refine⟨_,rfl,by rw[List.length_append,List.length_take];omega,by rw[List.length_append,List.length_take,List.length_take,List.length_drop];omega,fun s hs=>up s ?_⟩;rcases List.mem_append.1 hs with hs|hs
     ·exact List.mem_of_mem_take hs
     ·exact List.mem_of_mem_drop (List.mem_of_mem_take hs)
    ·rw[wg (by omega) (by omega) (by omega),bg];simp only[Int.toNat_natCast,show(0:Int).toNat=0 from rfl,List.drop_zero,List.length_take,List.length_drop];rw[cW (by omega) (by omega),bg,cW (by omega) (by omega),bg,wg (by omega) (by omega) (by omega),bg,cW (by omega) (by omega),bg];refine⟨_,rfl,by simp;omega,by simp;omega,fun s hs=>?_⟩;rcases List.mem_append.1 hs with hs|hs
     ·rcases List.mem_append.1 hs with hs|hs
      ·exact up s (List.mem_of_mem_take hs)
      ·simp only[List.mem_cons,List.not_mem_nil,or_false]at hs;subst hs;exact cup
     ·exact up s (List.mem_of_mem_take (List.mem_of_mem_drop hs))
end Go.Proofs.YtocgkfoifehcbaaGreat
namespace Go.Proofs.YtocgkfoifehcbaaGreat.QRelayoutFresh
set_option linter.all false
set_option maxRecDepth 20000
open Go.RowKit
theorem DH{α:Type}{L:List α}{i:Nat}(h:i<L.length)(x d:α):(L.set i x).getD i d=x:=by
 rw[List.getD_eq_getElem?_getD,List.getElem?_set_self h];rfl
theorem Sh(N:Nat)(hN:9400≤N)(c:di)(w:Int)(hat:0≤c.At∧c.At<256)(hct:c.Spec.Text.size≤60)(L:List av)(h0:0<L.length)(hl:L.length≤12)(hP:∀s∈L,Pl 60 s)(m:Nat):
  kj (KN (N+1)) (N+1) c w (m+1) (L.length:Int) ((L.length:Nat):Int) L=some true:=by
 simp only[kj,n9];rw[if_neg (by simp)];obtain⟨old,o1,o2,o3⟩:=E3 (KN (N+1)) (N+1) L h0 (by omega) (by omega) (fun s hs=>⟨(hP s hs).1,(hP s hs).2.1,by have:=(hP s hs).2.2;omega⟩);rw[o1,Option.bind_some];obtain⟨L2,a1,a2,a3,a4⟩:=Lj (KN (N+1)) (N+1) L ({ c with Spec:=({ c.Spec with Rows:=0,Style:=({ cS with Height:=c.Spec.Style.Height,LineHeight:=c.Spec.Style.LineHeight }:aJ) }:av) }:di) h0 (by omega) hat hP ⟨⟨rfl,rfl,rfl,rfl,rfl,rfl⟩,rfl,hct⟩;rw[a1,Option.bind_some];obtain⟨root,r1,r2,r3⟩:=E3 (KN (N+1)) (N+1) L2 a2 (by omega) (by omega) a4;rw[r1,Option.bind_some];obtain⟨F,out,e1,e2⟩:=Rs w N old root hN o3 r3 (by omega) (by omega) 0 0;rw[e1,Option.bind_some,Jk (bD old) (N+1) old 10 (Nat.le_refl _) (by omega) (by omega) o3,Option.bind_some];obtain⟨G,fr,us,out2,e3,e4⟩:=e2 ((dv old.Kids).length:Int) 0;simp only[bne_self_eq_false,Bool.false_eq_true,if_false,qi];rw[e3,Option.bind_some,CQ old (by omega) (bD root) (N+1) root 10 (Nat.le_refl _) (by omega) (by omega) r3,Option.bind_some]
 simp[e4]
theorem Tx(N:Nat)(hN:9400≤N)(c:di)(w:Int)(hat:0≤c.At∧c.At<256)(hct:c.Spec.Text.size≤60)(len:Nat)(h0:0<len)(hl:len≤12):∀(m i:Nat) (L:List av),L.length=len→i≤len→len<m+i→(∀s∈L,s.Text.size≤60)→(∀k,k<i→Pl 60 (L.getD k default)) →
  kj (KN (N+1)) (N+1) c w m (len:Int) ((i:Nat):Int) L=some true:=by
 intro m
 induction m with
 | zero=>intro i L _ _ h _ _;omega
 | succ m ih =>
  intro i L hL h1 h2 h3 h4;by_cases hi:i<len
  ·have hi':i<L.length:=by omega
   simp only[kj,n9];simp only[fw hi,if_true,Int.toNat_natCast,List.set_set,List.length_set,dP hi',bg,Option.bind_some,DH hi'];rw[eh (by omega)];have ht:=h3 _ (fD hi');refine ih (i+1) _ (by rw[List.length_set];exact hL) (by omega) (by omega) (fun s hs=>?_) (fun k hk=>?_)
   ·rcases List.mem_or_eq_of_mem_set hs with hs|hs
    ·exact h3 s hs
    ·subst hs;exact ht
   ·by_cases he:k=i
    ·subst he;rw[DH hi'];exact⟨⟨rfl,rfl,rfl,rfl,rfl,rfl⟩,rfl,ht⟩
    ·have hne:∀y:av,(L.set i y).getD k default=L.getD k default:=fun y=>by
      rw[List.getD_eq_getElem?_getD,List.getD_eq_getElem?_getD,List.getElem?_set_ne (fun h=>he h.symm)]
     rw[hne];exact h4 k (by omega)
  ·have e:i=len:=by omega
   subst e;have hP:∀s∈L,Pl 60 s:=fun s hs=>by
    obtain⟨k,hk,rfl⟩:=List.mem_iff_getElem.1 hs;have:=h4 k (by omega);rwa[cX hk]at this
   have:=Sh N hN c w hat hct L (by omega) (by omega) hP m;rw[hL]at this;exact this
theorem holds(x0:List av)(x1:di)(x2:Int)(h0:cr Tryz.prog 22 ((yf aA) x0))(h1:cr Tryz.prog 39 (dp x1)):∃n,tP (KN n) n x0 x1 x2=some true:=by
 obtain⟨l,hl,hm,_⟩:=h0.sl_inv Tryz.underlying22;simp only[yf,List.cons.injEq,AV.sl.injEq,and_true]at hl;have hlen:l.length=x0.length:=by rw[←hl,List.length_map]
 have hm':l.length≤9223372036854775807:=hm;have hat:0≤x1.At∧x1.At<256:=by
  have hg:=h1.gen;rw[Tryz.underlying39]at hg;obtain⟨parts,hcs,hl3,hp⟩:=hg;have hl3:parts.length=3:=hl3;obtain⟨p0,r0,e0,hl0⟩:=ce hl3;subst e0;obtain⟨n,rfl,hw⟩:=(hp 0 _ p0 rfl rfl).int_inv Tryz.underlying5;have e:(dp x1).head?=some (.int .u8 n):=by rw[hcs];rfl
  have e2:(dp x1).head?=some (.int .u8 x1.At):=by kernel_rfl
  rw[e2]at e;injection e with e;injection e with _ e
  rw[e];have:0≤n∧n≤255:=by simpa[Lit.wf,IntKind.min,IntKind.max,IntKind.signed,IntKind.bits]using hw
  omega
 refine⟨x0.length+20000+30,?_⟩;unfold tP;rw[LF (x0.length+20000),Option.bind_some];obtain⟨N,hN⟩:∃N,x0.length+20000+30=N+1:=⟨x0.length+20029,by omega⟩;rw[hN];obtain⟨b,e1,e2⟩:=VC (KN (N+1)) (N+1) x0 [x1] (by omega) (by simp) (by omega) (by simp;omega);rw[e1,Option.bind_some];cases b with
 | false=>rfl
 | true =>
  obtain⟨⟨f1,f2,_⟩,f3,f4⟩:=e2 rfl;simp only[Bool.not_true,Bool.false_eq_true,if_false,List.nil_append,List.length_nil,Nat.zero_add];rw[cW (by omega) (by omega),bg];have ht:x1.Spec.Text.size≤60:=by have:=(f4 x1 (by simp)).text;omega
  exact Tx N (by omega) x1 x2 hat ht x0.length f2 f1 (N+1) 0 x0 rfl (Nat.zero_le _) (by omega) (fun s hs=>by have:=(f3 s hs).text;omega) (fun k hk=>by omega)
end Go.Proofs.YtocgkfoifehcbaaGreat.QRelayoutFresh
