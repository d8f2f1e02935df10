/- Plain laws about the plain functions: words for all of them. No program in sight. -/
import Derived.Test.YtocgkfoifehcbaaGreatRcGf
import Derived.Test.YtocgkfoifehcbaaGreatRcGop
namespace Go.Proofs.YtocgkfoifehcbaaGreat
set_option linter.all false
open Go.RowKit
theorem jS{n:Int}(h1 : -9223372036854775808≤n)(h2:n≤9223372036854775807):aa n=n:=by
 unfold aa;rw[IntKind.wrap_i64];omega
theorem cT{α:Type}(x:Option α):az true x=x:=rfl
theorem qI{i:Int}{n:Nat}(h0:0≤i)(h1:i<n):aG i n=true:=by simp[aG,h0,h1]
theorem zL{α:Type}[Inhabited α]{L:List α}{k:Nat}(h:k<L.length):L.getD k default=L[k]:=by simp[List.getD_eq_getElem?_getD,List.getElem?_eq_getElem h]
theorem g9{n b:Nat}(h:n*b≤140737488355328)(hb:0<b):fits n b=true:=by
 have h1:n≤n*b:=Nat.le_mul_of_pos_right n hb;have h2:n≤9223372036854775807:=by omega
 simp only[fits,Bool.and_eq_true,decide_eq_true_eq];exact⟨h2,h⟩
end Go.Proofs.YtocgkfoifehcbaaGreat
namespace Go.Proofs.YtocgkfoifehcbaaGreat
set_option linter.all false
open Go.RowKit
mutual
/-- How many boxes. -/
def bX:ah→Nat
 | ⟨_,_,_,_,_,_,ks⟩=>cO ks+1
def cO:List ah→Nat
 | []=>0
 | b::r=>bX b+cO r
end
theorem jx(b:ah):bX b=cO b.Kids+1:=by cases b;simp only[bX]
theorem jC(b:ah):1≤bX b:=by rw[jx];omega
theorem Hh:∀{l:List ah} {b:ah},b∈l→bX b≤cO l
 | [],b,h=>by cases h
 | c::r,b,h=>by
  simp only[cO];rcases List.mem_cons.1 h with rfl|h
  ·omega
  ·have:=Hh h;omega
theorem Aj:∀(l:List ah),l.length≤cO l
 | []=>Nat.le_refl _
 | c::r=>by simp only[cO,List.length_cons];have:=Aj r;have:=jC c;omega
theorem C5:∀(l m:List ah),cO (l++m)=cO l+cO m
 | [],m=>by simp[cO]
 | c::r,m=>by simp only[List.cons_append,cO,C5 r m];omega
theorem kF{b k:ah}(h:k∈b.Kids):bX k<bX b:=by rw[jx b];have:=Hh h;omega
theorem l3(b:ah):b.Kids.length<bX b:=by rw[jx];have:=Aj b.Kids;omega
def m8(a b:ah):Bool:=(a.Kind == b.Kind)&&((a.Node == b.Node)&&((kx a.Style b.Style)&&((a.Text.toList == b.Text.toList)&&((a.Rows == b.Rows)&&(a.Cols == b.Cols)))))
mutual
def eB:ah→ah→Bool
 | ⟨k,n,s,t,r,c,ks⟩,b=>m8 ⟨k,n,s,t,r,c,[]⟩ b&&eR ks b.Kids
def eR:List ah→List ah→Bool
 | [],[]=>true
 | a::r,b::q=>eB a b&&eR r q
 | _,_=>false
end
theorem Cg(a b:ah):eB a b=(m8 a b&&eR a.Kids b.Kids):=by cases a;simp only[eB];rfl
theorem EN:∀{l m:List ah},eR l m=true→l.length=m.length
 | [],[],_=>rfl
 | a::r,b::q,h=>by simp only[eR,Bool.and_eq_true]at h;simp[EN h.2]
 | [],_::_,h=>by cases h
 | _::_,[],h=>by cases h
theorem Rl(x:cE):eK x x=true:=by simp[eK]
theorem Xo(x:aX):kx x x=true:=by simp[kx,Rl]
theorem SP(a:ah):m8 a a=true:=by simp[m8,Xo]
mutual
theorem rA:∀a:ah,eB a a=true
 | ⟨k,n,s,t,r,c,ks⟩=>by
  rw[Cg,SP,Bool.true_and];exact Jk ks
theorem Jk:∀l:List ah,eR l l=true
 | []=>rfl
 | a::r=>by simp only[eR,rA a,Jk r,Bool.and_self]
end
theorem fX{i:Nat}(h:i<1000000000):aa ((i:Int)+1)=((i+1:Nat):Int):=by rw[jS (by omega) (by omega)];omega
theorem fa{i n:Nat}(h:i<n):aG ((i:Nat):Int) n=true:=qI (by omega) (by omega)
theorem gx{i n:Nat}(h:i<n):decide (((i:Nat):Int)<((n:Nat):Int))=true:=decide_eq_true (by omega)
theorem gP{i n:Nat}(h:n≤i):decide (((i:Nat):Int)<((n:Nat):Int))=false:=decide_eq_false (by omega)
theorem gN{α:Type}[Inhabited α]{L:List α}{k:Nat}(h:k<L.length):L.getD ((k:Nat):Int).toNat default=L[k]:=by rw[Int.toNat_natCast];exact zL h
theorem Hs{l m:List ah}{i:Nat}(h1:i<l.length)(h2:i<m.length):eR (l.drop i) (m.drop i)=(eB l[i] m[i]&&eR (l.drop (i+1)) (m.drop (i+1))):=by
 rw[List.drop_eq_getElem_cons h1,List.drop_eq_getElem_cons h2];simp only[eR]
theorem XU(K:Kn)(n:Nat)(a b:ah)(hl:a.Kids.length=b.Kids.length)(hs:a.Kids.length<1000000)(hk:∀k∈a.Kids,∀q,K.mQ k q=some (eB k q)):∀(m i:Nat),i≤a.Kids.length→a.Kids.length<m+i →
  mN K n a b m i=some (eR (a.Kids.drop i) (b.Kids.drop i)):=by
 intro m
 induction m with
 | zero=>intro i h1 h2;omega
 | succ m ih =>
  intro i h1 h2;simp only[mN,qq];by_cases hi:i<a.Kids.length
  ·simp only[gx hi,if_true,fa hi,fa (show i<b.Kids.length by omega),cT,gN hi,gN (show i<b.Kids.length by omega),hk _ (List.getElem_mem hi),Option.bind_some];rw[Hs hi (by omega)];cases h:eB a.Kids[i] b.Kids[i] with
   | false=>simp
   | true =>
    simp only[Bool.not_true,Bool.false_eq_true,if_false,Bool.true_and];rw[fX (by omega)];exact ih (i+1) (by omega) (by omega)
  ·simp only[gP (show a.Kids.length≤i by omega),Bool.false_eq_true,if_false];rw[List.drop_eq_nil_of_le (by omega),List.drop_eq_nil_of_le (by omega)];rfl
theorem E7:∀(s N:Nat) (a b:ah),bX a≤s→s<1000000→s+2≤N→ke (KN N) N a b=some (eB a b)
 | 0,_,a,_,h,_,_=>by have:=jC a;omega
 | s+1,0,_,_,_,_,h=>by omega
 | s+1,N+1,a,b,h1,h2,h3=>by
  have hkid:∀k∈a.Kids,∀q,(KN (N+1)).mQ k q=some (eB k q):=fun k hk q=>E7 s N k q (by have:=kF hk;omega) (by omega) (by omega);have hlen:=l3 a;have jt:f9 (KN (N+1)) (N+1) a b true=some false:=rfl;have jf:a.Kids.length=b.Kids.length→f9 (KN (N+1)) (N+1) a b false=some (eR a.Kids b.Kids):=fun hl=>by
   have:=XU (KN (N+1)) (N+1) a b hl (by omega) hkid (N+1) 0 (Nat.zero_le _) (by omega);simpa[f9]using this
  unfold ke;rw[Cg];unfold m8;cases c1:(a.Kind == b.Kind) with
  | false=>simp[bne,c1,jt]
  | true =>
  cases c2:(a.Node == b.Node) with
  | false=>simp[bne,c1,c2,jt]
  | true =>
  cases c3:(kx a.Style b.Style) with
  | false=>simp[bne,c1,c2,jt]
  | true =>
  cases c4:(a.Text.toList == b.Text.toList) with
  | false=>simp[bne,c1,c2,jt]
  | true =>
  cases c5:(a.Rows == b.Rows) with
  | false=>simp[bne,c1,c2,c5,jt]
  | true =>
  cases c6:(a.Cols == b.Cols) with
  | false=>simp[bne,c1,c2,c5,c6,jt]
  | true =>
   simp only[bne,c1,c2,c5,c6,Bool.not_true,Bool.false_eq_true,if_false,Bool.true_and];by_cases hl:a.Kids.length=b.Kids.length
   ·have:(((a.Kids.length:Nat):Int) == ((b.Kids.length:Nat):Int))=true:=by rw[hl];simp
    rw[this,Bool.not_true,jf hl]
   ·have:(((a.Kids.length:Nat):Int) == ((b.Kids.length:Nat):Int))=false:=by simp;omega
    rw[this,Bool.not_false,jt];cases he:eR a.Kids b.Kids with
    | false=>rfl
    | true=>exact absurd (EN he) hl
theorem WV(K:Kn)(n:Nat)(l q:List ah)(hl:l.length=q.length)(hs:l.length<1000000)(hk:∀k∈l,∀p,K.j6 (Fv.fn 27) k p=some (eB k p)):∀(m i:Nat),i≤l.length→l.length<m+i →
  nf K n l q (Fv.fn 27) m i=some (eR (l.drop i) (q.drop i)):=by
 intro m
 induction m with
 | zero=>intro i h1 h2;omega
 | succ m ih =>
  intro i h1 h2;simp only[nf,pH];by_cases hi:i<l.length
  ·simp only[gx hi,if_true,fa hi,fa (show i<q.length by omega),cT,gN hi,gN (show i<q.length by omega),hk _ (List.getElem_mem hi),Option.bind_some];rw[Hs hi (by omega)];cases h:eB l[i] q[i] with
   | false=>simp
   | true =>
    simp only[Bool.not_true,Bool.false_eq_true,if_false,Bool.true_and];rw[fX (by omega)];exact ih (i+1) (by omega) (by omega)
  ·simp only[gP (show l.length≤i by omega),Bool.false_eq_true,if_false];rw[List.drop_eq_nil_of_le (by omega),List.drop_eq_nil_of_le (by omega)];rfl
theorem Pd(K:Kn)(n:Nat)(l q:List ah)(hs:l.length<1000000)(hn:l.length<n)(hk:∀k∈l,∀p,K.j6 (Fv.fn 27) k p=some (eB k p)):pV K n l q (Fv.fn 27)=some (eR l q):=by
 unfold pV;by_cases hl:l.length=q.length
 ·have:(((l.length:Nat):Int) != ((q.length:Nat):Int))=false:=by rw[hl];simp
  rw[this];simpa using WV K n l q hl hs hk n 0 (Nat.zero_le _) (by omega)
 ·have:(((l.length:Nat):Int) != ((q.length:Nat):Int))=true:=by simp[bne];omega
  rw[this,if_pos rfl];cases he:eR l q with
  | false=>rfl
  | true=>exact absurd (EN he) hl
theorem xm:∀(s N:Nat) (a b:ah),bX a≤s→s<1000000→s+2≤N→gY (KN N) N a b=some (eB a b)
 | 0,_,a,_,h,_,_=>by have:=jC a;omega
 | s+1,0,_,_,_,_,h=>by omega
 | s+1,N+1,a,b,h1,h2,h3=>by
  have hkid:∀k∈a.Kids,∀q,(KN (N+1)).j6 (Fv.fn 27) k q=some (eB k q):=fun k hk q=>xm s N k q (by have:=kF hk;omega) (by omega) (by omega);have hlen:=l3 a;have he:=Pd (KN (N+1)) (N+1) a.Kids b.Kids (by omega) (by omega) hkid;unfold gY;rw[Cg,he];unfold m8;simp only[ic,Option.bind_some];cases c1:(a.Kind == b.Kind) with
  | false=>simp
  | true =>
  cases c2:(a.Node == b.Node) with
  | false=>simp
  | true =>
  cases c3:(kx a.Style b.Style) with
  | false=>simp
  | true =>
  cases c4:(a.Text.toList == b.Text.toList) with
  | false=>simp
  | true =>
  cases c5:(a.Rows == b.Rows) with
  | false=>simp
  | true =>
  cases c6:(a.Cols == b.Cols) with
  | false=>simp
  | true=>simp
end Go.Proofs.YtocgkfoifehcbaaGreat
namespace Go.Proofs.YtocgkfoifehcbaaGreat
set_option linter.all false
open Go.RowKit
mutual
/-- b is within a box. -/
def ew(b:ah):ah→Bool
 | ⟨k,n,s,t,r,c,ks⟩=>eB ⟨k,n,s,t,r,c,ks⟩ b||gj b ks
def gj(b:ah):List ah→Bool
 | []=>false
 | k::r=>ew b k||gj b r
end
theorem pq(b a:ah):ew b a=(eB a b||gj b a.Kids):=by cases a;simp only[ew]
theorem NX{b:ah}{l:List ah}{i:Nat}(h:i<l.length):gj b (l.drop i)=(ew b l[i]||gj b (l.drop (i+1))):=by
 rw[List.drop_eq_getElem_cons h];simp only[gj]
theorem PT(K:Kn)(n:Nat)(a b:ah)(hs:a.Kids.length<1000000)(hk:∀k∈a.Kids,K.nj k b=some (ew b k)):∀(m i:Nat),i≤a.Kids.length→a.Kids.length<m+i →
  nE K n a b m i=some (gj b (a.Kids.drop i)):=by
 intro m
 induction m with
 | zero=>intro i h1 h2;omega
 | succ m ih =>
  intro i h1 h2;simp only[nE,ob];by_cases hi:i<a.Kids.length
  ·simp only[gx hi,if_true,fa hi,cT,gN hi,hk _ (List.getElem_mem hi),Option.bind_some];rw[NX hi];cases h:ew b a.Kids[i] with
   | true=>simp
   | false =>
    simp only[Bool.false_eq_true,if_false,Bool.false_or];rw[fX (by omega)];exact ih (i+1) (by omega) (by omega)
  ·simp only[gP (show a.Kids.length≤i by omega),Bool.false_eq_true,if_false];rw[List.drop_eq_nil_of_le (by omega)];rfl
theorem DN:∀(s N:Nat) (a b:ah),bX a≤s→s<1000000→s+2≤N→ls (KN N) N a b=some (ew b a)
 | 0,_,a,_,h,_,_=>by have:=jC a;omega
 | s+1,0,_,_,_,_,h=>by omega
 | s+1,N+1,a,b,h1,h2,h3=>by
  have hkid:∀k∈a.Kids,(KN (N+1)).nj k b=some (ew b k):=fun k hk=>DN s N k b (by have:=kF hk;omega) (by omega) (by omega);have hlen:=l3 a;unfold ls;rw[E7 (s+1) (N+1) a b h1 h2 h3,Option.bind_some,pq];cases h:eB a b with
  | true=>simp
  | false =>
   simp only[Bool.false_eq_true,if_false,Bool.false_or];simpa using PT (KN (N+1)) (N+1) a b (by omega) hkid (N+1) 0 (Nat.zero_le _) (by omega)
theorem R9(K:Kn)(n:Nat)(l:List ah)(b:ah)(hs:l.length<1000000)(hk:∀k∈l,K.mF (Fv.c65 b) k=some (ew b k)):∀(m i:Nat),i≤l.length→l.length<m+i →
  ∃r,kL K n l (Fv.c65 b) m i=some r∧decide (r≥0)=gj b (l.drop i):=by
 intro m
 induction m with
 | zero=>intro i h1 h2;omega
 | succ m ih =>
  intro i h1 h2;simp only[kL,n6];by_cases hi:i<l.length
  ·simp only[gx hi,if_true,fa hi,cT,gN hi,hk _ (List.getElem_mem hi),Option.bind_some];rw[NX hi];cases h:ew b l[i] with
   | true=>exact⟨_,rfl,by simp⟩
   | false =>
    simp only[Bool.false_eq_true,if_false,Bool.false_or];rw[fX (by omega)];exact ih (i+1) (by omega) (by omega)
  ·simp only[gP (show l.length≤i by omega),Bool.false_eq_true,if_false];rw[List.drop_eq_nil_of_le (by omega)];exact⟨_,rfl,rfl⟩
theorem ta:∀(s N:Nat) (a b:ah),bX a≤s→s<100000→2*s+4≤N→hJ (KN N) N a b=some (ew b a)
 | 0,_,a,_,h,_,_=>by have:=jC a;omega
 | s+1,0,_,_,_,_,h=>by omega
 | s+1,1,_,_,_,_,h=>by omega
 | s+1,N+2,a,b,h1,h2,h3=>by
  have hkid:∀k∈a.Kids,(KN (N+2)).mF (Fv.c65 b) k=some (ew b k):=fun k hk=>by
   show oU (KN (N+1)) (N+1) k b=_;unfold oU;show(hJ (KN N) N k b).bind _=_;rw[ta s N k b (by have:=kF hk;omega) (by omega) (by omega)];rfl
  have hlen:=l3 a;unfold hJ;rw[xm (s+1) (N+2) a b h1 (by omega) (by omega),Option.bind_some,pq];simp only[qt];cases h:eB a b with
  | true=>simp
  | false =>
   simp only[Bool.false_eq_true,if_false,Bool.false_or];unfold py uA;obtain⟨r,e1,e2⟩:=R9 (KN (N+2)) (N+2) a.Kids b (by omega) hkid (N+2) 0 (Nat.zero_le _) (by omega);have e1':kL (KN (N+2)) (N+2) a.Kids (Fv.c65 b) (N+2) 0=some r:=e1;rw[e1'];simp only[Option.bind_some,e2,List.drop_zero]
def iS(old b:ah)(out:List Int):List Int:=if (b.Node != 0&&(!(out.contains b.Node)&&!(ew b old)))=true then out++[b.Node] else out
mutual
def eA(old:ah):ah→List Int→List Int
 | ⟨k,n,s,t,r,c,ks⟩,out=>fw old ks (iS old ⟨k,n,s,t,r,c,ks⟩ out)
def fw(old:ah):List ah→List Int→List Int
 | [],out=>out
 | b::r,out=>fw old r (eA old b out)
end
theorem vL(old b:ah)(out:List Int):eA old b out=fw old b.Kids (iS old b out):=by cases b;simp only[eA]
theorem ZI(old b:ah)(out:List Int):(iS old b out).length≤out.length+1:=by unfold iS;split<;>simp
mutual
theorem vX(old:ah):∀(b:ah) (out:List Int),(eA old b out).length≤out.length+bX b
 | ⟨k,n,s,t,r,c,ks⟩,out=>by
  rw[vL];have h1:=MY old ks (iS old ⟨k,n,s,t,r,c,ks⟩ out);have h2:=ZI old ⟨k,n,s,t,r,c,ks⟩ out;simp only[bX];omega
theorem MY(old:ah):∀(l:List ah) (out:List Int),(fw old l out).length≤out.length+cO l
 | [],out=>by simp[fw,cO]
 | b::r,out=>by
  simp only[fw,cO];have h1:=MY old r (eA old b out);have h2:=vX old b out;omega
end
theorem M2{old:ah}{l:List ah}{i:Nat}(h:i<l.length)(out:List Int):fw old (l.drop i) out=fw old (l.drop (i+1)) (eA old l[i] out):=by
 rw[List.drop_eq_getElem_cons h];simp only[fw]
theorem Ri(K:Kn)(n:Nat)(l:List Int)(x:Int)(hs:l.length<1000000):∀(m i:Nat),i≤l.length→l.length<m+i →
  ∃r,ld K n l x m i=some r∧decide (r≥0)=(l.drop i).contains x:=by
 intro m
 induction m with
 | zero=>intro i h1 h2;omega
 | succ m ih =>
  intro i h1 h2;simp only[ld,qz];by_cases hi:i<l.length
  ·simp only[gx hi,if_true,fa hi,cT,gN hi];rw[List.drop_eq_getElem_cons hi,List.contains_cons];cases h:(x == l[i]) with
   | true=>exact⟨_,rfl,by simp⟩
   | false =>
    simp only[Bool.false_eq_true,if_false,Bool.false_or];rw[fX (by omega)];exact ih (i+1) (by omega) (by omega)
  ·simp only[gP (show l.length≤i by omega),Bool.false_eq_true,if_false];rw[List.drop_eq_nil_of_le (by omega)];exact⟨_,rfl,rfl⟩
theorem YI(K:Kn)(n:Nat)(l:List Int)(x:Int)(hs:l.length<1000000)(hn:l.length<n):nZ K n l x=some (l.contains x):=by
 obtain⟨r,e1,e2⟩:=Ri K n l x hs n 0 (Nat.zero_le _) (by omega);unfold nZ uu;have e1':ld K n l x n 0=some r:=e1;rw[e1'];simp only[Option.bind_some,e2,List.drop_zero]
theorem OL(K:Kn)(n:Nat)(b old:ah)(B:Nat)(hs:b.Kids.length<1000000)(hk:∀k∈b.Kids,∀out:List Int,out.length+bX k≤B→K.l8 k old out=some (old,eA old k out)):∀(m i:Nat) (out:List Int),i≤b.Kids.length→b.Kids.length<m+i→out.length+cO (b.Kids.drop i)≤B →
  l5 K n b m i old out=some (old,fw old (b.Kids.drop i) out):=by
 intro m
 induction m with
 | zero=>intro i out h1 h2;omega
 | succ m ih =>
  intro i out h1 h2 hB;simp only[l5,nS];by_cases hi:i<b.Kids.length
  ·have hd:cO (b.Kids.drop i)=bX b.Kids[i]+cO (b.Kids.drop (i+1)):=by rw[List.drop_eq_getElem_cons hi];simp only[cO]
   have hc:=vX old b.Kids[i] out;simp only[gx hi,if_true,fa hi,cT,gN hi];rw[hk _ (List.getElem_mem hi) out (by omega),Option.bind_some,M2 hi,fX (by omega)];exact ih (i+1) (eA old b.Kids[i] out) (by omega) (by omega) (by omega)
  ·simp only[gP (show b.Kids.length≤i by omega),Bool.false_eq_true,if_false];rw[List.drop_eq_nil_of_le (by omega)];rfl
theorem Mc(old:ah)(ho:bX old<100000)(B:Nat)(hB:B<100000):∀(s N:Nat) (b:ah) (out:List Int),bX b≤s→s<100000→out.length+bX b≤B→s+2*bX old+B+5≤N→m7 (KN N) N b old out=some (old,eA old b out)
 | 0,_,b,_,h,_,_,_=>by have:=jC b;omega
 | s+1,0,_,_,_,_,_,h=>by omega
 | s+1,N+1,b,out,h1,h2,hb,h3=>by
  have hkid:∀k∈b.Kids,∀out:List Int,out.length+bX k≤B→(KN (N+1)).l8 k old out=some (old,eA old k out):=fun k hk out ho'=>Mc old ho B hB s N k out (by have:=kF hk;omega) (by omega) ho' (by omega);have hlen:=l3 b;have hsz:=jx b;have hl:∀o:List Int,o.length+cO b.Kids≤B→mh (KN (N+1)) (N+1) b old o=some (old,fw old b.Kids o):=fun o hbo=>by
   have:=OL (KN (N+1)) (N+1) b old B (by omega) hkid (N+1) 0 o (Nat.zero_le _) (by omega) (by simpa using hbo);simpa[mh]using this
  unfold m7;rw[YI _ _ out b.Node (by omega) (by omega),ta (bX old) (N+1) old b (Nat.le_refl _) ho (by omega),vL];simp only[mB,Option.bind_some];unfold iS;have hfit:fits (out.length+([b.Node]:List Int).length) 8=true:=g9 (by simp only[List.length_singleton];omega) (by omega);cases c1:(b.Node != 0) with
  | false=>simp[hl out (by omega)]
  | true =>
   cases c2:out.contains b.Node with
   | true=>simp[hl out (by omega)]
   | false =>
    cases c3:ew b old with
    | true=>simp[hl out (by omega)]
    | false =>
     simp only[Bool.not_false,if_true,Bool.and_self,hfit,cT];exact hl _ (by simp only[List.length_append,List.length_singleton];omega)
theorem NH(old root:ah)(N:Nat)(h1:bX old<30000)(h2:bX root<30000)(h3:2*bX root+2*bX old+5≤N):nt (KN N) N old root=some (eA old root []):=by
 unfold nt;rw[Mc old (by omega) (bX root) (by omega) (bX root) N root [] (Nat.le_refl _) (by omega) (by simp) (by omega)];rfl
theorem RD(K:Kn)(n:Nat)(old b:ah)(B:Nat)(hs:b.Kids.length<1000000)(hk:∀k∈b.Kids,∀out:List Int,out.length+bX k≤B→K.lP old k out=some (eA old k out)):∀(m i:Nat) (out:List Int),i≤b.Kids.length→b.Kids.length<m+i→out.length+cO (b.Kids.drop i)≤B →
  ml K n old b m i out=some (fw old (b.Kids.drop i) out):=by
 intro m
 induction m with
 | zero=>intro i out h1 h2;omega
 | succ m ih =>
  intro i out h1 h2 hB;simp only[ml,qF];by_cases hi:i<b.Kids.length
  ·have hd:cO (b.Kids.drop i)=bX b.Kids[i]+cO (b.Kids.drop (i+1)):=by rw[List.drop_eq_getElem_cons hi];simp only[cO]
   have hc:=vX old b.Kids[i] out;simp only[gx hi,if_true,fa hi,cT,gN hi];rw[hk _ (List.getElem_mem hi) out (by omega),Option.bind_some,M2 hi,fX (by omega)];exact ih (i+1) (eA old b.Kids[i] out) (by omega) (by omega) (by omega)
  ·simp only[gP (show b.Kids.length≤i by omega),Bool.false_eq_true,if_false];rw[List.drop_eq_nil_of_le (by omega)];rfl
theorem VP(K:Kn)(n:Nat)(old b:ah)(out:List Int)(hs:out.length<1000000):∀(m i:Nat) (v:Bool),i≤out.length→out.length<m+i →
  lC K n old b out m v i=(if (v&&!((out.drop i).contains b.Node))=true then az (fits (out.length+([b.Node]:List Int).length) 8) (iX K n old b (out++[b.Node])) else iX K n old b out):=by
 intro m
 induction m with
 | zero=>intro i v h1 h2;omega
 | succ m ih =>
  intro i v h1 h2;simp only[lC,nT];by_cases hi:i<out.length
  ·simp only[gx hi,if_true,fa hi,cT,gN hi,Option.bind_some,oo];rw[List.drop_eq_getElem_cons hi,List.contains_cons,fX (by omega)];cases h:(out[i] == b.Node) with
   | true =>
    have h':(b.Node == out[i])=true:=by simp at h⊢;exact h.symm
    simp only[if_true,h',Bool.true_or,Bool.not_true,Bool.and_false];rw[ih (i+1) false (by omega) (by omega)];simp
   | false =>
    have h':(b.Node == out[i])=false:=by simp at h⊢;exact fun e=>h e.symm
    simp only[Bool.false_eq_true,if_false,h',Bool.false_or];exact ih (i+1) v (by omega) (by omega)
  ·simp only[gP (show out.length≤i by omega),Bool.false_eq_true,if_false];rw[List.drop_eq_nil_of_le (by omega)];simp
theorem FU(old:ah)(ho:bX old<100000)(B:Nat)(hB:B<100000):∀(s N:Nat) (b:ah) (out:List Int),bX b≤s→s<100000→out.length+bX b≤B→s+2*bX old+B+5≤N→kV (KN N) N old b out=some (eA old b out)
 | 0,_,b,_,h,_,_,_=>by have:=jC b;omega
 | s+1,0,_,_,_,_,_,h=>by omega
 | s+1,N+1,b,out,h1,h2,hb,h3=>by
  have hkid:∀k∈b.Kids,∀out:List Int,out.length+bX k≤B→(KN (N+1)).lP old k out=some (eA old k out):=fun k hk out ho'=>FU old ho B hB s N k out (by have:=kF hk;omega) (by omega) ho' (by omega);have hlen:=l3 b;have hsz:=jx b;have hl:∀o:List Int,o.length+cO b.Kids≤B→iX (KN (N+1)) (N+1) old b o=some (fw old b.Kids o):=fun o hbo=>by
   have:=RD (KN (N+1)) (N+1) old b B (by omega) hkid (N+1) 0 o (Nat.zero_le _) (by omega) (by simpa using hbo);simpa[iX]using this
  have hfit:fits (out.length+([b.Node]:List Int).length) 8=true:=g9 (by simp only[List.length_singleton];omega) (by omega);unfold kV;rw[DN (bX old) (N+1) old b (Nat.le_refl _) (by omega) (by omega),Option.bind_some,vL];unfold iS;have hf:=VP (KN (N+1)) (N+1) old b out (by omega) (N+1) 0 (b.Node != 0) (Nat.zero_le _) (by omega);simp only[List.drop_zero]at hf;have hf':lC (KN (N+1)) (N+1) old b out (N+1) (b.Node != 0) 0=_:=hf;cases c3:ew b old with
  | true=>simp[hl out (by omega)]
  | false =>
   simp only[Bool.not_false,if_true,Bool.and_true];rw[hf'];split
   ·rw[hfit,cT];exact hl _ (by simp only[List.length_append,List.length_singleton];omega)
   ·exact hl out (by omega)
mutual
theorem JN(old:ah):∀(b:ah) (out:List Int),(∀k,ew k b=true→ew k old=true)→eA old b out=out
 | ⟨k,n,s,t,r,c,ks⟩,out,h=>by
  rw[vL];have hb:=h ⟨k,n,s,t,r,c,ks⟩ (by rw[pq,rA,Bool.true_or]);have:iS old ⟨k,n,s,t,r,c,ks⟩ out=out:=by unfold iS;rw[hb];simp
  rw[this];exact Kt old ks out (fun q hq=>h q (by rw[pq];show(_||gj q ks)=true;rw[hq,Bool.or_true]))
theorem Kt(old:ah):∀(l:List ah) (out:List Int),(∀k,gj k l=true→ew k old=true)→fw old l out=out
 | [],out,_=>rfl
 | b::r,out,h=>by
  simp only[fw];rw[JN old b out (fun q hq=>h q (by simp only[gj,hq,Bool.true_or])),Kt old r out (fun q hq=>h q (by simp only[gj,hq,Bool.or_true]))]
end
end Go.Proofs.YtocgkfoifehcbaaGreat
namespace Go.Proofs.YtocgkfoifehcbaaGreat
set_option linter.all false
open Go.RowKit
section
variable(K:Kn)(n:Nat)
def eP(l:cE):Prop := -16777216≤l.Value∧l.Value≤16777216
theorem fc(l:cE):∃b,ed K n l=some b∧(b=true→eP l):=by
 unfold ed oI;by_cases h:l.Value ≥ -16777216
 ·simp only[h,decide_true,if_true];exact⟨_,rfl,fun e=>⟨h,of_decide_eq_true e⟩⟩
 ·simp only[h,decide_false,Bool.false_eq_true,if_false];exact⟨_,rfl,fun e=>by cases e⟩
structure k7(x:aM):Prop where
 text:(x.Text.size:Int)≤60
 left:eP x.Style.Left
 top:eP x.Style.Top
 width:eP x.Style.Width
 height:eP x.Style.Height
 minw:eP x.Style.MinWidth
 maxw:eP x.Style.MaxWidth
 basis:eP x.Style.Basis
 lh:0≤x.Style.LineHeight∧x.Style.LineHeight≤65536
 fs:0≤x.Style.FontSize∧x.Style.FontSize≤65536
 grow:0≤x.Style.Grow∧x.Style.Grow≤1048576
 shrink:0≤x.Style.Shrink∧x.Style.Shrink≤1048576
 m0:eP x.Style.Margin.a0
 m1:eP x.Style.Margin.a1
 m2:eP x.Style.Margin.a2
 m3:eP x.Style.Margin.a3
 p0:eP x.Style.Padding.a0
 p1:eP x.Style.Padding.a1
 p2:eP x.Style.Padding.a2
 p3:eP x.Style.Padding.a3
theorem WE(L:List aM)(m:Int)(L1:Int→Option Bool)(i:Int)(h0:0≤i)(hi:i<L.length):ji K n L m L1 i=some false∨(k7 (L.getD i.toNat default)∧ji K n L m L1 i=L1 (aa (i+1))):=by
 unfold ji;simp only[hi,decide_true,if_true,qI h0 hi,cT];generalize hx:L.getD i.toNat default=x;have j5:∀b,ng K n L m i L1 b=if b=true then some false else L1 (aa (i+1)):=fun b=>rfl;obtain⟨b1,e1,f1⟩:=fc K n x.Style.Left;obtain⟨b2,e2,f2⟩:=fc K n x.Style.Top;obtain⟨b3,e3,f3⟩:=fc K n x.Style.Width;obtain⟨b4,e4,f4⟩:=fc K n x.Style.Height;obtain⟨b5,e5,f5⟩:=fc K n x.Style.MinWidth;obtain⟨b6,e6,f6⟩:=fc K n x.Style.MaxWidth;obtain⟨b7,e7,f7⟩:=fc K n x.Style.Basis;obtain⟨c0,g0,k0⟩:=fc K n x.Style.Margin.a0;obtain⟨c1,g1,k1⟩:=fc K n x.Style.Margin.a1;obtain⟨c2,g2,k2⟩:=fc K n x.Style.Margin.a2;obtain⟨c3,g3,k3⟩:=fc K n x.Style.Margin.a3;obtain⟨d0,q0,r0⟩:=fc K n x.Style.Padding.a0;obtain⟨d1,q1,r1⟩:=fc K n x.Style.Padding.a1;obtain⟨d2,q2,r2⟩:=fc K n x.Style.Padding.a2;obtain⟨d3,q3,r3⟩:=fc K n x.Style.Padding.a3;have jt:dM K n L m i L1 true=some false:=rfl;have j1:dM K n L m i L1 false=some false∨((c0=true∧c1=true∧c2=true∧c3=true∧d0=true∧d1=true∧d2=true∧d3=true)∧dM K n L m i L1 false=L1 (aa (i+1))):=by
  simp only[dM,qH,qD,oa,ng,hx,g0,g1,g2,g3,q0,q1,q2,q3,Option.bind_some];cases c0<;>cases d0<;>cases c1<;>cases d1<;>cases c2<;>cases d2<;>cases c3<;>cases d3<;>simp
 simp only[e1,e2,e3,e4,e5,e6,e7,Option.bind_some,jt];by_cases t0:(x.Text.size:Int)>60
 ·left;simp[t0]
 simp only[t0,decide_false,Bool.false_eq_true,if_false];cases b1
 ·left;simp
 simp only[Bool.not_true,Bool.false_eq_true,if_false];cases b2
 ·left;simp
 simp only[Bool.not_true,Bool.false_eq_true,if_false];cases b3
 ·left;simp
 simp only[Bool.not_true,Bool.false_eq_true,if_false];cases b4
 ·left;simp
 simp only[Bool.not_true,Bool.false_eq_true,if_false];cases b5
 ·left;simp
 simp only[Bool.not_true,Bool.false_eq_true,if_false];cases b6
 ·left;simp
 simp only[Bool.not_true,Bool.false_eq_true,if_false];cases b7
 ·left;simp
 simp only[Bool.not_true,Bool.false_eq_true,if_false];by_cases u1:x.Style.LineHeight<0
 ·left;simp[u1]
 simp only[u1,decide_false,Bool.false_eq_true,if_false];by_cases u2:x.Style.LineHeight>65536
 ·left;simp[u2]
 simp only[u2,decide_false,Bool.false_eq_true,if_false];by_cases u3:x.Style.FontSize<0
 ·left;simp[u3]
 simp only[u3,decide_false,Bool.false_eq_true,if_false];by_cases u4:x.Style.FontSize>65536
 ·left;simp[u4]
 simp only[u4,decide_false,Bool.false_eq_true,if_false];by_cases u5:x.Style.Grow<0
 ·left;simp[u5]
 simp only[u5,decide_false,Bool.false_eq_true,if_false];by_cases u6:x.Style.Grow>1048576
 ·left;simp[u6]
 simp only[u6,decide_false,Bool.false_eq_true,if_false];by_cases u7:x.Style.Shrink<0
 ·left;simp[u7]
 simp only[u7,decide_false,Bool.false_eq_true,if_false];by_cases u8:x.Style.Shrink>1048576
 ·left;simp only[u8,decide_true];exact jt
 simp only[u8,decide_false];rcases j1 with h|⟨⟨a0,a1,a2,a3,p0,p1,p2,p3⟩,h⟩
 ·exact .inl h
 ·refine .inr ⟨⟨by omega,f1 rfl,f2 rfl,f3 rfl,f4 rfl,f5 rfl,f6 rfl,f7 rfl,⟨by omega,by omega⟩,⟨by omega,by omega⟩,⟨by omega,by omega⟩,⟨by omega,by omega⟩,k0 a0,k1 a1,k2 a2,k3 a3,r0 p0,r1 p1,r2 p2,r3 p3⟩,h⟩
theorem U7(L:List aM)(mx:Int)(hL:(L.length:Int)≤9223372036854775807):∀(m:Nat) (i:Int),0≤i→i≤L.length→(L.length:Int)<m+i →
  ∃b,kG K n L mx m i=some b∧(b=true→(L.length:Int)≤mx∧∀k,i.toNat≤k→k<L.length→k7 (L.getD k default)):=by
 intro m
 induction m with
 | zero=>intro i h0 h1 h2;omega
 | succ m ih =>
  intro i h0 h1 h2;show ∃b,ji K n L mx (kG K n L mx m) i=some b∧_;by_cases hi:i<(L.length:Int)
  ·rcases WE K n L mx (kG K n L mx m) i h0 hi with h|⟨h,h'⟩
   ·exact⟨false,h,fun e=>by cases e⟩
   ·obtain⟨b,hb,hk⟩:=ih (i+1) (by omega) (by omega) (by omega);rw[h',jS (by omega) (by omega)];refine⟨b,hb,fun e=>⟨(hk e).1,fun k h3 h4=>?_⟩⟩;by_cases e2:k=i.toNat
    ·subst e2;exact h
    ·exact(hk e).2 k (by omega) h4
  ·have hd:decide (i<(L.length:Int))=false:=by simpa using hi
   unfold ji;simp only[hd,Bool.false_eq_true,if_false];exact⟨_,rfl,fun e=>⟨of_decide_eq_true e,fun k h3 h4=>by omega⟩⟩
theorem GF(L:List aM)(mx:Int)(hL:(L.length:Int)≤9223372036854775807)(hn:L.length<n):∃b,om K n L mx=some b∧(b=true→(L.length:Int)≤mx∧∀x∈L,k7 x):=by
 obtain⟨b,h1,h2⟩:=U7 K n L mx hL n 0 (by omega) (by omega) (by omega);refine⟨b,h1,fun e=>⟨(h2 e).1,fun x hx=>?_⟩⟩;obtain⟨k,hk,rfl⟩:=List.mem_iff_getElem.1 hx;have:=(h2 e).2 k (by simp) hk;rwa[zL hk]at this
end
end Go.Proofs.YtocgkfoifehcbaaGreat
namespace Go.Proofs.YtocgkfoifehcbaaGreat
set_option linter.all false
open Go.RowKit
mutual
/-- The blocks' numbers are those of their descriptions. -/
def gd(L:Nat):ah→Prop
 | ⟨k,n,_,_,_,_,ks⟩=>k=1→((10≤n∧n<10+(L:Int))∧ib L ks)
def ib(L:Nat):List ah→Prop
 | []=>True
 | b::r=>gd L b∧ib L r
end
theorem VO{L:Nat}{b:ah}(h:gd L b)(hk:b.Kind=1):(10≤b.Node∧b.Node<10+(L:Int))∧ib L b.Kids:=by
 cases b;simp only[gd]at h;exact h hk
theorem z9{L:Nat}:∀{l m:List ah},ib L l→ib L m→ib L (l++m)
 | [],m,_,h=>h
 | b::r,m,h1,h2=>by simp only[List.cons_append,ib]at h1⊢;exact⟨h1.1,z9 h1.2 h2⟩
theorem OU(K:Kn)(n:Nat)(L:List aM)(hL:L.length≤1000)(a:Nat)(v3:Bool)(ih:v3=true→∀i,a<i→i<L.length→∃b i',K.gQ L ((i:Nat):Int)=some (b,((i':Nat):Int))∧i<i'∧i'≤L.length∧bX b≤i' - i∧gd L.length b∧b.Kind=1):
  ∀(m i:Nat) (acc:List ah),a<i→i≤L.length→L.length<m+i→cO acc+a<i→ib L.length acc →
   ∃b i',iC K n L ((a:Nat):Int) v3 m ((i:Nat):Int) acc=some (b,((i':Nat):Int))∧a<i'∧i'≤L.length∧bX b≤i' - a∧gd L.length b∧b.Kind=1:=by
 intro m
 induction m with
 | zero=>intro i acc _ h1 h2;omega
 | succ m ihm =>
  intro i acc h0 h1 h2 h3 hk;have hlen:=Aj acc;have stop:∃b i',jd K n L ((a:Nat):Int) v3 ((i:Nat):Int) acc (iC K n L ((a:Nat):Int) v3 m) false=some (b,((i':Nat):Int))∧a<i'∧i'≤L.length∧bX b≤i' - a∧gd L.length b∧b.Kind=1:=by
   simp only[jd,Bool.false_eq_true,if_false];refine⟨_,i,rfl,h0,h1,?_,?_,rfl⟩
   ·rw[jx];show cO acc+1≤i-a;omega
   ·simp only[gd];refine fun _=>⟨?_,hk⟩;rw[jS (by omega) (by omega)];omega
  simp only[iC,jG];by_cases hi:i<L.length
  ·simp only[gx hi,if_true,fa hi,cT];cases hd:decide ((L.getD ((i:Nat):Int).toNat default).Depth>(L.getD ((a:Nat):Int).toNat default).Depth) with
   | false=>exact stop
   | true =>
    simp only[jd,if_true];cases v3 with
    | true =>
     obtain⟨b,i',e1,e2,e3,e4,e5,e6⟩:=ih rfl i h0 hi;simp only[if_true,e1,Option.bind_some,List.length_cons,List.length_nil];rw[g9 (by omega) (by omega),cT];exact ihm i' (acc++[b]) (by omega) e3 (by omega) (by rw[C5];simp only[cO];omega) (z9 hk ⟨e5,trivial⟩)
    | false =>
     simp only[Bool.false_eq_true,if_false,fa hi,cT,List.length_cons,List.length_nil];rw[g9 (by omega) (by omega),cT,fX (by omega)];exact ihm (i+1) _ (by omega) (by omega) (by omega) (by rw[C5];simp only[cO,bX];show cO acc+(cO []+1+0)+a<i+1;simp only[cO];omega) (z9 hk ⟨(by simp only[gd];intro h;exact absurd h (by decide)),trivial⟩)
  ·simp only[gP (show L.length≤i by omega),Bool.false_eq_true,if_false];exact stop
theorem Hj(K:Kn)(n:Nat)(L:List aM)(hL:L.length≤1000)(hn:L.length+2≤n):∀(d a:Nat),a<L.length→L.length-a≤d→∃b i',gL K n d L ((a:Nat):Int)=some (b,((i':Nat):Int))∧a<i'∧i'≤L.length∧bX b≤i' - a∧gd L.length b∧b.Kind=1
 | 0,a,h1,h2=>by omega
 | d+1,a,h1,h2=>by
  have lp:∀v3:Bool,∃b i',iC { K with gQ:=gL K n d } n L ((a:Nat):Int) v3 n ((a+1:Nat):Int) []=some (b,((i':Nat):Int))∧a<i'∧i'≤L.length∧bX b≤i' - a∧gd L.length b∧b.Kind=1:=fun v3 =>
   OU { K with gQ:=gL K n d } n L hL a v3 (fun _ i h3 h4=>Hj K n L hL hn d i h4 (by omega)) n (a+1) [] (by omega) (by omega) (by omega) (by simp[cO]) trivial
  show ∃b i',jy { K with gQ:=gL K n d } n L ((a:Nat):Int)=some (b,((i':Nat):Int))∧_;unfold jy;simp only[fa h1,cT,fX (show a<1000000000 by omega),jM];by_cases hi:a+1<L.length
  ·simp only[gx hi,if_true,fa hi,cT];split
   ·exact lp _
   ·exact lp _
  ·simp only[gP (show L.length≤a+1 by omega),Bool.false_eq_true,if_false];exact lp _
theorem X5(l:List aM)(b:ah)(ks:List ah)(c:Bool)(hb:10≤b.Node∧b.Node<10+(l.length:Int))(hl:l.length≤1000):∃b',gJ l b ks c=some b'∧b'.Kids=ks∧(b'.Kind=b.Kind∨b'.Kind=6):=by
 have hw:aa (b.Node-10)=b.Node-10:=jS (by omega) (by omega);have hin:aG (aa (b.Node-10)) l.length=true:=by rw[hw];exact qI (by omega) (by omega)
 unfold gJ;cases c with
 | false=>exact⟨_,rfl,rfl,.inl rfl⟩
 | true =>
  simp only[hin,cT];split
  ·split
   ·exact⟨_,rfl,rfl,.inr rfl⟩
   ·exact⟨_,rfl,rfl,.inl rfl⟩
  ·exact⟨_,rfl,rfl,.inl rfl⟩
theorem Gs(L:Nat)(f:ah→Option ah):∀(l:List ah),ib L l→(∀k∈l,gd L k→k.Kind=1→∃k',f k=some k'∧bX k'=bX k)→∃m,mq f l=some m∧cO m=cO l
 | [],_,_=>⟨[],rfl,rfl⟩
 | k::r,h,hf=>by
  simp only[ib]at h;obtain⟨m,e1,e2⟩:=Gs L f r h.2 (fun q hq=>hf q (List.mem_cons_of_mem _ hq));have hk:∃k',(if (k.Kind == 1)=true then f k else some k)=some k'∧bX k'=bX k:=by
   split
   ·rename_i hk;exact hf k List.mem_cons_self h.1 (by simpa using hk)
   ·exact⟨k,rfl,rfl⟩
  obtain⟨k',e3,e4⟩:=hk;refine⟨k'::m,?_,by simp only[cO];omega⟩;simp only[mq,e3,e1,Option.bind_some]
theorem GK(l:List aM)(hl:l.length≤1000):∀(m:Nat) (b:ah),bX b≤m→gd l.length b→b.Kind=1→∃b',iH l m b=some b'∧bX b'=bX b
 | 0,b,h,_,_=>by have:=jC b;omega
 | m+1,b,h,hn,hk=>by
  obtain⟨h1,h2⟩:=VO hn hk;obtain⟨ks,e1,e2⟩:=Gs l.length (iH l m) b.Kids h2 (fun k hk2 h3 h4=>GK l hl m k (by have:=kF hk2;omega) h3 h4);obtain⟨b',e3,e4,_⟩:=X5 l b ks (b.Kids.any fun k=>k.Kind == 1) h1 hl;refine⟨b',?_,by rw[jx,jx b,e4,e2]⟩;simp only[iH,e1,e3,Option.bind_some]
theorem NQ(K:Kn)(n:Nat)(l:List aM)(h0:0<l.length)(hl:l.length≤1000)(hn:l.length+2≤n):∃b,j9 K n l=some b∧bX b≤l.length:=by
 have hm:(l.map eL).length=l.length:=List.length_map _;obtain⟨b,i',e1,e2,e3,e4,e5,e6⟩:=Hj K n (l.map eL) (by omega) (by omega) n 0 (by omega) (by omega);obtain⟨b',e7,e8⟩:=GK (l.map eL) (by omega) n b (by omega) (by rw[hm]at e5⊢;exact e5) e6;refine⟨b',?_,by omega⟩;unfold j9;have e1':gL K n n (l.map eL) 0=some (b,((i':Nat):Int)):=e1;rw[g9 (by omega) (by omega),cT,e1',Option.bind_some];exact e7
theorem sP{a b:Int}{n:Nat}(h0:0≤a)(h1:a≤b)(h2:b≤n):dh a b n=true:=by simp[dh,h0,h1,h2]
theorem Uv(K:Kn)(n:Nat)(l:List aM)(c:eo)(h0:0<l.length)(hl:l.length≤100)(ha:0≤c.At∧c.At<256)(ht:∀s∈l,s.Text.size≤1000000):∃l',px K n l c=some l'∧0<l'.length∧l'.length≤l.length+1:=by
 unfold px;simp only[List.nil_append,List.length_nil,Nat.zero_add,List.length_singleton,List.length_append,List.length_cons];rw[g9 (by omega) (by omega),cT];by_cases h2:(l.length:Int)<2
 ·rw[if_pos (decide_eq_true h2),qI (by omega) (by omega),cT,g9 (by omega) (by omega),cT];exact⟨_,rfl,by simp,by simp⟩
 ·have hd:¬ decide ((l.length:Int)<2)=true:=by simpa using h2
  rw[if_neg hd];have w1:aa ((l.length:Int)-1)=(l.length:Int)-1:=jS (by omega) (by omega);have w2:aa c.At=c.At:=jS (by omega) (by omega);have hm0:=Int.tmod_nonneg ((l.length:Int)-1) ha.1;have hm1:=Int.tmod_lt_of_pos c.At (show 0<(l.length:Int)-1 by omega);rw[w1,w2,jS (by omega) (by omega)];have hne:(((l.length:Int)-1) != 0)=true:=by simp[bne];omega
  rw[hne,cT,Option.bind_some];generalize hat:1+c.At.tmod ((l.length:Int)-1)=at_ at *;obtain⟨a,rfl⟩:∃a:Nat,at_=(a:Int):=⟨at_.toNat,by omega⟩;have ha1:1≤a:=by omega
  have ha2:a<l.length:=by omega
  have w3:aa ((a:Int)+1)=((a+1:Nat):Int):=fX (by omega);simp only[fa ha2,cT,Option.bind_some,pM,w3];split
  ·exact⟨_,rfl,by simp;omega,by simp⟩
  ·split
   ·have hs:mz (l.getD ((a:Nat):Int).toNat default).Text (⟨#[120]⟩:ByteArray)=true:=by
     rw[gN ha2];unfold mz;have:=ht l[a] (List.getElem_mem ha2);have h1:(⟨#[120]⟩:ByteArray).size=1:=rfl;rw[h1];exact decide_eq_true (by omega)
    rw[hs,cT];exact⟨_,rfl,by simp;omega,by simp⟩
   ·split
    ·rw[sP (by omega) (by omega) (by omega),cT,sP (by omega) (by omega) (by omega),cT];simp only[Int.toNat_natCast,show(0:Int).toNat=0 from rfl,Nat.sub_zero];have hb:(Nat.ble 1 a&&(Nat.ble a (a+1)&&Nat.ble (a+1+(l.length-(a+1))) l.length))=true:=by
      simp only[Bool.and_eq_true];exact⟨Nat.ble_eq_true_of_le ha1,Nat.ble_eq_true_of_le (by omega),Nat.ble_eq_true_of_le (by omega)⟩
     rw[hb,cT];exact⟨_,rfl,by rw[List.length_append,List.length_take];omega,by rw[List.length_append,List.length_take,List.length_take,List.length_drop];omega⟩
    ·rw[sP (by omega) (by omega) (by omega),cT];simp only[Int.toNat_natCast,show(0:Int).toNat=0 from rfl,List.drop_zero,List.length_take,List.length_drop];rw[g9 (by omega) (by omega),cT,g9 (by omega) (by omega),cT,sP (by omega) (by omega) (by omega),cT,g9 (by omega) (by omega),cT];exact⟨_,rfl,by simp;omega,by simp;omega⟩
theorem QI(K:Kn)(n:Nat)(l:List aM)(cs:List eo)(hl:l.length≤9223372036854775807)(hc:cs.length≤9223372036854775807)(hn:l.length<n)(hn1:1<n):∀(m:Nat) (i:Int),0≤i→i≤cs.length→(cs.length:Int)<m+i →
  ∃b,me K n l cs m i=some b∧(b=true→(l.length≤12∧0<l.length∧cs.length≤6)∧(∀s∈l,k7 s)∧∀k,i.toNat≤k→k<cs.length→k7 (cs.getD k default).Spec):=by
 intro m
 induction m with
 | zero=>intro i h0 h1 h2;omega
 | succ m ih =>
  intro i h0 h1 h2;simp only[me,oC];by_cases hi:i<(cs.length:Int)
  ·rw[if_pos (decide_eq_true hi),qI h0 hi,cT];obtain⟨b,e1,e2⟩:=GF K n [(cs.getD i.toNat default).Spec] 1 (by simp) (by simpa using hn1);rw[e1,Option.bind_some];cases b with
   | false=>exact⟨false,rfl,fun h=>by cases h⟩
   | true =>
    obtain⟨b2,e3,e4⟩:=ih (i+1) (by omega) (by omega) (by omega);rw[if_neg (by simp),jS (by omega) (by omega)];refine⟨b2,e3,fun h=>⟨(e4 h).1,(e4 h).2.1,fun k h3 h4=>?_⟩⟩;by_cases e:k=i.toNat
    ·subst e;exact(e2 rfl).2 _ (by simp)
    ·exact(e4 h).2.2 k (by omega) h4
  ·have hd:¬ decide (i<(cs.length:Int))=true:=by simpa using hi
   rw[if_neg hd];obtain⟨b,e1,e2⟩:=GF K n l 12 (by omega) hn;rw[e1,Option.bind_some];cases b with
   | false=>exact⟨false,rfl,fun h=>by cases h⟩
   | true =>
    simp only[if_true,lU];split
    ·rename_i hp;have hp:=of_decide_eq_true hp;refine⟨_,rfl,fun h=>⟨⟨by have:=(e2 rfl).1;omega,by omega,by have:=of_decide_eq_true h;omega⟩,(e2 rfl).2,fun k h3 h4=>by omega⟩⟩
    ·exact⟨false,rfl,fun h=>by cases h⟩
theorem Vr(K:Kn)(n:Nat)(l:List aM)(cs:List eo)(hl:l.length≤9223372036854775807)(hc:cs.length≤9223372036854775807)(hn:l.length<n)(hn1:cs.length+1<n):
  ∃b,yt K n l cs=some b∧(b=true→(l.length≤12∧0<l.length∧cs.length≤6)∧(∀s∈l,k7 s)∧∀c∈cs,k7 c.Spec):=by
 obtain⟨b,e1,e2⟩:=QI K n l cs hl hc hn (by omega) n 0 (by omega) (by omega) (by omega);refine⟨b,e1,fun h=>⟨(e2 h).1,(e2 h).2.1,fun c hc'=>?_⟩⟩;obtain⟨k,hk,rfl⟩:=List.mem_iff_getElem.1 hc';have:=(e2 h).2.2 k (by simp) hk;rwa[zL hk]at this
theorem RA(k:Nat):qZ (KN (k+30)) (k+30)=some true:=by kernel_rfl
end Go.Proofs.YtocgkfoifehcbaaGreat
namespace Go.Proofs.YtocgkfoifehcbaaGreat.QRelayoutChanged
set_option linter.all false
set_option maxRecDepth 20000
open Go.RowKit
theorem UT(old root:ah)(N:Nat)(h1:bX old<1000)(h2:bX root<1000)(hN:2*bX root+2*bX old+10≤N)(l:List Int)(hl:l.length<1000000):∀(m i:Nat),i≤l.length→l.length<m+i →
  nr (KN N) N old root l l m i=some true:=by
 intro m
 induction m with
 | zero=>intro i h1 h2;omega
 | succ m ih =>
  intro i g1 g2;simp only[nr,pA];by_cases hi:i<l.length
  ·simp only[gx hi,if_true,fa hi,cT,Option.bind_some,bne_self_eq_false,Bool.false_eq_true,if_false];rw[fX (by omega)];exact ih (i+1) (by omega) (by omega)
  ·simp only[gP (show l.length≤i by omega),Bool.false_eq_true,if_false];rw[xm (bX old) N old root (Nat.le_refl _) (by omega) (by omega),E7 (bX old) N old root (Nat.le_refl _) (by omega) (by omega),xm (bX old) N old old (Nat.le_refl _) (by omega) (by omega),
    ta (bX old) N old root (Nat.le_refl _) (by omega) (by omega),DN (bX old) N old root (Nat.le_refl _) (by omega) (by omega),ta (bX root) N root root (Nat.le_refl _) (by omega) (by omega)]
   simp only[Option.bind_some,beq_self_eq_true,if_true,rA,lK];rw[pq,rA,Bool.true_or]
theorem holds(x0:List aM)(x1:eo)(h0:cD Tryz.prog 22 ((zq aH) x0))(h1:cD Tryz.prog 39 (dP x1)):∃n,xL (KN n) n x0 x1=some true:=by
 obtain⟨l,hl,hm,_⟩:=h0.sl_inv Tryz.underlying22;simp only[zq,List.cons.injEq,AV.sl.injEq,and_true]at hl;have hlen:l.length=x0.length:=by rw[←hl,List.length_map]
 have hm':l.length≤9223372036854775807:=hm;have hat:0≤x1.At∧x1.At<256:=by
  have hg:=h1.gen;rw[Tryz.underlying39]at hg;obtain⟨parts,hcs,hl3,hp⟩:=hg;have hl3:parts.length=3:=hl3;obtain⟨p0,r0,e0,hl0⟩:=cv hl3;subst e0;obtain⟨n,rfl,hw⟩:=(hp 0 _ p0 rfl rfl).int_inv Tryz.underlying5;have e:(dP x1).head?=some (.int .u8 n):=by rw[hcs];rfl
  have e2:(dP x1).head?=some (.int .u8 x1.At):=by kernel_rfl
  rw[e2]at e;injection e with e;injection e with _ e
  rw[e];have:0≤n∧n≤255:=by simpa[Lit.wf,IntKind.min,IntKind.max,IntKind.signed,IntKind.bits]using hw
  omega
 refine⟨x0.length+170+30,?_⟩;unfold xL;rw[RA (x0.length+170),Option.bind_some];generalize hN:x0.length+170+30=N;obtain⟨b,e1,e2⟩:=Vr (KN N) N x0 [x1] (by omega) (by simp) (by omega) (by simp;omega);rw[e1,Option.bind_some];cases b with
 | false=>rfl
 | true =>
  obtain⟨⟨f1,f2,_⟩,f3,f4⟩:=e2 rfl;obtain⟨old,o1,o2⟩:=NQ (KN N) N x0 f2 (by omega) (by omega);obtain⟨l',a1,a2,a3⟩:=Uv (KN N) N x0 x1 f2 (by omega) hat (fun s hs=>by have:=(f3 s hs).text;omega);obtain⟨root,r1,r2⟩:=NQ (KN N) N l' a2 (by omega) (by omega);simp only[Bool.not_true,Bool.false_eq_true,if_false,o1,a1,r1,Option.bind_some];rw[NH old root N (by omega) (by omega) (by omega),Option.bind_some];have hr:kV (KN N) N old root ([]:List Int)=some (eA old root []):=FU old (by omega) (bX root) (by omega) (bX root) N root [] (Nat.le_refl _) (by omega) (by simp) (by omega);rw[hr,Option.bind_some,NH root root N (by omega) (by omega) (by omega),Option.bind_some,JN root root [] (fun k hk=>hk)];have hc:=vX old root [];simp only[bne_self_eq_false,Bool.false_eq_true,if_false,qg,List.length_nil];have hz:(((0:Nat):Int) != 0)=false:=rfl;simp only[hz,Bool.false_eq_true,if_false];exact UT old root N (by omega) (by omega) (by omega) (eA old root []) (by simp at hc;omega) N 0 (Nat.zero_le _) (by simp at hc;omega)
end Go.Proofs.YtocgkfoifehcbaaGreat.QRelayoutChanged
