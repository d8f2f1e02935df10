/- Plain laws about the plain functions: words for all of them. No program in sight. -/
import Derived.Test.YtnpmlepplfaijaaIvGf
import Derived.Lib.TrimUEq
import Derived.Laws.BitsLemmas
import Derived.Test.YtnpmlepplfaijaaIvGop
namespace Go.Proofs.Ytnpmlepplfaijaa
set_option linter.all false
open Go.RowKit
theorem cd{n:Int}(h1 : -9223372036854775808≤n)(h2:n≤9223372036854775807):aa n=n:=by
 unfold aa;rw[IntKind.wrap_i64];omega
theorem bh{α:Type}(x:Option α):aO true x=x:=rfl
theorem b9{i:Int}{n:Nat}(h0:0≤i)(h1:i<n):bb i n=true:=by simp[bb,h0,h1]
theorem cz{α:Type}[Inhabited α]{L:List α}{k:Nat}(h:k<L.length):L.getD k default=L[k]:=by simp[List.getD_eq_getElem?_getD,List.getElem?_eq_getElem h]
theorem dt{n b:Nat}(h:n*b≤140737488355328)(hb:0<b):fits n b=true:=by
 have h1:n≤n*b:=Nat.le_mul_of_pos_right n hb;have h2:n≤9223372036854775807:=by omega
 simp only[fits,Bool.and_eq_true,decide_eq_true_eq];exact⟨h2,h⟩
end Go.Proofs.Ytnpmlepplfaijaa
namespace Go.Proofs.Ytnpmlepplfaijaa
set_option linter.all false
open Go.RowKit
set_option maxRecDepth 100000 in
theorem Ek(k:Nat):mR (KN (k+40)) (k+40)=some true:=by kernel_rfl
end Go.Proofs.Ytnpmlepplfaijaa
namespace Go.Proofs.Ytnpmlepplfaijaa
set_option linter.all false
open Go.RowKit
def co(r:Int):List UInt8:=(Utf8.encode r).data.toList
def bR(r:Int):Prop:=(0≤r∧r<55296)∨(57344≤r∧r≤1114111)
theorem Jr{r:Int}(h:bR r):Utf8.valid r=true:=by
 unfold bR at h;unfold Utf8.valid;simp only[Bool.or_eq_true,Bool.and_eq_true,decide_eq_true_eq];omega
theorem cW{n:Nat}(h:n<256):(UInt8.ofNat n).toNat=n:=by rw[UInt8.toNat_ofNat',Nat.mod_eq_of_lt h]
theorem tk {r:Int} (h:bR r):∃ c:Nat,r=(c:Int) ∧
    ((c<128∧co r=[UInt8.ofNat c])∨(128≤c∧c<2048∧co r=[UInt8.ofNat (192+c / 64),UInt8.ofNat (128+c % 64)]) ∨
     (2048≤c∧c<65536∧(c<55296∨57344≤c)∧co r=[UInt8.ofNat (224+c / 4096),UInt8.ofNat (128+c / 64 % 64),UInt8.ofNat (128+c % 64)]) ∨
     (65536≤c∧c≤1114111∧co r=[UInt8.ofNat (240+c / 262144),UInt8.ofNat (128+c / 4096 % 64),UInt8.ofNat (128+c / 64 % 64),UInt8.ofNat (128+c % 64)])):=by
  refine⟨r.toNat,by unfold bR at h;omega,?_⟩;unfold co Utf8.encode;simp only[Jr h,if_true];unfold bR at h;generalize hc:r.toNat=c at *;by_cases h1:c<128
  · left;simp[h1]
  · by_cases h2:c<2048
    · right;left;simp[h1,h2];omega
    · by_cases h3:c<65536
      · right;right;left;simp[h1,h2,h3];omega
      · right;right;right;simp[h1,h2,h3];omega
theorem tw{r:Int}(h:bR r)(t:List UInt8):Lib.decodeL (co r++t)=(r.toNat,(co r).length):=by
 obtain⟨c,rfl,h|h|h|h⟩:=tk h
 ·rw[h.2,Lib.decodeL_N];simp only[List.cons_append,List.nil_append,List.getD_cons_zero,cW (show c<256 by omega),Int.toNat_natCast,List.length_cons,List.length_nil];unfold Lib.decodeN;rw[if_pos h.1]
 ·rw[h.2.2,Lib.decodeL_N];simp only[List.cons_append,List.nil_append,List.getD_cons_zero,List.getD_cons_succ,cW (show 192+c / 64<256 by omega),cW (show 128+c % 64<256 by omega),Int.toNat_natCast,List.length_cons,List.length_nil];unfold Lib.decodeN;rw[if_neg (by omega),if_pos (by omega),if_pos (by omega)];congr 1;omega
 ·rw[h.2.2.2,Lib.decodeL_N];simp only[List.cons_append,List.nil_append,List.getD_cons_zero,List.getD_cons_succ,cW (show 224+c / 4096<256 by omega),cW (show 128+c / 64 % 64<256 by omega),cW (show 128+c % 64<256 by omega),Int.toNat_natCast,List.length_cons,List.length_nil];unfold Lib.decodeN;rw[if_neg (by omega),if_neg (by omega),if_pos (by omega),if_pos (by omega)];congr 1;omega
 ·rw[h.2.2,Lib.decodeL_N];simp only[List.cons_append,List.nil_append,List.getD_cons_zero,List.getD_cons_succ,cW (show 240+c / 262144<256 by omega),cW (show 128+c / 4096 % 64<256 by omega),cW (show 128+c / 64 % 64<256 by omega),cW (show 128+c % 64<256 by omega),Int.toNat_natCast,List.length_cons,List.length_nil];unfold Lib.decodeN;rw[if_neg (by omega),if_neg (by omega),if_neg (by omega),if_pos (by omega),if_pos (by omega)];congr 1;omega
theorem qV{r:Int}(h:bR r):1≤(co r).length∧(co r).length≤4:=by
 obtain⟨c,_,h|h|h|h⟩:=tk h
 ·rw[h.2];simp
 ·rw[h.2.2];simp
 ·rw[h.2.2.2];simp
 ·rw[h.2.2];simp
theorem Ht(n b0 b1 b2 b3:Nat):bR ((Lib.decodeN n b0 b1 b2 b3).1:Int):=by
 unfold Lib.decodeN bR
 repeat' split
 all_goals simp only[]
 all_goals omega
theorem Dy(l:List UInt8):bR ((Lib.decodeL l).1:Int):=by rw[Lib.decodeL_N];exact Ht _ _ _ _ _
def d7:Nat→List UInt8→List Int
 | 0,_=>[]
 | n+1,l=>if l.isEmpty=true then [] else ((Lib.decodeL l).1:Int)::d7 n (l.drop (Lib.decodeL l).2)
theorem IR:∀(n m:Nat) (l:List UInt8),l.length≤n→l.length≤m→d7 n l=d7 m l:=by
 intro n
 induction n with
 | zero =>
  intro m l h1 h2;have:l=[]:=List.eq_nil_of_length_eq_zero (by omega);subst this;cases m<;>simp[d7]
 | succ n ih =>
  intro m l h1 h2;cases m with
  | zero =>
   have:l=[]:=List.eq_nil_of_length_eq_zero (by omega);subst this;simp[d7]
  | succ m =>
   unfold d7;split
   ·rfl
   ·have:=Lib.decodeL_width l;rw[ih m _ (by simp;omega) (by simp;omega)]
def er(l:List UInt8):List Int:=d7 l.length l
theorem Ew:er []=[]:=rfl
theorem xR{l:List UInt8}(h:l≠[]):er l=((Lib.decodeL l).1:Int)::er (l.drop (Lib.decodeL l).2):=by
 unfold er;cases l with
 | nil=>exact absurd rfl h
 | cons x r =>
  have:=Lib.decodeL_width (x::r);rw[show d7 (x::r).length (x::r)=((Lib.decodeL (x::r)).1:Int)::d7 r.length ((x::r).drop (Lib.decodeL (x::r)).2) from rfl];rw[IR r.length _ _ (by simp;omega) (Nat.le_refl _)]
theorem Bu{r:Int}(h:bR r)(t:List UInt8):er (co r++t)=r::er t:=by
 have hl:=qV h;rw[xR (by intro e;rw[List.append_eq_nil_iff]at e;rw[e.1]at hl;simp at hl),tw h t];simp only[List.drop_left];congr 1;unfold bR at h;omega
def bS(rs:List Int):List UInt8:=rs.flatMap co
theorem xo(r:Int)(rs:List Int):bS (r::rs)=co r++bS rs:=by simp[bS]
theorem vr(a b:List Int):bS (a++b)=bS a++bS b:=by simp[bS]
theorem xU:∀{rs:List Int} (t:List UInt8),(∀r∈rs,bR r)→er (bS rs++t)=rs++er t
 | [],t,_=>rfl
 | r::rs,t,h=>by
  rw[xo,List.append_assoc,Bu (h r (by simp)),xU t (fun x hx=>h x (by simp[hx]))];rfl
theorem CI{rs:List Int}(h:∀r∈rs,bR r):er (bS rs)=rs:=by
 have:=xU [] h;simpa[Ew]using this
theorem zt:∀(n:Nat) (l:List UInt8),∀r∈d7 n l,bR r
 | 0,_,r,h=>by cases h
 | n+1,l,r,h=>by
  unfold d7 at h;split at h
  ·cases h
  ·rcases List.mem_cons.1 h with rfl|h
   ·exact Dy l
   ·exact zt n _ r h
theorem sr{l:List UInt8}:∀r∈er l,bR r:=zt _ _
theorem wt:∀(n:Nat) (l:List UInt8),(d7 n l).length≤n
 | 0,_=>by simp[d7]
 | n+1,l=>by
  unfold d7;split
  ·simp
  ·have:=wt n (l.drop (Lib.decodeL l).2);simp;omega
theorem Fd(l:List UInt8):(er l).length≤l.length:=wt _ _
def dP(b:ByteArray)(p:Nat):List Int:=er (b.data.toList.drop p)
theorem oF(b:ByteArray):b.data.toList.length=b.size:=rfl
theorem yE{b:ByteArray}{p:Nat}(h:¬ p<b.size):dP b p=[]:=by
 unfold dP;rw[List.drop_eq_nil_of_le (by rw[oF];omega)];rfl
theorem wH{b:ByteArray}{p:Nat}(h:p<b.size):dP b p=((Utf8.decode b p).1:Int)::dP b (p+(Utf8.decode b p).2):=by
 unfold dP;rw[xR (by intro e;have:=congrArg List.length e;simp at this;have h2:=oF b;simp at h2;omega),Lib.decodeL_drop,List.drop_drop]
theorem wV(b:ByteArray)(p:Nat):1≤(Utf8.decode b p).2:=by rw[←Lib.decodeL_drop];exact Lib.decodeL_width _
end Go.Proofs.Ytnpmlepplfaijaa
namespace Go.Proofs.Ytnpmlepplfaijaa
set_option linter.all false
open Go.RowKit
def ints(l:List UInt8):List Int:=l.map fun b=>(b.toNat:Int)
theorem EP(a b:List UInt8):ints (a++b)=ints a++ints b:=by simp[ints]
theorem HY(a:List UInt8):(ints a).length=a.length:=by simp[ints]
theorem CS(x y:Int):dK .u8 x y=bits .and .u8 x y:=rfl
theorem qv(x y:Int):cO .u8 x y=bits .or .u8 x y:=rfl
theorem w8{n:Int}(h:0≤n∧n<256):IntKind.wrap .u8 n=n:=by rw[IntKind.wrap_u8];omega
theorem k8(y:Int):cO .u8 128 (dK .u8 (IntKind.wrap .u8 y) 63)=128+y % 64:=by
 have h:0≤IntKind.wrap .u8 y∧IntKind.wrap .u8 y<256:=by rw[IntKind.wrap_u8];omega
 rw[CS,u8_and63 _ h.1 h.2,qv,u8_or128 _ (by omega) (by omega),IntKind.wrap_u8];omega
section
variable{K:Kn}{n:Nat}
theorem JN{r:Int}(h:bR r){L:List Int}(hL:L.length≤1000000):lR K n r L=some (L++ints (co r)):=by
 have h32:IntKind.wrap .u32 r=r:=by rw[IntKind.wrap_u32];unfold bR at h;omega
 unfold lR;rw[h32];obtain⟨c,rfl,hc|hc|hc|hc⟩:=tk h
 ·rw[if_pos (by simp;omega),dt (by simp;omega) (by omega),bh,hc.2,w8 (by omega)];simp only[ints,List.map_cons,List.map_nil,cW (show c<256 by omega)]
 ·rw[if_neg (by simp;omega)];unfold ld;rw[h32,if_pos (by simp;omega),dt (by simp;omega) (by omega),bh,hc.2.2];simp only[Option.bind_some,ints,List.map_cons,List.map_nil,cW (show 192+c / 64<256 by omega),cW (show 128+c % 64<256 by omega)];rw[w8 (n:=(c:Int) / 64) (by omega),qv 192,u8_or192 _ (by omega) (by omega),k8];congr 3<;>omega
 ·rw[if_neg (by simp;omega)];unfold ld;rw[h32,if_neg (by simp;omega)];have hj:gO K n (c:Int) L true=some (L++ints (co (c:Int))):=by
   unfold gO;rw[if_pos rfl,dt (by simp;omega) (by omega),bh,hc.2.2.2];simp only[ints,List.map_cons,List.map_nil,cW (show 224+c / 4096<256 by omega),cW (show 128+c / 64 % 64<256 by omega),cW (show 128+c % 64<256 by omega)];rw[w8 (n:=(c:Int) / 4096) (by omega),qv 224,u8_or224 _ (by omega) (by omega),k8,k8];congr 3<;>omega
  by_cases h1:(c:Int)<55296
  ·rw[if_pos (by simpa using h1),hj];rfl
  ·rw[if_neg (by simpa using h1),if_pos (by simp;omega),show decide ((c:Int)≤65535)=true by simp;omega,hj];rfl
 ·rw[if_neg (by simp;omega)];unfold ld;rw[h32,if_neg (by simp;omega),if_neg (by simp;omega),if_pos (by simp;omega),show decide ((c:Int)≤65535)=false by simp;omega];unfold gO;rw[h32,if_neg (by simp),if_pos (by simp;omega),show decide ((c:Int)≤1114111)=true by simp;omega];unfold n4;rw[if_pos rfl,dt (by simp;omega) (by omega),bh,hc.2.2];simp only[Option.bind_some,ints,List.map_cons,List.map_nil,cW (show 240+c / 262144<256 by omega),cW (show 128+c / 4096 % 64<256 by omega),cW (show 128+c / 64 % 64<256 by omega),cW (show 128+c % 64<256 by omega)];rw[w8 (n:=(c:Int) / 262144) (by omega),qv 240,u8_or240 _ (by omega) (by omega),k8,k8,k8];congr 3<;>omega
theorem Cn{r:Int}(h:bR r){L:List Int}(hL:L.length≤1000000)(b:Bool):∃x,jq K n r b L=some (x,(),L++ints (co r)):=by
 unfold jq;rw[JN h hL];cases b
 ·exact⟨_,rfl⟩
 ·exact⟨_,rfl⟩
end
theorem BM{l:List UInt8}(h:l≠[]):iV (ints l)=true:=by
 unfold iV ints;rw[Bool.and_eq_true];refine⟨?_,by cases l;exact absurd rfl h;rfl⟩;rw[List.all_eq_true];intro n hn;obtain⟨b,_,rfl⟩:=List.mem_map.1 hn;have:=UInt8.toNat_lt b;simp;omega
theorem BD(l:List UInt8):bytesOf (ints l)=⟨l.toArray⟩:=by
 unfold bytesOf ints;rw[List.map_map];congr 2
 conv=>rhs;rw[←List.map_id l]
 refine List.map_congr_left fun b _=>?_;simp
end Go.Proofs.Ytnpmlepplfaijaa
namespace Go.Proofs.Ytnpmlepplfaijaa
set_option linter.all false
open Go.RowKit
noncomputable section
def ee(r:Int):Bool:=r == 9||(r == 10||(r == 13||r == 32))
def nh(r:Int):Int:=(fB (KN 0) 0 r).getD 0
def Gk(s:Int):Int:=min (max s 0) 1048576
def uo(r s:Int):Int:=aa (Int.tdiv (aa ((aa (nh r*Gk s))+15)) 16)
def ja(a b:Int):Bool:=bif ee b||nh b == 0 then false else bif ee a then true else bif a == 45&&b != 45 then true else decide (a≥11904)||decide (b≥11904)
def d4(e:ao):Bool:=e.Kind == 1&&(e.Box.Style.WhiteSpace != 1&&e.Box.Style.WhiteSpace != 2)
def gW(a b:ao):Bool :=
 bif a.Kind == 3||b.Kind == 3 then (a.Kind == 3||d4 a)&&(b.Kind == 3||d4 b)
 else bif a.Kind != 1||(b.Kind != 1||(!d4 a||(a.Char != 32&&!d4 b))) then false else ja a.Char b.Char
def dW{α:Type}(x:Option α):Prop:=∃u,x=some u
theorem g7{α:Type}(u:α):dW (some u):=⟨u,rfl⟩
theorem mK{α:Type}{c:Prop}[Decidable c]{x y:Option α}(h1:dW x)(h2:dW y):dW (if c then x else y):=by split;exact h1;exact h2
section
variable(K:Kn)(n:Nat)
theorem vD(r:Int):lx K n r=some (ee r):=by
 unfold lx ee;cases h1:(r == 9)<;>cases h2:(r == 10)<;>cases h3:(r == 13)<;>cases h4:(r == 32)<;>simp[iJ]
theorem Jn(r:Int):dW (fB K n r):=by
 unfold fB fi;simp only[dI,di,fS,mq]
 repeat first|exact g7 _|apply mK
theorem vQ(r:Int):fB K n r=some (nh r):=by
 obtain⟨u,hu⟩:=Jn K n r;have e:fB (KN 0) 0 r=fB K n r:=rfl;unfold nh;rw[e,hu];rfl
theorem xn(r s:Int):gI K n r s=some (uo r s):=by
 unfold gI;rw[vQ];rfl
theorem JM(a b:Int):na K n a b=some (ja a b):=by
 unfold na ja;rw[vD,vQ];simp only[Option.bind_some];have h1:iY K n a b true=some false:=rfl;have h2:iY K n a b false=some (bif ee a then true else bif a == 45&&b != 45 then true else decide (a≥11904)||decide (b≥11904)):=by
  unfold iY;rw[if_neg (by simp),vD];simp only[Option.bind_some];cases ee a with
  | true=>simp
  | false =>
   simp only[Bool.false_eq_true,if_false,cond_false];unfold mi nL;cases h3:(a == 45)<;>cases h4:(b != 45)<;>cases h5:decide (a≥11904)<;>simp
 cases ee b with
 | true=>rw[if_pos rfl,h1];rfl
 | false =>
  rw[if_neg (by simp)];cases (nh b == 0) with
  | true=>rw[h1];rfl
  | false=>rw[h2];rfl
theorem wP(e:ao):fN K n e=some (d4 e):=by
 unfold fN d4 lv;cases h1:(e.Kind == 1)<;>cases h2:(e.Box.Style.WhiteSpace != 1)<;>simp
end
theorem vE(a b:ByteArray):(a++b).data.toList=a.data.toList++b.data.toList:=by
 rw[ByteArray.data_append,Array.toList_append]
theorem BR(a b:Int):(runesBytes [a,b]).data.toList=co a++co b:=by
 unfold runesBytes;simp only[List.foldl_cons,List.foldl_nil];rw[vE,vE];rfl
theorem Ci(K:Kn){n:Nat}(hn:3≤n){a b:Int}(ha:bR a)(hb:bR b):∃l,nd K n (runesBytes [a,b])=some l∧decide ((l.length:Int)>0)=ja a b:=by
 generalize hB:runesBytes [a,b]=B;have hl:B.data.toList=co a++co b:=by rw[←hB];exact BR a b
 have la:=qV ha;have lb:=qV hb;have hs:B.size=(co a).length+(co b).length:=by rw[←oF,hl,List.length_append]
 have d0:Utf8.decode B 0=(a.toNat,(co a).length):=by
  rw[←Lib.decodeL_drop,List.drop_zero,hl,tw ha]
 have d1:Utf8.decode B (co a).length=(b.toNat,(co b).length):=by
  rw[←Lib.decodeL_drop,hl,List.drop_left];have:=tw hb [];rwa[List.append_nil]at this
 have ea:((a.toNat:Nat):Int)=a:=by unfold bR at ha;omega
 have eb:((b.toNat:Nat):Int)=b:=by unfold bR at hb;omega
 obtain⟨m,rfl⟩:∃m,n=m+3:=⟨n-3,by omega⟩;unfold nd;show ∃l,fu K (m+3) B (il K (m+3) B (m+2)) 0 0 []=some l∧_;unfold fu;rw[if_pos (by simp;omega),if_neg (by simp)];unfold jd;rw[if_neg (by simp)];unfold iA;rw[d0];simp only[Nat.zero_add,ea];show ∃l,fu K (m+3) B (il K (m+3) B (m+1)) a (co a).length []=some l∧_;unfold fu;rw[if_pos (by simp;omega),if_pos (by simp;omega),d1];simp only[eb];rw[JM];simp only[Option.bind_some];have fin:∀(x:Int) (l:List Int),il K (m+3) B (m+1) x ((co a).length+(co b).length) l=some l:=fun x l=>by
  show fu K (m+3) B (il K (m+3) B m) x _ l=some l;unfold fu;rw[if_neg (by simp;omega)]
 cases hbt:ja a b with
 | true =>
  unfold jd;rw[if_pos rfl,dt (by simp) (by omega),bh];unfold iA;rw[d1];simp only[];rw[fin];exact⟨_,rfl,by simp⟩
 | false =>
  unfold jd;rw[if_neg (by simp)];unfold iA;rw[d1];simp only[];rw[fin];exact⟨_,rfl,by simp⟩
theorem zb(K:Kn){n:Nat}(hn:3≤n){a b:ao}(ha:bR a.Char)(hb:bR b.Char):kP K n a b=some (gW a b):=by
 obtain⟨l,h1,h2⟩:=Ci K hn ha hb;have jt:fv K n a b true=some false:=rfl;have jf:fv K n a b false=some (ja a.Char b.Char):=by
  unfold fv;rw[if_neg (by simp),h1];simp only[Option.bind_some];rw[h2]
 unfold kP gW;have k1:g8 K n a b true=some ((a.Kind == 3||d4 a)&&(b.Kind == 3||d4 b)):=by
  unfold g8 ik;simp only[wP,Option.bind_some];cases h3:(a.Kind == 3)<;>cases h4:(b.Kind == 3)<;>cases h5:d4 a<;>cases h6:d4 b<;>simp
 have k2:g8 K n a b false=some (bif a.Kind != 1||(b.Kind != 1||(!d4 a||(a.Char != 32&&!d4 b))) then false else ja a.Char b.Char):=by
  unfold g8;simp only[wP,Option.bind_some,jt];cases h3:(a.Kind != 1)<;>cases h4:(b.Kind != 1)<;>cases h5:d4 a<;>cases h6:(a.Char != 32)<;>cases h7:d4 b<;>simp[jt,jf]
 cases h3:(a.Kind == 3) with
 | true=>rw[if_pos rfl,k1,h3];rfl
 | false =>
  rw[if_neg (by simp)];cases h4:(b.Kind == 3) with
  | true=>rw[k1,h3,h4];rfl
  | false=>rw[k2];rfl
def m6(s acc:Int):List Int→Int
 | []=>acc
 | r::t=>m6 s (aa (acc+uo r s)) t
theorem En(K:Kn)(n:Nat)(b:ByteArray)(s:Int):∀(m:Nat) (acc:Int) (p:Nat),b.size-p<m→lA K n b s m acc p=some (m6 s acc (dP b p)):=by
 intro m
 induction m with
 | zero=>intro acc p h;omega
 | succ m ih =>
  intro acc p h;show j0 K n b s (lA K n b s m) acc p=_;unfold j0;by_cases hp:p<b.size
  ·have:=wV b p;rw[if_pos (by simpa using hp),xn,wH hp];simp only[Option.bind_some,m6];exact ih _ _ (by omega)
  ·rw[if_neg (by simpa using hp),yE hp];rfl
theorem Aa(K:Kn){n:Nat}(b:ByteArray)(s:Int)(hn:b.size<n):jp K n b s=some (m6 s 0 (dP b 0)):=by
 unfold jp;exact En K n b s n 0 0 (by omega)
def uh(s:aF):Int×Int:=(fK (KN 0) 0 s).getD default
theorem zZ(K:Kn)(n:Nat)(s:aF):fK K n s=some (uh s):=rfl
def bE(x:List ao):List Int:=x.map fun e=>e.Char
def qT(x:List ao):Bool:=(x.getD (x.length-1) default).Soft
def su(x:List ao):List Int:=bif qT x then (bE x).dropLast else bE x
def dk(rs:List Int):ByteArray:=⟨(bS rs).toArray⟩
def mP(x:List ao):aF:=(x.getD 0 default).Box.Style
def eS(x:List ao):aq :=
 { cm with Text:=dk (bE x),Width:=m6 (mP x).FontSize 0 (su x),Space:=bif qT x then uo 32 (mP x).FontSize else 0,Above:=(uh (mP x)).1,Below:=(uh (mP x)).2 }
theorem vd{rs:List Int}(h:∀r∈rs,bR r):rs.length≤(bS rs).length∧(bS rs).length≤4*rs.length:=by
 induction rs with
 | nil=>simp[bS]
 | cons r t ih =>
  have:=qV (h r (by simp));have:=ih (fun x hx=>h x (by simp[hx]));rw[xo,List.length_append,List.length_cons];omega
theorem tB(rs:List Int):(dk rs).size=(bS rs).length:=by unfold dk;rfl
theorem ur(rs:List Int):(dk rs).data.toList=bS rs:=by unfold dk;simp
theorem AO{rs:List Int}(h:∀r∈rs,bR r):dP (dk rs) 0=rs:=by
 unfold dP;rw[List.drop_zero,ur,CI h]
theorem Cj{rs:List Int}(h0:rs≠[])(h:rs.getLast h0=32):bS rs=bS rs.dropLast++[32]:=by
 conv=>lhs;rw[←List.dropLast_concat_getLast h0]
 rw[vr,h];rfl
theorem Eu{rs:List Int}(h0:rs≠[])(h:rs.getLast h0=32):(dk rs).extract 0 ((dk rs).size-1)=dk rs.dropLast:=by
 have e:=Cj h0 h;have hs:(dk rs).size=(bS rs.dropLast).length+1:=by rw[tB,e];simp
 apply ByteArray.ext;apply Array.ext';rw[ByteArray.data_extract,Array.toList_extract,ur,ur,hs,e];simp
structure iv(e:ao):Prop where
 ch:bR e.Char
 soft:e.Soft=true→e.Char=32
theorem yJ{x:List ao}(h:∀e∈x,iv e):∀r∈bE x,bR r:=by
 intro r hr;obtain⟨e,he,rfl⟩:=List.mem_map.1 hr;exact(h e he).ch
section
variable{K:Kn}{n:Nat}{x:List ao}
theorem Aw(hx:x≠[])(hl:x.length≤2000)(ho:∀e∈x,iv e)(hn:8010≤n)(b:Bool):jY K n x (ints (bS (bE x))) b=some (eS x):=by
 have h0:0<x.length:=List.length_pos_iff.2 hx;have hc:bE x≠[]:=by unfold bE;simp[hx]
 have hcl:(bE x).length=x.length:=by unfold bE;simp
 have hok:=yJ ho;have hle:=vd hok;have hne:bS (bE x)≠[]:=by intro e;rw[e]at hle;have:=hle.1;simp only[List.length_nil]at this;omega
 have e1:aa ((x.length:Int)-1)=((x.length-1:Nat):Int):=by rw[cd (by omega) (by omega)];omega
 have hb:bytesOf (ints (bS (bE x)))=dk (bE x):=BD _;have hsz:(dk (bE x)).size=(bS (bE x)).length:=tB _;have e2:aa (((dk (bE x)).size:Int)-1)=(((dk (bE x)).size-1:Nat):Int):=by rw[cd (by omega) (by omega)];omega
 have key:∀(v10:aF) (Y:ByteArray→Int→Option aq),(∀v14 v15,Y v14 v15=(jp K n v14 v10.FontSize).bind fun v16=>(fK K n v10).bind fun v17=>some ({ cm with Text:=bytesOf (ints (bS (bE x))),Width:=v16,Space:=v15,Above:=v17.1,Below:=v17.2 }:aq))→v10=mP x →
   aO (iV (ints (bS (bE x)))) (aO (bb (aa ((x.length:Int)-1)) x.length) ((some ((List.getD x ((aa ((x.length:Int)-1))).toNat default).Soft)).bind fun v11 =>
    if v11=true then aO (cp (0:Int) (aa (((bytesOf (ints (bS (bE x)))).size:Int)-1)) (bytesOf (ints (bS (bE x)))).size) ((some (ByteArray.extract (bytesOf (ints (bS (bE x)))) (0:Int).toNat ((aa (((bytesOf (ints (bS (bE x)))).size:Int)-1))).toNat)).bind fun v12=>(gI K n 32 v10.FontSize).bind fun v13=>Y v12 v13)
    else Y (bytesOf (ints (bS (bE x)))) 0))=some (eS x):=by
  intro v10 Y hY hv;subst hv;rw[BM hne,bh,e1,b9 (by omega) (by omega),bh];simp only[Option.bind_some,Int.toNat_natCast];have hs:(List.getD x (x.length-1) default).Soft=qT x:=rfl;rw[hs,hb,e2];cases hso:qT x with
  | true =>
   have hlast:(bE x).getLast hc=32:=by
    have hm:x.getD (x.length-1) default∈x:=by rw[cz (by omega)];exact List.getElem_mem _
    have:=(ho _ hm).soft (by rw[hs];exact hso);rw[List.getLast_eq_getElem];unfold bE;rw[List.getElem_map];rw[cz (by omega)]at this;simpa using this
   rw[if_pos rfl,show cp (0:Int) (((dk (bE x)).size-1:Nat):Int) (dk (bE x)).size=true by simp only[cp,Bool.and_eq_true,decide_eq_true_eq];omega,bh];simp only[Int.toNat_zero,Int.toNat_natCast];rw[Eu hc hlast,xn];simp only[Option.bind_some];rw[hY,Aa K (dk (bE x).dropLast) _ (by
    have h9:=vd (rs:=(bE x).dropLast) (fun r hr=>hok r ((List.dropLast_sublist _).subset hr));rw[tB];simp at h9;omega),AO (fun r hr=>hok r ((List.dropLast_sublist _).subset hr)),zZ,hb]
   simp only[Option.bind_some];unfold eS su;rw[hso];rfl
  | false =>
   rw[if_neg (by simp),hY,Aa K (dk (bE x)) _ (by omega),AO hok,zZ,hb];simp only[Option.bind_some];unfold eS su;rw[hso];rfl
 unfold jY;rw[b9 (i:=(0:Int)) (by omega) (by omega)];simp only[bh,Option.bind_some];cases b with
 | true=>rw[if_pos rfl];exact key _ (fun v12 v13=>mU K n _ _ v12 v13) (fun _ _=>rfl) rfl
 | false=>rw[if_neg (by simp)];exact key _ (fun v12 v13=>mn K n _ _ v12 v13) (fun _ _=>rfl) rfl
theorem CW(hx:x≠[])(hl:x.length≤2000)(ho:∀e∈x,iv e)(hn:8010≤n):∀(m i:Nat) (b:Bool),i≤x.length→x.length<m+i→je K n x m (i:Int) b (ints (bS ((bE x).take i)))=some (eS x):=by
 intro m
 induction m with
 | zero=>intro i b h1 h2;omega
 | succ m ih =>
  intro i b h1 h2;show kO K n x (je K n x m) i b _=_;unfold kO;have hcl:(bE x).length=x.length:=by unfold bE;simp
  by_cases hi:i<x.length
  ·have hm:x.getD i default∈x:=by rw[cz hi];exact List.getElem_mem _
   have hlen:=vd (rs:=(bE x).take i) (fun r hr=>yJ ho r (List.mem_of_mem_take hr));have ht:(bE x).take (i+1)=(bE x).take i++[(x.getD i default).Char]:=by
    rw[List.take_add_one,List.getElem?_eq_getElem (by rw[hcl];exact hi),cz hi];simp[bE]
   have hr:∀b,(jq K n ((List.getD x ((i:Int)).toNat default).Char) b (ints (bS ((bE x).take i)))).bind (fun v7=>je K n x m (aa ((i:Int)+1)) true v7.2.2)=some (eS x):=fun b=>by
    rw[Int.toNat_natCast];obtain⟨y,hy⟩:=Cn (K:=K) (n:=n) (ho _ hm).ch (L:=ints (bS ((bE x).take i))) (by rw[HY];simp at hlen;omega) b;rw[hy];simp only[Option.bind_some];rw[cd (by omega) (by omega),show(i:Int)+1=((i+1:Nat):Int) by omega,← EP];have e:bS ((bE x).take i)++co (x.getD i default).Char=bS ((bE x).take (i+1)):=by
     rw[ht,vr];simp[bS]
    rw[e];exact ih (i+1) true (by omega) (by omega)
   cases b with
   | true=>rw[if_pos rfl,if_pos (by simpa using hi),b9 (by omega) (by omega),bh];exact hr true
   | false=>rw[if_neg (by simp),if_pos (by simpa using hi),b9 (by omega) (by omega),bh];exact hr false
  ·have ht:(bE x).take i=bE x:=List.take_of_length_le (by omega);rw[ht];cases b with
   | true=>rw[if_pos rfl,if_neg (by simpa using hi)];exact Aw hx hl ho hn true
   | false=>rw[if_neg (by simp),if_neg (by simpa using hi)];exact Aw hx hl ho hn false
theorem F4(hx:x≠[])(hl:x.length≤2000)(ho:∀e∈x,iv e)(hn:8010≤n):nP K n x=some (eS x):=by
 unfold nP;exact CW hx hl ho hn n 0 false (by omega) (by omega)
end
end
end Go.Proofs.Ytnpmlepplfaijaa
namespace Go.Proofs.Ytnpmlepplfaijaa
set_option linter.all false
open Go.RowKit
noncomputable section
def dR(e:ao):Bool:=e.Box.Style.WhiteSpace == 2
def fV(out:List ao):ao:=out.getD (out.length-1) default
def gw(out:List ao):Bool:=out.isEmpty||((fV out).Soft||(fV out).Kind == 2)
def gy(out:List ao)(e:ao):List ao :=
  bif ee e.Char then
    (bif dR e then (bif e.Char == 10 then out++[{ e with Kind:=2,Char:=32 }] else bif e.Char == 13 then out else out++[{ e with Char:=32 }])
     else bif gw out then out else out++[{ e with Soft:=true,Char:=32 }])
  else out++[e]
theorem z4(out:List ao)(e:ao):(gy out e).length≤out.length+1:=by
 unfold gy;cases ee e.Char<;>cases dR e<;>cases (e.Char == 10)<;>cases (e.Char == 13)<;>cases gw out<;>simp
section
variable(K:Kn)(n:Nat)
theorem s6{out:List ao}(hl:out.length≤1000000)(e:ao):iM K n out e=some (out++[{ e with Char:=32 }]):=by
 unfold iM;rw[dt (by simp;omega) (by omega),bh]
theorem Cq{out:List ao}(hl:out.length≤1000000)(e:ao):nM K n e out=some (gy out e):=by
 have h4:∀b,ga K n e out b=some (bif b then out else out++[{ e with Soft:=true,Char:=32 }]):=fun b=>by
  unfold ga;cases b with
  | true=>rfl
  | false=>rw[if_neg (by simp),s6 K n hl];rfl
 have h3:∀b,dR e=b→∀c,lW K n e out c=some (bif c then out else bif b then out++[{ e with Char:=32 }] else bif gw out then out else out++[{ e with Soft:=true,Char:=32 }]):=fun b hb c=>by
  unfold lW;cases c with
  | true=>rfl
  | false =>
   have hp:(e.Box.Style.WhiteSpace == 2)=b:=hb;rw[if_neg (by simp),hp];cases b with
   | true=>rw[show(!true)=false from rfl,if_neg (by simp),s6 K n hl];rfl
   | false =>
    rw[show(!false)=true from rfl,if_pos rfl];by_cases h0:out=[]
    ·subst h0;rw[if_pos (by simp),h4];rfl
    ·have hlen:0<out.length:=List.length_pos_iff.2 h0;have e1:aa ((out.length:Int)-1)=((out.length-1:Nat):Int):=by rw[cd (by omega) (by omega)];omega
     have hem:out.isEmpty=false:=by cases out;exact absurd rfl h0;rfl
     rw[if_neg (by simp;exact h0),e1,b9 (by omega) (by omega)];simp only[bh,Int.toNat_natCast]
     change (if (fV out).Soft=true then ga K n e out true else ga K n e out ((fV out).Kind == 2))=_
     cases hs:(fV out).Soft with
     | true=>rw[if_pos rfl,h4];unfold gw;rw[hem,hs];rfl
     | false=>rw[if_neg (by simp),h4];unfold gw;rw[hem,hs];rfl
 have h2:∀c,kA K n e out c=some (bif c then out++[{ e with Kind:=2,Char:=32 }] else bif dR e then (bif e.Char == 13 then out else out++[{ e with Char:=32 }]) else bif gw out then out else out++[{ e with Soft:=true,Char:=32 }]):=fun c=>by
  unfold kA;cases c with
  | true=>rw[if_pos rfl,s6 K n hl];rfl
  | false =>
   have hp:(e.Box.Style.WhiteSpace == 2)=dR e:=rfl;rw[if_neg (by simp),hp];cases hpe:dR e with
   | true=>rw[if_pos rfl,h3 true hpe];rfl
   | false=>rw[if_neg (by simp),h3 false hpe];rfl
 have h1:fl K n e out true=some (bif dR e then (bif e.Char == 10 then out++[{ e with Kind:=2,Char:=32 }] else bif e.Char == 13 then out else out++[{ e with Char:=32 }]) else bif gw out then out else out++[{ e with Soft:=true,Char:=32 }]):=by
  unfold fl;have hp:(e.Box.Style.WhiteSpace == 2)=dR e:=rfl;rw[if_pos rfl,hp];cases hpe:dR e with
  | true=>rw[if_pos rfl,h2,hpe];rfl
  | false=>rw[if_neg (by simp),h2,hpe];rfl
 have h0:fl K n e out false=some (out++[e]):=by
  unfold fl;rw[if_neg (by simp),dt (by simp;omega) (by omega),bh]
 unfold nM gy ee;cases q1:(e.Char == 9) with
 | true=>rw[if_pos rfl,h1];rfl
 | false =>
  rw[if_neg (by simp)];cases q2:(e.Char == 10) with
  | true=>rw[if_pos rfl,h1,q2];rfl
  | false =>
   rw[if_neg (by simp)];cases q3:(e.Char == 13) with
   | true=>rw[if_pos rfl,h1,q2,q3];rfl
   | false =>
    rw[if_neg (by simp)];cases q4:(e.Char == 32) with
    | true=>rw[h1,q2,q3];rfl
    | false=>rw[h0];rfl
end
def fc(b:ai):Bool:=(fd (KN 0) 0 b).getD false
def g6(b:ai)(num:Int)(out:List ao)(rs:List Int):List ao:=rs.foldl (fun o r=>gy o ⟨1,num,r,false,b⟩) out
def vM:Nat→List ai→Int×List ao→Int×List ao
  | 0,_,s=>s
  | d+1,L,s=>L.foldl (fun s b=>bif fc b then
      (bif b.Kind == 2 then vM d b.Kids (aa (s.1+1),s.2)
       else bif b.Kind == 4 then (aa (s.1+1),s.2++[⟨2,aa (s.1+1),0,false,b⟩])
       else bif b.Kind == 5 then (aa (s.1+1),s.2++[⟨3,aa (s.1+1),0,false,b⟩])
       else bif b.Kind == 3 then (aa (s.1+1),g6 b (aa (s.1+1)) s.2 (dP b.Text 0))
       else (aa (s.1+1),s.2)) else s) s
def dC (d : Nat) (s : Int × List ao) (b : ai) : Int × List ao := bif fc b then
      (bif b.Kind == 2 then vM d b.Kids (aa (s.1+1),s.2)
       else bif b.Kind == 4 then (aa (s.1+1),s.2++[⟨2,aa (s.1+1),0,false,b⟩])
       else bif b.Kind == 5 then (aa (s.1+1),s.2++[⟨3,aa (s.1+1),0,false,b⟩])
       else bif b.Kind == 3 then (aa (s.1+1),g6 b (aa (s.1+1)) s.2 (dP b.Text 0))
       else (aa (s.1+1),s.2)) else s
theorem fk(d:Nat)(L:List ai)(s:Int×List ao):vM (d+1) L s=L.foldl (dC d) s:=rfl
def bH:Nat→List ai→Nat
 | 0,_=>0
 | d+1,L=>(L.map fun b=>1+b.Text.size+bH d b.Kids).sum
def Dp:Nat→List ai→Prop
 | 0,_=>False
 | d+1,L=>L.length≤1000∧∀b∈L,b.Text.size≤1000∧(b.Kind=2→Dp d b.Kids)
theorem wK(b:ai)(num:Int):∀(rs:List Int) (out:List ao),(g6 b num out rs).length≤out.length+rs.length
 | [],out=>by simp[g6]
 | r::t,out=>by
  have:=wK b num t (gy out ⟨1,num,r,false,b⟩);have:=z4 out ⟨1,num,r,false,b⟩;unfold g6 at *;simp only[List.foldl_cons,List.length_cons];omega
theorem D7(b:ByteArray)(p:Nat):(dP b p).length≤b.size:=by
 unfold dP;have:=Fd (b.data.toList.drop p);rw[List.length_drop,oF]at this;omega
theorem zA(d:Nat)(ih:∀L s,(vM d L s).2.length≤s.2.length+bH d L)(s:Int×List ao)(b:ai):(dC d s b).2.length≤s.2.length+(1+b.Text.size+bH d b.Kids):=by
 unfold dC;cases fc b with
 | false=>simp only[cond_false];omega
 | true =>
  simp only[cond_true];cases (b.Kind == 2) with
  | true=>have:=ih b.Kids (aa (s.1+1),s.2);simp only[cond_true];simp only[]at this;omega
  | false =>
   simp only[cond_false];cases (b.Kind == 4) with
   | true=>simp only[cond_true,List.length_append,List.length_cons,List.length_nil];omega
   | false =>
    simp only[cond_false];cases (b.Kind == 5) with
    | true=>simp only[cond_true,List.length_append,List.length_cons,List.length_nil];omega
    | false =>
     simp only[cond_false];cases (b.Kind == 3) with
     | true =>
      have:=wK b (aa (s.1+1)) (dP b.Text 0) s.2;have:=D7 b.Text 0;simp only[cond_true];omega
     | false=>simp only[cond_false];omega
theorem zD:∀(d:Nat) (L:List ai) (s:Int×List ao),(vM d L s).2.length≤s.2.length+bH d L:=by
 intro d
 induction d with
 | zero=>intro L s;simp[vM,bH]
 | succ d ih =>
  intro L
  induction L with
  | nil=>intro s;simp[vM,bH]
  | cons b r ihL =>
   intro s;have h1:=zA d ih s b;have h2:=ihL (dC d s b);rw[fk,List.foldl_cons];rw[fk]at h2;simp only[bH,List.map_cons,List.sum_cons]at h2⊢;omega
theorem vx(K:Kn)(n:Nat)(b:ai):fd K n b=some (fc b):=by
 have e:fd (KN 0) 0 b=fd K n b:=rfl;have:dW (fd K n b):=by
  unfold fd
  repeat first|exact g7 _|apply mK
 obtain⟨u,hu⟩:=this;unfold fc;rw[e,hu];rfl
theorem HT(K:Kn)(n:Nat)(L:List ai)(i num:Int)(C:Int→Int→List ao→Option (Int×List ao))(hi:i.toNat<L.length):∀(m p:Nat) (out:List ao),(L.getD i.toNat default).Text.size-p<m→out.length+((L.getD i.toNat default).Text.size-p)≤900000 →
  jQ K n L i num C m p out=C (aa (i+1)) (aa (num+1)) (g6 (L.getD i.toNat default) (aa (num+1)) out (dP (L.getD i.toNat default).Text p)):=by
 intro m
 induction m with
 | zero=>intro p out h;omega
 | succ m ih =>
  intro p out h1 h2;show lM K n L i num C (jQ K n L i num C m) p out=_;unfold lM;by_cases hp:p<(L.getD i.toNat default).Text.size
  ·have hw:=wV (L.getD i.toNat default).Text p;rw[if_pos (by simpa using hp)];simp only[Option.bind_some];rw[Cq K n (by omega)];simp only[Option.bind_some];have hpl:=z4 out ⟨1,aa (num+1),((Utf8.decode (L.getD i.toNat default).Text p).1:Int),false,L.getD i.toNat default⟩;rw[ih _ _ (by omega) (by omega),wH hp];rfl
  ·rw[if_neg (by simpa using hp),yE hp];rfl
theorem FB:∀(d N:Nat) (L:List ai) (s:Int×List ao),Dp d L→s.2.length+bH d L≤800000→d+1100≤N→fL (KN N) N L s.1 s.2=some (vM d L s):=by
 intro d
 induction d with
 | zero=>intro N L s h;exact h.elim
 | succ d ih =>
  intro N L s hD hs hN;obtain⟨N,rfl⟩:∃M,N=M+1:=⟨N-1,by omega⟩;unfold Dp at hD;unfold fL;have loop:∀(m i:Nat) (s:Int×List ao),i≤L.length→L.length<m+i→s.2.length+bH (d+1) (L.drop i)≤800000→ji (KN (N+1)) (N+1) L m (i:Int) s.1 s.2=some (vM (d+1) (L.drop i) s):=by
   intro m
   induction m with
   | zero=>intro i s h1 h2;omega
   | succ m ihm =>
    intro i s h1 h2 h3;show j2 (KN (N+1)) (N+1) L (ji (KN (N+1)) (N+1) L m) i s.1 s.2=_;unfold j2;by_cases hi:i<L.length
    ·have hb:L.getD i default∈L:=by rw[cz hi];exact List.getElem_mem _
     have hdr:L.drop i=L.getD i default::L.drop (i+1):=by rw[List.drop_eq_getElem_cons hi,cz hi]
     have hw:aa ((i:Int)+1)=((i+1:Nat):Int):=by rw[cd (by omega) (by omega)];omega
     rw[hdr]at h3⊢;rw[fk,List.foldl_cons,← fk];have hvl:=zA d (zD d) s (L.getD i default);have h3':s.2.length+((1+(L.getD i default).Text.size+bH d (L.getD i default).Kids)+bH (d+1) (L.drop (i+1)))≤800000:=by
      simpa only[bH,List.map_cons,List.sum_cons]using h3
     have fin:=ihm (i+1) (dC d s (L.getD i default)) (by omega) (by omega) (by omega);rw[if_pos (by simpa using hi),b9 (by omega) (by omega),bh,vx];simp only[Option.bind_some,Int.toNat_natCast];have step:∀s',dC d s (L.getD i default)=s'→ji (KN (N+1)) (N+1) L m (aa ((i:Int)+1)) s'.1 s'.2=some (vM (d+1) (L.drop (i+1)) (dC d s (L.getD i default))):=fun s' e=>by
      rw[←e,hw];exact fin
     cases hf:fc (L.getD i default) with
     | false =>
      rw[show(!false)=true from rfl,if_pos rfl];unfold fJ;exact step s (by unfold dC;rw[hf];rfl)
     | true =>
      rw[show(!true)=false from rfl,if_neg (by simp)];cases h2':((L.getD i default).Kind == 2) with
      | true =>
       have hk:(L.getD i default).Kind=2:=by simpa using h2'
       have:=ih N (L.getD i default).Kids (aa (s.1+1),s.2) ((hD.2 _ hb).2 hk) (by simp only[];omega) (by omega);rw[if_pos rfl];show((fL (KN N) N (L.getD i default).Kids (aa (s.1+1)) s.2).bind _)=_;rw[show fL (KN N) N (L.getD i default).Kids (aa (s.1+1)) s.2=_ from this];simp only[Option.bind_some];unfold eZ fJ;exact step _ (by unfold dC;rw[hf,h2'];rfl)
      | false =>
       rw[if_neg (by simp)];cases h4':((L.getD i default).Kind == 4) with
       | true =>
        rw[if_pos rfl,dt (by simp;omega) (by omega),bh];unfold eZ fJ;exact step (_,_) (by unfold dC;rw[hf,h2',h4'];rfl)
       | false =>
        rw[if_neg (by simp)];cases h5':((L.getD i default).Kind == 5) with
        | true =>
         rw[if_pos rfl,dt (by simp;omega) (by omega),bh];unfold eZ fJ;exact step (_,_) (by unfold dC;rw[hf,h2',h4',h5'];rfl)
        | false =>
         rw[if_neg (by simp)];cases h3'':((L.getD i default).Kind == 3) with
         | true =>
          have ht:=(hD.2 _ hb).1;rw[if_pos rfl,HT (KN (N+1)) (N+1) L i s.1 _ (by simpa using hi) (N+1) 0 s.2 (by rw[Int.toNat_natCast];omega) (by rw[Int.toNat_natCast];omega)];rw[Int.toNat_natCast];exact step (_,_) (by unfold dC;rw[hf,h2',h4',h5',h3''];rfl)
         | false =>
          rw[if_neg (by simp)];unfold eZ fJ;exact step (_,_) (by unfold dC;rw[hf,h2',h4',h5',h3''];rfl)
    ·rw[if_neg (by simpa using hi),List.drop_eq_nil_of_le (by omega)];rfl
  have:=loop (N+1) 0 s (by omega) (by omega) (by rw[List.drop_zero];exact hs);rw[List.drop_zero]at this;exact this
def eK(d:Nat)(L:List ai):List ao:=(vM d L (0,[])).2
theorem Ds{d N:Nat}{L:List ai}(hD:Dp d L)(hc:bH d L≤800000)(hN:d+1100≤N):mh (KN N) N L=some (eK d L):=by
 unfold mh;rw[show fL (KN N) N L 0 []=_ from FB d N L (0,[]) hD (by simpa using hc) hN];rfl
theorem yD(d:Nat)(L:List ai):(eK d L).length≤bH d L:=by
 have:=zD d L (0,[]);unfold eK;simpa using this
theorem FH{P:ao→Prop}{out:List ao}{e:ao}(h:∀x∈out,P x)(h1:ee e.Char=false→P e)(h2:dR e=true→P { e with Kind:=2,Char:=32 })(h3:dR e=true→P { e with Char:=32 })(h4:dR e=false→P { e with Soft:=true,Char:=32 }):∀x∈gy out e,P x:=by
 have ap:∀y,P y→∀x∈out++[y],P x:=fun y hy x hx=>by
  rcases List.mem_append.1 hx with hx|hx
  ·exact h x hx
  ·rw[List.mem_singleton.1 hx];exact hy
 unfold gy;cases hs:ee e.Char with
 | false=>exact ap _ (h1 hs)
 | true =>
  simp only[cond_true];cases hp:dR e with
  | true =>
   simp only[cond_true];cases (e.Char == 10) with
   | true=>exact ap _ (h2 hp)
   | false =>
    simp only[cond_false];cases (e.Char == 13) with
    | true=>exact h
    | false=>exact ap _ (h3 hp)
  | false =>
   simp only[cond_false];cases gw out with
   | true=>exact h
   | false=>exact ap _ (h4 hp)
theorem oM{P:ao→Prop}(b:ai)(num:Int)(hP:∀r,bR r→(ee r=false→P ⟨1,num,r,false,b⟩))(h2:P ⟨2,num,32,false,b⟩)(h3:b.Style.WhiteSpace=2→P ⟨1,num,32,false,b⟩)(h4:b.Style.WhiteSpace≠2→P ⟨1,num,32,true,b⟩):∀(rs:List Int) (out:List ao),(∀r∈rs,bR r)→(∀x∈out,P x)→∀x∈g6 b num out rs,P x
 | [],out,_,h=>h
 | r::t,out,hr,h=>by
  unfold g6;rw[List.foldl_cons];refine oM b num hP h2 h3 h4 t _ (fun x hx=>hr x (by simp[hx])) (FH h (fun hs=>hP r (hr r (by simp)) hs) (fun _=>h2) (fun hp=>h3 (by simpa[dR]using hp)) (fun hp=>h4 (by simpa[dR]using hp)))
theorem CA{P:ao→Prop}(h1:∀(b:ai) (num r:Int),bR r→ee r=false→P ⟨1,num,r,false,b⟩)(h2:∀(b:ai) (num:Int),P ⟨2,num,32,false,b⟩)(h3:∀(b:ai) (num:Int),b.Style.WhiteSpace=2→P ⟨1,num,32,false,b⟩)(h4:∀(b:ai) (num:Int),b.Style.WhiteSpace≠2→P ⟨1,num,32,true,b⟩)
  (h5:∀(b:ai) (num:Int),P ⟨2,num,0,false,b⟩) (h6:∀(b:ai) (num:Int),P ⟨3,num,0,false,b⟩):∀(d:Nat) (L:List ai) (s:Int×List ao),(∀x∈s.2,P x)→∀x∈(vM d L s).2,P x:=by
 have ap:∀{out:List ao} (y:ao),(∀x∈out,P x)→P y→∀x∈out++[y],P x:=fun y h hy x hx=>by
  rcases List.mem_append.1 hx with hx|hx
  ·exact h x hx
  ·rw[List.mem_singleton.1 hx];exact hy
 intro d
 induction d with
 | zero=>intro L s h;exact h
 | succ d ih =>
  intro L
  induction L with
  | nil=>intro s h;exact h
  | cons b r ihL =>
   intro s h;rw[fk,List.foldl_cons,← fk];refine ihL _ ?_;unfold dC;cases fc b with
   | false=>exact h
   | true =>
    simp only[cond_true];cases (b.Kind == 2) with
    | true=>exact ih _ _ h
    | false =>
     simp only[cond_false];cases (b.Kind == 4) with
     | true=>exact ap _ h (h5 _ _)
     | false =>
      simp only[cond_false];cases (b.Kind == 5) with
      | true=>exact ap _ h (h6 _ _)
      | false =>
       simp only[cond_false];cases (b.Kind == 3) with
       | true=>exact oM b _ (fun r hr hs=>h1 b _ r hr hs) (h2 b _) (h3 b _) (h4 b _) _ _ sr h
       | false=>exact h
theorem vk:bR 32:=by unfold bR;omega
theorem xI:bR 0:=by unfold bR;omega
theorem F6(d:Nat)(L:List ai):∀x∈eK d L,iv x :=
 CA (fun b num r hr _=>⟨hr,fun h=>by cases h⟩) (fun b num=>⟨vk,fun _=>rfl⟩) (fun b num _=>⟨vk,fun _=>rfl⟩) (fun b num _=>⟨vk,fun _=>rfl⟩) (fun b num=>⟨xI,fun h=>by cases h⟩) (fun b num=>⟨xI,fun h=>by cases h⟩) d L (0,[]) (fun x hx=>by cases hx)
end
end Go.Proofs.Ytnpmlepplfaijaa
namespace Go.Proofs.Ytnpmlepplfaijaa
set_option linter.all false
open Go.RowKit
def iX(l:List bG)(R:List ai→Prop)(b:ai):Prop:=∃s∈l,b.Style=s.Style ∧
  ((b.Kind=3∧b.Text=s.Text∧b.Kids=[])∨(b.Kind=4∧b.Text=⟨#[]⟩∧b.Kids=[]) ∨
   (b.Kind=5∧b.Text=⟨#[]⟩∧Int.tmod s.Kind 8=6∧∃k,b.Kids=[k]∧k.Kind=3∧k.Kids=[]∧k.Style=s.Style∧k.Text=s.Text)∨(b.Kind=2∧b.Text=⟨#[]⟩∧R b.Kids))
def Bx(l:List bG):Nat→List ai→Prop
 | 0,L=>L=[]
 | d+1,L=>L.length≤16∧∀b∈L,iX l (Bx l d) b
theorem vh{l:List bG}(ht:∀s∈l,s.Text.size≤60):∀(d:Nat) (L:List ai),Bx l d L→Dp (d+1) L
 | 0,L,h=>by
  unfold Bx at h;subst h;unfold Dp;exact⟨by simp,fun b hb=>by cases hb⟩
 | d+1,L,h=>by
  unfold Bx at h;unfold Dp;refine⟨by omega,fun b hb=>?_⟩;obtain⟨s,hs,_,h3|h4|h5|h2⟩:=h.2 b hb
  ·exact⟨by rw[h3.2.1];have:=ht s hs;omega,fun e=>by rw[h3.1]at e;cases e⟩
  ·exact⟨by rw[h4.2.1];decide,fun e=>by rw[h4.1]at e;cases e⟩
  ·exact⟨by rw[h5.2.1];decide,fun e=>by rw[h5.1]at e;cases e⟩
  ·exact⟨by rw[h2.2.1];decide,fun _=>vh ht d _ h2.2.2⟩
theorem HC:∀(d:Nat) (a b:List ai),bH d (a++b)=bH d a+bH d b
 | 0,a,b=>rfl
 | d+1,a,b=>by simp[bH]
theorem wx(d:Nat)(b:ai):bH (d+1) [b]=1+b.Text.size+bH d b.Kids:=by simp[bH]
theorem JR{l:List bG}(hl:l.length≤16)(ht:∀s∈l,s.Text.size≤60):∀(k N i0:Nat) (dep:Int),l.length-i0≤k→i0≤l.length→k+50≤N →
  ∃(bx:List ai) (nx:Nat),fP (KN N) N l (i0:Int) dep=some (bx,(nx:Int))∧i0≤nx∧nx≤l.length∧Bx l k bx∧bx.length≤nx-i0∧bH (k+1) bx≤62*(nx-i0):=by
 intro k
 induction k with
 | zero =>
  intro N i0 dep h1 h2 hN;obtain⟨N,rfl⟩:∃M,N=M+1:=⟨N-1,by omega⟩;refine⟨[],i0,?_,Nat.le_refl _,h2,rfl,by simp,by simp[bH]⟩;unfold fP;show gB (KN (N+1)) (N+1) l dep (gk (KN (N+1)) (N+1) l dep N) i0 []=_;unfold gB;rw[if_neg (by simp;omega)];unfold hZ;rw[if_neg (by simp)]
 | succ k ih =>
  intro N i0 dep h1 h2 hN;obtain⟨N,rfl⟩:∃M,N=M+1:=⟨N-1,by omega⟩;unfold fP;have loop:∀(m i:Nat) (acc:List ai),i0≤i→i≤l.length→l.length<m+i→(∀b∈acc,iX l (Bx l k) b)→acc.length≤i-i0→bH (k+2) acc≤62*(i-i0) →
    ∃(bx:List ai) (nx:Nat),gk (KN (N+1)) (N+1) l dep m (i:Int) acc=some (bx,(nx:Int))∧i0≤nx∧nx≤l.length∧(∀b∈bx,iX l (Bx l k) b)∧bx.length≤nx-i0∧bH (k+2) bx≤62*(nx-i0):=by
   intro m
   induction m with
   | zero=>intro i acc h0 h1 h2;omega
   | succ m ihm =>
    intro i acc g0 g1 g2 g3 g4 g5;show ∃(bx:List ai) (nx:Nat),gB (KN (N+1)) (N+1) l dep (gk (KN (N+1)) (N+1) l dep m) i acc=some (bx,(nx:Int))∧_;unfold gB;have stop:∃(bx:List ai) (nx:Nat),hZ (KN (N+1)) (N+1) l dep i acc (gk (KN (N+1)) (N+1) l dep m) false=some (bx,(nx:Int))∧i0≤nx∧nx≤l.length∧(∀b∈bx,iX l (Bx l k) b)∧bx.length≤nx-i0∧bH (k+2) bx≤62*(nx-i0):=by
     unfold hZ;rw[if_neg (by simp)];exact⟨acc,i,rfl,g0,g1,g3,g4,g5⟩
    by_cases hi:i<l.length
    ·rw[if_pos (by simpa using hi),b9 (by omega) (by omega),bh];cases hd:decide ((List.getD l ((i:Int)).toNat default).Depth≥dep) with
     | false=>exact stop
     | true =>
      have hs:l.getD i default∈l:=by rw[cz hi];exact List.getElem_mem _
      have hw:aa ((i:Int)+1)=((i+1:Nat):Int):=by rw[cd (by omega) (by omega)];omega
      unfold hZ;rw[if_pos rfl,b9 (by omega) (by omega)];simp only[bh,Option.bind_some,Int.toNat_natCast];have go:∀(kd:Int) (tx:ByteArray) (kids:List ai) (j:Nat),i+1≤j→j≤l.length→iX l (Bx l k) ⟨kd,aa (10+(i:Int)),(l.getD i default).Style,tx,0,0,kids⟩→1+tx.size+bH (k+1) kids≤62*(j-i) →
        ∃(bx:List ai) (nx:Nat),g9 (KN (N+1)) (N+1) l dep i acc (gk (KN (N+1)) (N+1) l dep m) (j:Int) kd tx kids=some (bx,(nx:Int))∧i0≤nx∧nx≤l.length∧(∀b∈bx,iX l (Bx l k) b)∧bx.length≤nx-i0∧bH (k+2) bx≤62*(nx-i0):=by
       intro kd tx kids j q1 q2 q3 q4;unfold g9;simp only[Int.toNat_natCast];rw[dt (by simp;omega) (by omega),bh];refine ihm j _ (by omega) q2 (by omega) (fun b hb=>?_) (by simp;omega) ?_
       ·rcases List.mem_append.1 hb with hb|hb
        ·exact g3 b hb
        ·rw[List.mem_singleton.1 hb];exact q3
       ·rw[HC,wx];simp only[];omega
      by_cases h5:Int.tmod (l.getD i default).Kind 8=5
      ·rw[if_pos (by simpa using h5),hw];exact go 4 ⟨#[]⟩ [] (i+1) (by omega) (by omega) ⟨_,hs,rfl,.inr (.inl ⟨rfl,rfl,rfl⟩)⟩ (by
        have:(⟨#[]⟩:ByteArray).size=0:=rfl;rw[this];simp[bH])
      ·rw[if_neg (by simpa using h5)];by_cases h6:Int.tmod (l.getD i default).Kind 8=6
       ·rw[if_pos (by simpa using h6),dt (by simp) (by omega),bh,hw];refine go 5 ⟨#[]⟩ [{ dX with Kind:=3,Style:=(l.getD i default).Style,Text:=(l.getD i default).Text }] (i+1) (by omega) (by omega) ⟨_,hs,rfl,.inr (.inr (.inl ⟨rfl,rfl,h6,_,rfl,rfl,rfl,rfl,rfl⟩))⟩ ?_;have h0:(⟨#[]⟩:ByteArray).size=0:=rfl;have hz:bH k (dX).Kids=0:=by
         cases k<;>simp[bH,dX]
        have:=ht _ hs;rw[h0,wx];simp only[];rw[hz];omega
       ·rw[if_neg (by simpa using h6)];by_cases h7:Int.tmod (l.getD i default).Kind 8=7
        ·rw[if_pos (by simpa using h7),hw];obtain⟨bx,nx,e1,e2,e3,e4,e5,e6⟩:=ih N (i+1) (IntKind.wrap .u8 ((l.getD i default).Depth+1)) (by omega) (by omega) (by omega);show ∃(bx:List ai) (nx:Nat),((fP (KN N) N l ((i+1:Nat):Int) (IntKind.wrap .u8 ((l.getD i default).Depth+1))).bind _)=some (bx,(nx:Int))∧_;rw[e1];simp only[Option.bind_some];refine go 2 ⟨#[]⟩ bx nx (by omega) e3 ⟨_,hs,rfl,.inr (.inr (.inr ⟨rfl,rfl,e4⟩))⟩ ?_;have h0:(⟨#[]⟩:ByteArray).size=0:=rfl;rw[h0];omega
        ·rw[if_neg (by simpa using h7),hw];refine go 3 (l.getD i default).Text [] (i+1) (by omega) (by omega) ⟨_,hs,rfl,.inl ⟨rfl,rfl,rfl⟩⟩ ?_;have:=ht _ hs;have hz:bH (k+1) []=0:=by simp[bH]
         rw[hz];omega
    ·rw[if_neg (by simpa using hi)];exact stop
  obtain⟨bx,nx,e1,e2,e3,e4,e5,e6⟩:=loop (N+1) i0 [] (Nat.le_refl _) h2 (by omega) (fun b hb=>by cases hb) (by simp) (by simp[bH]);exact⟨bx,nx,e1,e2,e3,⟨by omega,e4⟩,e5,e6⟩
theorem EX{l:List bG}(hl:l.length≤16)(ht:∀s∈l,s.Text.size≤60){N:Nat}(hN:70≤N):∃bx,nH (KN N) N l=some bx∧Bx l 16 bx∧Dp 17 bx∧bH 17 bx≤992:=by
 obtain⟨bx,nx,e1,e2,e3,e4,e5,e6⟩:=JR hl ht 16 N 0 0 (by omega) (by omega) (by omega);have e6':bH 17 bx≤62*(nx-0):=e6;refine⟨bx,?_,e4,vh ht 16 bx e4,by omega⟩;unfold nH;rw[show fP (KN N) N l 0 0=_ from e1];rfl
theorem Jq{l:List bG}:∀(d:Nat) (L:List ai) (s:Int×List ao) (Q:ai→Prop),Bx l d L→(∀b R,iX l R b→Q b)→(∀x∈s.2,Q x.Box)→∀x∈(vM (d+1) L s).2,Q x.Box:=by
 intro d
 induction d with
 | zero=>intro L s Q h hQ hs;unfold Bx at h;subst h;exact hs
 | succ d ih =>
  intro L s Q h hQ;unfold Bx at h;obtain⟨hz,h⟩:=h;clear hz
  induction L generalizing s with
  | nil=>intro hs;exact hs
  | cons b r ihL =>
   intro hs;rw[fk,List.foldl_cons,← fk];refine ihL _ (fun b hb=>h b (by simp[hb])) ?_;have hb:=h b (by simp);have ap:∀(y:ao),y.Box=b→∀x∈s.2++[y],Q x.Box:=fun y hy x hx=>by
    rcases List.mem_append.1 hx with hx|hx
    ·exact hs x hx
    ·rw[List.mem_singleton.1 hx,hy];exact hQ b _ hb
   unfold dC;cases fc b with
   | false=>exact hs
   | true =>
    simp only[cond_true];cases h2:(b.Kind == 2) with
    | true =>
     simp only[cond_true];obtain⟨_,_,_,h3|h4|h5|h2'⟩:=hb
     ·rw[h3.1]at h2;simp at h2
     ·rw[h4.1]at h2;simp at h2
     ·rw[h5.1]at h2;simp at h2
     ·exact ih b.Kids _ Q h2'.2.2 hQ hs
    | false =>
     simp only[cond_false];cases (b.Kind == 4) with
     | true=>exact ap _ rfl
     | false =>
      simp only[cond_false];cases (b.Kind == 5) with
      | true=>exact ap _ rfl
      | false =>
       simp only[cond_false];cases (b.Kind == 3) with
       | true=>exact oM (P:=fun x=>Q x.Box) b _ (fun _ _ _=>hQ b _ hb) (hQ b _ hb) (fun _=>hQ b _ hb) (fun _=>hQ b _ hb) _ _ sr hs
       | false=>exact hs
theorem Du:∀(d:Nat) (L:List ai) (s:Int×List ao),(∀x∈s.2,x.Kind=3→x.Box.Kind=5)→∀x∈(vM d L s).2,x.Kind=3→x.Box.Kind=5:=by
 intro d
 induction d with
 | zero=>intro L s hs;exact hs
 | succ d ih =>
  intro L
  induction L with
  | nil=>intro s hs;exact hs
  | cons b r ihL =>
   intro s hs;rw[fk,List.foldl_cons,← fk];refine ihL _ ?_;have ap:∀(y:ao),(y.Kind=3→y.Box.Kind=5)→∀x∈s.2++[y],x.Kind=3→x.Box.Kind=5:=fun y hy x hx=>by
    rcases List.mem_append.1 hx with hx|hx
    ·exact hs x hx
    ·rw[List.mem_singleton.1 hx];exact hy
   unfold dC;cases fc b with
   | false=>exact hs
   | true =>
    simp only[cond_true];cases (b.Kind == 2) with
    | true=>exact ih b.Kids _ hs
    | false =>
     simp only[cond_false];cases (b.Kind == 4) with
     | true=>exact ap _ (fun e=>by cases e)
     | false =>
      simp only[cond_false];cases h5:(b.Kind == 5) with
      | true=>exact ap _ (fun _=>by simpa using h5)
      | false =>
       simp only[cond_false];cases (b.Kind == 3) with
       | true=>exact oM (P:=fun x=>x.Kind=3→x.Box.Kind=5) b _ (fun _ _ _ e=>by cases e) (fun e=>by cases e) (fun _ e=>by cases e) (fun _ e=>by cases e) _ _ sr hs
       | false=>exact hs
end Go.Proofs.Ytnpmlepplfaijaa
namespace Go.Proofs.Ytnpmlepplfaijaa
set_option linter.all false
open Go.RowKit
def ed(l:cL)(b:Int):Int×Bool :=
 if l.Kind=1 then (min (max l.Value (-1048576)) 1048576,true)
 else if l.Kind=2 then (min (max (aa (Int.tdiv (aa ((min (max b 0) 1048576)*(min (max l.Value (-1000000)) 1000000))) 10000)) (-1048576)) 1048576,true)
 else (0,false)
def nY(x:Int):Int:=min (max x 0) 1048576
section
variable(K:Kn)(n:Nat)
theorem Ar(x:Int):dJ K n x=some (nY x):=rfl
theorem lP(l:cL)(b:Int):cI K n l b=some (ed l b):=by
 unfold cI ed;by_cases h1:l.Kind=1
 ·simp[h1,lg]
 ·by_cases h2:l.Kind=2
  ·simp[h2,lg,dJ]
  ·simp[h1,h2]
def zI(s:aF)(w c:Int):Int :=
 let m:=if (ed s.MaxWidth w).2=true then min (max c 0) (max (ed s.MaxWidth w).1 0) else max c 0
 if (ed s.MinWidth w).2=true then max m (ed s.MinWidth w).1 else m
theorem D0(s:aF)(w c:Int):ic K n s w c=some (zI s w c):=by
 unfold ic zI;simp only[lP,Option.bind_some,ov,oi]
 repeat (first|rfl|split)
def sE(s:aF)(w c:Int):bn :=
 ⟨⟨(ed s.Margin.a0 w).1,(ed s.Margin.a1 w).1,(ed s.Margin.a2 w).1,(ed s.Margin.a3 w).1⟩,⟨nY s.Border.a0,nY s.Border.a1,nY s.Border.a2,nY s.Border.a3⟩,
  ⟨max (ed s.Padding.a0 w).1 0,max (ed s.Padding.a1 w).1 0,max (ed s.Padding.a2 w).1 0,max (ed s.Padding.a3 w).1 0⟩,c⟩
theorem AX(s:aF)(w c:Int):gn K n s w c=some (sE s w c):=by
 simp only[gn,lP,Ar,Option.bind_some,sE]
def DV(z:bn):Int:=aa ((aa ((aa ((aa ((aa ((aa (z.Content+z.Margin.a1))+z.Margin.a3))+z.Border.a1))+z.Border.a3))+z.Padding.a1))+z.Padding.a3)
theorem AF(z:bn):gp K n z=some (DV z):=rfl
def dB(l:cL):Prop := -16777216≤l.Value∧l.Value≤16777216
theorem dV(l:cL):∃b,dc K n l=some b∧(b=true→dB l):=by
 unfold dc ny;by_cases h:l.Value ≥ -16777216
 ·simp only[h,decide_true,if_true];exact⟨_,rfl,fun e=>⟨h,of_decide_eq_true e⟩⟩
 ·simp only[h,decide_false,Bool.false_eq_true,if_false];exact⟨_,rfl,fun e=>by cases e⟩
structure uj(x:bG):Prop where
 text:(x.Text.size:Int)≤60
 left:dB x.Style.Left
 top:dB x.Style.Top
 width:dB x.Style.Width
 height:dB x.Style.Height
 minw:dB x.Style.MinWidth
 maxw:dB x.Style.MaxWidth
 basis:dB x.Style.Basis
 lh:0≤x.Style.LineHeight∧x.Style.LineHeight≤65536
 fs:0≤x.Style.FontSize∧x.Style.FontSize≤65536
 grow:0≤x.Style.Grow∧x.Style.Grow≤1048576
 shrink:0≤x.Style.Shrink∧x.Style.Shrink≤1048576
 m0:dB x.Style.Margin.a0
 m1:dB x.Style.Margin.a1
 m2:dB x.Style.Margin.a2
 m3:dB x.Style.Margin.a3
 p0:dB x.Style.Padding.a0
 p1:dB x.Style.Padding.a1
 p2:dB x.Style.Padding.a2
 p3:dB x.Style.Padding.a3
theorem Ea(L:List bG)(m:Int)(L1:Int→Option Bool)(i:Int)(h0:0≤i)(hi:i<L.length):gb K n L m L1 i=some false∨(uj (L.getD i.toNat default)∧gb K n L m L1 i=L1 (aa (i+1))):=by
 unfold gb;simp only[hi,decide_true,if_true,b9 h0 hi,bh];generalize hx:L.getD i.toNat default=x;have j5:∀b,lG K n L m i L1 b=if b=true then some false else L1 (aa (i+1)):=fun b=>rfl;obtain⟨b1,e1,f1⟩:=dV K n x.Style.Left;obtain⟨b2,e2,f2⟩:=dV K n x.Style.Top;obtain⟨b3,e3,f3⟩:=dV K n x.Style.Width;obtain⟨b4,e4,f4⟩:=dV K n x.Style.Height;obtain⟨b5,e5,f5⟩:=dV K n x.Style.MinWidth;obtain⟨b6,e6,f6⟩:=dV K n x.Style.MaxWidth;obtain⟨b7,e7,f7⟩:=dV K n x.Style.Basis;obtain⟨c0,g0,k0⟩:=dV K n x.Style.Margin.a0;obtain⟨c1,g1,k1⟩:=dV K n x.Style.Margin.a1;obtain⟨c2,g2,k2⟩:=dV K n x.Style.Margin.a2;obtain⟨c3,g3,k3⟩:=dV K n x.Style.Margin.a3;obtain⟨d0,q0,r0⟩:=dV K n x.Style.Padding.a0;obtain⟨d1,q1,r1⟩:=dV K n x.Style.Padding.a1;obtain⟨d2,q2,r2⟩:=dV K n x.Style.Padding.a2;obtain⟨d3,q3,r3⟩:=dV K n x.Style.Padding.a3;have jt:cK K n L m i L1 true=some false:=rfl;have j1:cK K n L m i L1 false=some false∨((c0=true∧c1=true∧c2=true∧c3=true∧d0=true∧d1=true∧d2=true∧d3=true)∧cK K n L m i L1 false=L1 (aa (i+1))):=by
  simp only[cK,mC,n3,mA,lG,hx,g0,g1,g2,g3,q0,q1,q2,q3,Option.bind_some];cases c0<;>cases d0<;>cases c1<;>cases d1<;>cases c2<;>cases d2<;>cases c3<;>cases d3<;>simp
 simp only[e1,e2,e3,e4,e5,e6,e7,Option.bind_some,jt];by_cases t0:(x.Text.size:Int)>60
 ·left;simp[t0]
 simp only[t0,decide_false,Bool.false_eq_true,if_false];cases b1
 ·left;simp
 simp only[Bool.not_true,Bool.false_eq_true,if_false];cases b2
 ·left;simp
 simp only[Bool.not_true,Bool.false_eq_true,if_false];cases b3
 ·left;simp
 simp only[Bool.not_true,Bool.false_eq_true,if_false];cases b4
 ·left;simp
 simp only[Bool.not_true,Bool.false_eq_true,if_false];cases b5
 ·left;simp
 simp only[Bool.not_true,Bool.false_eq_true,if_false];cases b6
 ·left;simp
 simp only[Bool.not_true,Bool.false_eq_true,if_false];cases b7
 ·left;simp
 simp only[Bool.not_true,Bool.false_eq_true,if_false];by_cases u1:x.Style.LineHeight<0
 ·left;simp[u1]
 simp only[u1,decide_false,Bool.false_eq_true,if_false];by_cases u2:x.Style.LineHeight>65536
 ·left;simp[u2]
 simp only[u2,decide_false,Bool.false_eq_true,if_false];by_cases u3:x.Style.FontSize<0
 ·left;simp[u3]
 simp only[u3,decide_false,Bool.false_eq_true,if_false];by_cases u4:x.Style.FontSize>65536
 ·left;simp[u4]
 simp only[u4,decide_false,Bool.false_eq_true,if_false];by_cases u5:x.Style.Grow<0
 ·left;simp[u5]
 simp only[u5,decide_false,Bool.false_eq_true,if_false];by_cases u6:x.Style.Grow>1048576
 ·left;simp[u6]
 simp only[u6,decide_false,Bool.false_eq_true,if_false];by_cases u7:x.Style.Shrink<0
 ·left;simp[u7]
 simp only[u7,decide_false,Bool.false_eq_true,if_false];by_cases u8:x.Style.Shrink>1048576
 ·left;simp only[u8,decide_true];exact jt
 simp only[u8,decide_false];rcases j1 with h|⟨⟨a0,a1,a2,a3,p0,p1,p2,p3⟩,h⟩
 ·exact .inl h
 ·refine .inr ⟨⟨by omega,f1 rfl,f2 rfl,f3 rfl,f4 rfl,f5 rfl,f6 rfl,f7 rfl,⟨by omega,by omega⟩,⟨by omega,by omega⟩,⟨by omega,by omega⟩,⟨by omega,by omega⟩,k0 a0,k1 a1,k2 a2,k3 a3,r0 p0,r1 p1,r2 p2,r3 p3⟩,h⟩
theorem Gv(L:List bG)(mx:Int)(hL:(L.length:Int)≤9223372036854775807):∀(m:Nat) (i:Int),0≤i→i≤L.length→(L.length:Int)<m+i →
  ∃b,iZ K n L mx m i=some b∧(b=true→(L.length:Int)≤mx∧∀k,i.toNat≤k→k<L.length→uj (L.getD k default)):=by
 intro m
 induction m with
 | zero=>intro i h0 h1 h2;omega
 | succ m ih =>
  intro i h0 h1 h2;show ∃b,gb K n L mx (iZ K n L mx m) i=some b∧_;by_cases hi:i<(L.length:Int)
  ·rcases Ea K n L mx (iZ K n L mx m) i h0 hi with h|⟨h,h'⟩
   ·exact⟨false,h,fun e=>by cases e⟩
   ·obtain⟨b,hb,hk⟩:=ih (i+1) (by omega) (by omega) (by omega);rw[h',cd (by omega) (by omega)];refine⟨b,hb,fun e=>⟨(hk e).1,fun k h3 h4=>?_⟩⟩;by_cases e2:k=i.toNat
    ·subst e2;exact h
    ·exact(hk e).2 k (by omega) h4
  ·have hd:decide (i<(L.length:Int))=false:=by simpa using hi
   unfold gb;simp only[hd,Bool.false_eq_true,if_false];exact⟨_,rfl,fun e=>⟨of_decide_eq_true e,fun k h3 h4=>by omega⟩⟩
theorem Hx(L:List bG)(mx:Int)(hL:(L.length:Int)≤9223372036854775807)(hn:L.length<n):∃b,pg K n L mx=some b∧(b=true→(L.length:Int)≤mx∧∀x∈L,uj x):=by
 obtain⟨b,h1,h2⟩:=Gv K n L mx hL n 0 (by omega) (by omega) (by omega);refine⟨b,h1,fun e=>⟨(h2 e).1,fun x hx=>?_⟩⟩;obtain⟨k,hk,rfl⟩:=List.mem_iff_getElem.1 hx;have:=(h2 e).2 k (by simp) hk;rwa[cz hk]at this
end
end Go.Proofs.Ytnpmlepplfaijaa
namespace Go.Proofs.Ytnpmlepplfaijaa
set_option linter.all false
open Go.RowKit
theorem vc{α β:Type}{x:Option α}{f:α→Option β}(h:dW x)(hf:∀a,dW (f a)):dW (x.bind f):=by
 obtain⟨a,rfl⟩:=h;exact hf a
theorem HK(K:Kn)(n:Nat)(s:aF):dW (jH K n s):=by
 unfold jH nZ nA mz mH ow mN oo my mw m7 oa
 repeat first|exact g7 _|apply mK
structure iz(b:ai)(k:ai):Prop where
 kids:b.Kids=[k]
 kind:k.Kind=3
 text:k.Text.size≤60
section
variable{N:Nat}{b k:ai}
theorem wQ(h:iz b k):gR (KN (N+9)) (N+9) b=some ([k],false):=by
 have hf:fc k=true:=by unfold fc fd;rw[if_pos (by simp[h.kind])];rfl
 unfold gR;show gx (KN (N+9)) (N+9) b (lS (KN (N+9)) (N+9) b (N+8)) 0 []=_;unfold gx;rw[if_pos (by simp[h.kids]),b9 (by omega) (by rw[h.kids];simp),bh,vx];simp only[Option.bind_some,h.kids];have e0:([k].getD (Int.toNat 0) default)=k:=rfl;rw[e0,hf,if_pos rfl,dt (by simp) (by omega),bh];unfold nR;rw[cd (by omega) (by omega)];show gx (KN (N+9)) (N+9) b (lS (KN (N+9)) (N+9) b (N+7)) (0+1) ([]++[k])=_;unfold gx;rw[if_neg (by simp[h.kids])];have hc:mT (KN (N+9)) (N+9) ([]++[k]) (Fv.fn 81)=some false:=by
  unfold mT py;show(Option.bind (gK (KN (N+9)) (N+9) [k] (Fv.fn 81) (ly (KN (N+9)) (N+9) [k] (Fv.fn 81) (N+8)) 0) _)=_;unfold gK;rw[if_pos (by simp),b9 (by omega) (by simp),bh];have ho:(KN (N+9)).nD (Fv.fn 81) ([k].getD (Int.toNat 0) default)=some false:=by
   show kn (KN (N+8)) (N+8) k=some false;unfold kn kB;rw[if_neg (by simp[h.kind]),if_neg (by simp[h.kind])];simp[h.kind]
  rw[ho];simp only[Option.bind_some,Bool.false_eq_true,if_false];rw[cd (by omega) (by omega)];show(Option.bind (gK (KN (N+9)) (N+9) [k] (Fv.fn 81) (ly (KN (N+9)) (N+9) [k] (Fv.fn 81) (N+7)) (0+1)) _)=_;unfold gK;rw[if_neg (by simp)];rfl
 rw[hc];rfl
theorem EH(h:iz b k)(s:aF):dW (l7 (KN (N+9)) (N+9) [k] s):=by
 unfold l7;show dW (gU (KN (N+9)) (N+9) [k] (jJ (KN (N+9)) (N+9) [k] (N+8)) 0 0 0);unfold gU;rw[if_pos (by simp),b9 (by omega) (by simp),bh,cd (n:=0+1) (by omega) (by omega)];generalize max (0:Int) _=x;generalize aa (0+_)=y;show dW (gU (KN (N+9)) (N+9) [k] (jJ (KN (N+9)) (N+9) [k] (N+7)) x y (0+1));unfold gU;rw[if_neg (by simp)];exact g7 _
theorem H1(h:iz b k)(s:aF)(w:Int):∃l y,nz (KN (N+9)) (N+9) [k] s w=some (l,y)∧l.length≤1:=by
 unfold nz;show ∃l y,ii (KN (N+9)) (N+9) [k] s w (jm (KN (N+9)) (N+9) [k] s w (N+8)) 0 0 []=some (l,y)∧_;unfold ii;rw[if_pos (by simp),b9 (by omega) (by simp)];simp only[bh,Option.bind_some];have fin:∀(y:Int) (l:List af),l.length≤1→∃l' y',jZ (KN (N+9)) (N+9) [k] s w 0 (jm (KN (N+9)) (N+9) [k] s w (N+8)) y l=some (l',y')∧l'.length≤1:=fun y l hl=>by
  unfold jZ;rw[cd (by omega) (by omega)];show ∃l' y',ii (KN (N+9)) (N+9) [k] s w (jm (KN (N+9)) (N+9) [k] s w (N+7)) y (0+1) l=some (l',y')∧_;unfold ii;rw[if_neg (by simp)];exact⟨l,y,rfl,hl⟩
 split
 ·rw[dt (by simp) (by omega),bh];exact fin _ _ (by simp)
 ·exact fin _ _ (by simp)
def Tk(x:Option af):Prop:=∃f,x=some f∧f.Kind=1
theorem eE{c:Prop}[Decidable c]{x y:Option af}(h1:Tk x)(h2:Tk y):Tk (if c then x else y):=by split;exact h1;exact h2
theorem BW(K:Kn)(n:Nat)(b:ai)(z:bn)(F:List ai)(v19:List af)(v25:Int)(v33 v34:aJ)(v35:Bool)(v39 v40:Int)(hl:v19.length≤1000):∀(m i:Nat) (v48:List af),i≤v19.length→v19.length<m+i→v48.length=v19.length→Tk (lw K n b z (F,false) v19 v25 v33 v34 v35 v39 v40 m i v48):=by
 intro m
 induction m with
 | zero=>intro i v48 h1 h2;omega
 | succ m ih =>
  intro i v48 h1 h2 h3;show Tk (li K n b z (F,false) v19 v25 v33 v34 v35 v39 v40 (lw K n b z (F,false) v19 v25 v33 v34 v35 v39 v40 m) i v48);unfold li;by_cases hi:i<v19.length
  ·rw[if_pos (by simpa using hi),b9 (by omega) (by omega)];simp only[bh,Option.bind_some,List.length_set];rw[b9 (by omega) (by omega)];simp only[bh,Option.bind_some,Bool.false_eq_true,if_false];unfold n0 l5;rw[if_neg (by simp),cd (by omega) (by omega)];exact ih (i+1) _ (by omega) (by omega) (by simp[h3])
  ·rw[if_neg (by simpa using hi)];exact⟨_,rfl,rfl⟩
theorem Dc(K:Kn)(n:Nat)(b:ai)(z:bn)(F:List ai)(v19:List af)(v25 v32:Int)(v33 v34:aJ)(v35:Bool)(hl:v19.length≤1000)(hn:1001≤n):Tk (ft K n b z (F,false) v19 v25 v32 v33 v34 v35):=by
 have h8:∀x,Tk (mu K n b z (F,false) v19 v25 v33 v34 v35 x):=fun x=>BW K n b z F v19 v25 v33 v34 v35 _ _ hl n 0 v19 (by omega) (by omega) rfl;unfold ft;rw[lP];simp only[Option.bind_some];unfold om;exact eE (eE (h8 _) (h8 _)) (eE (h8 _) (h8 _))
theorem Df(h:iz b k)(hN:1100≤N)(z:bn)(env:bW)(he:env.Lines=(Fv.fn 38)):Tk (jI (KN (N+10)) (N+10) b z false false env):=by
 unfold jI;rw[show gR (KN (N+10)) (N+10) b=_ from wQ (N:=N+1) h];simp only[Option.bind_some,Bool.false_eq_true,if_false];rw[he];obtain⟨l,y,e,hl⟩:=H1 (N:=N) h b.Style z.Content;rw[show(KN (N+10)).lY ((Fv.fn 38)) [k] b.Style z.Content=some (l,y) from e];simp only[Option.bind_some];have hcl:∃l',ni (KN (N+10)) (N+10) l=some l'∧l'.length≤1000:=by
  unfold ni both;rw[dt (by simp;omega) (by omega)];cases l with
  | nil=>exact⟨[],by simp[bh],by simp⟩
  | cons x r=>exact⟨x::r,by simp[bh],by omega⟩
 obtain⟨l',e2,hl2⟩:=hcl;rw[e2];simp only[Option.bind_some];have j6:∀a b' c d e',Tk (ft (KN (N+10)) (N+10) b z ([k],false) l' a b' c d e'):=fun a b' c d e'=>Dc _ _ b z [k] l' a b' c d e' hl2 (by omega);have j5:∀v15 v16 v17 v18 v21 v25 v26 v27,Tk (jg (KN (N+10)) (N+10) b z false ([k],false) v15 v16 v17 v18 l' v21 v25 v26 v27):=fun v15 v16 v17 v18 v21 v25 v26 v27=>by
  unfold jg;refine eE (j6 _ _ _ _ _) (eE (eE (j6 _ _ _ _ _) (j6 _ _ _ _ _)) (eE (j6 _ _ _ _ _) (j6 _ _ _ _ _)))
 have j4:∀v15 v16 v17 v18 v21 v25 v26,Tk (jx (KN (N+10)) (N+10) b z false false ([k],false) v15 v16 v17 v18 l' v21 v25 v26):=fun v15 v16 v17 v18 v21 v25 v26=>by
  unfold jx;exact eE (eE (j5 _ _ _ _ _ _ _ _) (j5 _ _ _ _ _ _ _ _)) (j5 _ _ _ _ _ _ _ _)
 have j3:∀v15 v16 v17 v18 v20 v21 v23,Tk (kT (KN (N+10)) (N+10) b z false false ([k],false) v15 v16 v17 v18 l' v20 v21 v23):=fun v15 v16 v17 v18 v20 v21 v23=>by
  unfold kT;exact eE (j4 _ _ _ _ _ _ _) (j4 _ _ _ _ _ _ _)
 unfold nK;simp only[mj,Option.bind_some];exact eE (by obtain⟨v,hv⟩:∃v,gG (KN (N+10)) (N+10) ⟨max z.Margin.a0 0,min z.Margin.a0 0⟩ cr=some v:=⟨_,rfl⟩;rw[hv];exact j4 _ _ _ _ _ _ _) (eE (j3 _ _ _ _ _ _ _) (j3 _ _ _ _ _ _ _))
theorem CD(K:Kn)(n:Nat)(f:af)(w:Int):∃g,ls K n f w=some g∧g.Kind=f.Kind:=by
 unfold ls mX;simp only[lP,Option.bind_some]
 repeat' split
 all_goals exact⟨_,rfl,rfl⟩
theorem BK(h:iz b k)(hN:1100≤N)(w:Int):∃r,gM (KN (N+10)) (N+10) b w ⟨(Fv.fn 36),(Fv.fn 37),(Fv.fn 38),(Fv.fn 39)⟩=some r∧r.Text=⟨#[]⟩∧∃f,r.Box=[f]∧f.Kind=1:=by
 have hin:dW (lq (KN (N+10)) (N+10) b ⟨(Fv.fn 36),(Fv.fn 37),(Fv.fn 38),(Fv.fn 39)⟩):=by
  unfold lq;refine vc (HK _ _ _) fun s=>?_;rw[lP];simp only[Option.bind_some];refine mK (g7 _) ?_;rw[show gR (KN (N+10)) (N+10) b=_ from wQ (N:=N+1) h];simp only[Option.bind_some,Bool.not_false,if_true];exact vc (EH (N:=N) h b.Style) fun x=>g7 _
 have hs:dW (nO (KN (N+10)) (N+10) b w ⟨(Fv.fn 36),(Fv.fn 37),(Fv.fn 38),(Fv.fn 39)⟩):=by
  unfold nO mQ;rw[lP];simp only[Option.bind_some,D0];refine mK ?_ (g7 _);refine vc hin fun x=>?_;simp only[Ar,AX,AF,Option.bind_some];exact g7 _
 obtain⟨c,hc⟩:=hs;unfold gM;rw[hc];simp only[Option.bind_some,AX];obtain⟨f,hf,hk⟩:=Df h hN (sE b.Style w c) ⟨(Fv.fn 36),(Fv.fn 37),(Fv.fn 38),(Fv.fn 39)⟩ rfl;unfold qM;rw[hf];simp only[Option.bind_some];obtain⟨g,hg,hgk⟩:=CD (KN (N+10)) (N+10) f w;rw[hg];simp only[Option.bind_some,AF,fX];exact⟨_,rfl,rfl,g,rfl,by rw[hgk,hk]⟩
end
end Go.Proofs.Ytnpmlepplfaijaa
namespace Go.Proofs.Ytnpmlepplfaijaa
set_option linter.all false
open Go.RowKit
structure R4 where
 w:Int
 s:Int
 g:Bool
 f:Bool
instance:Inhabited R4:=⟨⟨0,0,false,false⟩⟩
def vI(r:aq):R4:=⟨r.Width,r.Space,r.Glued,r.Forced⟩
theorem fT{L:List aq}{k:Nat}(h:k<L.length):(L.map vI)[k]'(by simpa using h)=vI (L.getD k default):=by
 rw[cz h];simp
def gr(l:List R4)(i:Nat):Nat:=i+((l.drop i).takeWhile R4.g).length
theorem gj(l:List R4)(i:Nat):i≤gr l i:=Nat.le_add_right _ _
theorem Ao{α:Type}(p:α→Bool):∀l:List α,(l.takeWhile p).length≤l.length
 | []=>Nat.le_refl _
 | x::r=>by
  rw[List.takeWhile_cons];split
  ·simp;exact Ao p r
  ·simp
theorem iC{l:List R4}{i:Nat}(h:i≤l.length):gr l i≤l.length:=by
 have:=Ao R4.g (l.drop i);simp at this;unfold gr;omega
theorem oT{l:List R4}{i:Nat}(h:i<l.length)(hg:l[i].g=true):gr l i=gr l (i+1):=by
 unfold gr;rw[List.drop_eq_getElem_cons h,List.takeWhile_cons,if_pos hg];simp;omega
theorem pF{l:List R4}{i:Nat}(h:i<l.length)(hg:l[i].g=false):gr l i=i:=by
 unfold gr;rw[List.drop_eq_getElem_cons h,List.takeWhile_cons,if_neg (by simp[hg])];simp
theorem tX{l:List R4}{i:Nat}(h:l.length≤i):gr l i=i:=by
 unfold gr;rw[List.drop_eq_nil_of_le h];simp
theorem yi{l:List R4}:∀(k i:Nat),l.length-i=k→(h:gr l i<l.length)→l[gr l i].g=false:=by
 intro k
 induction k with
 | zero=>intro i hk h;rw[tX (by omega)]at h;omega
 | succ k ih =>
  intro i hk h;have hi:i<l.length:=by omega
  cases hg:l[i].g with
  | true=>have e:=oT hi hg;simp only[e]at h⊢;exact ih (i+1) (by omega) h
  | false=>have e:=pF hi hg;simp only[e];exact hg
theorem Fm{l:List R4}:∀(k i:Nat),l.length-i=k→∀j,i≤j→j<gr l i→(hj:j<l.length)→l[j].g=true:=by
 intro k
 induction k with
 | zero=>intro i hk j h1 h2 h3;omega
 | succ k ih =>
  intro i hk j h1 h2 h3;have hi:i<l.length:=by omega
  cases hg:l[i].g with
  | true =>
   by_cases e:j=i
   ·subst e;exact hg
   ·exact ih (i+1) (by omega) j (by omega) (by rw[←oT hi hg];exact h2) h3
  | false=>rw[pF hi hg]at h2;omega
def wS(n last:Int):List R4→Int
 | []=>aa (n-last)
 | r::t=>wS (aa (n+aa (r.w+r.s))) (if r.f then last else r.s) t
def dD(l:List R4):Int:=wS 0 0 l
def lK(n:Int):List R4→Int
 | []=>n
 | r::t=>lK (aa (n+aa (r.w+r.s))) t
def dF(x:Int):List R4→Int
 | []=>x
 | r::t=>dF (if r.f then x else r.s) t
theorem z6:∀(l:List R4) (n last:Int),wS n last l=aa (lK n l-dF last l)
 | [],n,last=>rfl
 | r::t,n,last=>by unfold wS lK dF;exact z6 t _ _
theorem tW:∀(l m:List R4) (x:Int),dF x (l++m)=dF (dF x l) m
 | [],m,x=>rfl
 | r::t,m,x=>by simp only[List.cons_append,dF];exact tW t m _
theorem FX(n:Int):aa (aa n)=aa n:=by
 have : -9223372036854775808≤aa n∧aa n≤9223372036854775807:=by unfold aa;rw[IntKind.wrap_i64];omega
 exact cd this.1 this.2
section
variable{K:Kn}{n:Nat}{L:List aq}
theorem Ij:∀(m:Nat) (i:Int),0≤i→i≤L.length→L.length<m+i.toNat→(L.length:Int)<9223372036854775807→kf K n L m i=some ((gr (L.map vI) i.toNat:Nat):Int):=by
 intro m
 induction m with
 | zero=>intro i h0 h1 h2;omega
 | succ m ih =>
  intro i h0 h1 h2 hL;show kk K n L (kf K n L m) i=_;unfold kk;by_cases hi:i<(L.length:Int)
  ·have hk:i.toNat<L.length:=by omega
   rw[if_pos (by simpa using hi),b9 h0 hi,bh];unfold kV;have hv:=fT hk;cases hg:(L.getD i.toNat default).Glued with
   | true =>
    rw[if_pos rfl,cd (by omega) (by omega),ih (i+1) (by omega) (by omega) (by omega) hL];rw[oT (l:=L.map vI) (i:=i.toNat) (by simpa using hk) (by rw[hv];exact hg),show(i+1).toNat=i.toNat+1 by omega]
   | false =>
    rw[if_neg (by simp)];rw[pF (l:=L.map vI) (i:=i.toNat) (by simpa using hk) (by rw[hv];exact hg)];congr 1;omega
  ·rw[if_neg (by simpa using hi)];unfold kV;rw[if_neg (by simp),tX (by simp;omega)];congr 1;omega
theorem zN{i:Int}(h0:0≤i)(h1:i<L.length)(hn:L.length<n)(hL:(L.length:Int)<9223372036854775807):kM K n L i=some ((gr (L.map vI) (i.toNat+1):Nat):Int):=by
 unfold kM;rw[cd (by omega) (by omega),Ij n (i+1) (by omega) (by omega) (by omega) hL,show(i+1).toNat=i.toNat+1 by omega]
theorem Gu:∀(m:Nat) (k:Nat),k≤L.length→k<m→(L.length:Int)<9223372036854775807 →
  ∃j:Int,lu K n L m ((k:Int)-1)=some j∧((j = -1∧∀x,dF x ((L.map vI).take k)=x)∨(0≤j∧j<k∧∀x,dF x ((L.map vI).take k)=(L.getD j.toNat default).Space)):=by
 intro m
 induction m with
 | zero=>intro k _ h;omega
 | succ m ih =>
  intro k hk hm hL;show ∃j,jS K n L (lu K n L m) ((k:Int)-1)=some j∧_;unfold jS;cases k with
  | zero=>rw[if_neg (by simp)];exact⟨-1,rfl,.inl ⟨rfl,fun x=>by simp[dF]⟩⟩
  | succ k =>
   have e:(((k+1:Nat):Int)-1)=(k:Int):=by omega
   rw[e,if_pos (by simp),b9 (by omega) (by omega),bh,Int.toNat_natCast];have hkl:k<L.length:=by omega
   have hv:=fT hkl;have ht:(L.map vI).take (k+1)=(L.map vI).take k++[vI (L.getD k default)]:=by
    rw[List.take_add_one,List.getElem?_eq_getElem (by simpa using hkl),hv];rfl
   cases hf:(L.getD k default).Forced with
   | false =>
    rw[show(!false)=true from rfl,if_pos rfl];refine⟨(k:Int),rfl,.inr ⟨by omega,by omega,fun x=>?_⟩⟩;rw[ht,tW,Int.toNat_natCast];simp only[dF,vI,hf,Bool.false_eq_true,if_false]
   | true =>
    rw[show(!true)=false from rfl,if_neg (by simp),cd (by omega) (by omega)];obtain⟨j,h1,h2⟩:=ih k (by omega) (by omega) hL;refine⟨j,h1,?_⟩;have hx:∀x,dF x ((L.map vI).take (k+1))=dF x ((L.map vI).take k):=fun x=>by
     rw[ht,tW];simp only[dF,vI,hf,if_true]
    obtain⟨a,b⟩|⟨a,b,c⟩:=h2
    ·exact .inl ⟨a,fun x=>(hx x).trans (b x)⟩
    ·exact .inr ⟨a,by omega,fun x=>(hx x).trans (c x)⟩
theorem Cm(hn:L.length<n)(hL:(L.length:Int)<9223372036854775807):∃j:Int,lL K n L=some j∧((j = -1∧∀x,dF x (L.map vI)=x)∨(0≤j∧j<L.length∧∀x,dF x (L.map vI)=(L.getD j.toNat default).Space)):=by
 unfold lL;rw[cd (by omega) (by omega)];obtain⟨j,h1,h2⟩:=Gu (K:=K) (n:=n) (L:=L) n L.length (Nat.le_refl _) hn hL;refine⟨j,h1,?_⟩;rw[List.take_of_length_le (by simp)]at h2;exact h2
theorem De(hn:L.length<n)(hL:(L.length:Int)<9223372036854775807):∀(m:Nat) (x i:Int),0≤i→i≤L.length→L.length<m+i.toNat→aa x=x →
  lK 0 (L.map vI)=lK x ((L.map vI).drop i.toNat)→kg K n L m x i=some (dD (L.map vI)):=by
 intro m
 induction m with
 | zero=>intro x i h0 h1 h2;omega
 | succ m ih =>
  intro x i h0 h1 h2 hx hs;show kw K n L (kg K n L m) x i=_;unfold kw;by_cases hi:i<(L.length:Int)
  ·have hk:i.toNat<L.length:=by omega
   rw[if_pos (by simpa using hi),b9 h0 hi,bh,cd (n:=i+1) (by omega) (by omega)];refine ih _ (i+1) (by omega) (by omega) (by omega) (FX _) ?_;rw[hs,List.drop_eq_getElem_cons (by simpa using hk),fT hk,show(i+1).toNat=i.toNat+1 by omega];rfl
  ·rw[if_neg (by simpa using hi)];rw[List.drop_eq_nil_of_le (by simp;omega)]at hs;simp only[lK]at hs;obtain⟨j,h3,h4⟩:=Cm (K:=K) (L:=L) hn hL;rw[h3];simp only[Option.bind_some,ox];unfold dD;rw[z6,hs];obtain⟨rfl,h5⟩|⟨h5,h6,h7⟩:=h4
   ·rw[if_neg (by simp),h5];simp[hx]
   ·rw[if_pos (by simpa using h5),b9 h5 h6,bh,h7]
theorem D6(hn:L.length<n)(hL:(L.length:Int)<9223372036854775807):lQ K n L=some (dD (L.map vI)):=by
 unfold lQ;exact De hn hL n 0 0 (by omega) (by omega) (by simpa using hn) (by unfold aa;rw[IntKind.wrap_i64];omega) rfl
end
def sl{α:Type}(l:List α)(a b:Nat):List α:=List.drop a (List.take b l)
theorem uM{α β:Type}(f:α→β)(l:List α)(a b:Nat):(sl l a b).map f=sl (l.map f) a b:=by unfold sl;rw[List.map_drop,List.map_take]
theorem ky{α:Type}(l:List α)(a b:Nat):(sl l a b).length≤l.length:=by unfold sl;simp;omega
def lE(l:List R4)(w:Int)(a:Nat):Nat→Nat→Nat
 | 0,e=>e
 | m+1,e=>if e<l.length∧(l.getD (e-1) default).f=false∧¬ dD (sl l a (gr l (e+1)))>w then lE l w a m (gr l (e+1)) else e
def bM(l:List R4)(w:Int):Nat→Nat→List Nat
 | 0,_=>[]
 | m+1,a=>if a<l.length then a::bM l w m (lE l w a l.length (gr l (a+1))) else []
theorem mV(l:List R4)(w:Int)(a:Nat):∀m e,e≤lE l w a m e
 | 0,e=>Nat.le_refl _
 | m+1,e=>by
  unfold lE;split
  ·have:=mV l w a m (gr l (e+1));have:=gj l (e+1);omega
  ·exact Nat.le_refl _
theorem sW(l:List R4)(w:Int)(a:Nat):∀m e,e≤l.length→lE l w a m e≤l.length
 | 0,e,h=>h
 | m+1,e,h=>by
  unfold lE;split
  ·rename_i h1;exact sW l w a m _ (iC (by omega))
  ·exact h
theorem Hn(l:List R4)(w:Int)(a:Nat):∀(m m' e:Nat),l.length≤m+e→l.length≤m'+e→lE l w a m e=lE l w a m' e:=by
 intro m
 induction m with
 | zero =>
  intro m' e h h';cases m' with
  | zero=>rfl
  | succ m'=>unfold lE;rw[if_neg (by omega)]
 | succ m ih =>
  intro m' e h h';cases m' with
  | zero=>unfold lE;rw[if_neg (by omega)]
  | succ m' =>
   unfold lE;split
   ·have:=gj l (e+1);exact ih m' _ (by omega) (by omega)
   ·rfl
end Go.Proofs.Ytnpmlepplfaijaa
namespace Go.Proofs.Ytnpmlepplfaijaa
set_option linter.all false
open Go.RowKit
theorem CV(l:List R4)(w:Int):∀(m m' a:Nat),l.length<m+a→l.length<m'+a→bM l w m a=bM l w m' a:=by
 intro m
 induction m with
 | zero =>
  intro m' a h h';cases m' with
  | zero=>rfl
  | succ m'=>unfold bM;rw[if_neg (by omega)]
 | succ m ih =>
  intro m' a h h';cases m' with
  | zero=>unfold bM;rw[if_neg (by omega)]
  | succ m' =>
   unfold bM;split
   ·have:=mV l w a l.length (gr l (a+1));have:=gj l (a+1);rw[ih m' _ (by omega) (by omega)]
   ·rfl
theorem uA(l:List R4)(w:Int):∀(m a:Nat),(bM l w m a).length≤l.length-a
 | 0,a=>by simp[bM]
 | m+1,a=>by
  unfold bM;split
  ·have:=uA l w m (lE l w a l.length (gr l (a+1)));have:=mV l w a l.length (gr l (a+1));have:=gj l (a+1);simp;omega
  ·simp
section
variable{K:Kn}{n:Nat}{L:List aq}{w:Int}
theorem Jb(hn:L.length<n)(hL:(L.length:Int)<9223372036854775807)(a:Nat)(out:List Int)(C:Int→List Int→Option (List Int)):∀(m e:Nat),1≤e→a≤e→e≤L.length→L.length<m+e →
  k7 K n L w a out C m e=C ((lE (L.map vI) w a m e:Nat):Int) (out++[(a:Int)]):=by
 intro m
 induction m with
 | zero=>intro e h0 h1 h2 h3;omega
 | succ m ih =>
  intro e h0 h1 h2 h3;show lT K n L w a out C (k7 K n L w a out C m) e=_;unfold lT lE;by_cases he:e<L.length
  ·rw[if_pos (by simpa using he),cd (by omega) (by omega),b9 (by omega) (by omega),bh];unfold kW;have e1:((e:Int)-1).toNat=e-1:=by omega
   have hv:=fT (L:=L) (k:=e-1) (by omega);have hf:((L.map vI).getD (e-1) default).f=(L.getD ((e:Int)-1).toNat default).Forced:=by
    rw[cz (by simp;omega),hv,e1];rfl
   cases hb:(L.getD ((e:Int)-1).toNat default).Forced with
   | true =>
    rw[show(!true)=false from rfl,if_neg (by simp),if_neg (by rw[hf,hb];simp)];rfl
   | false =>
    have hg:=iC (l:=L.map vI) (i:=e+1) (by simp;omega);have hge:=gj (L.map vI) (e+1);simp only[List.length_map]at hg;rw[show(!false)=true from rfl,if_pos rfl,zN (by omega) (by omega) hn hL];simp only[Option.bind_some,Int.toNat_natCast];rw[show cp (a:Int) ((gr (L.map vI) (e+1):Nat):Int) L.length=true by simp only[cp,Bool.and_eq_true,decide_eq_true_eq];omega,bh];have hs:List.drop a (List.take (gr (L.map vI) (e+1)) L)=sl L a (gr (L.map vI) (e+1)):=rfl;rw[hs,D6 (by have:=ky L a (gr (L.map vI) (e+1));omega) (by have:=ky L a (gr (L.map vI) (e+1));omega),uM];simp only[Option.bind_some];by_cases hw:dD (sl (L.map vI) a (gr (L.map vI) (e+1)))>w
    ·rw[if_pos (by simpa using hw),if_neg (by simp[hw])];rfl
    ·rw[if_neg (by simpa using hw),if_pos ⟨by simpa using he,by rw[hf,hb],hw⟩];exact ih _ (by omega) (by omega) (by omega) (by omega)
  ·rw[if_neg (by simpa using he),if_neg (by simp;omega)];unfold kW;rw[if_neg (by simp)];rfl
theorem E4(hn:L.length<n)(hL:(L.length:Int)≤1000000):∀(m a:Nat) (out:List Int),a≤L.length→out.length≤a→L.length<m+a→ke K n L w m a out=some (out++(bM (L.map vI) w m a).map fun (k:Nat)=>(k:Int)):=by
 intro m
 induction m with
 | zero=>intro a out h1 h2 h3;omega
 | succ m ih =>
  intro a out h1 h2 h3;show lU K n L w (ke K n L w m) a out=_;unfold lU bM;by_cases ha:a<L.length
  ·rw[if_pos (by simpa using ha),if_pos (by simpa using ha),dt (by simp;omega) (by omega),bh,zN (by omega) (by omega) hn (by omega)];simp only[Option.bind_some,Int.toNat_natCast];have hg:=iC (l:=L.map vI) (i:=a+1) (by simp;omega);have hge:=gj (L.map vI) (a+1);simp only[List.length_map]at hg;rw[Jb hn (by omega) a out _ n _ (by omega) (by omega) hg (by omega)];rw[Hn (L.map vI) w a n (L.map vI).length _ (by simp;omega) (by simp)];have h5:=sW (L.map vI) w a (L.map vI).length (gr (L.map vI) (a+1)) (by simpa using hg);have h6:=mV (L.map vI) w a (L.map vI).length (gr (L.map vI) (a+1));simp only[List.length_map]at h5 h6⊢;rw[ih _ _ h5 (by simp;omega) (by omega)];simp[List.append_assoc]
  ·rw[if_neg (by simpa using ha),if_neg (by simpa using ha)];simp
theorem Fp(hn:L.length<n)(hL:(L.length:Int)≤1000000):jU K n L w=some ((bM (L.map vI) w (L.length+1) 0).map fun (k:Nat)=>(k:Int)):=by
 unfold jU;rw[show(0:Int)=((0:Nat):Int) from rfl,E4 hn hL n 0 [] (by omega) (by simp) (by omega),CV (L.map vI) w n (L.length+1) 0 (by simp;omega) (by simp)];simp
end
end Go.Proofs.Ytnpmlepplfaijaa
namespace Go.Proofs.Ytnpmlepplfaijaa
set_option linter.all false
open Go.RowKit
noncomputable section
def jl(o:Int):ao→List ao→Nat
 | _,[]=>0
 | a,b::r=>bif b.Kind == 1&&(b.Of == o&&!gW a b) then jl o b r+1 else 0
theorem ze(o:Int):∀(l:List ao) (a:ao),jl o a l≤l.length
 | [],_=>Nat.le_refl _
 | b::r,a=>by
  unfold jl;cases (b.Kind == 1&&(b.Of == o&&!gW a b)) with
  | true=>have:=ze o r b;simp;omega
  | false=>simp
def qQ(p:Option ao)(e:ao):Bool:=match p with
 | none=>false
 | some q=>q.Kind != 2&&!gW q e
def runM(x:aq)(e:ao)(g:Bool):aq:={ x with Node:=e.Box.Node,Style:=e.Box.Style,Glued:=g }
def cM(pl:ai→aq):Nat→Option ao→List ao→List aq
 | 0,_,_=>[]
 | _+1,_,[]=>[]
 | m+1,p,e::r =>
  bif e.Kind == 2 then runM { cm with Forced:=true } e (qQ p e)::cM pl m (some e) r
  else bif e.Kind == 3 then runM (pl e.Box) e (qQ p e)::cM pl m (some e) r
  else runM (eS (e::r.take (jl e.Of e r))) e (qQ p e)::cM pl m (some (fV (e::r.take (jl e.Of e r)))) (r.drop (jl e.Of e r))
def fA(L:List ao)(i:Nat):Option ao:=if i=0 then none else some (L.getD (i-1) default)
theorem sS{α:Type}[Inhabited α]{L:List α}{i k:Nat}(h:i<L.length):sl L i (i+1+k)=L.getD i default::(L.drop (i+1)).take k:=by
 unfold sl;rw[List.drop_take,show i+1+k-i=k+1 by omega,List.drop_eq_getElem_cons h,List.take_succ_cons,cz h]
theorem F1{α:Type}{L:List α}{a b:Nat}{x:α}(h:x∈sl L a b):x∈L:=by
 unfold sl at h;exact List.mem_of_mem_take (List.mem_of_mem_drop h)
theorem za{α:Type}{L:List α}{a b:Nat}(h:b≤L.length):(sl L a b).length=b-a:=by unfold sl;simp;omega
theorem FD{L:List ao}{i k:Nat}(h:i+k<L.length):fV (L.getD i default::(L.drop (i+1)).take k)=L.getD (i+k) default:=by
 rw[←sS (by omega)];unfold fV;have hl:=za (L:=L) (a:=i) (b:=i+1+k) (by omega);rw[hl,cz (by rw[hl];omega),cz h];unfold sl;rw[List.getElem_drop,List.getElem_take];congr 1;omega
section
variable{K:Kn}{n:Nat}{v2:Fv}{L:List ao}{pl:ai→aq}
theorem Gx(ho:∀e∈L,iv e)(hl:L.length≤2000)(hn:8010≤n)(i:Nat)(acc:List aq)(g:Bool)(C:Int→List aq→Option (List aq))(hi:i<L.length):∀(m x:Nat),i<x→x≤L.length→L.length<m+x →
  iG K n v2 L (i:Int) acc g C m (x:Int)=fF K n v2 L i acc g C ((x+jl (L.getD i default).Of (L.getD (x-1) default) (L.drop x):Nat):Int) (eS (sl L i (x+jl (L.getD i default).Of (L.getD (x-1) default) (L.drop x)))):=by
 have fin:∀y:Nat,i<y→y≤L.length→∀(D:Int→Option (List aq)),fD K n v2 L (i:Int) acc g (y:Int) C D false=fF K n v2 L i acc g C (y:Int) (eS (sl L i y)):=fun y h1 h2 D=>by
  unfold fD;have hsl:List.drop i (List.take y L)=sl L i y:=rfl;have hlen:=za (L:=L) (a:=i) (b:=y) h2;rw[if_neg (by simp),show cp (i:Int) (y:Int) L.length=true by simp only[cp,Bool.and_eq_true,decide_eq_true_eq];omega,bh];simp only[Int.toNat_natCast];rw[hsl,F4 (by intro e;rw[e]at hlen;simp at hlen;omega) (by omega) (fun e he=>ho e (F1 he)) hn];rfl
 intro m
 induction m with
 | zero=>intro x h1 h2 h3;omega
 | succ m ih =>
  intro x h1 h2 h3;show kF K n v2 L i acc g C (iG K n v2 L i acc g C m) x=_;unfold kF;by_cases hx:x<L.length
  ·have hdr:L.drop x=L.getD x default::L.drop (x+1):=by rw[List.drop_eq_getElem_cons hx,cz hx]
   have hb:L.getD x default∈L:=by rw[cz hx];exact List.getElem_mem _
   have ha:L.getD (x-1) default∈L:=by rw[cz (by omega)];exact List.getElem_mem _
   have e1:aa ((x:Int)-1)=((x-1:Nat):Int):=by rw[cd (by omega) (by omega)];omega
   rw[if_pos (by simpa using hx),b9 (by omega) (by omega)];simp only[bh,Int.toNat_natCast,e1];rw[hdr];unfold jl;have nog:∀{b:Bool},b=false→fD K n v2 L (i:Int) acc g (x:Int) C (iG K n v2 L i acc g C m) false=fF K n v2 L i acc g C ((x+(bif b then jl (L.getD i default).Of (L.getD x default) (L.drop (x+1))+1 else 0):Nat):Int) (eS (sl L i (x+(bif b then jl (L.getD i default).Of (L.getD x default) (L.drop (x+1))+1 else 0)))):=fun {b} hb=>by
    subst hb;exact fin x h1 h2 _
   cases hk:((L.getD x default).Kind == 1) with
   | false=>rw[if_neg (by simp)];exact nog rfl
   | true =>
    rw[if_pos rfl];cases hof:((L.getD x default).Of == (L.getD i default).Of) with
    | false=>rw[if_neg (by simp)];exact nog rfl
    | true =>
     rw[if_pos rfl,b9 (by omega) (by omega),bh,zb K (by omega) (ho _ ha).ch (ho _ hb).ch];simp only[Option.bind_some];cases hbr:gW (L.getD (x-1) default) (L.getD x default) with
     | true=>exact nog rfl
     | false =>
      unfold fD;rw[show(!false)=true from rfl,if_pos rfl,cd (by omega) (by omega),show(x:Int)+1=((x+1:Nat):Int) by omega,ih (x+1) (by omega) (by omega) (by omega)];simp only[Nat.add_sub_cancel,Bool.and_self,cond_true];rw[show x+1+jl (L.getD i default).Of (L.getD x default) (L.drop (x+1))=x+(jl (L.getD i default).Of (L.getD x default) (L.drop (x+1))+1) by omega]
  ·rw[if_neg (by simpa using hx),List.drop_eq_nil_of_le (by omega)];unfold jl;exact fin x h1 h2 _
theorem tY(i:Nat)(acc:List aq)(g:Bool)(C:Int→List aq→Option (List aq))(hacc:acc.length≤1000000)(y:Int)(x:aq):fF K n v2 L (i:Int) acc g C y x=C y (acc++[runM x (L.getD i default) g]):=by
 unfold fF;simp only[Option.bind_some,Int.toNat_natCast];rw[dt (by simp;omega) (by omega),bh];rfl
theorem G1(ho:∀e∈L,iv e)(hl:L.length≤2000)(hn:8010≤n)(hpl:∀e∈L,e.Kind=3→K.jL v2 e.Box=some (pl e.Box)):∀(m i:Nat) (acc:List aq),i≤L.length→L.length<m+i→acc.length≤i →
  jk K n v2 L m (i:Int) acc=some (acc++cM pl m (fA L i) (L.drop i)):=by
 intro m
 induction m with
 | zero=>intro i acc h1 h2;omega
 | succ m ih =>
  intro i acc h1 h2 h3;show kJ K n v2 L (jk K n v2 L m) i acc=_;unfold kJ;by_cases hi:i<L.length
  ·have hdr:L.drop i=L.getD i default::L.drop (i+1):=by rw[List.drop_eq_getElem_cons hi,cz hi]
   have hb:L.getD i default∈L:=by rw[cz hi];exact List.getElem_mem _
   rw[if_pos (by simpa using hi),b9 (by omega) (by omega)];simp only[bh,Int.toNat_natCast];rw[hdr];have hw:aa ((i:Int)+1)=((i+1:Nat):Int):=by rw[cd (by omega) (by omega)];omega
   have hprev:fA L (i+1)=some (L.getD i default):=by unfold fA;rw[if_neg (by omega),Nat.add_sub_cancel]
   have key:∀g,g=qQ (fA L i) (L.getD i default)→iE K n v2 L (i:Int) acc (jk K n v2 L m) g=some (acc++cM pl (m+1) (fA L i) (L.getD i default::L.drop (i+1))):=by
    intro g hg;unfold iE cM;simp only[Option.bind_some,Int.toNat_natCast];rw[←hg];cases k2:((L.getD i default).Kind == 2) with
    | true =>
     rw[if_pos rfl,tY i acc g _ (by omega),hw,ih (i+1) _ (by omega) (by omega) (by simp;omega),hprev];simp[List.append_assoc]
    | false =>
     rw[if_neg (by simp)];cases k3:((L.getD i default).Kind == 3) with
     | true =>
      rw[if_pos rfl,hpl _ hb (by simpa using k3)];simp only[Option.bind_some];rw[tY i acc g _ (by omega),hw,ih (i+1) _ (by omega) (by omega) (by simp;omega),hprev];simp[List.append_assoc]
     | false =>
      rw[if_neg (by simp),hw,Gx ho hl hn i acc g _ hi n (i+1) (by omega) (by omega) (by omega),Nat.add_sub_cancel];simp only[cond_false];have hj:=ze (L.getD i default).Of (L.drop (i+1)) (L.getD i default);rw[List.length_drop]at hj;generalize jl (L.getD i default).Of (L.getD i default) (L.drop (i+1))=k at *;rw[tY i acc g _ (by omega),ih (i+1+k) _ (by omega) (by omega) (by simp;omega),sS hi,FD (by omega),List.drop_drop];have hp:fA L (i+1+k)=some (L.getD (i+k) default):=by unfold fA;rw[if_neg (by omega)];congr 2;omega
      rw[hp];simp[List.append_assoc]
   by_cases h0:i=0
   ·rw[if_neg (by simp;omega)];exact key false (by unfold fA;rw[if_pos h0];rfl)
   ·have ha:L.getD (i-1) default∈L:=by rw[cz (by omega)];exact List.getElem_mem _
    have e1:aa ((i:Int)-1)=((i-1:Nat):Int):=by rw[cd (by omega) (by omega)];omega
    have hp:fA L i=some (L.getD (i-1) default):=by unfold fA;rw[if_neg h0]
    rw[if_pos (by simp;omega),e1,b9 (by omega) (by omega)];simp only[bh,Int.toNat_natCast];by_cases hk:((L.getD (i-1) default).Kind != 2)=true
    ·rw[if_pos hk,zb K (by omega) (ho _ ha).ch (ho _ hb).ch];simp only[Option.bind_some];exact key _ (by rw[hp];show _=((L.getD (i-1) default).Kind != 2&&!gW (L.getD (i-1) default) (L.getD i default));rw[hk];rfl)
    ·rw[if_neg hk];have hk':((L.getD (i-1) default).Kind != 2)=false:=by simpa using hk
     exact key false (by rw[hp];show _=((L.getD (i-1) default).Kind != 2&&!gW (L.getD (i-1) default) (L.getD i default));rw[hk'];rfl)
  ·rw[if_neg (by simpa using hi),List.drop_eq_nil_of_le (by omega)];simp[cM]
theorem GL(pl:ai→aq):∀(m m':Nat) (p:Option ao) (l:List ao),l.length<m→l.length<m'→cM pl m p l=cM pl m' p l:=by
 intro m
 induction m with
 | zero=>intro m' p l h;omega
 | succ m ih =>
  intro m' p l h h';cases m' with
  | zero=>omega
  | succ m' =>
   cases l with
   | nil=>rfl
   | cons e r =>
    simp only[List.length_cons]at h h';unfold cM;rw[ih m' (some e) r (by omega) (by omega),ih m' _ (r.drop (jl e.Of e r)) (by simp;omega) (by simp;omega)]
theorem H2(pl:ai→aq):∀(m:Nat) (p:Option ao) (l:List ao),(cM pl m p l).length≤l.length:=by
 intro m
 induction m with
 | zero=>intro p l;simp[cM]
 | succ m ih =>
  intro p l;cases l with
  | nil=>simp[cM]
  | cons e r =>
   unfold cM;have h1:=ih (some e) r;have h2:=ih (some (fV (e::r.take (jl e.Of e r)))) (r.drop (jl e.Of e r));rw[List.length_drop]at h2;cases (e.Kind == 2) with
   | true=>simp;omega
   | false =>
    cases (e.Kind == 3) with
    | true=>simp;omega
    | false=>simp;omega
def nj(pl:ai→aq)(L:List ao):List aq:=cM pl (L.length+1) none L
end
theorem Iv{N d:Nat}{B:List ai}{v2:Fv}{pl:ai→aq}(hD:Dp d B)(hc:bH d B≤2000)(hN:d+9000≤N)(hpl:∀e∈eK d B,e.Kind=3→(KN N).jL v2 e.Box=some (pl e.Box)):
  lF (KN N) N B v2=some (nj pl (eK d B)):=by
 have hlen:=yD d B;unfold lF;rw[Ds hD (by omega) (by omega)];simp only[Option.bind_some];rw[show(0:Int)=((0:Nat):Int) from rfl,G1 (pl:=pl) (F6 d B) (by omega) (by omega) hpl N 0 [] (by omega) (by omega) (by simp),List.drop_zero,List.nil_append];unfold nj;rw[GL pl N ((eK d B).length+1) _ _ (by omega) (by omega)];rfl
end
end Go.Proofs.Ytnpmlepplfaijaa
namespace Go.Proofs.Ytnpmlepplfaijaa
set_option linter.all false
open Go.RowKit
noncomputable section
def pr:bW:=⟨(Fv.fn 36),(Fv.fn 37),(Fv.fn 38),(Fv.fn 39)⟩
def nE(M:Nat)(w:Int)(b:ai):aq:=(gM (KN (M+10)) (M+10) b w pr).getD default
theorem EJ{l:List bG}(ht:∀s∈l,s.Text.size≤60){d:Nat}{bx:List ai}(hb:Bx l d bx):∀e∈eK (d+1) bx,e.Kind=3→∃k,iz e.Box k:=by
 intro e he h3;have h5:=Du (d+1) bx (0,[]) (fun x hx=>by cases hx) e he h3;have hQ:=Jq (l:=l) d bx (0,[]) (fun b=>b.Kind=5→∃k,iz b k) hb (fun b R hk h5=>by
  obtain⟨s,hs,_,q|q|q|q⟩:=hk
  ·rw[q.1]at h5;cases h5
  ·rw[q.1]at h5;cases h5
  ·obtain⟨k,k1,k2,_,_,k5⟩:=q.2.2.2;exact⟨k,k1,k2,by rw[k5];exact ht s hs⟩
  ·rw[q.1]at h5;cases h5) (fun x hx=>by cases hx) e he
 exact hQ h5
theorem GU{l:List bG}(ht:∀s∈l,s.Text.size≤60){d:Nat}{bx:List ai}(hb:Bx l d bx)(hc:bH (d+1) bx≤2000){M:Nat}(hM:d+9100≤M)(w:Int):iB (KN (M+11)) (M+11) bx w pr=some (nj (nE M w) (eK (d+1) bx)):=by
 unfold iB;rw[show lF (KN (M+11)) (M+11) bx _=_ from Iv (pl:=nE M w) (vh ht d bx hb) hc (by omega) (fun e he h3=>by
  obtain⟨k,hk⟩:=EJ ht hb e he h3;obtain⟨r,hr,_⟩:=BK hk (N:=M) (by omega) w;show gM (KN (M+10)) (M+10) e.Box w pr=_;unfold nE;rw[show gM (KN (M+10)) (M+10) e.Box w pr=_ from hr];rfl)]
 rfl
end
end Go.Proofs.Ytnpmlepplfaijaa
namespace Go.Proofs.Ytnpmlepplfaijaa.QInlineFits
set_option linter.all false
open Go.RowKit
structure pW(l:List R4)(w:Int)(a t:Nat):Prop where
 lt:a<t
 le:t≤l.length
 ng:a=0∨(l.getD a default).g=false
 one:t=gr l (a+1)∨¬ dD (sl l a t)>w
 stop:t<l.length→(l.getD (t-1) default).f=true∨dD (sl l a (gr l (t+1)))>w
theorem Dv(l:List R4)(w:Int)(a:Nat):∀(m e:Nat),e≤l.length→l.length≤m+e→(e<l.length→(l.getD e default).g=false)→(e=gr l (a+1)∨¬ dD (sl l a e)>w) →
  (lE l w a m e<l.length→(l.getD (lE l w a m e) default).g=false)∧(lE l w a m e=gr l (a+1)∨¬ dD (sl l a (lE l w a m e))>w)∧(lE l w a m e<l.length→(l.getD (lE l w a m e-1) default).f=true∨dD (sl l a (gr l (lE l w a m e+1)))>w):=by
 intro m
 induction m with
 | zero =>
  intro e h1 h2 h3 h4;exact⟨h3,h4,fun h=>by unfold lE at h;omega⟩
 | succ m ih =>
  intro e h1 h2 h3 h4;unfold lE;by_cases hc:e<l.length∧(l.getD (e-1) default).f=false∧¬ dD (sl l a (gr l (e+1)))>w
  ·rw[if_pos hc];have hge:=gj l (e+1);exact ih _ (iC (by omega)) (by omega) (fun h=>by rw[cz h];exact yi _ _ rfl h) (.inr hc.2.2)
  ·rw[if_neg hc];refine⟨h3,h4,fun h=>?_⟩;cases hf:(l.getD (e-1) default).f with
   | true=>exact .inl rfl
   | false =>
    refine .inr ?_;by_cases hw:dD (sl l a (gr l (e+1)))>w
    ·exact hw
    ·exact absurd ⟨h,hf,hw⟩ hc
theorem DL(l:List R4)(w:Int){a:Nat}(ha:a<l.length)(hng:a=0∨(l.getD a default).g=false):pW l w a (lE l w a l.length (gr l (a+1)))∧(lE l w a l.length (gr l (a+1))<l.length→(l.getD (lE l w a l.length (gr l (a+1))) default).g=false):=by
 have h1:=iC (l:=l) (i:=a+1) (by omega);have h2:=gj l (a+1);obtain⟨p1,p2,p3⟩:=Dv l w a l.length (gr l (a+1)) h1 (by omega) (fun h=>by rw[cz h];exact yi _ _ rfl h) (.inl rfl);exact⟨⟨by have:=mV l w a l.length (gr l (a+1));omega,sW l w a _ _ h1,hng,p2,p3⟩,p1⟩
def ends(l:List R4)(w:Int)(a:Nat):List Nat:=bM l w (l.length+1) a++[l.length]
theorem I4(l:List R4)(w:Int):∀(m a:Nat),a≤l.length→l.length<m+a→(a=0∨a=l.length∨(l.getD a default).g=false)→((bM l w m a++[l.length]).getD 0 0=a)∧∀i,i+1<(bM l w m a++[l.length]).length→pW l w ((bM l w m a++[l.length]).getD i 0) ((bM l w m a++[l.length]).getD (i+1) 0):=by
 intro m
 induction m with
 | zero=>intro a h1 h2;omega
 | succ m ih =>
  intro a h1 h2 h3;unfold bM;by_cases ha:a<l.length
  ·rw[if_pos ha];obtain⟨q1,q2⟩:=DL l w ha (by rcases h3 with h|h|h;exact .inl h;omega;exact .inr h);obtain⟨p1,p2⟩:=ih (lE l w a l.length (gr l (a+1))) q1.le (by have:=q1.lt;omega) (by
    by_cases e:lE l w a l.length (gr l (a+1))<l.length
    ·exact .inr (.inr (q2 e))
    ·exact .inr (.inl (by have:=q1.le;omega)))
   refine⟨rfl,fun i hi=>?_⟩;cases i with
   | zero =>
    rw[List.cons_append];simp only[List.getD_cons_zero,List.getD_cons_succ];rw[p1];exact q1
   | succ i =>
    rw[List.cons_append]at hi⊢;simp only[List.getD_cons_succ];exact p2 i (by simpa using hi)
  ·rw[if_neg ha];have:a=l.length:=by omega
   subst this;exact⟨rfl,fun i hi=>by simp at hi⟩
section
variable{K:Kn}{n:Nat}{w:Int}{L:List aq}
theorem Hh(hL:(L.length:Int)<9223372036854775807):∀(m:Nat) (x y i:Int),0≤i→i≤L.length→L.length<m+i.toNat→jN K n L m x y i=some (wS x y ((L.map vI).drop i.toNat)):=by
 intro m
 induction m with
 | zero=>intro x y i h0 h1 h2;omega
 | succ m ih =>
  intro x y i h0 h1 h2;show lO K n L (jN K n L m) x y i=_;unfold lO;by_cases hi:i<(L.length:Int)
  ·have hk:i.toNat<L.length:=by omega
   rw[if_pos (by simpa using hi),b9 h0 hi];simp only[bh,Option.bind_some];have hd:(L.map vI).drop i.toNat=vI (L.getD i.toNat default)::(L.map vI).drop (i+1).toNat:=by
    rw[List.drop_eq_getElem_cons (by simpa using hk),fT hk,show(i+1).toNat=i.toNat+1 by omega]
   rw[hd];unfold wS;unfold mc;cases hf:(L.getD i.toNat default).Forced with
   | false =>
    rw[show(!false)=true from rfl,if_pos rfl,cd (n:=i+1) (by omega) (by omega),ih _ _ _ (by omega) (by omega) (by omega)];simp only[vI,hf,Bool.false_eq_true,if_false]
   | true =>
    rw[show(!true)=false from rfl,if_neg (by simp),cd (n:=i+1) (by omega) (by omega),ih _ _ _ (by omega) (by omega) (by omega)];simp only[vI,hf,if_true]
  ·rw[if_neg (by simpa using hi),List.drop_eq_nil_of_le (by simp;omega)];rfl
theorem A0(hn:L.length<n)(hL:(L.length:Int)<9223372036854775807):kG K n L=some (dD (L.map vI)):=by
 unfold kG;rw[Hh hL n 0 0 0 (by omega) (by omega) (by simpa using hn)];rfl
variable{S:List Int}
theorem Gy(C:Int→Option Bool)(q:Int){a t:Nat}(hL:L.length≤1000000)(hn:L.length<n)(hl:pW (L.map vI) w a t):∀(m x:Nat),t+1≤x→L.length+1<m+x→x≤L.length+1→(t<L.length→gr (L.map vI) x=gr (L.map vI) (t+1)) →
  jw K n w L S q (a:Int) (t:Int) C m (x:Int)=C (aa (q+1)):=by
 have hlt:=hl.lt;have hle:=hl.le;simp only[List.length_map]at hle;intro m
 induction m with
 | zero=>intro x h1 h2 h3;omega
 | succ m ih =>
  intro x h1 h2 h3 hg;show kp K n w L S q a t C (jw K n w L S q a t C m) x=_;unfold kp;have stop:(t<L.length→x=gr (L.map vI) (t+1))→jn K n w L S q (a:Int) (t:Int) (x:Int) C (jw K n w L S q a t C m) false=C (aa (q+1)):=fun hx=>by
   unfold jn;have j8:ir K n w L S q C false=C (aa (q+1)):=by unfold ir;rw[if_neg (by simp)]
   rw[if_neg (by simp)];by_cases ht:t<L.length
   ·have hx:=hx ht;have hgl:=iC (l:=L.map vI) (i:=t+1) (by simp;omega);simp only[List.length_map]at hgl;have e1:aa ((t:Int)-1)=((t-1:Nat):Int):=by rw[cd (by omega) (by omega)];omega
    rw[if_pos (by simpa using ht),e1,b9 (by omega) (by omega)];simp only[bh,Int.toNat_natCast];have hf:((L.map vI).getD (t-1) default).f=(L.getD (t-1) default).Forced:=by
     rw[cz (by simp;omega),fT (by omega)];rfl
    have hst:=hl.stop (by simpa using ht);rw[hf]at hst;cases hfo:(L.getD (t-1) default).Forced with
    | true=>rw[show(!true)=false from rfl,if_neg (by simp)];exact j8
    | false =>
     rw[hfo]at hst;have hw:dD (sl (L.map vI) a (gr (L.map vI) (t+1)))>w:=by rcases hst with h|h;cases h;exact h
     rw[show(!false)=true from rfl,if_pos rfl,show cp (a:Int) (x:Int) L.length=true by simp only[cp,Bool.and_eq_true,decide_eq_true_eq];omega,bh];have hs:List.drop a (List.take x L)=sl L a x:=rfl;have h5:=ky L a x;rw[hs,A0 (by omega) (by omega),uM,hx];simp only[Option.bind_some];rw[show decide (dD (sl (L.map vI) a (gr (L.map vI) (t+1)))≤w)=false by simp;omega];exact j8
   ·rw[if_neg (by simpa using ht)];exact j8
  by_cases hx:x<L.length
  ·rw[if_pos (by simpa using hx),b9 (by omega) (by omega),bh];have hv:=fT hx;rw[Int.toNat_natCast];cases hgl:(L.getD x default).Glued with
   | false=>exact stop (fun ht=>by rw[←hg ht,pF (by simpa using hx) (by rw[hv];exact hgl)])
   | true =>
    unfold jn;rw[if_pos rfl,cd (by omega) (by omega),show(x:Int)+1=((x+1:Nat):Int) by omega];exact ih (x+1) (by omega) (by omega) (by omega) (fun ht=>by rw[←hg ht,oT (i:=x) (by simpa using hx) (by rw[hv];exact hgl)])
  ·rw[if_neg (by simpa using hx)];exact stop (fun ht=>by rw[←hg ht,tX (by simp;omega)])
def fG:List aq→Nat
 | []=>0
 | r::t=>(if r.Glued=true then 0 else 1)+fG t
theorem FT(r:aq)(t:List aq):fG (r::t)=(if r.Glued=true then 0 else 1)+fG t:=rfl
theorem vS:∀{l:List aq},(∀r∈l,r.Glued=true)→fG l=0
 | [],_=>rfl
 | r::t,h=>by unfold fG;rw[if_pos (h r (by simp)),vS (fun x hx=>h x (by simp[hx]))]
theorem Fu{a t:Nat}(ha:a<L.length)(ht:t=gr (L.map vI) (a+1)):fG (sl L a t)≤1:=by
 have hge:=gj (L.map vI) (a+1);have hle:=iC (l:=L.map vI) (i:=a+1) (by simp;omega);simp only[List.length_map]at hle;obtain⟨k,hk⟩:∃k,t=a+1+k:=⟨t-(a+1),by omega⟩;rw[hk,sS ha];unfold fG;rw[vS (l:=(L.drop (a+1)).take k)]
 ·split<;>omega
 ·intro r hr;obtain⟨i,hi,rfl⟩:=List.mem_iff_getElem.1 hr;rw[List.length_take,List.length_drop]at hi;have:=Fm (l:=L.map vI) _ (a+1) rfl (a+1+i) (by omega) (by omega) (by simp;omega);rw[fT (by omega)]at this;rw[List.getElem_take,List.getElem_drop,← cz (by omega)];exact this
theorem Ev(C:Int→Option Bool)(q:Int){a t:Nat}(hL:L.length≤1000000)(hn:L.length+5<n)(hl:pW (L.map vI) w a t)(A:List aq)(hA:A=sl L a t):∀(m i g:Nat),i≤A.length→A.length<m+i→g≤i→g+fG (A.drop i)=fG A →
  kI K n w L S q (a:Int) (t:Int) C m (g:Int) A (A.length:Int) (i:Int)=C (aa (q+1)):=by
 have hlt:=hl.lt;have hle:=hl.le;simp only[List.length_map]at hle;have hAl:A.length≤L.length:=by rw[hA];exact ky L a t
 intro m
 induction m with
 | zero=>intro i g h1 h2 h3 h4;omega
 | succ m ih =>
  intro i g h1 h2 h3 h4;show kq K n w L S q a t C (kI K n w L S q a t C m) g A A.length i=_;unfold kq;by_cases hi:i<A.length
  ·rw[if_pos (by simpa using hi),b9 (by omega) (by omega),bh,Int.toNat_natCast];have hd:A.drop i=A.getD i default::A.drop (i+1):=by rw[List.drop_eq_getElem_cons hi,cz hi]
   rw[hd]at h4;have hw:aa ((i:Int)+1)=((i+1:Nat):Int):=by rw[cd (by omega) (by omega)];omega
   have hw2:aa ((g:Int)+1)=((g+1:Nat):Int):=by rw[cd (by omega) (by omega)];omega
   rw[FT]at h4;unfold ou;by_cases hg:(A.getD i default).Glued=true
   ·rw[if_pos hg]at h4;rw[if_neg (by rw[hg];decide),hw];exact ih (i+1) g (by omega) (by omega) (by omega) (by omega)
   ·rw[if_neg hg]at h4;rw[if_pos (by simpa using hg),hw,hw2];exact ih (i+1) (g+1) (by omega) (by omega) (by omega) (by omega)
  ·rw[if_neg (by simpa using hi),show cp (a:Int) (t:Int) L.length=true by simp only[cp,Bool.and_eq_true,decide_eq_true_eq];omega,bh];have hs:List.drop a (List.take t L)=sl L a t:=rfl;have h5:=ky L a t;simp only[Int.toNat_natCast];rw[hs,A0 (by omega) (by omega),uM];simp only[Option.bind_some];have e1:aa ((t:Int)+1)=((t+1:Nat):Int):=by rw[cd (by omega) (by omega)];omega
   have j5:jG K n w L S q (a:Int) (t:Int) C false=C (aa (q+1)):=by
    unfold jG;rw[if_neg (by simp),e1];exact Gy C q hL (by omega) hl n (t+1) (by omega) (by omega) (by omega) (fun _=>rfl)
   by_cases hw:dD (sl (L.map vI) a t)>w
   ·rw[if_pos (by simpa using hw)];have ho:t=gr (L.map vI) (a+1):=by rcases hl.one with h|h;exact h;exact absurd hw h
    have hc:=Fu (L:=L) (by omega) ho;rw[←hA]at hc;rw[List.drop_eq_nil_of_le (by omega)]at h4;simp only[fG]at h4;rw[show decide ((g:Int)>1)=false by simp;omega];exact j5
   ·rw[if_neg (by simpa using hw)];exact j5
theorem Jg(hL:L.length≤1000)(hn:2000≤n):∀(m i:Nat),i<(ends (L.map vI) w 0).length→(ends (L.map vI) w 0).length<m+i→jj K n w L ((bM (L.map vI) w (L.length+1) 0).map fun (k:Nat)=>(k:Int)) m (i:Int)=some true:=by
 have hS:((bM (L.map vI) w (L.length+1) 0).map fun (k:Nat)=>(k:Int))++[(L.length:Int)]=(ends (L.map vI) w 0).map fun (k:Nat)=>(k:Int):=by
  unfold ends;simp
 have hb:=uA (L.map vI) w (L.length+1) 0;have hel:(ends (L.map vI) w 0).length≤L.length+1:=by
  unfold ends;simp only[List.length_append,List.length_map,List.length_cons,List.length_nil]at hb⊢;omega
 obtain⟨_,hch⟩:=I4 (L.map vI) w (L.length+1) 0 (by omega) (by simp) (.inl rfl);have hen:ends (L.map vI) w 0=bM (L.map vI) w (L.length+1) 0++[(L.map vI).length]:=by unfold ends;simp
 rw[←hen]at hch;have hget:∀j,j<(ends (L.map vI) w 0).length→((ends (L.map vI) w 0).map fun (k:Nat)=>(k:Int)).getD j default=(((ends (L.map vI) w 0).getD j 0:Nat):Int):=fun j hj=>by
  rw[cz (by simpa using hj),List.getElem_map];congr 1;simp[List.getD,hj]
 intro m
 induction m with
 | zero=>intro i h1 h2;omega
 | succ m ih =>
  intro i h1 h2;show lp K n w L ((bM (L.map vI) w (L.length+1) 0).map fun (k:Nat)=>(k:Int)) (jj K n w L ((bM (L.map vI) w (L.length+1) 0).map fun (k:Nat)=>(k:Int)) m) i=_;unfold lp;have e1:aa ((i:Int)+1)=((i+1:Nat):Int):=by rw[cd (by omega) (by omega)];omega
  rw[hS,e1];simp only[Option.bind_some,List.length_map];by_cases hi:i+1<(ends (L.map vI) w 0).length
  ·have hl:=hch i hi;generalize ha:(ends (L.map vI) w 0).getD i 0=a at *;generalize ht:(ends (L.map vI) w 0).getD (i+1) 0=t at *;have hlt:=hl.lt;have hle:=hl.le;simp only[List.length_map]at hle;have g1:=hget i (by omega);have g2:=hget (i+1) hi;rw[ha]at g1;rw[ht]at g2;rw[if_pos (by simp;omega),b9 (by omega) (by omega),bh,b9 (by omega) (by omega),bh];simp only[Int.toNat_natCast,g1,g2];have fin:i9 K n w L ((bM (L.map vI) w (L.length+1) 0).map fun (k:Nat)=>(k:Int)) (i:Int) (a:Int) (t:Int) (jj K n w L ((bM (L.map vI) w (L.length+1) 0).map fun (k:Nat)=>(k:Int)) m) false=some true:=by
    unfold i9;rw[if_neg (by simp),show cp (a:Int) (t:Int) L.length=true by simp only[cp,Bool.and_eq_true,decide_eq_true_eq];omega,bh];have hsl:List.drop ((a:Int)).toNat (List.take ((t:Int)).toNat L)=sl L a t:=rfl;have h5:=ky L a t;rw[hsl,show(0:Int)=((0:Nat):Int) from rfl,Ev (K:=K) (S:=_) _ _ (by omega) (by omega) hl (sl L a t) rfl n 0 0 (by omega) (by omega) (by omega) (by simp),e1];exact ih (i+1) hi (by omega)
   rw[if_neg (by simp;omega),b9 (by omega) (by omega),bh];by_cases hg:(L.getD a default).Glued=true
   ·rw[if_pos hg];have h0:a=0:=by
     rcases hl.ng with h|h
     ·exact h
     ·rw[cz (by simp;omega),fT (by omega)]at h;have:(L.getD a default).Glued=false:=h;rw[hg]at this;cases this
    rw[show decide ((a:Int)>0)=false by simp;omega];exact fin
   ·rw[if_neg hg];exact fin
  ·rw[if_neg (by simp;omega)]
end
theorem holds(x0:List bG)(x1:Int)(h0:bD Try.prog 32 ((re bC) x0))(h1:bD Try.prog 3 ((aW .i64) x1)):∃n,oE (KN n) n x0 x1=some true:=by
 obtain⟨l,hl,hm,_⟩:=h0.zh Try.underlying32;simp only[re,List.cons.injEq,AV.sl.injEq,and_true]at hl;have hlen:l.length=x0.length:=by rw[←hl,List.length_map]
 have hm':l.length≤9223372036854775807:=hm;refine⟨(x0.length+12000)+11,?_⟩;generalize hM:x0.length+12000=M;obtain⟨v,hv,hv2⟩:=Hx (KN (M+11)) (M+11) x0 16 (by omega) (by omega);unfold oE qw;rw[show mR (KN (M+11)) (M+11)=some true from by
  have:=Ek (M-29);rwa[show M-29+40=M+11 by omega]at this,hv]
 simp only[Option.bind_some,Bool.not_true,Bool.false_eq_true,if_false];cases v with
 | false=>rfl
 | true =>
  have h16:x0.length≤16:=by have:=(hv2 rfl).1;omega
  have ht:∀s∈x0,s.Text.size≤60:=fun s hs=>by have:=((hv2 rfl).2 s hs).text;omega
  obtain⟨bx,b1,b2,b3,b4⟩:=EX h16 ht (N:=M+11) (by omega);rw[b1];simp only[Option.bind_some,Bool.not_true,Bool.false_eq_true,if_false,js];have hr:=GU ht b2 (show bH (16+1) bx≤2000 by have:bH (16+1) bx≤992:=b4;omega) (M:=M) (by omega) x1;rw[show iB (KN (M+11)) (M+11) bx x1 (⟨(Fv.fn 36),(Fv.fn 37),(Fv.fn 38),(Fv.fn 39)⟩:bW)=_ from hr];simp only[Option.bind_some];generalize hX:nj (nE M x1) (eK (16+1) bx)=X;have hXl:X.length≤1000:=by
   rw[←hX];unfold nj;have h1:=H2 (nE M x1) ((eK (16+1) bx).length+1) none (eK (16+1) bx);have h2:=yD (16+1) bx;have h3:bH (16+1) bx≤992:=b4;omega
  rw[Fp (by omega) (by omega)];simp only[Option.bind_some];have hb:=uA (X.map vI) x1 (X.length+1) 0;simp only[List.length_map]at hb;rw[dt (by simp;omega) (by omega),bh];have fin:kH (KN (M+11)) (M+11) x1 X ((bM (X.map vI) x1 (X.length+1) 0).map fun (k:Nat)=>(k:Int)) false=some true:=by
   unfold kH;rw[if_neg (by simp)];exact Jg hXl (by omega) (M+11) 0 (by unfold ends;simp) (by unfold ends;simp;omega)
  by_cases hp:(X.length:Int)>0
  ·rw[if_pos (by simpa using hp),b9 (by omega) (by simp),bh];have e0:(List.getD (((bM (X.map vI) x1 (X.length+1) 0).map fun (k:Nat)=>(k:Int))++[(X.length:Int)]) (0:Int).toNat default)=0:=by
    unfold bM;rw[if_pos (by simp;omega)];rfl
   rw[e0];exact fin
  ·rw[if_neg (by simpa using hp)];exact fin
end Go.Proofs.Ytnpmlepplfaijaa.QInlineFits
