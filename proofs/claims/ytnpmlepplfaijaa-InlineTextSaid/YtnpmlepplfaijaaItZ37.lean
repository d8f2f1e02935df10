/- Plain laws about the plain functions: words for all of them. No program in sight. -/
import Derived.Test.YtnpmlepplfaijaaItGf
import Derived.Lib.TrimUEq
import Derived.Laws.BitsLemmas
import Derived.Test.YtnpmlepplfaijaaItGop
namespace Go.Proofs.Ytnpmlepplfaijaa
set_option linter.all false
open Go.RowKit
theorem bX{n:Int}(h1 : -9223372036854775808≤n)(h2:n≤9223372036854775807):aa n=n:=by
 unfold aa;rw[IntKind.wrap_i64];omega
theorem bb{α:Type}(x:Option α):aP true x=x:=rfl
theorem b8{i:Int}{n:Nat}(h0:0≤i)(h1:i<n):bd i n=true:=by simp[bd,h0,h1]
theorem bT{α:Type}[Inhabited α]{L:List α}{k:Nat}(h:k<L.length):L.getD k default=L[k]:=by simp[List.getD_eq_getElem?_getD,List.getElem?_eq_getElem h]
theorem di{n b:Nat}(h:n*b≤140737488355328)(hb:0<b):fits n b=true:=by
 have h1:n≤n*b:=Nat.le_mul_of_pos_right n hb;have h2:n≤9223372036854775807:=by omega
 simp only[fits,Bool.and_eq_true,decide_eq_true_eq];exact⟨h2,h⟩
end Go.Proofs.Ytnpmlepplfaijaa
namespace Go.Proofs.Ytnpmlepplfaijaa
set_option linter.all false
open Go.RowKit
def cm(r:Int):List UInt8:=(Utf8.encode r).data.toList
def bv(r:Int):Prop:=(0≤r∧r<55296)∨(57344≤r∧r≤1114111)
theorem JR{r:Int}(h:bv r):Utf8.valid r=true:=by
 unfold bv at h;unfold Utf8.valid;simp only[Bool.or_eq_true,Bool.and_eq_true,decide_eq_true_eq];omega
theorem da{n:Nat}(h:n<256):(UInt8.ofNat n).toNat=n:=by rw[UInt8.toNat_ofNat',Nat.mod_eq_of_lt h]
theorem sq {r:Int} (h:bv r):∃ c:Nat,r=(c:Int) ∧
    ((c<128∧cm r=[UInt8.ofNat c])∨(128≤c∧c<2048∧cm r=[UInt8.ofNat (192+c / 64),UInt8.ofNat (128+c % 64)]) ∨
     (2048≤c∧c<65536∧(c<55296∨57344≤c)∧cm r=[UInt8.ofNat (224+c / 4096),UInt8.ofNat (128+c / 64 % 64),UInt8.ofNat (128+c % 64)]) ∨
     (65536≤c∧c≤1114111∧cm r=[UInt8.ofNat (240+c / 262144),UInt8.ofNat (128+c / 4096 % 64),UInt8.ofNat (128+c / 64 % 64),UInt8.ofNat (128+c % 64)])):=by
  refine⟨r.toNat,by unfold bv at h;omega,?_⟩;unfold cm Utf8.encode;simp only[JR h,if_true];unfold bv at h;generalize hc:r.toNat=c at *;by_cases h1:c<128
  · left;simp[h1]
  · by_cases h2:c<2048
    · right;left;simp[h1,h2];omega
    · by_cases h3:c<65536
      · right;right;left;simp[h1,h2,h3];omega
      · right;right;right;simp[h1,h2,h3];omega
theorem uD{r:Int}(h:bv r)(t:List UInt8):Lib.decodeL (cm r++t)=(r.toNat,(cm r).length):=by
 obtain⟨c,rfl,h|h|h|h⟩:=sq h
 ·rw[h.2,Lib.decodeL_N];simp only[List.cons_append,List.nil_append,List.getD_cons_zero,da (show c<256 by omega),Int.toNat_natCast,List.length_cons,List.length_nil];unfold Lib.decodeN;rw[if_pos h.1]
 ·rw[h.2.2,Lib.decodeL_N];simp only[List.cons_append,List.nil_append,List.getD_cons_zero,List.getD_cons_succ,da (show 192+c / 64<256 by omega),da (show 128+c % 64<256 by omega),Int.toNat_natCast,List.length_cons,List.length_nil];unfold Lib.decodeN;rw[if_neg (by omega),if_pos (by omega),if_pos (by omega)];congr 1;omega
 ·rw[h.2.2.2,Lib.decodeL_N];simp only[List.cons_append,List.nil_append,List.getD_cons_zero,List.getD_cons_succ,da (show 224+c / 4096<256 by omega),da (show 128+c / 64 % 64<256 by omega),da (show 128+c % 64<256 by omega),Int.toNat_natCast,List.length_cons,List.length_nil];unfold Lib.decodeN;rw[if_neg (by omega),if_neg (by omega),if_pos (by omega),if_pos (by omega)];congr 1;omega
 ·rw[h.2.2,Lib.decodeL_N];simp only[List.cons_append,List.nil_append,List.getD_cons_zero,List.getD_cons_succ,da (show 240+c / 262144<256 by omega),da (show 128+c / 4096 % 64<256 by omega),da (show 128+c / 64 % 64<256 by omega),da (show 128+c % 64<256 by omega),Int.toNat_natCast,List.length_cons,List.length_nil];unfold Lib.decodeN;rw[if_neg (by omega),if_neg (by omega),if_neg (by omega),if_pos (by omega),if_pos (by omega)];congr 1;omega
theorem oa{r:Int}(h:bv r):1≤(cm r).length∧(cm r).length≤4:=by
 obtain⟨c,_,h|h|h|h⟩:=sq h
 ·rw[h.2];simp
 ·rw[h.2.2];simp
 ·rw[h.2.2.2];simp
 ·rw[h.2.2];simp
theorem Mn(n b0 b1 b2 b3:Nat):bv ((Lib.decodeN n b0 b1 b2 b3).1:Int):=by
 unfold Lib.decodeN bv
 repeat' split
 all_goals simp only[]
 all_goals omega
theorem CL(l:List UInt8):bv ((Lib.decodeL l).1:Int):=by rw[Lib.decodeL_N];exact Mn _ _ _ _ _
def ez:Nat→List UInt8→List Int
 | 0,_=>[]
 | n+1,l=>if l.isEmpty=true then [] else ((Lib.decodeL l).1:Int)::ez n (l.drop (Lib.decodeL l).2)
theorem Gr:∀(n m:Nat) (l:List UInt8),l.length≤n→l.length≤m→ez n l=ez m l:=by
 intro n
 induction n with
 | zero =>
  intro m l h1 h2;have:l=[]:=List.eq_nil_of_length_eq_zero (by omega);subst this;cases m<;>simp[ez]
 | succ n ih =>
  intro m l h1 h2;cases m with
  | zero =>
   have:l=[]:=List.eq_nil_of_length_eq_zero (by omega);subst this;simp[ez]
  | succ m =>
   unfold ez;split
   ·rfl
   ·have:=Lib.decodeL_width l;rw[ih m _ (by simp;omega) (by simp;omega)]
def eK(l:List UInt8):List Int:=ez l.length l
theorem Dq:eK []=[]:=rfl
theorem Cl{l:List UInt8}(h:l≠[]):eK l=((Lib.decodeL l).1:Int)::eK (l.drop (Lib.decodeL l).2):=by
 unfold eK;cases l with
 | nil=>exact absurd rfl h
 | cons x r =>
  have:=Lib.decodeL_width (x::r);rw[show ez (x::r).length (x::r)=((Lib.decodeL (x::r)).1:Int)::ez r.length ((x::r).drop (Lib.decodeL (x::r)).2) from rfl];rw[Gr r.length _ _ (by simp;omega) (Nat.le_refl _)]
theorem GN{r:Int}(h:bv r)(t:List UInt8):eK (cm r++t)=r::eK t:=by
 have hl:=oa h;rw[Cl (by intro e;rw[List.append_eq_nil_iff]at e;rw[e.1]at hl;simp at hl),uD h t];simp only[List.drop_left];congr 1;unfold bv at h;omega
def bh(rs:List Int):List UInt8:=rs.flatMap cm
theorem Di(r:Int)(rs:List Int):bh (r::rs)=cm r++bh rs:=by simp[bh]
theorem l8(a b:List Int):bh (a++b)=bh a++bh b:=by simp[bh]
theorem xV:∀{rs:List Int} (t:List UInt8),(∀r∈rs,bv r)→eK (bh rs++t)=rs++eK t
 | [],t,_=>rfl
 | r::rs,t,h=>by
  rw[Di,List.append_assoc,GN (h r (by simp)),xV t (fun x hx=>h x (by simp[hx]))];rfl
theorem Hm{rs:List Int}(h:∀r∈rs,bv r):eK (bh rs)=rs:=by
 have:=xV [] h;simpa[Dq]using this
theorem yh:∀(n:Nat) (l:List UInt8),∀r∈ez n l,bv r
 | 0,_,r,h=>by cases h
 | n+1,l,r,h=>by
  unfold ez at h;split at h
  ·cases h
  ·rcases List.mem_cons.1 h with rfl|h
   ·exact CL l
   ·exact yh n _ r h
theorem n3{l:List UInt8}:∀r∈eK l,bv r:=yh _ _
theorem zR:∀(n:Nat) (l:List UInt8),(ez n l).length≤n
 | 0,_=>by simp[ez]
 | n+1,l=>by
  unfold ez;split
  ·simp
  ·have:=zR n (l.drop (Lib.decodeL l).2);simp;omega
theorem Jn(l:List UInt8):(eK l).length≤l.length:=zR _ _
def cF(b:ByteArray)(p:Nat):List Int:=eK (b.data.toList.drop p)
theorem fl(b:ByteArray):b.data.toList.length=b.size:=rfl
theorem vd{b:ByteArray}{p:Nat}(h:¬ p<b.size):cF b p=[]:=by
 unfold cF;rw[List.drop_eq_nil_of_le (by rw[fl];omega)];rfl
theorem s4{b:ByteArray}{p:Nat}(h:p<b.size):cF b p=((Utf8.decode b p).1:Int)::cF b (p+(Utf8.decode b p).2):=by
 unfold cF;rw[Cl (by intro e;have:=congrArg List.length e;simp at this;have h2:=fl b;simp at h2;omega),Lib.decodeL_drop,List.drop_drop]
theorem uC(b:ByteArray)(p:Nat):1≤(Utf8.decode b p).2:=by rw[←Lib.decodeL_drop];exact Lib.decodeL_width _
theorem Mi(b:ByteArray)(p:Nat):bv ((Utf8.decode b p).1:Int):=by rw[←Lib.decodeL_drop];exact CL _
end Go.Proofs.Ytnpmlepplfaijaa
namespace Go.Proofs.Ytnpmlepplfaijaa
set_option linter.all false
open Go.RowKit
def ints(l:List UInt8):List Int:=l.map fun b=>(b.toNat:Int)
theorem E9(a b:List UInt8):ints (a++b)=ints a++ints b:=by simp[ints]
theorem Ix(a:List UInt8):(ints a).length=a.length:=by simp[ints]
theorem Gi(x y:Int):dV .u8 x y=bits .and .u8 x y:=rfl
theorem rj(x y:Int):cT .u8 x y=bits .or .u8 x y:=rfl
theorem w8{n:Int}(h:0≤n∧n<256):IntKind.wrap .u8 n=n:=by rw[IntKind.wrap_u8];omega
theorem kQ(y:Int):cT .u8 128 (dV .u8 (IntKind.wrap .u8 y) 63)=128+y % 64:=by
 have h:0≤IntKind.wrap .u8 y∧IntKind.wrap .u8 y<256:=by rw[IntKind.wrap_u8];omega
 rw[Gi,u8_and63 _ h.1 h.2,rj,u8_or128 _ (by omega) (by omega),IntKind.wrap_u8];omega
section
variable{K:Kn}{n:Nat}
theorem LU{r:Int}(h:bv r){L:List Int}(hL:L.length≤1000000):mG K n r L=some (L++ints (cm r)):=by
 have h32:IntKind.wrap .u32 r=r:=by rw[IntKind.wrap_u32];unfold bv at h;omega
 unfold mG;rw[h32];obtain⟨c,rfl,hc|hc|hc|hc⟩:=sq h
 ·rw[if_pos (by simp;omega),di (by simp;omega) (by omega),bb,hc.2,w8 (by omega)];simp only[ints,List.map_cons,List.map_nil,da (show c<256 by omega)]
 ·rw[if_neg (by simp;omega)];unfold mo;rw[h32,if_pos (by simp;omega),di (by simp;omega) (by omega),bb,hc.2.2];simp only[Option.bind_some,ints,List.map_cons,List.map_nil,da (show 192+c / 64<256 by omega),da (show 128+c % 64<256 by omega)];rw[w8 (n:=(c:Int) / 64) (by omega),rj 192,u8_or192 _ (by omega) (by omega),kQ];congr 3<;>omega
 ·rw[if_neg (by simp;omega)];unfold mo;rw[h32,if_neg (by simp;omega)];have hj:ii K n (c:Int) L true=some (L++ints (cm (c:Int))):=by
   unfold ii;rw[if_pos rfl,di (by simp;omega) (by omega),bb,hc.2.2.2];simp only[ints,List.map_cons,List.map_nil,da (show 224+c / 4096<256 by omega),da (show 128+c / 64 % 64<256 by omega),da (show 128+c % 64<256 by omega)];rw[w8 (n:=(c:Int) / 4096) (by omega),rj 224,u8_or224 _ (by omega) (by omega),kQ,kQ];congr 3<;>omega
  by_cases h1:(c:Int)<55296
  ·rw[if_pos (by simpa using h1),hj];rfl
  ·rw[if_neg (by simpa using h1),if_pos (by simp;omega),show decide ((c:Int)≤65535)=true by simp;omega,hj];rfl
 ·rw[if_neg (by simp;omega)];unfold mo;rw[h32,if_neg (by simp;omega),if_neg (by simp;omega),if_pos (by simp;omega),show decide ((c:Int)≤65535)=false by simp;omega];unfold ii;rw[h32,if_neg (by simp),if_pos (by simp;omega),show decide ((c:Int)≤1114111)=true by simp;omega];unfold ni;rw[if_pos rfl,di (by simp;omega) (by omega),bb,hc.2.2];simp only[Option.bind_some,ints,List.map_cons,List.map_nil,da (show 240+c / 262144<256 by omega),da (show 128+c / 4096 % 64<256 by omega),da (show 128+c / 64 % 64<256 by omega),da (show 128+c % 64<256 by omega)];rw[w8 (n:=(c:Int) / 262144) (by omega),rj 240,u8_or240 _ (by omega) (by omega),kQ,kQ,kQ];congr 3<;>omega
theorem Gu{r:Int}(h:bv r){L:List Int}(hL:L.length≤1000000)(b:Bool):∃x,jU K n r b L=some (x,(),L++ints (cm r)):=by
 unfold jU;rw[LU h hL];cases b
 ·exact⟨_,rfl⟩
 ·exact⟨_,rfl⟩
end
theorem DD{l:List UInt8}(h:l≠[]):jS (ints l)=true:=by
 unfold jS ints;rw[Bool.and_eq_true];refine⟨?_,by cases l;exact absurd rfl h;rfl⟩;rw[List.all_eq_true];intro n hn;obtain⟨b,_,rfl⟩:=List.mem_map.1 hn;have:=UInt8.toNat_lt b;simp;omega
theorem Fa(l:List UInt8):bytesOf (ints l)=⟨l.toArray⟩:=by
 unfold bytesOf ints;rw[List.map_map];congr 2
 conv=>rhs;rw[←List.map_id l]
 refine List.map_congr_left fun b _=>?_;simp
end Go.Proofs.Ytnpmlepplfaijaa
namespace Go.Proofs.Ytnpmlepplfaijaa
set_option linter.all false
open Go.RowKit
noncomputable section
def cU(r:Int):Bool:=r == 9||(r == 10||(r == 13||r == 32))
def nQ(r:Int):Int:=(fV (KN 0) 0 r).getD 0
def GF(s:Int):Int:=min (max s 0) 1048576
def s7(r s:Int):Int:=aa (Int.tdiv (aa ((aa (nQ r*GF s))+15)) 16)
def j8(a b:Int):Bool:=bif cU b||nQ b == 0 then false else bif cU a then true else bif a == 45&&b != 45 then true else decide (a≥11904)||decide (b≥11904)
def ex(e:aj):Bool:=e.Kind == 1&&(e.Box.Style.WhiteSpace != 1&&e.Box.Style.WhiteSpace != 2)
def gm(a b:aj):Bool :=
 bif a.Kind == 3||b.Kind == 3 then (a.Kind == 3||ex a)&&(b.Kind == 3||ex b)
 else bif a.Kind != 1||(b.Kind != 1||(!ex a||(a.Char != 32&&!ex b))) then false else j8 a.Char b.Char
def dT{α:Type}(x:Option α):Prop:=∃u,x=some u
theorem gP{α:Type}(u:α):dT (some u):=⟨u,rfl⟩
theorem lX{α:Type}{c:Prop}[Decidable c]{x y:Option α}(h1:dT x)(h2:dT y):dT (if c then x else y):=by split;exact h1;exact h2
section
variable(K:Kn)(n:Nat)
theorem zB(r:Int):mi K n r=some (cU r):=by
 unfold mi cU;cases h1:(r == 9)<;>cases h2:(r == 10)<;>cases h3:(r == 13)<;>cases h4:(r == 32)<;>simp[jK]
theorem Iy(r:Int):dT (fV K n r):=by
 unfold fV fX;simp only[dZ,dA,gI,oM]
 repeat first|exact gP _|apply lX
theorem Bn(r:Int):fV K n r=some (nQ r):=by
 obtain⟨u,hu⟩:=Iy K n r;have e:fV (KN 0) 0 r=fV K n r:=rfl;unfold nQ;rw[e,hu];rfl
theorem AN(r s:Int):ic K n r s=some (s7 r s):=by
 unfold ic;rw[Bn];rfl
theorem Hx(a b:Int):n8 K n a b=some (j8 a b):=by
 unfold n8 j8;rw[zB,Bn];simp only[Option.bind_some];have h1:j0 K n a b true=some false:=rfl;have h2:j0 K n a b false=some (bif cU a then true else bif a == 45&&b != 45 then true else decide (a≥11904)||decide (b≥11904)):=by
  unfold j0;rw[if_neg (by simp),zB];simp only[Option.bind_some];cases cU a with
  | true=>simp
  | false =>
   simp only[Bool.false_eq_true,if_false,cond_false];unfold oo o6;cases h3:(a == 45)<;>cases h4:(b != 45)<;>cases h5:decide (a≥11904)<;>simp
 cases cU b with
 | true=>rw[if_pos rfl,h1];rfl
 | false =>
  rw[if_neg (by simp)];cases (nQ b == 0) with
  | true=>rw[h1];rfl
  | false=>rw[h2];rfl
theorem Bt(e:aj):gW K n e=some (ex e):=by
 unfold gW ex lC;cases h1:(e.Kind == 1)<;>cases h2:(e.Box.Style.WhiteSpace != 1)<;>simp
end
theorem mj(a b:ByteArray):(a++b).data.toList=a.data.toList++b.data.toList:=by
 rw[ByteArray.data_append,Array.toList_append]
theorem Mt(a b:Int):(runesBytes [a,b]).data.toList=cm a++cm b:=by
 unfold runesBytes;simp only[List.foldl_cons,List.foldl_nil];rw[mj,mj];rfl
theorem Em(K:Kn){n:Nat}(hn:3≤n){a b:Int}(ha:bv a)(hb:bv b):∃l,oT K n (runesBytes [a,b])=some l∧decide ((l.length:Int)>0)=j8 a b:=by
 generalize hB:runesBytes [a,b]=B;have hl:B.data.toList=cm a++cm b:=by rw[←hB];exact Mt a b
 have la:=oa ha;have lb:=oa hb;have hs:B.size=(cm a).length+(cm b).length:=by rw[←fl,hl,List.length_append]
 have d0:Utf8.decode B 0=(a.toNat,(cm a).length):=by
  rw[←Lib.decodeL_drop,List.drop_zero,hl,uD ha]
 have d1:Utf8.decode B (cm a).length=(b.toNat,(cm b).length):=by
  rw[←Lib.decodeL_drop,hl,List.drop_left];have:=uD hb [];rwa[List.append_nil]at this
 have ea:((a.toNat:Nat):Int)=a:=by unfold bv at ha;omega
 have eb:((b.toNat:Nat):Int)=b:=by unfold bv at hb;omega
 obtain⟨m,rfl⟩:∃m,n=m+3:=⟨n-3,by omega⟩;unfold oT;show ∃l,fQ K (m+3) B (iw K (m+3) B (m+2)) 0 0 []=some l∧_;unfold fQ;rw[if_pos (by simp;omega),if_neg (by simp)];unfold kh;rw[if_neg (by simp)];unfold jE;rw[d0];simp only[Nat.zero_add,ea];show ∃l,fQ K (m+3) B (iw K (m+3) B (m+1)) a (cm a).length []=some l∧_;unfold fQ;rw[if_pos (by simp;omega),if_pos (by simp;omega),d1];simp only[eb];rw[Hx];simp only[Option.bind_some];have fin:∀(x:Int) (l:List Int),iw K (m+3) B (m+1) x ((cm a).length+(cm b).length) l=some l:=fun x l=>by
  show fQ K (m+3) B (iw K (m+3) B m) x _ l=some l;unfold fQ;rw[if_neg (by simp;omega)]
 cases hbt:j8 a b with
 | true =>
  unfold kh;rw[if_pos rfl,di (by simp) (by omega),bb];unfold jE;rw[d1];simp only[];rw[fin];exact⟨_,rfl,by simp⟩
 | false =>
  unfold kh;rw[if_neg (by simp)];unfold jE;rw[d1];simp only[];rw[fin];exact⟨_,rfl,by simp⟩
theorem zt(K:Kn){n:Nat}(hn:3≤n){a b:aj}(ha:bv a.Char)(hb:bv b.Char):lK K n a b=some (gm a b):=by
 obtain⟨l,h1,h2⟩:=Em K hn ha hb;have jt:fI K n a b true=some false:=rfl;have jf:fI K n a b false=some (j8 a.Char b.Char):=by
  unfold fI;rw[if_neg (by simp),h1];simp only[Option.bind_some];rw[h2]
 unfold lK gm;have k1:jj K n a b true=some ((a.Kind == 3||ex a)&&(b.Kind == 3||ex b)):=by
  unfold jj ja;simp only[Bt,Option.bind_some];cases h3:(a.Kind == 3)<;>cases h4:(b.Kind == 3)<;>cases h5:ex a<;>cases h6:ex b<;>simp
 have k2:jj K n a b false=some (bif a.Kind != 1||(b.Kind != 1||(!ex a||(a.Char != 32&&!ex b))) then false else j8 a.Char b.Char):=by
  unfold jj;simp only[Bt,Option.bind_some,jt];cases h3:(a.Kind != 1)<;>cases h4:(b.Kind != 1)<;>cases h5:ex a<;>cases h6:(a.Char != 32)<;>cases h7:ex b<;>simp[jt,jf]
 cases h3:(a.Kind == 3) with
 | true=>rw[if_pos rfl,k1,h3];rfl
 | false =>
  rw[if_neg (by simp)];cases h4:(b.Kind == 3) with
  | true=>rw[k1,h3,h4];rfl
  | false=>rw[k2];rfl
def nh(s acc:Int):List Int→Int
 | []=>acc
 | r::t=>nh s (aa (acc+s7 r s)) t
theorem Hu(K:Kn)(n:Nat)(b:ByteArray)(s:Int):∀(m:Nat) (acc:Int) (p:Nat),b.size-p<m→my K n b s m acc p=some (nh s acc (cF b p)):=by
 intro m
 induction m with
 | zero=>intro acc p h;omega
 | succ m ih =>
  intro acc p h;show lF K n b s (my K n b s m) acc p=_;unfold lF;by_cases hp:p<b.size
  ·have:=uC b p;rw[if_pos (by simpa using hp),AN,s4 hp];simp only[Option.bind_some,nh];exact ih _ _ (by omega)
  ·rw[if_neg (by simpa using hp),vd hp];rfl
theorem xA(K:Kn){n:Nat}(b:ByteArray)(s:Int)(hn:b.size<n):kp K n b s=some (nh s 0 (cF b 0)):=by
 unfold kp;exact Hu K n b s n 0 0 (by omega)
def fA(s:aB):Int×Int:=(g7 (KN 0) 0 s).getD default
theorem uX(K:Kn)(n:Nat)(s:aB):g7 K n s=some (fA s):=rfl
def bE(x:List aj):List Int:=x.map fun e=>e.Char
def qX(x:List aj):Bool:=(x.getD (x.length-1) default).Soft
def vR(x:List aj):List Int:=bif qX x then (bE x).dropLast else bE x
def bm(rs:List Int):ByteArray:=⟨(bh rs).toArray⟩
def oX(x:List aj):aB:=(x.getD 0 default).Box.Style
def dP(x:List aj):aq :=
 { co with Text:=bm (bE x),Width:=nh (oX x).FontSize 0 (vR x),Space:=bif qX x then s7 32 (oX x).FontSize else 0,Above:=(fA (oX x)).1,Below:=(fA (oX x)).2 }
theorem lq{rs:List Int}(h:∀r∈rs,bv r):rs.length≤(bh rs).length∧(bh rs).length≤4*rs.length:=by
 induction rs with
 | nil=>simp[bh]
 | cons r t ih =>
  have:=oa (h r (by simp));have:=ih (fun x hx=>h x (by simp[hx]));rw[Di,List.length_append,List.length_cons];omega
theorem jq(rs:List Int):(bm rs).size=(bh rs).length:=by unfold bm;rfl
theorem ew(rs:List Int):(bm rs).data.toList=bh rs:=by unfold bm;simp
theorem wx{rs:List Int}(h:∀r∈rs,bv r):cF (bm rs) 0=rs:=by
 unfold cF;rw[List.drop_zero,ew,Hm h]
theorem I5{rs:List Int}(h0:rs≠[])(h:rs.getLast h0=32):bh rs=bh rs.dropLast++[32]:=by
 conv=>lhs;rw[←List.dropLast_concat_getLast h0]
 rw[l8,h];rfl
theorem xT{rs:List Int}(h0:rs≠[])(h:rs.getLast h0=32):(bm rs).extract 0 ((bm rs).size-1)=bm rs.dropLast:=by
 have e:=I5 h0 h;have hs:(bm rs).size=(bh rs.dropLast).length+1:=by rw[jq,e];simp
 apply ByteArray.ext;apply Array.ext';rw[ByteArray.data_extract,Array.toList_extract,ew,ew,hs,e];simp
structure fa(e:aj):Prop where
 ch:bv e.Char
 soft:e.Soft=true→e.Char=32
theorem wQ{x:List aj}(h:∀e∈x,fa e):∀r∈bE x,bv r:=by
 intro r hr;obtain⟨e,he,rfl⟩:=List.mem_map.1 hr;exact(h e he).ch
section
variable{K:Kn}{n:Nat}{x:List aj}
theorem zK(hx:x≠[])(hl:x.length≤2000)(ho:∀e∈x,fa e)(hn:8010≤n)(b:Bool):kB K n x (ints (bh (bE x))) b=some (dP x):=by
 have h0:0<x.length:=List.length_pos_iff.2 hx;have hc:bE x≠[]:=by unfold bE;simp[hx]
 have hcl:(bE x).length=x.length:=by unfold bE;simp
 have hok:=wQ ho;have hle:=lq hok;have hne:bh (bE x)≠[]:=by intro e;rw[e]at hle;have:=hle.1;simp only[List.length_nil]at this;omega
 have e1:aa ((x.length:Int)-1)=((x.length-1:Nat):Int):=by rw[bX (by omega) (by omega)];omega
 have hb:bytesOf (ints (bh (bE x)))=bm (bE x):=Fa _;have hsz:(bm (bE x)).size=(bh (bE x)).length:=jq _;have e2:aa (((bm (bE x)).size:Int)-1)=(((bm (bE x)).size-1:Nat):Int):=by rw[bX (by omega) (by omega)];omega
 have key:∀(v10:aB) (Y:ByteArray→Int→Option aq),(∀v14 v15,Y v14 v15=(kp K n v14 v10.FontSize).bind fun v16=>(g7 K n v10).bind fun v17=>some ({ co with Text:=bytesOf (ints (bh (bE x))),Width:=v16,Space:=v15,Above:=v17.1,Below:=v17.2 }:aq))→v10=oX x →
   aP (jS (ints (bh (bE x)))) (aP (bd (aa ((x.length:Int)-1)) x.length) ((some ((List.getD x ((aa ((x.length:Int)-1))).toNat default).Soft)).bind fun v11 =>
    if v11=true then aP (cH (0:Int) (aa (((bytesOf (ints (bh (bE x)))).size:Int)-1)) (bytesOf (ints (bh (bE x)))).size) ((some (ByteArray.extract (bytesOf (ints (bh (bE x)))) (0:Int).toNat ((aa (((bytesOf (ints (bh (bE x)))).size:Int)-1))).toNat)).bind fun v12=>(ic K n 32 v10.FontSize).bind fun v13=>Y v12 v13)
    else Y (bytesOf (ints (bh (bE x)))) 0))=some (dP x):=by
  intro v10 Y hY hv;subst hv;rw[DD hne,bb,e1,b8 (by omega) (by omega),bb];simp only[Option.bind_some,Int.toNat_natCast];have hs:(List.getD x (x.length-1) default).Soft=qX x:=rfl;rw[hs,hb,e2];cases hso:qX x with
  | true =>
   have hlast:(bE x).getLast hc=32:=by
    have hm:x.getD (x.length-1) default∈x:=by rw[bT (by omega)];exact List.getElem_mem _
    have:=(ho _ hm).soft (by rw[hs];exact hso);rw[List.getLast_eq_getElem];unfold bE;rw[List.getElem_map];rw[bT (by omega)]at this;simpa using this
   rw[if_pos rfl,show cH (0:Int) (((bm (bE x)).size-1:Nat):Int) (bm (bE x)).size=true by simp only[cH,Bool.and_eq_true,decide_eq_true_eq];omega,bb];simp only[Int.toNat_zero,Int.toNat_natCast];rw[xT hc hlast,AN];simp only[Option.bind_some];rw[hY,xA K (bm (bE x).dropLast) _ (by
    have h9:=lq (rs:=(bE x).dropLast) (fun r hr=>hok r ((List.dropLast_sublist _).subset hr));rw[jq];simp at h9;omega),wx (fun r hr=>hok r ((List.dropLast_sublist _).subset hr)),uX,hb]
   simp only[Option.bind_some];unfold dP vR;rw[hso];rfl
  | false =>
   rw[if_neg (by simp),hY,xA K (bm (bE x)) _ (by omega),wx hok,uX,hb];simp only[Option.bind_some];unfold dP vR;rw[hso];rfl
 unfold kB;rw[b8 (i:=(0:Int)) (by omega) (by omega)];simp only[bb,Option.bind_some];cases b with
 | true=>rw[if_pos rfl];exact key _ (fun v12 v13=>oy K n _ _ v12 v13) (fun _ _=>rfl) rfl
 | false=>rw[if_neg (by simp)];exact key _ (fun v12 v13=>pE K n _ _ v12 v13) (fun _ _=>rfl) rfl
theorem E4(hx:x≠[])(hl:x.length≤2000)(ho:∀e∈x,fa e)(hn:8010≤n):∀(m i:Nat) (b:Bool),i≤x.length→x.length<m+i→jo K n x m (i:Int) b (ints (bh ((bE x).take i)))=some (dP x):=by
 intro m
 induction m with
 | zero=>intro i b h1 h2;omega
 | succ m ih =>
  intro i b h1 h2;show mL K n x (jo K n x m) i b _=_;unfold mL;have hcl:(bE x).length=x.length:=by unfold bE;simp
  by_cases hi:i<x.length
  ·have hm:x.getD i default∈x:=by rw[bT hi];exact List.getElem_mem _
   have hlen:=lq (rs:=(bE x).take i) (fun r hr=>wQ ho r (List.mem_of_mem_take hr));have ht:(bE x).take (i+1)=(bE x).take i++[(x.getD i default).Char]:=by
    rw[List.take_add_one,List.getElem?_eq_getElem (by rw[hcl];exact hi),bT hi];simp[bE]
   have hr:∀b,(jU K n ((List.getD x ((i:Int)).toNat default).Char) b (ints (bh ((bE x).take i)))).bind (fun v7=>jo K n x m (aa ((i:Int)+1)) true v7.2.2)=some (dP x):=fun b=>by
    rw[Int.toNat_natCast];obtain⟨y,hy⟩:=Gu (K:=K) (n:=n) (ho _ hm).ch (L:=ints (bh ((bE x).take i))) (by rw[Ix];simp at hlen;omega) b;rw[hy];simp only[Option.bind_some];rw[bX (by omega) (by omega),show(i:Int)+1=((i+1:Nat):Int) by omega,← E9];have e:bh ((bE x).take i)++cm (x.getD i default).Char=bh ((bE x).take (i+1)):=by
     rw[ht,l8];simp[bh]
    rw[e];exact ih (i+1) true (by omega) (by omega)
   cases b with
   | true=>rw[if_pos rfl,if_pos (by simpa using hi),b8 (by omega) (by omega),bb];exact hr true
   | false=>rw[if_neg (by simp),if_pos (by simpa using hi),b8 (by omega) (by omega),bb];exact hr false
  ·have ht:(bE x).take i=bE x:=List.take_of_length_le (by omega);rw[ht];cases b with
   | true=>rw[if_pos rfl,if_neg (by simpa using hi)];exact zK hx hl ho hn true
   | false=>rw[if_neg (by simp),if_neg (by simpa using hi)];exact zK hx hl ho hn false
theorem tT(hx:x≠[])(hl:x.length≤2000)(ho:∀e∈x,fa e)(hn:8010≤n):nn K n x=some (dP x):=by
 unfold nn;exact E4 hx hl ho hn n 0 false (by omega) (by omega)
end
end
end Go.Proofs.Ytnpmlepplfaijaa
namespace Go.Proofs.Ytnpmlepplfaijaa
set_option linter.all false
open Go.RowKit
noncomputable section
def dK(e:aj):Bool:=e.Box.Style.WhiteSpace == 2
def fp(out:List aj):aj:=out.getD (out.length-1) default
def eW(out:List aj):Bool:=out.isEmpty||((fp out).Soft||(fp out).Kind == 2)
def eF(out:List aj)(e:aj):List aj :=
  bif cU e.Char then
    (bif dK e then (bif e.Char == 10 then out++[{ e with Kind:=2,Char:=32 }] else bif e.Char == 13 then out else out++[{ e with Char:=32 }])
     else bif eW out then out else out++[{ e with Soft:=true,Char:=32 }])
  else out++[e]
theorem Bv(out:List aj)(e:aj):(eF out e).length≤out.length+1:=by
 unfold eF;cases cU e.Char<;>cases dK e<;>cases (e.Char == 10)<;>cases (e.Char == 13)<;>cases eW out<;>simp
section
variable(K:Kn)(n:Nat)
theorem tz{out:List aj}(hl:out.length≤1000000)(e:aj):jY K n out e=some (out++[{ e with Char:=32 }]):=by
 unfold jY;rw[di (by simp;omega) (by omega),bb]
theorem LL{out:List aj}(hl:out.length≤1000000)(e:aj):pN K n e out=some (eF out e):=by
 have h4:∀b,gJ K n e out b=some (bif b then out else out++[{ e with Soft:=true,Char:=32 }]):=fun b=>by
  unfold gJ;cases b with
  | true=>rfl
  | false=>rw[if_neg (by simp),tz K n hl];rfl
 have h3:∀b,dK e=b→∀c,mm K n e out c=some (bif c then out else bif b then out++[{ e with Char:=32 }] else bif eW out then out else out++[{ e with Soft:=true,Char:=32 }]):=fun b hb c=>by
  unfold mm;cases c with
  | true=>rfl
  | false =>
   have hp:(e.Box.Style.WhiteSpace == 2)=b:=hb;rw[if_neg (by simp),hp];cases b with
   | true=>rw[show(!true)=false from rfl,if_neg (by simp),tz K n hl];rfl
   | false =>
    rw[show(!false)=true from rfl,if_pos rfl];by_cases h0:out=[]
    ·subst h0;rw[if_pos (by simp),h4];rfl
    ·have hlen:0<out.length:=List.length_pos_iff.2 h0;have e1:aa ((out.length:Int)-1)=((out.length-1:Nat):Int):=by rw[bX (by omega) (by omega)];omega
     have hem:out.isEmpty=false:=by cases out;exact absurd rfl h0;rfl
     rw[if_neg (by simp;exact h0),e1,b8 (by omega) (by omega)];simp only[bb,Int.toNat_natCast]
     change (if (fp out).Soft=true then gJ K n e out true else gJ K n e out ((fp out).Kind == 2))=_
     cases hs:(fp out).Soft with
     | true=>rw[if_pos rfl,h4];unfold eW;rw[hem,hs];rfl
     | false=>rw[if_neg (by simp),h4];unfold eW;rw[hem,hs];rfl
 have h2:∀c,kR K n e out c=some (bif c then out++[{ e with Kind:=2,Char:=32 }] else bif dK e then (bif e.Char == 13 then out else out++[{ e with Char:=32 }]) else bif eW out then out else out++[{ e with Soft:=true,Char:=32 }]):=fun c=>by
  unfold kR;cases c with
  | true=>rw[if_pos rfl,tz K n hl];rfl
  | false =>
   have hp:(e.Box.Style.WhiteSpace == 2)=dK e:=rfl;rw[if_neg (by simp),hp];cases hpe:dK e with
   | true=>rw[if_pos rfl,h3 true hpe];rfl
   | false=>rw[if_neg (by simp),h3 false hpe];rfl
 have h1:fY K n e out true=some (bif dK e then (bif e.Char == 10 then out++[{ e with Kind:=2,Char:=32 }] else bif e.Char == 13 then out else out++[{ e with Char:=32 }]) else bif eW out then out else out++[{ e with Soft:=true,Char:=32 }]):=by
  unfold fY;have hp:(e.Box.Style.WhiteSpace == 2)=dK e:=rfl;rw[if_pos rfl,hp];cases hpe:dK e with
  | true=>rw[if_pos rfl,h2,hpe];rfl
  | false=>rw[if_neg (by simp),h2,hpe];rfl
 have h0:fY K n e out false=some (out++[e]):=by
  unfold fY;rw[if_neg (by simp),di (by simp;omega) (by omega),bb]
 unfold pN eF cU;cases q1:(e.Char == 9) with
 | true=>rw[if_pos rfl,h1];rfl
 | false =>
  rw[if_neg (by simp)];cases q2:(e.Char == 10) with
  | true=>rw[if_pos rfl,h1,q2];rfl
  | false =>
   rw[if_neg (by simp)];cases q3:(e.Char == 13) with
   | true=>rw[if_pos rfl,h1,q2,q3];rfl
   | false =>
    rw[if_neg (by simp)];cases q4:(e.Char == 32) with
    | true=>rw[h1,q2,q3];rfl
    | false=>rw[h0];rfl
end
def dd(b:ag):Bool:=(fc (KN 0) 0 b).getD false
def ey(b:ag)(num:Int)(out:List aj)(rs:List Int):List aj:=rs.foldl (fun o r=>eF o ⟨1,num,r,false,b⟩) out
def vM:Nat→List ag→Int×List aj→Int×List aj
  | 0,_,s=>s
  | d+1,L,s=>L.foldl (fun s b=>bif dd b then
      (bif b.Kind == 2 then vM d b.Kids (aa (s.1+1),s.2)
       else bif b.Kind == 4 then (aa (s.1+1),s.2++[⟨2,aa (s.1+1),0,false,b⟩])
       else bif b.Kind == 5 then (aa (s.1+1),s.2++[⟨3,aa (s.1+1),0,false,b⟩])
       else bif b.Kind == 3 then (aa (s.1+1),ey b (aa (s.1+1)) s.2 (cF b.Text 0))
       else (aa (s.1+1),s.2)) else s) s
def dC (d : Nat) (s : Int × List aj) (b : ag) : Int × List aj := bif dd b then
      (bif b.Kind == 2 then vM d b.Kids (aa (s.1+1),s.2)
       else bif b.Kind == 4 then (aa (s.1+1),s.2++[⟨2,aa (s.1+1),0,false,b⟩])
       else bif b.Kind == 5 then (aa (s.1+1),s.2++[⟨3,aa (s.1+1),0,false,b⟩])
       else bif b.Kind == 3 then (aa (s.1+1),ey b (aa (s.1+1)) s.2 (cF b.Text 0))
       else (aa (s.1+1),s.2)) else s
theorem eD(d:Nat)(L:List ag)(s:Int×List aj):vM (d+1) L s=L.foldl (dC d) s:=rfl
def bn:Nat→List ag→Nat
 | 0,_=>0
 | d+1,L=>(L.map fun b=>1+b.Text.size+bn d b.Kids).sum
def Dp:Nat→List ag→Prop
 | 0,_=>False
 | d+1,L=>L.length≤1000∧∀b∈L,b.Text.size≤1000∧(b.Kind=2→Dp d b.Kids)
theorem z4(b:ag)(num:Int):∀(rs:List Int) (out:List aj),(ey b num out rs).length≤out.length+rs.length
 | [],out=>by simp[ey]
 | r::t,out=>by
  have:=z4 b num t (eF out ⟨1,num,r,false,b⟩);have:=Bv out ⟨1,num,r,false,b⟩;unfold ey at *;simp only[List.foldl_cons,List.length_cons];omega
theorem sY(b:ByteArray)(p:Nat):(cF b p).length≤b.size:=by
 unfold cF;have:=Jn (b.data.toList.drop p);rw[List.length_drop,fl]at this;omega
theorem zj(d:Nat)(ih:∀L s,(vM d L s).2.length≤s.2.length+bn d L)(s:Int×List aj)(b:ag):(dC d s b).2.length≤s.2.length+(1+b.Text.size+bn d b.Kids):=by
 unfold dC;cases dd b with
 | false=>simp only[cond_false];omega
 | true =>
  simp only[cond_true];cases (b.Kind == 2) with
  | true=>have:=ih b.Kids (aa (s.1+1),s.2);simp only[cond_true];simp only[]at this;omega
  | false =>
   simp only[cond_false];cases (b.Kind == 4) with
   | true=>simp only[cond_true,List.length_append,List.length_cons,List.length_nil];omega
   | false =>
    simp only[cond_false];cases (b.Kind == 5) with
    | true=>simp only[cond_true,List.length_append,List.length_cons,List.length_nil];omega
    | false =>
     simp only[cond_false];cases (b.Kind == 3) with
     | true =>
      have:=z4 b (aa (s.1+1)) (cF b.Text 0) s.2;have:=sY b.Text 0;simp only[cond_true];omega
     | false=>simp only[cond_false];omega
theorem z1:∀(d:Nat) (L:List ag) (s:Int×List aj),(vM d L s).2.length≤s.2.length+bn d L:=by
 intro d
 induction d with
 | zero=>intro L s;simp[vM,bn]
 | succ d ih =>
  intro L
  induction L with
  | nil=>intro s;simp[vM,bn]
  | cons b r ihL =>
   intro s;have h1:=zj d ih s b;have h2:=ihL (dC d s b);rw[eD,List.foldl_cons];rw[eD]at h2;simp only[bn,List.map_cons,List.sum_cons]at h2⊢;omega
theorem uM(K:Kn)(n:Nat)(b:ag):fc K n b=some (dd b):=by
 have e:fc (KN 0) 0 b=fc K n b:=rfl;have:dT (fc K n b):=by
  unfold fc
  repeat first|exact gP _|apply lX
 obtain⟨u,hu⟩:=this;unfold dd;rw[e,hu];rfl
theorem HZ(K:Kn)(n:Nat)(L:List ag)(i num:Int)(C:Int→Int→List aj→Option (Int×List aj))(hi:i.toNat<L.length):∀(m p:Nat) (out:List aj),(L.getD i.toNat default).Text.size-p<m→out.length+((L.getD i.toNat default).Text.size-p)≤900000 →
  mD K n L i num C m p out=C (aa (i+1)) (aa (num+1)) (ey (L.getD i.toNat default) (aa (num+1)) out (cF (L.getD i.toNat default).Text p)):=by
 intro m
 induction m with
 | zero=>intro p out h;omega
 | succ m ih =>
  intro p out h1 h2;show mE K n L i num C (mD K n L i num C m) p out=_;unfold mE;by_cases hp:p<(L.getD i.toNat default).Text.size
  ·have hw:=uC (L.getD i.toNat default).Text p;rw[if_pos (by simpa using hp)];simp only[Option.bind_some];rw[LL K n (by omega)];simp only[Option.bind_some];have hpl:=Bv out ⟨1,aa (num+1),((Utf8.decode (L.getD i.toNat default).Text p).1:Int),false,L.getD i.toNat default⟩;rw[ih _ _ (by omega) (by omega),s4 hp];rfl
  ·rw[if_neg (by simpa using hp),vd hp];rfl
theorem Fn:∀(d N:Nat) (L:List ag) (s:Int×List aj),Dp d L→s.2.length+bn d L≤800000→d+1100≤N→gp (KN N) N L s.1 s.2=some (vM d L s):=by
 intro d
 induction d with
 | zero=>intro N L s h;exact h.elim
 | succ d ih =>
  intro N L s hD hs hN;obtain⟨N,rfl⟩:∃M,N=M+1:=⟨N-1,by omega⟩;unfold Dp at hD;unfold gp;have loop:∀(m i:Nat) (s:Int×List aj),i≤L.length→L.length<m+i→s.2.length+bn (d+1) (L.drop i)≤800000→kj (KN (N+1)) (N+1) L m (i:Int) s.1 s.2=some (vM (d+1) (L.drop i) s):=by
   intro m
   induction m with
   | zero=>intro i s h1 h2;omega
   | succ m ihm =>
    intro i s h1 h2 h3;show ly (KN (N+1)) (N+1) L (kj (KN (N+1)) (N+1) L m) i s.1 s.2=_;unfold ly;by_cases hi:i<L.length
    ·have hb:L.getD i default∈L:=by rw[bT hi];exact List.getElem_mem _
     have hdr:L.drop i=L.getD i default::L.drop (i+1):=by rw[List.drop_eq_getElem_cons hi,bT hi]
     have hw:aa ((i:Int)+1)=((i+1:Nat):Int):=by rw[bX (by omega) (by omega)];omega
     rw[hdr]at h3⊢;rw[eD,List.foldl_cons,← eD];have hvl:=zj d (z1 d) s (L.getD i default);have h3':s.2.length+((1+(L.getD i default).Text.size+bn d (L.getD i default).Kids)+bn (d+1) (L.drop (i+1)))≤800000:=by
      simpa only[bn,List.map_cons,List.sum_cons]using h3
     have fin:=ihm (i+1) (dC d s (L.getD i default)) (by omega) (by omega) (by omega);rw[if_pos (by simpa using hi),b8 (by omega) (by omega),bb,uM];simp only[Option.bind_some,Int.toNat_natCast];have step:∀s',dC d s (L.getD i default)=s'→kj (KN (N+1)) (N+1) L m (aa ((i:Int)+1)) s'.1 s'.2=some (vM (d+1) (L.drop (i+1)) (dC d s (L.getD i default))):=fun s' e=>by
      rw[←e,hw];exact fin
     cases hf:dd (L.getD i default) with
     | false =>
      rw[show(!false)=true from rfl,if_pos rfl];unfold gB;exact step s (by unfold dC;rw[hf];rfl)
     | true =>
      rw[show(!true)=false from rfl,if_neg (by simp)];cases h2':((L.getD i default).Kind == 2) with
      | true =>
       have hk:(L.getD i default).Kind=2:=by simpa using h2'
       have:=ih N (L.getD i default).Kids (aa (s.1+1),s.2) ((hD.2 _ hb).2 hk) (by simp only[];omega) (by omega);rw[if_pos rfl];show((gp (KN N) N (L.getD i default).Kids (aa (s.1+1)) s.2).bind _)=_;rw[show gp (KN N) N (L.getD i default).Kids (aa (s.1+1)) s.2=_ from this];simp only[Option.bind_some];unfold fx gB;exact step _ (by unfold dC;rw[hf,h2'];rfl)
      | false =>
       rw[if_neg (by simp)];cases h4':((L.getD i default).Kind == 4) with
       | true =>
        rw[if_pos rfl,di (by simp;omega) (by omega),bb];unfold fx gB;exact step (_,_) (by unfold dC;rw[hf,h2',h4'];rfl)
       | false =>
        rw[if_neg (by simp)];cases h5':((L.getD i default).Kind == 5) with
        | true =>
         rw[if_pos rfl,di (by simp;omega) (by omega),bb];unfold fx gB;exact step (_,_) (by unfold dC;rw[hf,h2',h4',h5'];rfl)
        | false =>
         rw[if_neg (by simp)];cases h3'':((L.getD i default).Kind == 3) with
         | true =>
          have ht:=(hD.2 _ hb).1;rw[if_pos rfl,HZ (KN (N+1)) (N+1) L i s.1 _ (by simpa using hi) (N+1) 0 s.2 (by rw[Int.toNat_natCast];omega) (by rw[Int.toNat_natCast];omega)];rw[Int.toNat_natCast];exact step (_,_) (by unfold dC;rw[hf,h2',h4',h5',h3''];rfl)
         | false =>
          rw[if_neg (by simp)];unfold fx gB;exact step (_,_) (by unfold dC;rw[hf,h2',h4',h5',h3''];rfl)
    ·rw[if_neg (by simpa using hi),List.drop_eq_nil_of_le (by omega)];rfl
  have:=loop (N+1) 0 s (by omega) (by omega) (by rw[List.drop_zero];exact hs);rw[List.drop_zero]at this;exact this
def cO(d:Nat)(L:List ag):List aj:=(vM d L (0,[])).2
theorem HH{d N:Nat}{L:List ag}(hD:Dp d L)(hc:bn d L≤800000)(hN:d+1100≤N):ph (KN N) N L=some (cO d L):=by
 unfold ph;rw[show gp (KN N) N L 0 []=_ from Fn d N L (0,[]) hD (by simpa using hc) hN];rfl
theorem qe(d:Nat)(L:List ag):(cO d L).length≤bn d L:=by
 have:=z1 d L (0,[]);unfold cO;simpa using this
theorem Ez{P:aj→Prop}{out:List aj}{e:aj}(h:∀x∈out,P x)(h1:cU e.Char=false→P e)(h2:dK e=true→P { e with Kind:=2,Char:=32 })(h3:dK e=true→P { e with Char:=32 })(h4:dK e=false→P { e with Soft:=true,Char:=32 }):∀x∈eF out e,P x:=by
 have ap:∀y,P y→∀x∈out++[y],P x:=fun y hy x hx=>by
  rcases List.mem_append.1 hx with hx|hx
  ·exact h x hx
  ·rw[List.mem_singleton.1 hx];exact hy
 unfold eF;cases hs:cU e.Char with
 | false=>exact ap _ (h1 hs)
 | true =>
  simp only[cond_true];cases hp:dK e with
  | true =>
   simp only[cond_true];cases (e.Char == 10) with
   | true=>exact ap _ (h2 hp)
   | false =>
    simp only[cond_false];cases (e.Char == 13) with
    | true=>exact h
    | false=>exact ap _ (h3 hp)
  | false =>
   simp only[cond_false];cases eW out with
   | true=>exact h
   | false=>exact ap _ (h4 hp)
theorem qW{P:aj→Prop}(b:ag)(num:Int)(hP:∀r,bv r→(cU r=false→P ⟨1,num,r,false,b⟩))(h2:P ⟨2,num,32,false,b⟩)(h3:b.Style.WhiteSpace=2→P ⟨1,num,32,false,b⟩)(h4:b.Style.WhiteSpace≠2→P ⟨1,num,32,true,b⟩):∀(rs:List Int) (out:List aj),(∀r∈rs,bv r)→(∀x∈out,P x)→∀x∈ey b num out rs,P x
 | [],out,_,h=>h
 | r::t,out,hr,h=>by
  unfold ey;rw[List.foldl_cons];refine qW b num hP h2 h3 h4 t _ (fun x hx=>hr x (by simp[hx])) (Ez h (fun hs=>hP r (hr r (by simp)) hs) (fun _=>h2) (fun hp=>h3 (by simpa[dK]using hp)) (fun hp=>h4 (by simpa[dK]using hp)))
theorem uO{P:aj→Prop}(h1:∀(b:ag) (num r:Int),bv r→cU r=false→P ⟨1,num,r,false,b⟩)(h2:∀(b:ag) (num:Int),P ⟨2,num,32,false,b⟩)(h3:∀(b:ag) (num:Int),b.Style.WhiteSpace=2→P ⟨1,num,32,false,b⟩)(h4:∀(b:ag) (num:Int),b.Style.WhiteSpace≠2→P ⟨1,num,32,true,b⟩)
  (h5:∀(b:ag) (num:Int),P ⟨2,num,0,false,b⟩) (h6:∀(b:ag) (num:Int),P ⟨3,num,0,false,b⟩):∀(d:Nat) (L:List ag) (s:Int×List aj),(∀x∈s.2,P x)→∀x∈(vM d L s).2,P x:=by
 have ap:∀{out:List aj} (y:aj),(∀x∈out,P x)→P y→∀x∈out++[y],P x:=fun y h hy x hx=>by
  rcases List.mem_append.1 hx with hx|hx
  ·exact h x hx
  ·rw[List.mem_singleton.1 hx];exact hy
 intro d
 induction d with
 | zero=>intro L s h;exact h
 | succ d ih =>
  intro L
  induction L with
  | nil=>intro s h;exact h
  | cons b r ihL =>
   intro s h;rw[eD,List.foldl_cons,← eD];refine ihL _ ?_;unfold dC;cases dd b with
   | false=>exact h
   | true =>
    simp only[cond_true];cases (b.Kind == 2) with
    | true=>exact ih _ _ h
    | false =>
     simp only[cond_false];cases (b.Kind == 4) with
     | true=>exact ap _ h (h5 _ _)
     | false =>
      simp only[cond_false];cases (b.Kind == 5) with
      | true=>exact ap _ h (h6 _ _)
      | false =>
       simp only[cond_false];cases (b.Kind == 3) with
       | true=>exact qW b _ (fun r hr hs=>h1 b _ r hr hs) (h2 b _) (h3 b _) (h4 b _) _ _ n3 h
       | false=>exact h
theorem wL:bv 32:=by unfold bv;omega
theorem BO:bv 0:=by unfold bv;omega
theorem vB(d:Nat)(L:List ag):∀x∈cO d L,fa x :=
 uO (fun b num r hr _=>⟨hr,fun h=>by cases h⟩) (fun b num=>⟨wL,fun _=>rfl⟩) (fun b num _=>⟨wL,fun _=>rfl⟩) (fun b num _=>⟨wL,fun _=>rfl⟩) (fun b num=>⟨BO,fun h=>by cases h⟩) (fun b num=>⟨BO,fun h=>by cases h⟩) d L (0,[]) (fun x hx=>by cases hx)
end
end Go.Proofs.Ytnpmlepplfaijaa
namespace Go.Proofs.Ytnpmlepplfaijaa
set_option linter.all false
open Go.RowKit
def jO(l:List bB)(R:List ag→Prop)(b:ag):Prop:=∃s∈l,b.Style=s.Style ∧
  ((b.Kind=3∧b.Text=s.Text∧b.Kids=[])∨(b.Kind=4∧b.Text=⟨#[]⟩∧b.Kids=[]) ∨
   (b.Kind=5∧b.Text=⟨#[]⟩∧Int.tmod s.Kind 8=6∧∃k,b.Kids=[k]∧k.Kind=3∧k.Kids=[]∧k.Style=s.Style∧k.Text=s.Text)∨(b.Kind=2∧b.Text=⟨#[]⟩∧R b.Kids))
def Bx(l:List bB):Nat→List ag→Prop
 | 0,L=>L=[]
 | d+1,L=>L.length≤16∧∀b∈L,jO l (Bx l d) b
theorem vG{l:List bB}(ht:∀s∈l,s.Text.size≤60):∀(d:Nat) (L:List ag),Bx l d L→Dp (d+1) L
 | 0,L,h=>by
  unfold Bx at h;subst h;unfold Dp;exact⟨by simp,fun b hb=>by cases hb⟩
 | d+1,L,h=>by
  unfold Bx at h;unfold Dp;refine⟨by omega,fun b hb=>?_⟩;obtain⟨s,hs,_,h3|h4|h5|h2⟩:=h.2 b hb
  ·exact⟨by rw[h3.2.1];have:=ht s hs;omega,fun e=>by rw[h3.1]at e;cases e⟩
  ·exact⟨by rw[h4.2.1];decide,fun e=>by rw[h4.1]at e;cases e⟩
  ·exact⟨by rw[h5.2.1];decide,fun e=>by rw[h5.1]at e;cases e⟩
  ·exact⟨by rw[h2.2.1];decide,fun _=>vG ht d _ h2.2.2⟩
theorem MB:∀(d:Nat) (a b:List ag),bn d (a++b)=bn d a+bn d b
 | 0,a,b=>rfl
 | d+1,a,b=>by simp[bn]
theorem xN(d:Nat)(b:ag):bn (d+1) [b]=1+b.Text.size+bn d b.Kids:=by simp[bn]
theorem Dn{l:List bB}(hl:l.length≤16)(ht:∀s∈l,s.Text.size≤60):∀(k N i0:Nat) (dep:Int),l.length-i0≤k→i0≤l.length→k+50≤N →
  ∃(bx:List ag) (nx:Nat),gA (KN N) N l (i0:Int) dep=some (bx,(nx:Int))∧i0≤nx∧nx≤l.length∧Bx l k bx∧bx.length≤nx-i0∧bn (k+1) bx≤62*(nx-i0):=by
 intro k
 induction k with
 | zero =>
  intro N i0 dep h1 h2 hN;obtain⟨N,rfl⟩:∃M,N=M+1:=⟨N-1,by omega⟩;refine⟨[],i0,?_,Nat.le_refl _,h2,rfl,by simp,by simp[bn]⟩;unfold gA;show ir (KN (N+1)) (N+1) l dep (gu (KN (N+1)) (N+1) l dep N) i0 []=_;unfold ir;rw[if_neg (by simp;omega)];unfold iQ;rw[if_neg (by simp)]
 | succ k ih =>
  intro N i0 dep h1 h2 hN;obtain⟨N,rfl⟩:∃M,N=M+1:=⟨N-1,by omega⟩;unfold gA;have loop:∀(m i:Nat) (acc:List ag),i0≤i→i≤l.length→l.length<m+i→(∀b∈acc,jO l (Bx l k) b)→acc.length≤i-i0→bn (k+2) acc≤62*(i-i0) →
    ∃(bx:List ag) (nx:Nat),gu (KN (N+1)) (N+1) l dep m (i:Int) acc=some (bx,(nx:Int))∧i0≤nx∧nx≤l.length∧(∀b∈bx,jO l (Bx l k) b)∧bx.length≤nx-i0∧bn (k+2) bx≤62*(nx-i0):=by
   intro m
   induction m with
   | zero=>intro i acc h0 h1 h2;omega
   | succ m ihm =>
    intro i acc g0 g1 g2 g3 g4 g5;show ∃(bx:List ag) (nx:Nat),ir (KN (N+1)) (N+1) l dep (gu (KN (N+1)) (N+1) l dep m) i acc=some (bx,(nx:Int))∧_;unfold ir;have stop:∃(bx:List ag) (nx:Nat),iQ (KN (N+1)) (N+1) l dep i acc (gu (KN (N+1)) (N+1) l dep m) false=some (bx,(nx:Int))∧i0≤nx∧nx≤l.length∧(∀b∈bx,jO l (Bx l k) b)∧bx.length≤nx-i0∧bn (k+2) bx≤62*(nx-i0):=by
     unfold iQ;rw[if_neg (by simp)];exact⟨acc,i,rfl,g0,g1,g3,g4,g5⟩
    by_cases hi:i<l.length
    ·rw[if_pos (by simpa using hi),b8 (by omega) (by omega),bb];cases hd:decide ((List.getD l ((i:Int)).toNat default).Depth≥dep) with
     | false=>exact stop
     | true =>
      have hs:l.getD i default∈l:=by rw[bT hi];exact List.getElem_mem _
      have hw:aa ((i:Int)+1)=((i+1:Nat):Int):=by rw[bX (by omega) (by omega)];omega
      unfold iQ;rw[if_pos rfl,b8 (by omega) (by omega)];simp only[bb,Option.bind_some,Int.toNat_natCast];have go:∀(kd:Int) (tx:ByteArray) (kids:List ag) (j:Nat),i+1≤j→j≤l.length→jO l (Bx l k) ⟨kd,aa (10+(i:Int)),(l.getD i default).Style,tx,0,0,kids⟩→1+tx.size+bn (k+1) kids≤62*(j-i) →
        ∃(bx:List ag) (nx:Nat),iV (KN (N+1)) (N+1) l dep i acc (gu (KN (N+1)) (N+1) l dep m) (j:Int) kd tx kids=some (bx,(nx:Int))∧i0≤nx∧nx≤l.length∧(∀b∈bx,jO l (Bx l k) b)∧bx.length≤nx-i0∧bn (k+2) bx≤62*(nx-i0):=by
       intro kd tx kids j q1 q2 q3 q4;unfold iV;simp only[Int.toNat_natCast];rw[di (by simp;omega) (by omega),bb];refine ihm j _ (by omega) q2 (by omega) (fun b hb=>?_) (by simp;omega) ?_
       ·rcases List.mem_append.1 hb with hb|hb
        ·exact g3 b hb
        ·rw[List.mem_singleton.1 hb];exact q3
       ·rw[MB,xN];simp only[];omega
      by_cases h5:Int.tmod (l.getD i default).Kind 8=5
      ·rw[if_pos (by simpa using h5),hw];exact go 4 ⟨#[]⟩ [] (i+1) (by omega) (by omega) ⟨_,hs,rfl,.inr (.inl ⟨rfl,rfl,rfl⟩)⟩ (by
        have:(⟨#[]⟩:ByteArray).size=0:=rfl;rw[this];simp[bn])
      ·rw[if_neg (by simpa using h5)];by_cases h6:Int.tmod (l.getD i default).Kind 8=6
       ·rw[if_pos (by simpa using h6),di (by simp) (by omega),bb,hw];refine go 5 ⟨#[]⟩ [{ ek with Kind:=3,Style:=(l.getD i default).Style,Text:=(l.getD i default).Text }] (i+1) (by omega) (by omega) ⟨_,hs,rfl,.inr (.inr (.inl ⟨rfl,rfl,h6,_,rfl,rfl,rfl,rfl,rfl⟩))⟩ ?_;have h0:(⟨#[]⟩:ByteArray).size=0:=rfl;have hz:bn k (ek).Kids=0:=by
         cases k<;>simp[bn,ek]
        have:=ht _ hs;rw[h0,xN];simp only[];rw[hz];omega
       ·rw[if_neg (by simpa using h6)];by_cases h7:Int.tmod (l.getD i default).Kind 8=7
        ·rw[if_pos (by simpa using h7),hw];obtain⟨bx,nx,e1,e2,e3,e4,e5,e6⟩:=ih N (i+1) (IntKind.wrap .u8 ((l.getD i default).Depth+1)) (by omega) (by omega) (by omega);show ∃(bx:List ag) (nx:Nat),((gA (KN N) N l ((i+1:Nat):Int) (IntKind.wrap .u8 ((l.getD i default).Depth+1))).bind _)=some (bx,(nx:Int))∧_;rw[e1];simp only[Option.bind_some];refine go 2 ⟨#[]⟩ bx nx (by omega) e3 ⟨_,hs,rfl,.inr (.inr (.inr ⟨rfl,rfl,e4⟩))⟩ ?_;have h0:(⟨#[]⟩:ByteArray).size=0:=rfl;rw[h0];omega
        ·rw[if_neg (by simpa using h7),hw];refine go 3 (l.getD i default).Text [] (i+1) (by omega) (by omega) ⟨_,hs,rfl,.inl ⟨rfl,rfl,rfl⟩⟩ ?_;have:=ht _ hs;have hz:bn (k+1) []=0:=by simp[bn]
         rw[hz];omega
    ·rw[if_neg (by simpa using hi)];exact stop
  obtain⟨bx,nx,e1,e2,e3,e4,e5,e6⟩:=loop (N+1) i0 [] (Nat.le_refl _) h2 (by omega) (fun b hb=>by cases hb) (by simp) (by simp[bn]);exact⟨bx,nx,e1,e2,e3,⟨by omega,e4⟩,e5,e6⟩
theorem Gt{l:List bB}(hl:l.length≤16)(ht:∀s∈l,s.Text.size≤60){N:Nat}(hN:70≤N):∃bx,lY (KN N) N l=some bx∧Bx l 16 bx∧Dp 17 bx∧bn 17 bx≤992:=by
 obtain⟨bx,nx,e1,e2,e3,e4,e5,e6⟩:=Dn hl ht 16 N 0 0 (by omega) (by omega) (by omega);have e6':bn 17 bx≤62*(nx-0):=e6;refine⟨bx,?_,e4,vG ht 16 bx e4,by omega⟩;unfold lY;rw[show gA (KN N) N l 0 0=_ from e1];rfl
theorem sV{l:List bB}:∀(d:Nat) (L:List ag) (s:Int×List aj) (Q:ag→Prop),Bx l d L→(∀b R,jO l R b→Q b)→(∀x∈s.2,Q x.Box)→∀x∈(vM (d+1) L s).2,Q x.Box:=by
 intro d
 induction d with
 | zero=>intro L s Q h hQ hs;unfold Bx at h;subst h;exact hs
 | succ d ih =>
  intro L s Q h hQ;unfold Bx at h;obtain⟨hz,h⟩:=h;clear hz
  induction L generalizing s with
  | nil=>intro hs;exact hs
  | cons b r ihL =>
   intro hs;rw[eD,List.foldl_cons,← eD];refine ihL _ (fun b hb=>h b (by simp[hb])) ?_;have hb:=h b (by simp);have ap:∀(y:aj),y.Box=b→∀x∈s.2++[y],Q x.Box:=fun y hy x hx=>by
    rcases List.mem_append.1 hx with hx|hx
    ·exact hs x hx
    ·rw[List.mem_singleton.1 hx,hy];exact hQ b _ hb
   unfold dC;cases dd b with
   | false=>exact hs
   | true =>
    simp only[cond_true];cases h2:(b.Kind == 2) with
    | true =>
     simp only[cond_true];obtain⟨_,_,_,h3|h4|h5|h2'⟩:=hb
     ·rw[h3.1]at h2;simp at h2
     ·rw[h4.1]at h2;simp at h2
     ·rw[h5.1]at h2;simp at h2
     ·exact ih b.Kids _ Q h2'.2.2 hQ hs
    | false =>
     simp only[cond_false];cases (b.Kind == 4) with
     | true=>exact ap _ rfl
     | false =>
      simp only[cond_false];cases (b.Kind == 5) with
      | true=>exact ap _ rfl
      | false =>
       simp only[cond_false];cases (b.Kind == 3) with
       | true=>exact qW (P:=fun x=>Q x.Box) b _ (fun _ _ _=>hQ b _ hb) (hQ b _ hb) (fun _=>hQ b _ hb) (fun _=>hQ b _ hb) _ _ n3 hs
       | false=>exact hs
theorem xO:∀(d:Nat) (L:List ag) (s:Int×List aj),(∀x∈s.2,x.Kind=3→x.Box.Kind=5)→∀x∈(vM d L s).2,x.Kind=3→x.Box.Kind=5:=by
 intro d
 induction d with
 | zero=>intro L s hs;exact hs
 | succ d ih =>
  intro L
  induction L with
  | nil=>intro s hs;exact hs
  | cons b r ihL =>
   intro s hs;rw[eD,List.foldl_cons,← eD];refine ihL _ ?_;have ap:∀(y:aj),(y.Kind=3→y.Box.Kind=5)→∀x∈s.2++[y],x.Kind=3→x.Box.Kind=5:=fun y hy x hx=>by
    rcases List.mem_append.1 hx with hx|hx
    ·exact hs x hx
    ·rw[List.mem_singleton.1 hx];exact hy
   unfold dC;cases dd b with
   | false=>exact hs
   | true =>
    simp only[cond_true];cases (b.Kind == 2) with
    | true=>exact ih b.Kids _ hs
    | false =>
     simp only[cond_false];cases (b.Kind == 4) with
     | true=>exact ap _ (fun e=>by cases e)
     | false =>
      simp only[cond_false];cases h5:(b.Kind == 5) with
      | true=>exact ap _ (fun _=>by simpa using h5)
      | false =>
       simp only[cond_false];cases (b.Kind == 3) with
       | true=>exact qW (P:=fun x=>x.Kind=3→x.Box.Kind=5) b _ (fun _ _ _ e=>by cases e) (fun e=>by cases e) (fun _ e=>by cases e) (fun _ e=>by cases e) _ _ n3 hs
       | false=>exact hs
end Go.Proofs.Ytnpmlepplfaijaa
namespace Go.Proofs.Ytnpmlepplfaijaa
set_option linter.all false
open Go.RowKit
def eg(l:cV)(b:Int):Int×Bool :=
 if l.Kind=1 then (min (max l.Value (-1048576)) 1048576,true)
 else if l.Kind=2 then (min (max (aa (Int.tdiv (aa ((min (max b 0) 1048576)*(min (max l.Value (-1000000)) 1000000))) 10000)) (-1048576)) 1048576,true)
 else (0,false)
def o1(x:Int):Int:=min (max x 0) 1048576
section
variable(K:Kn)(n:Nat)
theorem Ct(x:Int):dQ K n x=some (o1 x):=rfl
theorem mR(l:cV)(b:Int):cS K n l b=some (eg l b):=by
 unfold cS eg;by_cases h1:l.Kind=1
 ·simp[h1,lA]
 ·by_cases h2:l.Kind=2
  ·simp[h2,lA,dQ]
  ·simp[h1,h2]
def Al(s:aB)(w c:Int):Int :=
 let m:=if (eg s.MaxWidth w).2=true then min (max c 0) (max (eg s.MaxWidth w).1 0) else max c 0
 if (eg s.MinWidth w).2=true then max m (eg s.MinWidth w).1 else m
theorem KM(s:aB)(w c:Int):iT K n s w c=some (Al s w c):=by
 unfold iT Al;simp only[mR,Option.bind_some,px,pL]
 repeat (first|rfl|split)
def wi(s:aB)(w c:Int):bt :=
 ⟨⟨(eg s.Margin.a0 w).1,(eg s.Margin.a1 w).1,(eg s.Margin.a2 w).1,(eg s.Margin.a3 w).1⟩,⟨o1 s.Border.a0,o1 s.Border.a1,o1 s.Border.a2,o1 s.Border.a3⟩,
  ⟨max (eg s.Padding.a0 w).1 0,max (eg s.Padding.a1 w).1 0,max (eg s.Padding.a2 w).1 0,max (eg s.Padding.a3 w).1 0⟩,c⟩
theorem z0(s:aB)(w c:Int):gt K n s w c=some (wi s w c):=by
 simp only[gt,mR,Ct,Option.bind_some,wi]
def Et(z:bt):Int:=aa ((aa ((aa ((aa ((aa ((aa (z.Content+z.Margin.a1))+z.Margin.a3))+z.Border.a1))+z.Border.a3))+z.Padding.a1))+z.Padding.a3)
theorem Aa(z:bt):gw K n z=some (Et z):=rfl
def dU(l:cV):Prop := -16777216≤l.Value∧l.Value≤16777216
theorem d8(l:cV):∃b,dn K n l=some b∧(b=true→dU l):=by
 unfold dn na;by_cases h:l.Value ≥ -16777216
 ·simp only[h,decide_true,if_true];exact⟨_,rfl,fun e=>⟨h,of_decide_eq_true e⟩⟩
 ·simp only[h,decide_false,Bool.false_eq_true,if_false];exact⟨_,rfl,fun e=>by cases e⟩
structure sW(x:bB):Prop where
 text:(x.Text.size:Int)≤60
 left:dU x.Style.Left
 top:dU x.Style.Top
 width:dU x.Style.Width
 height:dU x.Style.Height
 minw:dU x.Style.MinWidth
 maxw:dU x.Style.MaxWidth
 basis:dU x.Style.Basis
 lh:0≤x.Style.LineHeight∧x.Style.LineHeight≤65536
 fs:0≤x.Style.FontSize∧x.Style.FontSize≤65536
 grow:0≤x.Style.Grow∧x.Style.Grow≤1048576
 shrink:0≤x.Style.Shrink∧x.Style.Shrink≤1048576
 m0:dU x.Style.Margin.a0
 m1:dU x.Style.Margin.a1
 m2:dU x.Style.Margin.a2
 m3:dU x.Style.Margin.a3
 p0:dU x.Style.Padding.a0
 p1:dU x.Style.Padding.a1
 p2:dU x.Style.Padding.a2
 p3:dU x.Style.Padding.a3
theorem GY(L:List bB)(m:Int)(L1:Int→Option Bool)(i:Int)(h0:0≤i)(hi:i<L.length):gM K n L m L1 i=some false∨(sW (L.getD i.toNat default)∧gM K n L m L1 i=L1 (aa (i+1))):=by
 unfold gM;simp only[hi,decide_true,if_true,b8 h0 hi,bb];generalize hx:L.getD i.toNat default=x;have j5:∀b,kL K n L m i L1 b=if b=true then some false else L1 (aa (i+1)):=fun b=>rfl;obtain⟨b1,e1,f1⟩:=d8 K n x.Style.Left;obtain⟨b2,e2,f2⟩:=d8 K n x.Style.Top;obtain⟨b3,e3,f3⟩:=d8 K n x.Style.Width;obtain⟨b4,e4,f4⟩:=d8 K n x.Style.Height;obtain⟨b5,e5,f5⟩:=d8 K n x.Style.MinWidth;obtain⟨b6,e6,f6⟩:=d8 K n x.Style.MaxWidth;obtain⟨b7,e7,f7⟩:=d8 K n x.Style.Basis;obtain⟨c0,g0,k0⟩:=d8 K n x.Style.Margin.a0;obtain⟨c1,g1,k1⟩:=d8 K n x.Style.Margin.a1;obtain⟨c2,g2,k2⟩:=d8 K n x.Style.Margin.a2;obtain⟨c3,g3,k3⟩:=d8 K n x.Style.Margin.a3;obtain⟨d0,q0,r0⟩:=d8 K n x.Style.Padding.a0;obtain⟨d1,q1,r1⟩:=d8 K n x.Style.Padding.a1;obtain⟨d2,q2,r2⟩:=d8 K n x.Style.Padding.a2;obtain⟨d3,q3,r3⟩:=d8 K n x.Style.Padding.a3;have jt:cW K n L m i L1 true=some false:=rfl;have j1:cW K n L m i L1 false=some false∨((c0=true∧c1=true∧c2=true∧c3=true∧d0=true∧d1=true∧d2=true∧d3=true)∧cW K n L m i L1 false=L1 (aa (i+1))):=by
  simp only[cW,oL,po,pR,kL,hx,g0,g1,g2,g3,q0,q1,q2,q3,Option.bind_some];cases c0<;>cases d0<;>cases c1<;>cases d1<;>cases c2<;>cases d2<;>cases c3<;>cases d3<;>simp
 simp only[e1,e2,e3,e4,e5,e6,e7,Option.bind_some,jt];by_cases t0:(x.Text.size:Int)>60
 ·left;simp[t0]
 simp only[t0,decide_false,Bool.false_eq_true,if_false];cases b1
 ·left;simp
 simp only[Bool.not_true,Bool.false_eq_true,if_false];cases b2
 ·left;simp
 simp only[Bool.not_true,Bool.false_eq_true,if_false];cases b3
 ·left;simp
 simp only[Bool.not_true,Bool.false_eq_true,if_false];cases b4
 ·left;simp
 simp only[Bool.not_true,Bool.false_eq_true,if_false];cases b5
 ·left;simp
 simp only[Bool.not_true,Bool.false_eq_true,if_false];cases b6
 ·left;simp
 simp only[Bool.not_true,Bool.false_eq_true,if_false];cases b7
 ·left;simp
 simp only[Bool.not_true,Bool.false_eq_true,if_false];by_cases u1:x.Style.LineHeight<0
 ·left;simp[u1]
 simp only[u1,decide_false,Bool.false_eq_true,if_false];by_cases u2:x.Style.LineHeight>65536
 ·left;simp[u2]
 simp only[u2,decide_false,Bool.false_eq_true,if_false];by_cases u3:x.Style.FontSize<0
 ·left;simp[u3]
 simp only[u3,decide_false,Bool.false_eq_true,if_false];by_cases u4:x.Style.FontSize>65536
 ·left;simp[u4]
 simp only[u4,decide_false,Bool.false_eq_true,if_false];by_cases u5:x.Style.Grow<0
 ·left;simp[u5]
 simp only[u5,decide_false,Bool.false_eq_true,if_false];by_cases u6:x.Style.Grow>1048576
 ·left;simp[u6]
 simp only[u6,decide_false,Bool.false_eq_true,if_false];by_cases u7:x.Style.Shrink<0
 ·left;simp[u7]
 simp only[u7,decide_false,Bool.false_eq_true,if_false];by_cases u8:x.Style.Shrink>1048576
 ·left;simp only[u8,decide_true];exact jt
 simp only[u8,decide_false];rcases j1 with h|⟨⟨a0,a1,a2,a3,p0,p1,p2,p3⟩,h⟩
 ·exact .inl h
 ·refine .inr ⟨⟨by omega,f1 rfl,f2 rfl,f3 rfl,f4 rfl,f5 rfl,f6 rfl,f7 rfl,⟨by omega,by omega⟩,⟨by omega,by omega⟩,⟨by omega,by omega⟩,⟨by omega,by omega⟩,k0 a0,k1 a1,k2 a2,k3 a3,r0 p0,r1 p1,r2 p2,r3 p3⟩,h⟩
theorem Jd(L:List bB)(mx:Int)(hL:(L.length:Int)≤9223372036854775807):∀(m:Nat) (i:Int),0≤i→i≤L.length→(L.length:Int)<m+i →
  ∃b,km K n L mx m i=some b∧(b=true→(L.length:Int)≤mx∧∀k,i.toNat≤k→k<L.length→sW (L.getD k default)):=by
 intro m
 induction m with
 | zero=>intro i h0 h1 h2;omega
 | succ m ih =>
  intro i h0 h1 h2;show ∃b,gM K n L mx (km K n L mx m) i=some b∧_;by_cases hi:i<(L.length:Int)
  ·rcases GY K n L mx (km K n L mx m) i h0 hi with h|⟨h,h'⟩
   ·exact⟨false,h,fun e=>by cases e⟩
   ·obtain⟨b,hb,hk⟩:=ih (i+1) (by omega) (by omega) (by omega);rw[h',bX (by omega) (by omega)];refine⟨b,hb,fun e=>⟨(hk e).1,fun k h3 h4=>?_⟩⟩;by_cases e2:k=i.toNat
    ·subst e2;exact h
    ·exact(hk e).2 k (by omega) h4
  ·have hd:decide (i<(L.length:Int))=false:=by simpa using hi
   unfold gM;simp only[hd,Bool.false_eq_true,if_false];exact⟨_,rfl,fun e=>⟨of_decide_eq_true e,fun k h3 h4=>by omega⟩⟩
theorem LC(L:List bB)(mx:Int)(hL:(L.length:Int)≤9223372036854775807)(hn:L.length<n):∃b,rr K n L mx=some b∧(b=true→(L.length:Int)≤mx∧∀x∈L,sW x):=by
 obtain⟨b,h1,h2⟩:=Jd K n L mx hL n 0 (by omega) (by omega) (by omega);refine⟨b,h1,fun e=>⟨(h2 e).1,fun x hx=>?_⟩⟩;obtain⟨k,hk,rfl⟩:=List.mem_iff_getElem.1 hx;have:=(h2 e).2 k (by simp) hk;rwa[bT hk]at this
end
end Go.Proofs.Ytnpmlepplfaijaa
namespace Go.Proofs.Ytnpmlepplfaijaa
set_option linter.all false
open Go.RowKit
theorem uL{α β:Type}{x:Option α}{f:α→Option β}(h:dT x)(hf:∀a,dT (f a)):dT (x.bind f):=by
 obtain⟨a,rfl⟩:=h;exact hf a
theorem EY(K:Kn)(n:Nat)(s:aB):dT (kO K n s):=by
 unfold kO pm o5 pI nU pH nf o7 pF n0 oC m6
 repeat first|exact gP _|apply lX
structure iH(b:ag)(k:ag):Prop where
 kids:b.Kids=[k]
 kind:k.Kind=3
 text:k.Text.size≤60
section
variable{N:Nat}{b k:ag}
theorem ym(h:iH b k):hI (KN (N+9)) (N+9) b=some ([k],false):=by
 have hf:dd k=true:=by unfold dd fc;rw[if_pos (by simp[h.kind])];rfl
 unfold hI;show hH (KN (N+9)) (N+9) b (kH (KN (N+9)) (N+9) b (N+8)) 0 []=_;unfold hH;rw[if_pos (by simp[h.kids]),b8 (by omega) (by rw[h.kids];simp),bb,uM];simp only[Option.bind_some,h.kids];have e0:([k].getD (Int.toNat 0) default)=k:=rfl;rw[e0,hf,if_pos rfl,di (by simp) (by omega),bb];unfold m4;rw[bX (by omega) (by omega)];show hH (KN (N+9)) (N+9) b (kH (KN (N+9)) (N+9) b (N+7)) (0+1) ([]++[k])=_;unfold hH;rw[if_neg (by simp[h.kids])];have hc:oG (KN (N+9)) (N+9) ([]++[k]) (Fv.fn 81)=some false:=by
  unfold oG sy;show(Option.bind (iL (KN (N+9)) (N+9) [k] (Fv.fn 81) (kA (KN (N+9)) (N+9) [k] (Fv.fn 81) (N+8)) 0) _)=_;unfold iL;rw[if_pos (by simp),b8 (by omega) (by simp),bb];have ho:(KN (N+9)).ob (Fv.fn 81) ([k].getD (Int.toNat 0) default)=some false:=by
   show lr (KN (N+8)) (N+8) k=some false;unfold lr lc;rw[if_neg (by simp[h.kind]),if_neg (by simp[h.kind])];simp[h.kind]
  rw[ho];simp only[Option.bind_some,Bool.false_eq_true,if_false];rw[bX (by omega) (by omega)];show(Option.bind (iL (KN (N+9)) (N+9) [k] (Fv.fn 81) (kA (KN (N+9)) (N+9) [k] (Fv.fn 81) (N+7)) (0+1)) _)=_;unfold iL;rw[if_neg (by simp)];rfl
 rw[hc];rfl
theorem K3(h:iH b k)(s:aB):dT (pi (KN (N+9)) (N+9) [k] s):=by
 unfold pi;show dT (ik (KN (N+9)) (N+9) [k] (kW (KN (N+9)) (N+9) [k] (N+8)) 0 0 0);unfold ik;rw[if_pos (by simp),b8 (by omega) (by simp),bb,bX (n:=0+1) (by omega) (by omega)];generalize max (0:Int) _=x;generalize aa (0+_)=y;show dT (ik (KN (N+9)) (N+9) [k] (kW (KN (N+9)) (N+9) [k] (N+7)) x y (0+1));unfold ik;rw[if_neg (by simp)];exact gP _
theorem F4(h:iH b k)(s:aB)(w:Int):∃l y,m8 (KN (N+9)) (N+9) [k] s w=some (l,y)∧l.length≤1:=by
 unfold m8;show ∃l y,ij (KN (N+9)) (N+9) [k] s w (kq (KN (N+9)) (N+9) [k] s w (N+8)) 0 0 []=some (l,y)∧_;unfold ij;rw[if_pos (by simp),b8 (by omega) (by simp)];simp only[bb,Option.bind_some];have fin:∀(y:Int) (l:List af),l.length≤1→∃l' y',ky (KN (N+9)) (N+9) [k] s w 0 (kq (KN (N+9)) (N+9) [k] s w (N+8)) y l=some (l',y')∧l'.length≤1:=fun y l hl=>by
  unfold ky;rw[bX (by omega) (by omega)];show ∃l' y',ij (KN (N+9)) (N+9) [k] s w (kq (KN (N+9)) (N+9) [k] s w (N+7)) y (0+1) l=some (l',y')∧_;unfold ij;rw[if_neg (by simp)];exact⟨l,y,rfl,hl⟩
 split
 ·rw[di (by simp) (by omega),bb];exact fin _ _ (by simp)
 ·exact fin _ _ (by simp)
def Tk(x:Option af):Prop:=∃f,x=some f∧f.Kind=1
theorem eT{c:Prop}[Decidable c]{x y:Option af}(h1:Tk x)(h2:Tk y):Tk (if c then x else y):=by split;exact h1;exact h2
theorem Fc(K:Kn)(n:Nat)(b:ag)(z:bt)(F:List ag)(v19:List af)(v25:Int)(v33 v34:aM)(v35:Bool)(v39 v40:Int)(hl:v19.length≤1000):∀(m i:Nat) (v48:List af),i≤v19.length→v19.length<m+i→v48.length=v19.length→Tk (mU K n b z (F,false) v19 v25 v33 v34 v35 v39 v40 m i v48):=by
 intro m
 induction m with
 | zero=>intro i v48 h1 h2;omega
 | succ m ih =>
  intro i v48 h1 h2 h3;show Tk (lN K n b z (F,false) v19 v25 v33 v34 v35 v39 v40 (mU K n b z (F,false) v19 v25 v33 v34 v35 v39 v40 m) i v48);unfold lN;by_cases hi:i<v19.length
  ·rw[if_pos (by simpa using hi),b8 (by omega) (by omega)];simp only[bb,Option.bind_some,List.length_set];rw[b8 (by omega) (by omega)];simp only[bb,Option.bind_some,Bool.false_eq_true,if_false];unfold pP nV;rw[if_neg (by simp),bX (by omega) (by omega)];exact ih (i+1) _ (by omega) (by omega) (by simp[h3])
  ·rw[if_neg (by simpa using hi)];exact⟨_,rfl,rfl⟩
theorem Fb(K:Kn)(n:Nat)(b:ag)(z:bt)(F:List ag)(v19:List af)(v25 v32:Int)(v33 v34:aM)(v35:Bool)(hl:v19.length≤1000)(hn:1001≤n):Tk (gj K n b z (F,false) v19 v25 v32 v33 v34 v35):=by
 have h8:∀x,Tk (nP K n b z (F,false) v19 v25 v33 v34 v35 x):=fun x=>Fc K n b z F v19 v25 v33 v34 v35 _ _ hl n 0 v19 (by omega) (by omega) rfl;unfold gj;rw[mR];simp only[Option.bind_some];unfold nY;exact eT (eT (h8 _) (h8 _)) (eT (h8 _) (h8 _))
theorem GC(h:iH b k)(hN:1100≤N)(z:bt)(env:ca)(he:env.Lines=(Fv.fn 38)):Tk (mh (KN (N+10)) (N+10) b z false false env):=by
 unfold mh;rw[show hI (KN (N+10)) (N+10) b=_ from ym (N:=N+1) h];simp only[Option.bind_some,Bool.false_eq_true,if_false];rw[he];obtain⟨l,y,e,hl⟩:=F4 (N:=N) h b.Style z.Content;rw[show(KN (N+10)).ou ((Fv.fn 38)) [k] b.Style z.Content=some (l,y) from e];simp only[Option.bind_some];have hcl:∃l',nW (KN (N+10)) (N+10) l=some l'∧l'.length≤1000:=by
  unfold nW both;rw[di (by simp;omega) (by omega)];cases l with
  | nil=>exact⟨[],by simp[bb],by simp⟩
  | cons x r=>exact⟨x::r,by simp[bb],by omega⟩
 obtain⟨l',e2,hl2⟩:=hcl;rw[e2];simp only[Option.bind_some];have j6:∀a b' c d e',Tk (gj (KN (N+10)) (N+10) b z ([k],false) l' a b' c d e'):=fun a b' c d e'=>Fb _ _ b z [k] l' a b' c d e' hl2 (by omega);have j5:∀v15 v16 v17 v18 v21 v25 v26 v27,Tk (jP (KN (N+10)) (N+10) b z false ([k],false) v15 v16 v17 v18 l' v21 v25 v26 v27):=fun v15 v16 v17 v18 v21 v25 v26 v27=>by
  unfold jP;refine eT (j6 _ _ _ _ _) (eT (eT (j6 _ _ _ _ _) (j6 _ _ _ _ _)) (eT (j6 _ _ _ _ _) (j6 _ _ _ _ _)))
 have j4:∀v15 v16 v17 v18 v21 v25 v26,Tk (jQ (KN (N+10)) (N+10) b z false false ([k],false) v15 v16 v17 v18 l' v21 v25 v26):=fun v15 v16 v17 v18 v21 v25 v26=>by
  unfold jQ;exact eT (eT (j5 _ _ _ _ _ _ _ _) (j5 _ _ _ _ _ _ _ _)) (j5 _ _ _ _ _ _ _ _)
 have j3:∀v15 v16 v17 v18 v20 v21 v23,Tk (mu (KN (N+10)) (N+10) b z false false ([k],false) v15 v16 v17 v18 l' v20 v21 v23):=fun v15 v16 v17 v18 v20 v21 v23=>by
  unfold mu;exact eT (j4 _ _ _ _ _ _ _) (j4 _ _ _ _ _ _ _)
 unfold nk;simp only[nG,Option.bind_some];exact eT (by obtain⟨v,hv⟩:∃v,jb (KN (N+10)) (N+10) ⟨max z.Margin.a0 0,min z.Margin.a0 0⟩ cy=some v:=⟨_,rfl⟩;rw[hv];exact j4 _ _ _ _ _ _ _) (eT (j3 _ _ _ _ _ _ _) (j3 _ _ _ _ _ _ _))
theorem Ku(K:Kn)(n:Nat)(f:af)(w:Int):∃g,ms K n f w=some g∧g.Kind=f.Kind:=by
 unfold ms m7;simp only[mR,Option.bind_some]
 repeat' split
 all_goals exact⟨_,rfl,rfl⟩
theorem xR(h:iH b k)(hN:1100≤N)(w:Int):∃r,gK (KN (N+10)) (N+10) b w ⟨(Fv.fn 36),(Fv.fn 37),(Fv.fn 38),(Fv.fn 39)⟩=some r∧r.Text=⟨#[]⟩∧(∃f,r.Box=[f]∧f.Kind=1)∧r.Forced=false:=by
 have hin:dT (l7 (KN (N+10)) (N+10) b ⟨(Fv.fn 36),(Fv.fn 37),(Fv.fn 38),(Fv.fn 39)⟩):=by
  unfold l7;refine uL (EY _ _ _) fun s=>?_;rw[mR];simp only[Option.bind_some];refine lX (gP _) ?_;rw[show hI (KN (N+10)) (N+10) b=_ from ym (N:=N+1) h];simp only[Option.bind_some,Bool.not_false,if_true];exact uL (K3 (N:=N) h b.Style) fun x=>gP _
 have hs:dT (oI (KN (N+10)) (N+10) b w ⟨(Fv.fn 36),(Fv.fn 37),(Fv.fn 38),(Fv.fn 39)⟩):=by
  unfold oI nF;rw[mR];simp only[Option.bind_some,KM];refine lX ?_ (gP _);refine uL hin fun x=>?_;simp only[Ct,z0,Aa,Option.bind_some];exact gP _
 obtain⟨c,hc⟩:=hs;unfold gK;rw[hc];simp only[Option.bind_some,z0];obtain⟨f,hf,hk⟩:=GC h hN (wi b.Style w c) ⟨(Fv.fn 36),(Fv.fn 37),(Fv.fn 38),(Fv.fn 39)⟩ rfl;unfold sE;rw[hf];simp only[Option.bind_some];obtain⟨g,hg,hgk⟩:=Ku (KN (N+10)) (N+10) f w;rw[hg];simp only[Option.bind_some,Aa,gb];exact⟨_,rfl,rfl,⟨g,rfl,by rw[hgk,hk]⟩,rfl⟩
end
end Go.Proofs.Ytnpmlepplfaijaa
namespace Go.Proofs.Ytnpmlepplfaijaa
set_option linter.all false
open Go.RowKit
structure R4 where
 w:Int
 s:Int
 g:Bool
 f:Bool
instance:Inhabited R4:=⟨⟨0,0,false,false⟩⟩
def vI(r:aq):R4:=⟨r.Width,r.Space,r.Glued,r.Forced⟩
theorem qH{L:List aq}{k:Nat}(h:k<L.length):(L.map vI)[k]'(by simpa using h)=vI (L.getD k default):=by
 rw[bT h];simp
def gr(l:List R4)(i:Nat):Nat:=i+((l.drop i).takeWhile R4.g).length
theorem ju(l:List R4)(i:Nat):i≤gr l i:=Nat.le_add_right _ _
theorem Cw{α:Type}(p:α→Bool):∀l:List α,(l.takeWhile p).length≤l.length
 | []=>Nat.le_refl _
 | x::r=>by
  rw[List.takeWhile_cons];split
  ·simp;exact Cw p r
  ·simp
theorem q6{l:List R4}{i:Nat}(h:i≤l.length):gr l i≤l.length:=by
 have:=Cw R4.g (l.drop i);simp at this;unfold gr;omega
theorem JA{l:List R4}{i:Nat}(h:i<l.length)(hg:l[i].g=true):gr l i=gr l (i+1):=by
 unfold gr;rw[List.drop_eq_getElem_cons h,List.takeWhile_cons,if_pos hg];simp;omega
theorem Fr{l:List R4}{i:Nat}(h:i<l.length)(hg:l[i].g=false):gr l i=i:=by
 unfold gr;rw[List.drop_eq_getElem_cons h,List.takeWhile_cons,if_neg (by simp[hg])];simp
theorem My{l:List R4}{i:Nat}(h:l.length≤i):gr l i=i:=by
 unfold gr;rw[List.drop_eq_nil_of_le h];simp
def wS(n last:Int):List R4→Int
 | []=>aa (n-last)
 | r::t=>wS (aa (n+aa (r.w+r.s))) (if r.f then last else r.s) t
def ke(l:List R4):Int:=wS 0 0 l
def kC(n:Int):List R4→Int
 | []=>n
 | r::t=>kC (aa (n+aa (r.w+r.s))) t
def d4(x:Int):List R4→Int
 | []=>x
 | r::t=>d4 (if r.f then x else r.s) t
theorem Bu:∀(l:List R4) (n last:Int),wS n last l=aa (kC n l-d4 last l)
 | [],n,last=>rfl
 | r::t,n,last=>by unfold wS kC d4;exact Bu t _ _
theorem tR:∀(l m:List R4) (x:Int),d4 x (l++m)=d4 (d4 x l) m
 | [],m,x=>rfl
 | r::t,m,x=>by simp only[List.cons_append,d4];exact tR t m _
theorem GR(n:Int):aa (aa n)=aa n:=by
 have : -9223372036854775808≤aa n∧aa n≤9223372036854775807:=by unfold aa;rw[IntKind.wrap_i64];omega
 exact bX this.1 this.2
section
variable{K:Kn}{n:Nat}{L:List aq}
theorem ED:∀(m:Nat) (i:Int),0≤i→i≤L.length→L.length<m+i.toNat→(L.length:Int)<9223372036854775807→mC K n L m i=some ((gr (L.map vI) i.toNat:Nat):Int):=by
 intro m
 induction m with
 | zero=>intro i h0 h1 h2;omega
 | succ m ih =>
  intro i h0 h1 h2 hL;show lQ K n L (mC K n L m) i=_;unfold lQ;by_cases hi:i<(L.length:Int)
  ·have hk:i.toNat<L.length:=by omega
   rw[if_pos (by simpa using hi),b8 h0 hi,bb];unfold md;have hv:=qH hk;cases hg:(L.getD i.toNat default).Glued with
   | true =>
    rw[if_pos rfl,bX (by omega) (by omega),ih (i+1) (by omega) (by omega) (by omega) hL];rw[JA (l:=L.map vI) (i:=i.toNat) (by simpa using hk) (by rw[hv];exact hg),show(i+1).toNat=i.toNat+1 by omega]
   | false =>
    rw[if_neg (by simp)];rw[Fr (l:=L.map vI) (i:=i.toNat) (by simpa using hk) (by rw[hv];exact hg)];congr 1;omega
  ·rw[if_neg (by simpa using hi)];unfold md;rw[if_neg (by simp),My (by simp;omega)];congr 1;omega
theorem BE{i:Int}(h0:0≤i)(h1:i<L.length)(hn:L.length<n)(hL:(L.length:Int)<9223372036854775807):kG K n L i=some ((gr (L.map vI) (i.toNat+1):Nat):Int):=by
 unfold kG;rw[bX (by omega) (by omega),ED n (i+1) (by omega) (by omega) (by omega) hL,show(i+1).toNat=i.toNat+1 by omega]
theorem Le:∀(m:Nat) (k:Nat),k≤L.length→k<m→(L.length:Int)<9223372036854775807 →
  ∃j:Int,ji K n L m ((k:Int)-1)=some j∧((j = -1∧∀x,d4 x ((L.map vI).take k)=x)∨(0≤j∧j<k∧∀x,d4 x ((L.map vI).take k)=(L.getD j.toNat default).Space)):=by
 intro m
 induction m with
 | zero=>intro k _ h;omega
 | succ m ih =>
  intro k hk hm hL;show ∃j,im K n L (ji K n L m) ((k:Int)-1)=some j∧_;unfold im;cases k with
  | zero=>rw[if_neg (by simp)];exact⟨-1,rfl,.inl ⟨rfl,fun x=>by simp[d4]⟩⟩
  | succ k =>
   have e:(((k+1:Nat):Int)-1)=(k:Int):=by omega
   rw[e,if_pos (by simp),b8 (by omega) (by omega),bb,Int.toNat_natCast];have hkl:k<L.length:=by omega
   have hv:=qH hkl;have ht:(L.map vI).take (k+1)=(L.map vI).take k++[vI (L.getD k default)]:=by
    rw[List.take_add_one,List.getElem?_eq_getElem (by simpa using hkl),hv];rfl
   cases hf:(L.getD k default).Forced with
   | false =>
    rw[show(!false)=true from rfl,if_pos rfl];refine⟨(k:Int),rfl,.inr ⟨by omega,by omega,fun x=>?_⟩⟩;rw[ht,tR,Int.toNat_natCast];simp only[d4,vI,hf,Bool.false_eq_true,if_false]
   | true =>
    rw[show(!true)=false from rfl,if_neg (by simp),bX (by omega) (by omega)];obtain⟨j,h1,h2⟩:=ih k (by omega) (by omega) hL;refine⟨j,h1,?_⟩;have hx:∀x,d4 x ((L.map vI).take (k+1))=d4 x ((L.map vI).take k):=fun x=>by
     rw[ht,tR];simp only[d4,vI,hf,if_true]
    obtain⟨a,b⟩|⟨a,b,c⟩:=h2
    ·exact .inl ⟨a,fun x=>(hx x).trans (b x)⟩
    ·exact .inr ⟨a,by omega,fun x=>(hx x).trans (c x)⟩
theorem L0(hn:L.length<n)(hL:(L.length:Int)<9223372036854775807):∃j:Int,jg K n L=some j∧((j = -1∧∀x,d4 x (L.map vI)=x)∨(0≤j∧j<L.length∧∀x,d4 x (L.map vI)=(L.getD j.toNat default).Space)):=by
 unfold jg;rw[bX (by omega) (by omega)];obtain⟨j,h1,h2⟩:=Le (K:=K) (n:=n) (L:=L) n L.length (Nat.le_refl _) hn hL;refine⟨j,h1,?_⟩;rw[List.take_of_length_le (by simp)]at h2;exact h2
theorem Lb(hn:L.length<n)(hL:(L.length:Int)<9223372036854775807):∀(m:Nat) (x i:Int),0≤i→i≤L.length→L.length<m+i.toNat→aa x=x →
  kC 0 (L.map vI)=kC x ((L.map vI).drop i.toNat)→lM K n L m x i=some (ke (L.map vI)):=by
 intro m
 induction m with
 | zero=>intro x i h0 h1 h2;omega
 | succ m ih =>
  intro x i h0 h1 h2 hx hs;show lI K n L (lM K n L m) x i=_;unfold lI;by_cases hi:i<(L.length:Int)
  ·have hk:i.toNat<L.length:=by omega
   rw[if_pos (by simpa using hi),b8 h0 hi,bb,bX (n:=i+1) (by omega) (by omega)];refine ih _ (i+1) (by omega) (by omega) (by omega) (GR _) ?_;rw[hs,List.drop_eq_getElem_cons (by simpa using hk),qH hk,show(i+1).toNat=i.toNat+1 by omega];rfl
  ·rw[if_neg (by simpa using hi)];rw[List.drop_eq_nil_of_le (by simp;omega)]at hs;simp only[kC]at hs;obtain⟨j,h3,h4⟩:=L0 (K:=K) (L:=L) hn hL;rw[h3];simp only[Option.bind_some,nz];unfold ke;rw[Bu,hs];obtain⟨rfl,h5⟩|⟨h5,h6,h7⟩:=h4
   ·rw[if_neg (by simp),h5];simp[hx]
   ·rw[if_pos (by simpa using h5),b8 h5 h6,bb,h7]
theorem C7(hn:L.length<n)(hL:(L.length:Int)<9223372036854775807):l5 K n L=some (ke (L.map vI)):=by
 unfold l5;exact Lb hn hL n 0 0 (by omega) (by omega) (by simpa using hn) (by unfold aa;rw[IntKind.wrap_i64];omega) rfl
end
def sl{α:Type}(l:List α)(a b:Nat):List α:=List.drop a (List.take b l)
theorem uK{α β:Type}(f:α→β)(l:List α)(a b:Nat):(sl l a b).map f=sl (l.map f) a b:=by unfold sl;rw[List.map_drop,List.map_take]
theorem rq{α:Type}(l:List α)(a b:Nat):(sl l a b).length≤l.length:=by unfold sl;simp;omega
def lE(l:List R4)(w:Int)(a:Nat):Nat→Nat→Nat
 | 0,e=>e
 | m+1,e=>if e<l.length∧(l.getD (e-1) default).f=false∧¬ ke (sl l a (gr l (e+1)))>w then lE l w a m (gr l (e+1)) else e
def bM(l:List R4)(w:Int):Nat→Nat→List Nat
 | 0,_=>[]
 | m+1,a=>if a<l.length then a::bM l w m (lE l w a l.length (gr l (a+1))) else []
theorem mY(l:List R4)(w:Int)(a:Nat):∀m e,e≤lE l w a m e
 | 0,e=>Nat.le_refl _
 | m+1,e=>by
  unfold lE;split
  ·have:=mY l w a m (gr l (e+1));have:=ju l (e+1);omega
  ·exact Nat.le_refl _
theorem wk(l:List R4)(w:Int)(a:Nat):∀m e,e≤l.length→lE l w a m e≤l.length
 | 0,e,h=>h
 | m+1,e,h=>by
  unfold lE;split
  ·rename_i h1;exact wk l w a m _ (q6 (by omega))
  ·exact h
theorem EU(l:List R4)(w:Int)(a:Nat):∀(m m' e:Nat),l.length≤m+e→l.length≤m'+e→lE l w a m e=lE l w a m' e:=by
 intro m
 induction m with
 | zero =>
  intro m' e h h';cases m' with
  | zero=>rfl
  | succ m'=>unfold lE;rw[if_neg (by omega)]
 | succ m ih =>
  intro m' e h h';cases m' with
  | zero=>unfold lE;rw[if_neg (by omega)]
  | succ m' =>
   unfold lE;split
   ·have:=ju l (e+1);exact ih m' _ (by omega) (by omega)
   ·rfl
end Go.Proofs.Ytnpmlepplfaijaa
namespace Go.Proofs.Ytnpmlepplfaijaa
set_option linter.all false
open Go.RowKit
theorem L6(l:List R4)(w:Int):∀(m m' a:Nat),l.length<m+a→l.length<m'+a→bM l w m a=bM l w m' a:=by
 intro m
 induction m with
 | zero =>
  intro m' a h h';cases m' with
  | zero=>rfl
  | succ m'=>unfold bM;rw[if_neg (by omega)]
 | succ m ih =>
  intro m' a h h';cases m' with
  | zero=>unfold bM;rw[if_neg (by omega)]
  | succ m' =>
   unfold bM;split
   ·have:=mY l w a l.length (gr l (a+1));have:=ju l (a+1);rw[ih m' _ (by omega) (by omega)]
   ·rfl
theorem tP(l:List R4)(w:Int):∀(m a:Nat),(bM l w m a).length≤l.length-a
 | 0,a=>by simp[bM]
 | m+1,a=>by
  unfold bM;split
  ·have:=tP l w m (lE l w a l.length (gr l (a+1)));have:=mY l w a l.length (gr l (a+1));have:=ju l (a+1);simp;omega
  ·simp
section
variable{K:Kn}{n:Nat}{L:List aq}{w:Int}
theorem Lo(hn:L.length<n)(hL:(L.length:Int)<9223372036854775807)(a:Nat)(out:List Int)(C:Int→List Int→Option (List Int)):∀(m e:Nat),1≤e→a≤e→e≤L.length→L.length<m+e →
  lZ K n L w a out C m e=C ((lE (L.map vI) w a m e:Nat):Int) (out++[(a:Int)]):=by
 intro m
 induction m with
 | zero=>intro e h0 h1 h2 h3;omega
 | succ m ih =>
  intro e h0 h1 h2 h3;show kx K n L w a out C (lZ K n L w a out C m) e=_;unfold kx lE;by_cases he:e<L.length
  ·rw[if_pos (by simpa using he),bX (by omega) (by omega),b8 (by omega) (by omega),bb];unfold kS;have e1:((e:Int)-1).toNat=e-1:=by omega
   have hv:=qH (L:=L) (k:=e-1) (by omega);have hf:((L.map vI).getD (e-1) default).f=(L.getD ((e:Int)-1).toNat default).Forced:=by
    rw[bT (by simp;omega),hv,e1];rfl
   cases hb:(L.getD ((e:Int)-1).toNat default).Forced with
   | true =>
    rw[show(!true)=false from rfl,if_neg (by simp),if_neg (by rw[hf,hb];simp)];rfl
   | false =>
    have hg:=q6 (l:=L.map vI) (i:=e+1) (by simp;omega);have hge:=ju (L.map vI) (e+1);simp only[List.length_map]at hg;rw[show(!false)=true from rfl,if_pos rfl,BE (by omega) (by omega) hn hL];simp only[Option.bind_some,Int.toNat_natCast];rw[show cH (a:Int) ((gr (L.map vI) (e+1):Nat):Int) L.length=true by simp only[cH,Bool.and_eq_true,decide_eq_true_eq];omega,bb];have hs:List.drop a (List.take (gr (L.map vI) (e+1)) L)=sl L a (gr (L.map vI) (e+1)):=rfl;rw[hs,C7 (by have:=rq L a (gr (L.map vI) (e+1));omega) (by have:=rq L a (gr (L.map vI) (e+1));omega),uK];simp only[Option.bind_some];by_cases hw:ke (sl (L.map vI) a (gr (L.map vI) (e+1)))>w
    ·rw[if_pos (by simpa using hw),if_neg (by simp[hw])];rfl
    ·rw[if_neg (by simpa using hw),if_pos ⟨by simpa using he,by rw[hf,hb],hw⟩];exact ih _ (by omega) (by omega) (by omega) (by omega)
  ·rw[if_neg (by simpa using he),if_neg (by simp;omega)];unfold kS;rw[if_neg (by simp)];rfl
theorem Kh(hn:L.length<n)(hL:(L.length:Int)≤1000000):∀(m a:Nat) (out:List Int),a≤L.length→out.length≤a→L.length<m+a→lU K n L w m a out=some (out++(bM (L.map vI) w m a).map fun (k:Nat)=>(k:Int)):=by
 intro m
 induction m with
 | zero=>intro a out h1 h2 h3;omega
 | succ m ih =>
  intro a out h1 h2 h3;show kT K n L w (lU K n L w m) a out=_;unfold kT bM;by_cases ha:a<L.length
  ·rw[if_pos (by simpa using ha),if_pos (by simpa using ha),di (by simp;omega) (by omega),bb,BE (by omega) (by omega) hn (by omega)];simp only[Option.bind_some,Int.toNat_natCast];have hg:=q6 (l:=L.map vI) (i:=a+1) (by simp;omega);have hge:=ju (L.map vI) (a+1);simp only[List.length_map]at hg;rw[Lo hn (by omega) a out _ n _ (by omega) (by omega) hg (by omega)];rw[EU (L.map vI) w a n (L.map vI).length _ (by simp;omega) (by simp)];have h5:=wk (L.map vI) w a (L.map vI).length (gr (L.map vI) (a+1)) (by simpa using hg);have h6:=mY (L.map vI) w a (L.map vI).length (gr (L.map vI) (a+1));simp only[List.length_map]at h5 h6⊢;rw[ih _ _ h5 (by simp;omega) (by omega)];simp[List.append_assoc]
  ·rw[if_neg (by simpa using ha),if_neg (by simpa using ha)];simp
theorem JU(hn:L.length<n)(hL:(L.length:Int)≤1000000):nt K n L w=some ((bM (L.map vI) w (L.length+1) 0).map fun (k:Nat)=>(k:Int)):=by
 unfold nt;rw[show(0:Int)=((0:Nat):Int) from rfl,Kh hn hL n 0 [] (by omega) (by simp) (by omega),L6 (L.map vI) w n (L.length+1) 0 (by simp;omega) (by simp)];simp
end
end Go.Proofs.Ytnpmlepplfaijaa
namespace Go.Proofs.Ytnpmlepplfaijaa
set_option linter.all false
open Go.RowKit
noncomputable section
def jl(o:Int):aj→List aj→Nat
 | _,[]=>0
 | a,b::r=>bif b.Kind == 1&&(b.Of == o&&!gm a b) then jl o b r+1 else 0
theorem zX(o:Int):∀(l:List aj) (a:aj),jl o a l≤l.length
 | [],_=>Nat.le_refl _
 | b::r,a=>by
  unfold jl;cases (b.Kind == 1&&(b.Of == o&&!gm a b)) with
  | true=>have:=zX o r b;simp;omega
  | false=>simp
def rd(p:Option aj)(e:aj):Bool:=match p with
 | none=>false
 | some q=>q.Kind != 2&&!gm q e
def runM(x:aq)(e:aj)(g:Bool):aq:={ x with Node:=e.Box.Node,Style:=e.Box.Style,Glued:=g }
def cM(pl:ag→aq):Nat→Option aj→List aj→List aq
 | 0,_,_=>[]
 | _+1,_,[]=>[]
 | m+1,p,e::r =>
  bif e.Kind == 2 then runM { co with Forced:=true } e (rd p e)::cM pl m (some e) r
  else bif e.Kind == 3 then runM (pl e.Box) e (rd p e)::cM pl m (some e) r
  else runM (dP (e::r.take (jl e.Of e r))) e (rd p e)::cM pl m (some (fp (e::r.take (jl e.Of e r)))) (r.drop (jl e.Of e r))
def fH(L:List aj)(i:Nat):Option aj:=if i=0 then none else some (L.getD (i-1) default)
theorem zO{α:Type}[Inhabited α]{L:List α}{i k:Nat}(h:i<L.length):sl L i (i+1+k)=L.getD i default::(L.drop (i+1)).take k:=by
 unfold sl;rw[List.drop_take,show i+1+k-i=k+1 by omega,List.drop_eq_getElem_cons h,List.take_succ_cons,bT h]
theorem lP{α:Type}{L:List α}{a b:Nat}{x:α}(h:x∈sl L a b):x∈L:=by
 unfold sl at h;exact List.mem_of_mem_take (List.mem_of_mem_drop h)
theorem xZ{α:Type}{L:List α}{a b:Nat}(h:b≤L.length):(sl L a b).length=b-a:=by unfold sl;simp;omega
theorem KX{L:List aj}{i k:Nat}(h:i+k<L.length):fp (L.getD i default::(L.drop (i+1)).take k)=L.getD (i+k) default:=by
 rw[←zO (by omega)];unfold fp;have hl:=xZ (L:=L) (a:=i) (b:=i+1+k) (by omega);rw[hl,bT (by rw[hl];omega),bT h];unfold sl;rw[List.getElem_drop,List.getElem_take];congr 1;omega
section
variable{K:Kn}{n:Nat}{v2:Fv}{L:List aj}{pl:ag→aq}
theorem Kc(ho:∀e∈L,fa e)(hl:L.length≤2000)(hn:8010≤n)(i:Nat)(acc:List aq)(g:Bool)(C:Int→List aq→Option (List aq))(hi:i<L.length):∀(m x:Nat),i<x→x≤L.length→L.length<m+x →
  jn K n v2 L (i:Int) acc g C m (x:Int)=fS K n v2 L i acc g C ((x+jl (L.getD i default).Of (L.getD (x-1) default) (L.drop x):Nat):Int) (dP (sl L i (x+jl (L.getD i default).Of (L.getD (x-1) default) (L.drop x)))):=by
 have fin:∀y:Nat,i<y→y≤L.length→∀(D:Int→Option (List aq)),gg K n v2 L (i:Int) acc g (y:Int) C D false=fS K n v2 L i acc g C (y:Int) (dP (sl L i y)):=fun y h1 h2 D=>by
  unfold gg;have hsl:List.drop i (List.take y L)=sl L i y:=rfl;have hlen:=xZ (L:=L) (a:=i) (b:=y) h2;rw[if_neg (by simp),show cH (i:Int) (y:Int) L.length=true by simp only[cH,Bool.and_eq_true,decide_eq_true_eq];omega,bb];simp only[Int.toNat_natCast];rw[hsl,tT (by intro e;rw[e]at hlen;simp at hlen;omega) (by omega) (fun e he=>ho e (lP he)) hn];rfl
 intro m
 induction m with
 | zero=>intro x h1 h2 h3;omega
 | succ m ih =>
  intro x h1 h2 h3;show mN K n v2 L i acc g C (jn K n v2 L i acc g C m) x=_;unfold mN;by_cases hx:x<L.length
  ·have hdr:L.drop x=L.getD x default::L.drop (x+1):=by rw[List.drop_eq_getElem_cons hx,bT hx]
   have hb:L.getD x default∈L:=by rw[bT hx];exact List.getElem_mem _
   have ha:L.getD (x-1) default∈L:=by rw[bT (by omega)];exact List.getElem_mem _
   have e1:aa ((x:Int)-1)=((x-1:Nat):Int):=by rw[bX (by omega) (by omega)];omega
   rw[if_pos (by simpa using hx),b8 (by omega) (by omega)];simp only[bb,Int.toNat_natCast,e1];rw[hdr];unfold jl;have nog:∀{b:Bool},b=false→gg K n v2 L (i:Int) acc g (x:Int) C (jn K n v2 L i acc g C m) false=fS K n v2 L i acc g C ((x+(bif b then jl (L.getD i default).Of (L.getD x default) (L.drop (x+1))+1 else 0):Nat):Int) (dP (sl L i (x+(bif b then jl (L.getD i default).Of (L.getD x default) (L.drop (x+1))+1 else 0)))):=fun {b} hb=>by
    subst hb;exact fin x h1 h2 _
   cases hk:((L.getD x default).Kind == 1) with
   | false=>rw[if_neg (by simp)];exact nog rfl
   | true =>
    rw[if_pos rfl];cases hof:((L.getD x default).Of == (L.getD i default).Of) with
    | false=>rw[if_neg (by simp)];exact nog rfl
    | true =>
     rw[if_pos rfl,b8 (by omega) (by omega),bb,zt K (by omega) (ho _ ha).ch (ho _ hb).ch];simp only[Option.bind_some];cases hbr:gm (L.getD (x-1) default) (L.getD x default) with
     | true=>exact nog rfl
     | false =>
      unfold gg;rw[show(!false)=true from rfl,if_pos rfl,bX (by omega) (by omega),show(x:Int)+1=((x+1:Nat):Int) by omega,ih (x+1) (by omega) (by omega) (by omega)];simp only[Nat.add_sub_cancel,Bool.and_self,cond_true];rw[show x+1+jl (L.getD i default).Of (L.getD x default) (L.drop (x+1))=x+(jl (L.getD i default).Of (L.getD x default) (L.drop (x+1))+1) by omega]
  ·rw[if_neg (by simpa using hx),List.drop_eq_nil_of_le (by omega)];unfold jl;exact fin x h1 h2 _
theorem uy(i:Nat)(acc:List aq)(g:Bool)(C:Int→List aq→Option (List aq))(hacc:acc.length≤1000000)(y:Int)(x:aq):fS K n v2 L (i:Int) acc g C y x=C y (acc++[runM x (L.getD i default) g]):=by
 unfold fS;simp only[Option.bind_some,Int.toNat_natCast];rw[di (by simp;omega) (by omega),bb];rfl
theorem JV(ho:∀e∈L,fa e)(hl:L.length≤2000)(hn:8010≤n)(hpl:∀e∈L,e.Kind=3→K.kD v2 e.Box=some (pl e.Box)):∀(m i:Nat) (acc:List aq),i≤L.length→L.length<m+i→acc.length≤i →
  kt K n v2 L m (i:Int) acc=some (acc++cM pl m (fH L i) (L.drop i)):=by
 intro m
 induction m with
 | zero=>intro i acc h1 h2;omega
 | succ m ih =>
  intro i acc h1 h2 h3;show kw K n v2 L (kt K n v2 L m) i acc=_;unfold kw;by_cases hi:i<L.length
  ·have hdr:L.drop i=L.getD i default::L.drop (i+1):=by rw[List.drop_eq_getElem_cons hi,bT hi]
   have hb:L.getD i default∈L:=by rw[bT hi];exact List.getElem_mem _
   rw[if_pos (by simpa using hi),b8 (by omega) (by omega)];simp only[bb,Int.toNat_natCast];rw[hdr];have hw:aa ((i:Int)+1)=((i+1:Nat):Int):=by rw[bX (by omega) (by omega)];omega
   have hprev:fH L (i+1)=some (L.getD i default):=by unfold fH;rw[if_neg (by omega),Nat.add_sub_cancel]
   have key:∀g,g=rd (fH L i) (L.getD i default)→jN K n v2 L (i:Int) acc (kt K n v2 L m) g=some (acc++cM pl (m+1) (fH L i) (L.getD i default::L.drop (i+1))):=by
    intro g hg;unfold jN cM;simp only[Option.bind_some,Int.toNat_natCast];rw[←hg];cases k2:((L.getD i default).Kind == 2) with
    | true =>
     rw[if_pos rfl,uy i acc g _ (by omega),hw,ih (i+1) _ (by omega) (by omega) (by simp;omega),hprev];simp[List.append_assoc]
    | false =>
     rw[if_neg (by simp)];cases k3:((L.getD i default).Kind == 3) with
     | true =>
      rw[if_pos rfl,hpl _ hb (by simpa using k3)];simp only[Option.bind_some];rw[uy i acc g _ (by omega),hw,ih (i+1) _ (by omega) (by omega) (by simp;omega),hprev];simp[List.append_assoc]
     | false =>
      rw[if_neg (by simp),hw,Kc ho hl hn i acc g _ hi n (i+1) (by omega) (by omega) (by omega),Nat.add_sub_cancel];simp only[cond_false];have hj:=zX (L.getD i default).Of (L.drop (i+1)) (L.getD i default);rw[List.length_drop]at hj;generalize jl (L.getD i default).Of (L.getD i default) (L.drop (i+1))=k at *;rw[uy i acc g _ (by omega),ih (i+1+k) _ (by omega) (by omega) (by simp;omega),zO hi,KX (by omega),List.drop_drop];have hp:fH L (i+1+k)=some (L.getD (i+k) default):=by unfold fH;rw[if_neg (by omega)];congr 2;omega
      rw[hp];simp[List.append_assoc]
   by_cases h0:i=0
   ·rw[if_neg (by simp;omega)];exact key false (by unfold fH;rw[if_pos h0];rfl)
   ·have ha:L.getD (i-1) default∈L:=by rw[bT (by omega)];exact List.getElem_mem _
    have e1:aa ((i:Int)-1)=((i-1:Nat):Int):=by rw[bX (by omega) (by omega)];omega
    have hp:fH L i=some (L.getD (i-1) default):=by unfold fH;rw[if_neg h0]
    rw[if_pos (by simp;omega),e1,b8 (by omega) (by omega)];simp only[bb,Int.toNat_natCast];by_cases hk:((L.getD (i-1) default).Kind != 2)=true
    ·rw[if_pos hk,zt K (by omega) (ho _ ha).ch (ho _ hb).ch];simp only[Option.bind_some];exact key _ (by rw[hp];show _=((L.getD (i-1) default).Kind != 2&&!gm (L.getD (i-1) default) (L.getD i default));rw[hk];rfl)
    ·rw[if_neg hk];have hk':((L.getD (i-1) default).Kind != 2)=false:=by simpa using hk
     exact key false (by rw[hp];show _=((L.getD (i-1) default).Kind != 2&&!gm (L.getD (i-1) default) (L.getD i default));rw[hk'];rfl)
  ·rw[if_neg (by simpa using hi),List.drop_eq_nil_of_le (by omega)];simp[cM]
theorem Dz(pl:ag→aq):∀(m m':Nat) (p:Option aj) (l:List aj),l.length<m→l.length<m'→cM pl m p l=cM pl m' p l:=by
 intro m
 induction m with
 | zero=>intro m' p l h;omega
 | succ m ih =>
  intro m' p l h h';cases m' with
  | zero=>omega
  | succ m' =>
   cases l with
   | nil=>rfl
   | cons e r =>
    simp only[List.length_cons]at h h';unfold cM;rw[ih m' (some e) r (by omega) (by omega),ih m' _ (r.drop (jl e.Of e r)) (by simp;omega) (by simp;omega)]
theorem Ej(pl:ag→aq):∀(m:Nat) (p:Option aj) (l:List aj),(cM pl m p l).length≤l.length:=by
 intro m
 induction m with
 | zero=>intro p l;simp[cM]
 | succ m ih =>
  intro p l;cases l with
  | nil=>simp[cM]
  | cons e r =>
   unfold cM;have h1:=ih (some e) r;have h2:=ih (some (fp (e::r.take (jl e.Of e r)))) (r.drop (jl e.Of e r));rw[List.length_drop]at h2;cases (e.Kind == 2) with
   | true=>simp;omega
   | false =>
    cases (e.Kind == 3) with
    | true=>simp;omega
    | false=>simp;omega
def gL(pl:ag→aq)(L:List aj):List aq:=cM pl (L.length+1) none L
end
theorem IT{N d:Nat}{B:List ag}{v2:Fv}{pl:ag→aq}(hD:Dp d B)(hc:bn d B≤2000)(hN:d+9000≤N)(hpl:∀e∈cO d B,e.Kind=3→(KN N).kD v2 e.Box=some (pl e.Box)):
  mB (KN N) N B v2=some (gL pl (cO d B)):=by
 have hlen:=qe d B;unfold mB;rw[HH hD (by omega) (by omega)];simp only[Option.bind_some];rw[show(0:Int)=((0:Nat):Int) from rfl,JV (pl:=pl) (vB d B) (by omega) (by omega) hpl N 0 [] (by omega) (by omega) (by simp),List.drop_zero,List.nil_append];unfold gL;rw[Dz pl N ((cO d B).length+1) _ _ (by omega) (by omega)];rfl
end
end Go.Proofs.Ytnpmlepplfaijaa
namespace Go.Proofs.Ytnpmlepplfaijaa
set_option linter.all false
open Go.RowKit
noncomputable section
def lp:ca:=⟨(Fv.fn 36),(Fv.fn 37),(Fv.fn 38),(Fv.fn 39)⟩
def eX(M:Nat)(w:Int)(b:ag):aq:=(gK (KN (M+10)) (M+10) b w lp).getD default
theorem qt{l:List bB}(ht:∀s∈l,s.Text.size≤60){d:Nat}{bx:List ag}(hb:Bx l d bx):∀e∈cO (d+1) bx,e.Kind=3→∃k,iH e.Box k:=by
 intro e he h3;have h5:=xO (d+1) bx (0,[]) (fun x hx=>by cases hx) e he h3;have hQ:=sV (l:=l) d bx (0,[]) (fun b=>b.Kind=5→∃k,iH b k) hb (fun b R hk h5=>by
  obtain⟨s,hs,_,q|q|q|q⟩:=hk
  ·rw[q.1]at h5;cases h5
  ·rw[q.1]at h5;cases h5
  ·obtain⟨k,k1,k2,_,_,k5⟩:=q.2.2.2;exact⟨k,k1,k2,by rw[k5];exact ht s hs⟩
  ·rw[q.1]at h5;cases h5) (fun x hx=>by cases hx) e he
 exact hQ h5
theorem Kq{l:List bB}(ht:∀s∈l,s.Text.size≤60){d:Nat}{bx:List ag}(hb:Bx l d bx)(hc:bn (d+1) bx≤2000){M:Nat}(hM:d+9100≤M)(w:Int):nE (KN (M+11)) (M+11) bx w lp=some (gL (eX M w) (cO (d+1) bx)):=by
 unfold nE;rw[show mB (KN (M+11)) (M+11) bx _=_ from IT (pl:=eX M w) (vG ht d bx hb) hc (by omega) (fun e he h3=>by
  obtain⟨k,hk⟩:=qt ht hb e he h3;obtain⟨r,hr,_⟩:=xR hk (N:=M) (by omega) w;show gK (KN (M+10)) (M+10) e.Box w lp=_;unfold eX;rw[show gK (KN (M+10)) (M+10) e.Box w lp=_ from hr];rfl)]
 rfl
theorem tm{b k:ag}(hk:iH b k){M:Nat}(hM:1100≤M)(w:Int):(eX M w b).Text=⟨#[]⟩∧(∃f,(eX M w b).Box=[f]∧f.Kind=1)∧(eX M w b).Forced=false:=by
 obtain⟨r,hr,h1,h2⟩:=xR hk (N:=M) hM w;unfold eX;rw[show gK (KN (M+10)) (M+10) b w lp=_ from hr];exact⟨h1,h2⟩
end
end Go.Proofs.Ytnpmlepplfaijaa
namespace Go.Proofs.Ytnpmlepplfaijaa
set_option linter.all false
open Go.RowKit
noncomputable section
theorem nS(b:ByteArray):b.toList=b.data.toList:=ByteArray.toList_eq b
theorem xx:(⟨#[]⟩:ByteArray).toList=[]:=by rw[nS]
def d7(b:ByteArray):Bool:=b.data.toList.getLast? == some 32
theorem Ll(K:Kn)(n:Nat){b:ByteArray}(hb:b.size≤1000000):n4 K n b ⟨#[32]⟩=some (d7 b):=by
 have h1:(⟨#[32]⟩:ByteArray).size=1:=rfl;unfold n4 q8 nj d7;rw[h1];by_cases h:1≤b.size
 ·have e1:aa ((b.size:Int)-((1:Nat):Int))=((b.size-1:Nat):Int):=by rw[bX (by omega) (by omega)];omega
  rw[if_pos (by simp;omega),e1,show cH ((b.size-1:Nat):Int) (b.size:Int) b.size=true by simp only[cH,Bool.and_eq_true,decide_eq_true_eq];omega,bb];simp only[Option.bind_some,Int.toNat_natCast];rw[nS,nS,ByteArray.data_extract,Array.toList_extract];have hl:b.data.toList.length=b.size:=rfl;generalize b.data.toList=l at hl;rw[←hl]at h⊢;have hne:l≠[]:=by intro e;rw[e]at h;simp at h
  have:(l.take l.length).drop (l.length-1)=[l.getLast hne]:=by
   rw[List.take_length]
   conv=>lhs;rw[←List.dropLast_concat_getLast hne]
   rw[List.length_append,List.length_dropLast];simp
  rw[List.extract_eq_drop_take,List.getLast?_eq_some_getLast hne];have e2:List.take (l.length-(l.length-1)) (List.drop (l.length-1) l)=[l.getLast hne]:=by
   rw[←this,List.take_length,List.take_of_length_le (by simp)]
  rw[e2];show some ([l.getLast hne] == [32])=some (some (l.getLast hne) == some 32);congr 1;cases hq:(l.getLast hne == 32)<;>simp_all
 ·have hs:b.size=0:=by omega
  have hl:b.data.toList=[]:=List.eq_nil_of_length_eq_zero (by rw[fl];exact hs);rw[if_neg (by simp;omega),hl];rfl
def lx(b:ByteArray):ByteArray:=b.extract 0 (b.size-1)
def stripR(r:aq):aq:=bif d7 r.Text&&r.Style.WhiteSpace != 2 then { r with Text:=lx r.Text,Space:=0 } else r
def oc(above x:Int)(b:af):af:={ b with X:=aa (b.X+x),Y:=aa (b.Y+(aa ((aa (above-b.H))-aa (b.After.Pos+b.After.Neg)))) }
def un(s:Int):Int:=min (max s 0) 1048576
def Fw(s:Int):Int:=aa (un s+(aa (Int.tdiv (aa (un s+3)) 4)))
def nC(above x:Int)(r:aq):List af:=bif r.Text.data.toList.isEmpty then [] else [⟨3,r.Node,x,aa (above-un r.Style.FontSize),aa (r.Width+r.Space),Fw r.Style.FontSize,0,r.Text,r.Style,cy,cy,false,[]⟩]
def gi(above x:Int)(r:aq):List af:=nC above x r++r.Box.map (oc above x)
def fv(above last:Int):Int→Int→List aq→List af
 | _,_,[]=>[]
 | i,x,r::t =>
  let r':=bif i == last then stripR r else r
  gi above x r'++fv above last (i+1) (aa (x+aa (r'.Width+r'.Space))) t
section
variable{K:Kn}{n:Nat}{L:List aq}{s:aB}{w above below last:Int}
theorem Ks(r:aq)(i:Int)(C:Int→Int→List af→Option af)(x:Int)(hb:r.Box.length≤1000):∀(m j:Nat) (acc:List af),j≤r.Box.length→r.Box.length<m+j→acc.length≤1000000+j →
  me K n L s w above below last x i r C m (j:Int) acc=C (aa (x+aa (r.Width+r.Space))) (aa (i+1)) (acc++(r.Box.drop j).map (oc above x)):=by
 intro m
 induction m with
 | zero=>intro j acc h1 h2;omega
 | succ m ih =>
  intro j acc h1 h2 h3;show l9 K n L s w above below last x i r C (me K n L s w above below last x i r C m) j acc=_;unfold l9;by_cases hj:j<r.Box.length
  ·have hd:r.Box.drop j=r.Box.getD j default::r.Box.drop (j+1):=by rw[List.drop_eq_getElem_cons hj,bT hj]
   rw[if_pos (by simpa using hj),b8 (by omega) (by omega)];simp only[bb,Option.bind_some,Int.toNat_natCast,gb];rw[di (by simp;omega) (by omega),bb,bX (n:=(j:Int)+1) (by omega) (by omega),show(j:Int)+1=((j+1:Nat):Int) by omega,ih (j+1) _ (by omega) (by omega) (by simp;omega),hd,List.map_cons];rw[List.append_assoc];rfl
  ·rw[if_neg (by simpa using hj),List.drop_eq_nil_of_le (by omega)];simp
theorem Jm(r:aq)(i:Int)(C:Int→Int→List af→Option af)(x:Int)(hb:r.Box.length≤1000)(hn:1001≤n)(acc:List af)(ha:acc.length≤900000):
  iY K n L s w above below last x i acc C r=C (aa (x+aa (r.Width+r.Space))) (aa (i+1)) (acc++gi above x r):=by
 unfold iY;rw[nS,xx];simp only[Option.bind_some];have h5:∀acc':List af,acc'.length≤1000000→kV K n L s w above below last x i r C acc'=C (aa (x+aa (r.Width+r.Space))) (aa (i+1)) (acc'++r.Box.map (oc above x)):=fun acc' h=>by
  unfold kV;rw[show(0:Int)=((0:Nat):Int) from rfl,Ks r i C x hb n 0 acc' (by omega) (by omega) (by omega),List.drop_zero]
 unfold gi nC;cases he:r.Text.data.toList with
 | nil =>
  rw[if_neg (by simp),h5 acc (by omega)];simp
 | cons b t =>
  rw[if_pos (by simp)];simp only[nI,pr,jI,Option.bind_some];rw[di (by simp;omega) (by omega),bb,h5 _ (by simp;omega)];simp only[List.isEmpty_cons,cond_false,List.append_assoc];rfl
theorem Hl(hb:∀r∈L,r.Box.length≤1∧r.Text.size≤100000)(hl:L.length≤2000)(hn:2002≤n):∀(m i:Nat) (x:Int) (acc:List af),i≤L.length→L.length<m+i→acc.length≤2*i →
  gX K n L s w above below last m x (i:Int) acc=some { bj with Kind:=2,W:=w,H:=aa (above+below),ay:=above,Style:=s,Kids:=acc++fv above last i x (L.drop i) }:=by
 intro m
 induction m with
 | zero=>intro i x acc h1 h2;omega
 | succ m ih =>
  intro i x acc h1 h2 h3;show mg K n L s w above below last (gX K n L s w above below last m) x i acc=_;unfold mg;by_cases hi:i<L.length
  ·have hd:L.drop i=L.getD i default::L.drop (i+1):=by rw[List.drop_eq_getElem_cons hi,bT hi]
   have hm:L.getD i default∈L:=by rw[bT hi];exact List.getElem_mem _
   obtain⟨b1,b2⟩:=hb _ hm;have e1:aa ((i:Int)+1)=((i+1:Nat):Int):=by rw[bX (by omega) (by omega)];omega
   rw[if_pos (by simpa using hi),b8 (by omega) (by omega),bb];simp only[Int.toNat_natCast];have rl:∀(y:Int) (r:aq),r.Box.length≤1→(gi above y r).length≤2:=fun y r h=>by
    unfold gi nC;cases r.Text.data.toList.isEmpty<;>simp<;>omega
   have step:∀r':aq,r'.Box=(L.getD i default).Box→iY K n L s w above below last x i acc (gX K n L s w above below last m) r'=some { bj with Kind:=2,W:=w,H:=aa (above+below),ay:=above,Style:=s,Kids:=acc++(gi above x r'++fv above last ((i:Int)+1) (aa (x+aa (r'.Width+r'.Space))) (L.drop (i+1))) }:=fun r' hr=>by
    have hrl:=rl x r' (by rw[hr];exact b1);rw[Jm r' i _ x (by rw[hr];omega) (by omega) acc (by omega),e1,ih (i+1) _ _ (by omega) (by omega) (by simp;omega)];rw[List.append_assoc];rfl
   rw[hd];unfold fv;by_cases hlast:(i:Int)=last
   ·rw[if_pos (by simpa using hlast),Ll K n (by omega)];simp only[Option.bind_some];rw[show((i:Int) == last)=true by simpa using hlast];simp only[cond_true];have j3:∀c:Bool,il K n L s w above below last x i acc (gX K n L s w above below last m) (d7 (L.getD i default).Text&&c)=iY K n L s w above below last x i acc (gX K n L s w above below last m) (bif d7 (L.getD i default).Text&&c then { L.getD i default with Text:=lx (L.getD i default).Text,Space:=0 } else L.getD i default):=fun c=>by
     unfold il;simp only[Int.toNat_natCast];cases hs:d7 (L.getD i default).Text with
     | false=>rw[if_neg (by simp)];rfl
     | true =>
      cases c with
      | false=>rw[if_neg (by simp)];rfl
      | true =>
       have hsz:1≤(L.getD i default).Text.size:=by
        unfold d7 at hs;rcases Nat.eq_zero_or_pos (L.getD i default).Text.size with h0|h0
        ·have:(L.getD i default).Text.data.toList=[]:=List.eq_nil_of_length_eq_zero (by rw[fl];exact h0);rw[this]at hs;simp at hs
        ·exact h0
       have e2:aa (((L.getD i default).Text.size:Int)-1)=(((L.getD i default).Text.size-1:Nat):Int):=by rw[bX (by omega) (by omega)];omega
       rw[if_pos (show(true&&true)=true from rfl),e2,show cH (0:Int) (((L.getD i default).Text.size-1:Nat):Int) (L.getD i default).Text.size=true by simp only[cH,Bool.and_eq_true,decide_eq_true_eq];omega,bb];simp only[Int.toNat_natCast,Int.toNat_zero];rfl
    have hst:stripR (L.getD i default)=(bif d7 (L.getD i default).Text&&(L.getD i default).Style.WhiteSpace != 2 then { L.getD i default with Text:=lx (L.getD i default).Text,Space:=0 } else L.getD i default):=rfl;rw[hst];have hbox:∀c:Bool,(bif c then { L.getD i default with Text:=lx (L.getD i default).Text,Space:=0 } else L.getD i default:aq).Box=(L.getD i default).Box:=fun c=>by cases c<;>rfl
    cases hs:d7 (L.getD i default).Text with
    | true =>
     rw[if_pos rfl];have:=j3 ((L.getD i default).Style.WhiteSpace != 2);rw[hs,Bool.true_and]at this;rw[this,Bool.true_and];exact step _ (hbox _)
    | false =>
     rw[if_neg (by simp)];have:=j3 false;rw[hs,Bool.false_and]at this;rw[this,Bool.false_and];exact step _ rfl
   ·rw[if_neg (by simpa using hlast)];have e3:((i:Int) == last)=false:=by simpa using hlast
    rw[e3];unfold il;rw[if_neg (by simp)];simp only[Int.toNat_natCast,cond_false];exact step _ rfl
  ·rw[if_neg (by simpa using hi),List.drop_eq_nil_of_le (by omega)];simp[fv]
end
def fj:Int×Int→List aq→Int×Int
 | p,[]=>p
 | p,r::t=>fj (bif r.Forced then p else (max p.1 r.Above,max p.2 r.Below)) t
theorem Iq(p:Int×Int)(r:aq)(t:List aq):fj p (r::t)=fj (bif r.Forced then p else (max p.1 r.Above,max p.2 r.Below)) t:=rfl
def gU(i acc:Int):List aq→Int
 | []=>acc
 | r::t=>gU (i+1) (bif r.Forced then acc else i) t
def rC(L:List aq):Int:=gU 0 (-1) L
def qv(s:aB)(w u:Int):Int:=(gn (KN 0) 0 s w u).getD 0
def iU(s:aB)(w:Int)(L:List aq):af :=
 { bj with Kind:=2,W:=w,H:=aa ((fj (fA s) L).1+(fj (fA s) L).2),ay:=(fj (fA s) L).1,Style:=s,Kids:=[]++fv (fj (fA s) L).1 (rC L) 0 (qv s w (ke (L.map vI))) L }
theorem Ax:∀(a:List aq) (r:aq) (i acc:Int),gU i acc (a++[r])=bif r.Forced then gU i acc a else i+a.length
 | [],r,i,acc=>by simp[gU]
 | x::t,r,i,acc=>by
  simp only[List.cons_append,gU];rw[Ax t r (i+1)];cases r.Forced
  ·simp;omega
  ·rfl
theorem Fg(K:Kn)(n:Nat)(s:aB)(w u:Int):gn K n s w u=some (qv s w u):=by
 have e:gn (KN 0) 0 s w u=gn K n s w u:=rfl;have:dT (gn K n s w u):=by
  unfold gn
  repeat first|exact gP _|apply lX
 obtain⟨v,hv⟩:=this;unfold qv;rw[e,hv];rfl
section
variable{K:Kn}{n:Nat}{L:List aq}{s:aB}{w:Int}
theorem F8:∀(m k:Nat),k≤L.length→k<m→(L.length:Int)<9223372036854775807→ji K n L m ((k:Int)-1)=some (gU 0 (-1) (L.take k)):=by
 intro m
 induction m with
 | zero=>intro k _ h;omega
 | succ m ih =>
  intro k hk hm hL;show im K n L (ji K n L m) ((k:Int)-1)=_;unfold im;cases k with
  | zero=>rw[if_neg (by simp)];rfl
  | succ k =>
   have e:(((k+1:Nat):Int)-1)=(k:Int):=by omega
   have hkl:k<L.length:=by omega
   have ht:L.take (k+1)=L.take k++[L.getD k default]:=by
    rw[List.take_add_one,List.getElem?_eq_getElem hkl,bT hkl];rfl
   rw[e,if_pos (by simp),b8 (by omega) (by omega),bb,Int.toNat_natCast,ht,Ax];have hl:(L.take k).length=k:=by simp;omega
   cases hf:(L.getD k default).Forced with
   | false=>rw[show(!false)=true from rfl,if_pos rfl,hl];simp
   | true=>rw[show(!true)=false from rfl,if_neg (by simp),bX (by omega) (by omega),ih k (by omega) (by omega) hL];rfl
theorem DA(hn:L.length<n)(hL:(L.length:Int)<9223372036854775807):jg K n L=some (rC L):=by
 unfold jg;rw[bX (by omega) (by omega),F8 n L.length (Nat.le_refl _) hn hL,List.take_length];rfl
theorem G3(hb:∀r∈L,r.Box.length≤1∧r.Text.size≤100000)(hl:L.length≤2000)(hn:2002≤n):∀(m i:Nat) (p:Int×Int),i≤L.length→L.length<m+i→fj (fA s) L=fj p (L.drop i)→mQ K n L s w m p.1 p.2 (i:Int)=some (iU s w L):=by
 intro m
 induction m with
 | zero=>intro i p h1 h2;omega
 | succ m ih =>
  intro i p h1 h2 h3;show ld K n L s w (mQ K n L s w m) p.1 p.2 i=_;unfold ld;by_cases hi:i<L.length
  ·have hd:L.drop i=L.getD i default::L.drop (i+1):=by rw[List.drop_eq_getElem_cons hi,bT hi]
   rw[hd,Iq]at h3;have e1:aa ((i:Int)+1)=((i+1:Nat):Int):=by rw[bX (by omega) (by omega)];omega
   rw[if_pos (by simpa using hi),b8 (by omega) (by omega),bb];simp only[Int.toNat_natCast];unfold o8;rw[e1];cases hf:(L.getD i default).Forced with
   | false =>
    rw[hf]at h3;rw[show(!false)=true from rfl,if_pos rfl];exact ih (i+1) (_,_) (by omega) (by omega) h3
   | true =>
    rw[hf]at h3;rw[show(!true)=false from rfl,if_neg (by simp)];exact ih (i+1) p (by omega) (by omega) h3
  ·rw[List.drop_eq_nil_of_le (by omega)]at h3;have h3:fj (fA s) L=p:=h3;rw[if_neg (by simpa using hi),C7 (by omega) (by omega)];simp only[Option.bind_some,Fg];rw[DA (by omega) (by omega)];simp only[Option.bind_some];rw[show(0:Int)=((0:Nat):Int) from rfl,Hl hb hl hn n 0 _ [] (by omega) (by omega) (by simp),List.drop_zero];unfold iU;rw[h3];rfl
theorem IG(hb:∀r∈L,r.Box.length≤1∧r.Text.size≤100000)(hl:L.length≤2000)(hn:2002≤n):nT K n L s w=some (iU s w L):=by
 unfold nT;rw[uX];simp only[Option.bind_some];exact G3 hb hl hn n 0 (fA s) (by omega) (by omega) rfl
end
def ec(s:aB)(w:Int)(X:List aq):Int→List Nat→List af×Int
 | h,a::b::r =>
  let f:=iU s w (sl X a b)
  let q:=ec s w X (aa (h+f.H)) (b::r)
  ({ f with Y:=h }::q.1,q.2)
 | h,_=>([],h)
theorem Bh(s:aB)(w:Int)(X:List aq):∀(S:List Nat) (h:Int),(ec s w X h S).1.length≤S.length
 | [],h=>by simp[ec]
 | [a],h=>by simp[ec]
 | a::b::r,h=>by
  have:=Bh s w X (b::r) (aa (h+(iU s w (sl X a b)).H));unfold ec;simp at this⊢;omega
section
variable{K:Kn}{n:Nat}{X:List aq}{s:aB}{w:Int}
def gQ(N:Nat):List Nat→Prop
 | a::b::r=>a≤b∧b≤N∧gQ N (b::r)
 | _=>True
theorem CR{N:Nat}:∀{S:List Nat},gQ N S→∀i,i+1<S.length→S.getD i 0≤S.getD (i+1) 0∧S.getD (i+1) 0≤N
 | [],_,i,h=>by simp at h
 | [a],_,i,h=>by simp at h
 | a::b::r,h,0,_=>⟨h.1,h.2.1⟩
 | a::b::r,h,i+1,hi=>by
  have:=CR h.2.2 i (by simpa using hi);simpa using this
theorem DC(hb:∀r∈X,r.Box.length≤1∧r.Text.size≤100000)(hl:X.length≤2000)(hn:2010≤n)(v:Int)(hv:min (max v 0) 1048576=w)(S0 S:List Nat)(hS:S=S0++[X.length])(hA:gQ X.length S)(hSl:S.length≤2001):∀(m i:Nat) (h:Int) (acc:List af),i<S.length→S.length<m+i→acc.length≤i →
  ml K n s v X (S0.map fun (k:Nat)=>(k:Int)) m h ((S.length-1:Nat):Int) (i:Int) acc=some (acc++(ec s w X h (S.drop i)).1,(ec s w X h (S.drop i)).2):=by
 have hSm:(S0.map fun (k:Nat)=>(k:Int))++[(X.length:Int)]=S.map fun (k:Nat)=>(k:Int):=by rw[hS];simp
 have hget:∀j,j<S.length→(S.map fun (k:Nat)=>(k:Int)).getD j default=((S.getD j 0:Nat):Int):=fun j hj=>by
  rw[bT (by simpa using hj),List.getElem_map];congr 1;simp[List.getD,hj]
 intro m
 induction m with
 | zero=>intro i h acc h1 h2;omega
 | succ m ih =>
  intro i h acc h1 h2 h3;show lu K n s v X (S0.map fun (k:Nat)=>(k:Int)) (ml K n s v X (S0.map fun (k:Nat)=>(k:Int)) m) h ((S.length-1:Nat):Int) i acc=_;unfold lu;have e1:aa ((i:Int)+1)=((i+1:Nat):Int):=by rw[bX (by omega) (by omega)];omega
  rw[hSm,e1];have hd:S.drop i=S.getD i 0::S.drop (i+1):=by rw[List.drop_eq_getElem_cons h1];congr 1;simp[List.getD,h1]
  by_cases hi:i+1<S.length
  ·have g1:=hget i h1;have g2:=hget (i+1) hi;obtain⟨a1,a2⟩:=CR hA i hi;have hd2:S.drop (i+1)=S.getD (i+1) 0::S.drop (i+2):=by rw[List.drop_eq_getElem_cons hi];congr 1;simp[List.getD,hi]
   rw[if_pos (by simp;omega),b8 (by omega) (by simp;omega),bb,b8 (by omega) (by simp;omega),bb];simp only[Int.toNat_natCast,g1,g2];rw[show cH ((S.getD i 0:Nat):Int) ((S.getD (i+1) 0:Nat):Int) X.length=true by simp only[cH,Bool.and_eq_true,decide_eq_true_eq];omega,bb];have hsl:List.drop (S.getD i 0) (List.take (S.getD (i+1) 0) X)=sl X (S.getD i 0) (S.getD (i+1) 0):=rfl;have h5:=rq X (S.getD i 0) (S.getD (i+1) 0);rw[hsl,hv,IG (fun r hr=>hb r (by unfold sl at hr;exact List.mem_of_mem_take (List.mem_of_mem_drop hr))) (by omega) (by omega)];simp only[Option.bind_some];rw[di (by simp;omega) (by omega),bb,ih (i+1) _ _ (by omega) (by omega) (by simp;omega),hd,hd2]
   conv=>rhs;unfold ec
   rw[←hd2];simp[List.append_assoc]
  ·rw[if_neg (by simp;omega),hd,List.drop_eq_nil_of_le (by omega)];simp[ec]
end
end
end Go.Proofs.Ytnpmlepplfaijaa
namespace Go.Proofs.Ytnpmlepplfaijaa
set_option linter.all false
open Go.RowKit
noncomputable section
theorem zE(l:List R4)(w:Int)(m a:Nat)(ha:a≤l.length)(hm:l.length<m+a):∃r,bM l w m a++[l.length]=a::r:=by
 cases m with
 | zero=>omega
 | succ m =>
  unfold bM;by_cases h:a<l.length
  ·rw[if_pos h];exact⟨_,rfl⟩
  ·rw[if_neg h];exact⟨[],by rw[List.nil_append,show a=l.length by omega]⟩
theorem Dk(l:List R4)(w:Int):∀(m a:Nat),a≤l.length→l.length<m+a→gQ l.length (bM l w m a++[l.length]):=by
 intro m
 induction m with
 | zero=>intro a h1 h2;omega
 | succ m ih =>
  intro a h1 h2;unfold bM;by_cases h:a<l.length
  ·rw[if_pos h];have q1:=q6 (l:=l) (i:=a+1) (by omega);have q2:=ju l (a+1);have q3:=wk l w a l.length _ q1;have q4:=mY l w a l.length (gr l (a+1));have h3:=ih (lE l w a l.length (gr l (a+1))) q3 (by omega);obtain⟨r,hr⟩:=zE l w m (lE l w a l.length (gr l (a+1))) q3 (by omega);rw[List.cons_append];rw[hr]at h3⊢;exact⟨by omega,q3,h3⟩
  ·rw[if_neg h];trivial
theorem xp{P:aq→Prop}{pl:ag→aq}(h1:∀e g,P (runM { co with Forced:=true } e g)):∀(m:Nat) (p:Option aj) (l:List aj),(∀e∈l,e.Kind=3→∀g,P (runM (pl e.Box) e g))→(∀e g (x:List aj),x≠[]→x.length≤l.length→(∀y∈x,y∈l)→P (runM (dP x) e g))→∀r∈cM pl m p l,P r:=by
 intro m
 induction m with
 | zero=>intro p l _ _ r hr;cases hr
 | succ m ih =>
  intro p l h2 h3 r hr;cases l with
  | nil=>cases hr
  | cons e t =>
   unfold cM at hr;cases k2:(e.Kind == 2) with
   | true =>
    rw[k2]at hr;rcases List.mem_cons.1 hr with rfl|hr
    ·exact h1 _ _
    ·exact ih (some e) t (fun e he=>h2 e (by simp[he])) (fun e g x q1 q2 q3=>h3 e g x q1 (by simp;omega) (fun y hy=>by simp[q3 y hy])) r hr
   | false =>
    cases k3:(e.Kind == 3) with
    | true =>
     rw[k2,k3]at hr;rcases List.mem_cons.1 hr with rfl|hr
     ·exact h2 e (by simp) (by simpa using k3) _
     ·exact ih (some e) t (fun e he=>h2 e (by simp[he])) (fun e g x q1 q2 q3=>h3 e g x q1 (by simp;omega) (fun y hy=>by simp[q3 y hy])) r hr
    | false =>
     rw[k2,k3]at hr;rcases List.mem_cons.1 hr with rfl|hr
     ·refine h3 _ _ _ (by simp) (by simp;omega) (fun y hy=>?_);rcases List.mem_cons.1 hy with rfl|hy
      ·simp
      ·exact List.mem_cons_of_mem _ (List.mem_of_mem_take hy)
     ·refine ih _ _ (fun e he=>h2 e (List.mem_cons_of_mem _ (List.mem_of_mem_drop he))) (fun e g x q1 q2 q3=>h3 e g x q1 (by simp at q2⊢;omega) (fun y hy=>List.mem_cons_of_mem _ (List.mem_of_mem_drop (q3 y hy)))) r hr
theorem Js{x:List aj}(h:∀e∈x,fa e):(dP x).Text.size≤4*x.length:=by
 have:=lq (wQ h);unfold dP;simp only[];rw[jq];have:(bE x).length=x.length:=by unfold bE;simp
 omega
def bD(v:Int):Int:=min (max v 0) 1048576
def eJ(M d:Nat)(w:Int)(bx:List ag):List aq:=gL (eX M w) (cO d bx)
def cQ(X:List aq)(w:Int):List Nat:=bM (X.map vI) w (X.length+1) 0++[X.length]
theorem CC(M d:Nat)(w:Int)(bx:List ag):(eJ M d w bx).length≤bn d bx:=by
 unfold eJ gL;have h1:=Ej (eX M w) ((cO d bx).length+1) none (cO d bx);have h2:=qe d bx;omega
theorem CO{l:List bB}(ht:∀s∈l,s.Text.size≤60){d:Nat}{bx:List ag}(hb:Bx l d bx)(hc:bn (d+1) bx≤2000){M:Nat}(hM:1100≤M)(w:Int):∀r∈eJ M (d+1) w bx,r.Box.length≤1∧r.Text.size≤100000:=by
 have hlen:=qe (d+1) bx;unfold eJ gL;refine xp (P:=fun r=>r.Box.length≤1∧r.Text.size≤100000) (fun e g=>⟨by simp[runM,co],by show(⟨#[]⟩:ByteArray).size≤100000;decide⟩) _ _ _ (fun e he h3 g=>?_) (fun e g x q1 q2 q3=>⟨by simp[runM,dP,co],?_⟩)
 ·obtain⟨k,hk⟩:=qt ht hb e he h3;obtain⟨p1,⟨f,p2,_⟩,_⟩:=tm hk hM w;exact⟨by simp[runM,p2],by show(eX M w e.Box).Text.size≤100000;rw[p1];decide⟩
 ·have:=Js (x:=x) (fun y hy=>vB (d+1) bx y (q3 y hy));show(dP x).Text.size≤100000;omega
theorem HV{l:List bB}(ht:∀s∈l,s.Text.size≤60){d:Nat}{bx:List ag}(hb:Bx l d bx)(hc:bn (d+1) bx≤2000){M:Nat}(hM:d+9100≤M)(s:aB)(v:Int):
  ix (KN (M+11)) (M+11) bx s v lp=some (ec s (bD v) (eJ M (d+1) (bD v) bx) 0 (cQ (eJ M (d+1) (bD v) bx) (bD v))):=by
 have hX:eJ M (d+1) (bD v) bx=gL (eX M (bD v)) (cO (d+1) bx):=rfl;have hr:=Kq ht hb hc hM (bD v);have hXl:=CC M (d+1) (bD v) bx;have hXo:=CO ht hb hc (M:=M) (by omega) (bD v);rw[←hX]at hr;generalize eJ M (d+1) (bD v) bx=X at *;unfold ix;rw[show min (max v 0) 1048576=bD v from rfl,hr];simp only[Option.bind_some];rw[JU (by omega) (by omega)];simp only[Option.bind_some];have hbl:=tP (X.map vI) (bD v) (X.length+1) 0;simp only[List.length_map]at hbl;rw[di (by simp;omega) (by omega),bb];have hA:=Dk (X.map vI) (bD v) (X.length+1) 0 (by omega) (by simp);rw[List.length_map]at hA;have hSl:(cQ X (bD v)).length≤2001:=by unfold cQ;simp only[List.length_append,List.length_cons,List.length_nil];omega
 have hSp:0<(cQ X (bD v)).length:=by unfold cQ;simp
 have hel:(((bM (X.map vI) (bD v) (X.length+1) 0).map fun (k:Nat)=>(k:Int))++[(X.length:Int)]).length=(cQ X (bD v)).length:=by unfold cQ;simp
 rw[hel,show aa (((cQ X (bD v)).length:Int)-1)=(((cQ X (bD v)).length-1:Nat):Int) by rw[bX (by omega) (by omega)];omega];have:=DC (K:=KN (M+11)) (n:=M+11) (X:=X) (s:=s) (w:=bD v) hXo (by omega) (by omega) v rfl (bM (X.map vI) (bD v) (X.length+1) 0) (cQ X (bD v)) rfl hA hSl (M+11) 0 0 [] hSp (by omega) (by simp);rw[List.drop_zero,List.nil_append]at this;exact this
end
end Go.Proofs.Ytnpmlepplfaijaa
namespace Go.Proofs.Ytnpmlepplfaijaa
set_option linter.all false
open Go.RowKit
noncomputable section
def bg(x:List aj):List Int:=(x.filter fun e=>e.Kind == 1).map fun e=>e.Char
theorem lW(a b:List aj):bg (a++b)=bg a++bg b:=by simp[bg]
theorem yz{x:List aj}(h:∀e∈x,e.Kind=1):bg x=bE x:=by
 unfold bg bE;rw[List.filter_eq_self.2 (fun e he=>by simpa using h e he)]
def ck:Nat→List aj→List (List aj)
 | 0,_=>[]
 | _+1,[]=>[]
 | m+1,e::r=>bif e.Kind == 2||e.Kind == 3 then [e]::ck m r else (e::r.take (jl e.Of e r))::ck m (r.drop (jl e.Of e r))
theorem Lz:∀(m:Nat) (l:List aj),l.length<m→(ck m l).flatten=l:=by
 intro m
 induction m with
 | zero=>intro l h;omega
 | succ m ih =>
  intro l h;cases l with
  | nil=>rfl
  | cons e r =>
   simp only[List.length_cons]at h;unfold ck;cases (e.Kind == 2||e.Kind == 3) with
   | true=>simp only[cond_true,List.flatten_cons];rw[ih r (by omega)];rfl
   | false =>
    simp only[cond_false,List.flatten_cons];rw[ih _ (by simp;omega),List.cons_append,List.take_append_drop]
abbrev T3:=ByteArray×Bool×Int
def tf(r:aq):T3:=(r.Text,r.Forced,r.Style.WhiteSpace)
def cf(c:List aj):T3:=(bm (bg c),(c.getD 0 default).Kind == 2,(c.getD 0 default).Box.Style.WhiteSpace)
theorem wm(o:Int):∀(l:List aj) (a:aj),∀y∈l.take (jl o a l),y.Kind=1
 | [],_,y,h=>by simp at h
 | b::r,a,y,h=>by
  unfold jl at h;cases hc:(b.Kind == 1&&(b.Of == o&&!gm a b)) with
  | false=>rw[hc]at h;simp at h
  | true =>
   rw[hc]at h;simp only[cond_true,List.take_succ_cons]at h;rcases List.mem_cons.1 h with rfl|h
   ·simp only[Bool.and_eq_true,beq_iff_eq]at hc;exact hc.1
   ·exact wm o r b y h
theorem DM{pl:ag→aq}:∀(m:Nat) (p:Option aj) (l:List aj),(∀e∈l,e.Kind=1∨e.Kind=2∨e.Kind=3)→(∀e∈l,e.Kind=3→(pl e.Box).Text=⟨#[]⟩∧(pl e.Box).Forced=false)→(cM pl m p l).map tf=(ck m l).map cf:=by
 intro m
 induction m with
 | zero=>intro p l _ _;rfl
 | succ m ih =>
  intro p l h1 h2;cases l with
  | nil=>rfl
  | cons e r =>
   unfold cM ck;have hr1:∀x∈r,x.Kind=1∨x.Kind=2∨x.Kind=3:=fun x hx=>h1 x (by simp[hx]);have hr2:∀x∈r,x.Kind=3→(pl x.Box).Text=⟨#[]⟩∧(pl x.Box).Forced=false:=fun x hx=>h2 x (by simp[hx]);rcases h1 e (by simp)with k|k|k
   ·have e2:(e.Kind == 2)=false:=by rw[k];rfl
    have e3:(e.Kind == 3)=false:=by rw[k];rfl
    rw[e2,e3];simp only[cond_false,Bool.or_self,List.map_cons];rw[ih _ _ (fun x hx=>hr1 x (List.mem_of_mem_drop hx)) (fun x hx=>hr2 x (List.mem_of_mem_drop hx))];congr 1;unfold tf cf;rw[yz (fun y hy=>by
     rcases List.mem_cons.1 hy with rfl|hy
     ·exact k
     ·exact wm _ _ _ y hy)]
    show(bm _,false,e.Box.Style.WhiteSpace)=(bm _,e.Kind == 2,e.Box.Style.WhiteSpace);rw[e2]
   ·have e2:(e.Kind == 2)=true:=by rw[k];rfl
    rw[e2];simp only[cond_true,Bool.true_or,List.map_cons];rw[ih _ _ hr1 hr2];congr 1;show((⟨#[]⟩:ByteArray),true,e.Box.Style.WhiteSpace)=(bm (bg [e]),e.Kind == 2,e.Box.Style.WhiteSpace);have:bg [e]=[]:=by unfold bg;rw[List.filter_cons,if_neg (by simp[k])];rfl
    rw[e2,this];rfl
   ·have e2:(e.Kind == 2)=false:=by rw[k];rfl
    have e3:(e.Kind == 3)=true:=by rw[k];rfl
    obtain⟨q1,q2⟩:=h2 e (by simp) k;rw[e2,e3];simp only[cond_true,cond_false,Bool.or_true,List.map_cons];rw[ih _ _ hr1 hr2];congr 1;show((pl e.Box).Text,(pl e.Box).Forced,e.Box.Style.WhiteSpace)=(bm (bg [e]),e.Kind == 2,e.Box.Style.WhiteSpace);have:bg [e]=[]:=by unfold bg;rw[List.filter_cons,if_neg (by simp[k])];rfl
    rw[e2,this,q1,q2];rfl
def uJ(t:T3):List UInt8:=bif d7 t.1&&t.2.2 != 2 then (lx t.1).data.toList else t.1.data.toList
def ol(last:Int):Int→List T3→List UInt8
 | _,[]=>[]
 | i,t::r=>(bif i == last then uJ t else t.1.data.toList)++ol last (i+1) r
def eI(i acc:Int):List T3→Int
 | []=>acc
 | t::r=>eI (i+1) (bif t.2.1 then acc else i) r
theorem yS:∀(L:List aq) (i acc:Int),gU i acc L=eI i acc (L.map tf)
 | [],i,acc=>rfl
 | r::t,i,acc=>by unfold gU;rw[List.map_cons];unfold eI;exact yS t _ _
def dq(F:List af):List UInt8:=F.flatMap fun f=>bif f.Kind == 3 then f.Text.data.toList else []
theorem zd(a b:List af):dq (a++b)=dq a++dq b:=by simp[dq]
theorem xi{above x:Int}{r:aq}(hb:∀f∈r.Box,f.Kind=1):dq (gi above x r)=r.Text.data.toList:=by
 unfold gi;rw[zd];have h2:dq (r.Box.map (oc above x))=[]:=by
  unfold dq;rw[List.flatMap_eq_nil_iff];intro f hf;obtain⟨g,hg,rfl⟩:=List.mem_map.1 hf;have:(oc above x g).Kind=1:=hb g hg;rw[this];rfl
 rw[h2,List.append_nil];unfold nC;cases he:r.Text.data.toList with
 | nil=>rfl
 | cons b t=>simp only[List.isEmpty_cons,cond_false];simp[dq,he]
theorem AF{above last:Int}:∀(L:List aq) (i x:Int),(∀r∈L,∀f∈r.Box,f.Kind=1)→dq (fv above last i x L)=ol last i (L.map tf)
 | [],i,x,_=>rfl
 | r::t,i,x,h=>by
  unfold fv;rw[List.map_cons];unfold ol;simp only[];rw[zd,AF t _ _ (fun y hy=>h y (by simp[hy]))];congr 1;cases (i == last) with
  | false=>simp only[cond_false];rw[xi (h r (by simp))];rfl
  | true =>
   simp only[cond_true];have hbx:∀f∈(stripR r).Box,f.Kind=1:=by
    unfold stripR;cases (d7 r.Text&&r.Style.WhiteSpace != 2)<;>exact h r (by simp)
   rw[xi hbx];unfold stripR uJ tf;cases hc:(d7 r.Text&&r.Style.WhiteSpace != 2)<;>simp[hc]
def dr(c:List Int):Bool:=c.getLast? == some 32
def ge(c:List aj):List Int:=bif dr (bg c)&&(c.getD 0 default).Box.Style.WhiteSpace != 2 then (bg c).dropLast else bg c
def dB(last:Int):Int→List (List aj)→List Int
 | _,[]=>[]
 | i,c::r=>(bif i == last then ge c else bg c)++dB last (i+1) r
theorem Lg{r:Int}(h:bv r):∃b,(cm r).getLast?=some b∧((b == 32)=(r == 32)):=by
 have ne:∀n:Nat,n<256→n≠32→((UInt8.ofNat n) == 32)=false:=fun n h1 h2=>by
  rw[beq_eq_false_iff_ne];intro e;have:=congrArg UInt8.toNat e;rw[da h1]at this;exact h2 this
 obtain⟨c,rfl,h|h|h|h⟩:=sq h
 ·rw[h.2];refine⟨UInt8.ofNat c,rfl,?_⟩;by_cases e:c=32
  ·subst e;rfl
  ·rw[ne c (by omega) e];symm;rw[beq_eq_false_iff_ne];omega
 ·rw[h.2.2];refine⟨UInt8.ofNat (128+c % 64),rfl,?_⟩;rw[ne (128+c % 64) (by omega) (by omega)];symm;rw[beq_eq_false_iff_ne];omega
 ·rw[h.2.2.2];refine⟨UInt8.ofNat (128+c % 64),rfl,?_⟩;rw[ne (128+c % 64) (by omega) (by omega)];symm;rw[beq_eq_false_iff_ne];omega
 ·rw[h.2.2];refine⟨UInt8.ofNat (128+c % 64),rfl,?_⟩;rw[ne (128+c % 64) (by omega) (by omega)];symm;rw[beq_eq_false_iff_ne];omega
theorem AO{cs:List Int}(h:∀r∈cs,bv r):((bh cs).getLast? == some 32)=dr cs:=by
 unfold dr;cases hc:cs.getLast? with
 | none =>
  have:cs=[]:=by simpa using hc
  subst this;rfl
 | some x =>
  obtain⟨ys,hys⟩:=List.getLast?_eq_some_iff.1 hc;subst hys;obtain⟨b,hb,hbe⟩:=Lg (h x (by simp));rw[l8];have:bh [x]=cm x:=by simp[bh]
  rw[this,List.getLast?_append,hb];simpa using hbe
theorem Ju{cs:List Int}(h:∀r∈cs,bv r):d7 (bm cs)=dr cs:=by
 unfold d7;rw[ew];exact AO h
theorem yG(last:Int):∀(C:List (List aj)) (i:Int),(∀c∈C,∀e∈c,fa e)→ol last i (C.map cf)=bh (dB last i C)
 | [],i,_=>rfl
 | c::r,i,h=>by
  rw[List.map_cons];unfold ol dB;rw[l8,yG last r (i+1) (fun d hd=>h d (by simp[hd]))];congr 1;have hok:∀x∈bg c,bv x:=fun x hx=>by
   unfold bg at hx;obtain⟨e,he,rfl⟩:=List.mem_map.1 hx;exact(h c (by simp) e ((List.mem_filter.1 he).1)).ch
  cases (i == last) with
  | false=>exact ew _
  | true =>
   simp only[cond_true];unfold uJ ge;have e1:(cf c).1=bm (bg c):=rfl;have e2:(cf c).2.2=(c.getD 0 default).Box.Style.WhiteSpace:=rfl;rw[e1,e2,Ju hok];cases hc:(dr (bg c)&&(c.getD 0 default).Box.Style.WhiteSpace != 2) with
   | false=>simp only[cond_false];exact ew _
   | true =>
    simp only[cond_true];have hend:dr (bg c)=true:=by rw[Bool.and_eq_true]at hc;exact hc.1
    unfold dr at hend;have hne:bg c≠[]:=by intro e;rw[e]at hend;simp at hend
    have hl:(bg c).getLast hne=32:=by
     rw[List.getLast?_eq_some_getLast hne]at hend;simpa using hend
    unfold lx;rw[xT hne hl,ew]
def bU(r:Int):Bool:=!cU r
theorem E7(c:List aj):(ge c).filter bU=(bg c).filter bU:=by
 unfold ge;cases hc:(dr (bg c)&&(c.getD 0 default).Box.Style.WhiteSpace != 2) with
 | false=>rfl
 | true =>
  simp only[cond_true];have hend:dr (bg c)=true:=by rw[Bool.and_eq_true]at hc;exact hc.1
  unfold dr at hend;have hne:bg c≠[]:=by intro e;rw[e]at hend;simp at hend
  have hl:(bg c).getLast hne=32:=by
   rw[List.getLast?_eq_some_getLast hne]at hend;simpa using hend
  conv=>rhs;rw[←List.dropLast_concat_getLast hne,hl]
  rw[List.filter_append];have:[(32:Int)].filter bU=[]:=rfl;rw[this,List.append_nil]
theorem C4(last:Int):∀(C:List (List aj)) (i:Int),(dB last i C).filter bU=(bg C.flatten).filter bU
 | [],i=>rfl
 | c::r,i=>by
  unfold dB;rw[List.filter_append,C4 last r (i+1),List.flatten_cons,lW,List.filter_append];congr 1;cases (i == last)
  ·rfl
  ·exact E7 c
theorem Cr(last:Int):∀(C:List (List aj)) (i:Int),(∀c∈C,∀e∈c,fa e)→∀r∈dB last i C,bv r
 | [],i,_,r,hr=>by cases hr
 | c::t,i,h,r,hr=>by
  unfold dB at hr;have hok:∀x∈bg c,bv x:=fun x hx=>by
   unfold bg at hx;obtain⟨e,he,rfl⟩:=List.mem_map.1 hx;exact(h c (by simp) e ((List.mem_filter.1 he).1)).ch
  rcases List.mem_append.1 hr with hr|hr
  ·cases hi:(i == last) with
   | false=>rw[hi]at hr;exact hok r hr
   | true =>
    rw[hi]at hr;simp only[cond_true]at hr;unfold ge at hr;cases hc:(dr (bg c)&&(c.getD 0 default).Box.Style.WhiteSpace != 2) with
    | false=>rw[hc]at hr;exact hok r hr
    | true=>rw[hc]at hr;exact hok r ((List.dropLast_sublist _).subset hr)
  ·exact Cr last t _ (fun d hd=>h d (by simp[hd])) r hr
end
end Go.Proofs.Ytnpmlepplfaijaa
namespace Go.Proofs.Ytnpmlepplfaijaa
set_option linter.all false
open Go.RowKit
noncomputable section
theorem Hb{α:Type}(l:List α){a b c:Nat}(h1:a≤b)(h2:b≤c):sl l a b++sl l b c=sl l a c:=by
 unfold sl;rw[List.drop_take,List.drop_take,List.drop_take];have e:List.drop b l=List.drop (b-a) (List.drop a l):=by rw[List.drop_drop];congr 1;omega
 rw[e];generalize List.drop a l=m;have e2:List.take (c-b) (List.drop (b-a) m)=List.drop (b-a) (List.take (c-a) m):=by rw[List.drop_take];congr 1;omega
 rw[e2]
 conv=>rhs;rw[←List.take_append_drop (b-a) (List.take (c-a) m)]
 rw[List.take_take,Nat.min_eq_left (by omega)]
theorem Fl{α:Type}(l:List α):sl l 0 l.length=l:=by unfold sl;simp
theorem HK{α:Type}(l:List α)(a:Nat):sl l a a=[]:=by unfold sl;rw[List.drop_take];simp
def nJ(C:List (List aj))(a b:Nat):List Int:=dB (eI 0 (-1) ((sl C a b).map cf)) 0 (sl C a b)
def g9(C:List (List aj)):List Nat→List Int
 | a::b::r=>nJ C a b++g9 C (b::r)
 | _=>[]
theorem Bg(C:List (List aj)):∀(S:List Nat) (a:Nat),gQ C.length (a::S)→(g9 C (a::S)).filter bU=(bg (sl C a ((a::S).getLast (by simp))).flatten).filter bU
 | [],a,_=>by simp[g9,HK,bg]
 | b::r,a,h=>by
  have hl:b≤(b::r).getLast (by simp):=by
   have:∀(r:List Nat) (b:Nat),gQ C.length (b::r)→b≤(b::r).getLast (by simp):=fun r=>by
    induction r with
    | nil=>intro b _;simp
    | cons x t ih=>intro b hb;rw[List.getLast_cons (List.cons_ne_nil x t)];exact Nat.le_trans hb.1 (ih x hb.2.2)
   exact this r b h.2.2
  unfold g9;rw[List.filter_append,Bg C r b h.2.2];unfold nJ;rw[C4,← List.filter_append,← lW,← List.flatten_append,Hb C h.1 hl,List.getLast_cons (List.cons_ne_nil b r)]
def cB:Nat→List ag→List Int
 | 0,_=>[]
 | d+1,L=>L.flatMap fun b=>bif dd b then (bif b.Kind == 2 then cB d b.Kids else [])++(bif b.Kind == 3 then (cF b.Text 0).filter bU else []) else []
theorem jd(out:List aj)(e:aj):bg (out++[e])=bg out++(bif e.Kind == 1 then [e.Char] else []):=by
 rw[lW];congr 1;unfold bg;cases h:(e.Kind == 1)<;>simp[h]
theorem D6(out:List aj)(e:aj)(hk:e.Kind=1):(bg (eF out e)).filter bU=(bg out).filter bU++[e.Char].filter bU:=by
 have h1:(e.Kind == 1)=true:=by rw[hk];rfl
 have s32:[(32:Int)].filter bU=[]:=rfl;unfold eF;cases hs:cU e.Char with
 | false=>simp only[cond_false];rw[jd,h1,List.filter_append];rfl
 | true =>
  have hn:[e.Char].filter bU=[]:=by simp[bU,hs]
  rw[hn,List.append_nil];simp only[cond_true];cases dK e with
  | true =>
   simp only[cond_true];cases (e.Char == 10) with
   | true=>simp only[cond_true];rw[jd];simp
   | false =>
    simp only[cond_false];cases (e.Char == 13) with
    | true=>rfl
    | false=>simp only[cond_false];rw[jd];simp only[h1,cond_true];rw[List.filter_append,s32,List.append_nil]
  | false =>
   simp only[cond_false];cases eW out with
   | true=>rfl
   | false=>simp only[cond_false];rw[jd];simp only[h1,cond_true];rw[List.filter_append,s32,List.append_nil]
theorem zu(b:ag)(num:Int):∀(rs:List Int) (out:List aj),(bg (ey b num out rs)).filter bU=(bg out).filter bU++rs.filter bU
 | [],out=>by simp[ey]
 | r::t,out=>by
  unfold ey;rw[List.foldl_cons];have:=zu b num t (eF out ⟨1,num,r,false,b⟩);unfold ey at this;rw[this,D6 out _ rfl,List.append_assoc,← List.filter_append];rfl
theorem Ds:∀(d:Nat) (L:List ag) (s:Int×List aj),(bg (vM d L s).2).filter bU=(bg s.2).filter bU++cB d L:=by
 intro d
 induction d with
 | zero=>intro L s;simp[vM,cB]
 | succ d ih =>
  intro L
  induction L with
  | nil=>intro s;simp[vM,cB]
  | cons b r ihL =>
   intro s;rw[eD,List.foldl_cons,← eD,ihL];have e:cB (d+1) (b::r)=(bif dd b then (bif b.Kind == 2 then cB d b.Kids else [])++(bif b.Kind == 3 then (cF b.Text 0).filter bU else []) else [])++cB (d+1) r:=rfl;rw[e,← List.append_assoc];congr 1;unfold dC;cases dd b with
   | false=>simp
   | true =>
    simp only[cond_true];cases h2:(b.Kind == 2) with
    | true =>
     have h3 : (b.Kind == 3)=false:=by
      have : b.Kind=2:=by simpa using h2
      rw[this];rfl
     simp only[cond_true];rw[ih,h3];simp
    | false =>
     simp only[cond_false,List.nil_append];cases h4:(b.Kind == 4) with
     | true =>
      have h3 : (b.Kind == 3)=false:=by
       have : b.Kind=4:=by simpa using h4
       rw[this];rfl
      simp only[cond_true];rw[jd,h3];simp
     | false =>
      simp only[cond_false];cases h5:(b.Kind == 5) with
      | true =>
       have h3 : (b.Kind == 3)=false:=by
        have : b.Kind=5:=by simpa using h5
        rw[this];rfl
       simp only[cond_true];rw[jd,h3];simp
      | false =>
       simp only[cond_false];cases (b.Kind == 3) with
       | true=>simp only[cond_true];exact zu b _ _ _
       | false=>simp
def fL(out:List aj):Prop:=∀i,i<out.length→(out.getD i default).Soft=true→0<i∧(out.getD (i-1) default).Soft=false∧(out.getD (i-1) default).Kind≠2
theorem EQ:fL []:=fun i h=>by simp at h
theorem th{α:Type}[Inhabited α](a:List α)(y:α){i:Nat}(h:i<a.length):(a++[y]).getD i default=a.getD i default:=by
 rw[bT (by simp;omega),bT h,List.getElem_append_left h]
theorem IY{α:Type}[Inhabited α](a:List α)(y:α):(a++[y]).getD a.length default=y:=by
 rw[bT (by simp)];simp
theorem CT{α:Type}[Inhabited α](a:List α)(x:α)(b:List α):(a++x::b).getD a.length default=x:=by
 rw[bT (by simp)];simp
theorem le{out:List aj}{y:aj}(h:fL out)(hy:y.Soft=true→eW out=false):fL (out++[y]):=by
 intro i hi hs;rw[List.length_append]at hi;simp only[List.length_cons,List.length_nil]at hi;by_cases e:i<out.length
 ·rw[th out y e]at hs;obtain⟨h1,h2,h3⟩:=h i e hs;rw[th out y (by omega)];exact⟨h1,h2,h3⟩
 ·have e:i=out.length:=by omega
  subst e;rw[IY]at hs;have hk:=hy hs;unfold eW at hk;simp only[Bool.or_eq_false_iff]at hk;have hp:0<out.length:=by
   cases out with
   | nil=>simp at hk
   | cons _ _=>simp
  rw[th out y (by omega)];refine⟨hp,hk.2.1,?_⟩;have h2:(fp out).Kind≠2:=by simpa using hk.2.2
  have e2:fp out=out.getD (out.length-1) default:=rfl;rw[←e2];exact h2
theorem FZ{out:List aj}{e:aj}(h:fL out)(he:e.Soft=false):fL (eF out e):=by
 unfold eF;cases cU e.Char with
 | false=>exact le h (fun q=>by rw[he]at q;cases q)
 | true =>
  simp only[cond_true];cases dK e with
  | true =>
   simp only[cond_true];cases (e.Char == 10) with
   | true=>exact le h (fun q=>by simp only[he]at q;cases q)
   | false =>
    simp only[cond_false];cases (e.Char == 13) with
    | true=>exact h
    | false=>exact le h (fun q=>by simp only[he]at q;cases q)
  | false =>
   simp only[cond_false];cases hk:eW out with
   | true=>exact h
   | false=>exact le h (fun _=>hk)
theorem AH(b:ag)(num:Int):∀(rs:List Int) (out:List aj),fL out→fL (ey b num out rs)
 | [],out,h=>h
 | r::t,out,h=>by
  unfold ey;rw[List.foldl_cons];exact AH b num t _ (FZ h rfl)
theorem IJ:∀(d:Nat) (L:List ag) (s:Int×List aj),fL s.2→fL (vM d L s).2:=by
 intro d
 induction d with
 | zero=>intro L s h;exact h
 | succ d ih =>
  intro L
  induction L with
  | nil=>intro s h;exact h
  | cons b r ihL =>
   intro s h;rw[eD,List.foldl_cons,← eD];refine ihL _ ?_;unfold dC;cases dd b with
   | false=>exact h
   | true =>
    simp only[cond_true];cases (b.Kind == 2) with
    | true=>exact ih _ _ h
    | false =>
     simp only[cond_false];cases (b.Kind == 4) with
     | true=>exact le h (fun q=>by cases q)
     | false =>
      simp only[cond_false];cases (b.Kind == 5) with
      | true=>exact le h (fun q=>by cases q)
      | false =>
       simp only[cond_false];cases (b.Kind == 3) with
       | true=>exact AH b _ _ _ h
       | false=>exact h
theorem Ah:∀(a:List T3) (r:T3) (i acc:Int),eI i acc (a++[r])=bif r.2.1 then eI i acc a else i+a.length
 | [],r,i,acc=>by simp[eI]
 | x::t,r,i,acc=>by
  simp only[List.cons_append,eI];rw[Ah t r (i+1)];cases r.2.1
  ·simp;omega
  ·rfl
theorem DK:∀(k:Nat) (C:List (List aj)),C.length=k→((∀c∈C,(cf c).2.1=true)∧eI 0 (-1) (C.map cf) = -1)∨∃C1 c C2,C=C1++c::C2∧(cf c).2.1=false∧(∀x∈C2,(cf x).2.1=true)∧eI 0 (-1) (C.map cf)=(C1.length:Int):=by
 intro k
 induction k with
 | zero =>
  intro C h;have:C=[]:=List.eq_nil_of_length_eq_zero h;subst this;refine .inl ⟨fun c hc=>?_,rfl⟩;cases hc
 | succ k ih =>
  intro C h;have hne:C≠[]:=by intro e;subst e;simp at h
  have hC:=List.dropLast_concat_getLast hne;generalize C.dropLast=D at hC;generalize C.getLast hne=x at hC;subst hC;have hD:D.length=k:=by simpa using h
  rw[List.map_append,List.map_cons,List.map_nil,Ah];cases hf:(cf x).2.1 with
  | false =>
   refine .inr ⟨D,x,[],rfl,hf,fun y hy=>?_,by simp⟩;cases hy
  | true =>
   simp only[cond_true];obtain⟨q1,q2⟩|⟨C1,c,C2,q1,q2,q3,q4⟩:=ih D hD
   ·refine .inl ⟨fun c hc=>?_,q2⟩;rcases List.mem_append.1 hc with hc|hc
    ·exact q1 c hc
    ·rw[List.mem_singleton.1 hc];exact hf
   ·refine .inr ⟨C1,c,C2++[x],by rw[q1];simp,q2,fun y hy=>?_,q4⟩;rcases List.mem_append.1 hy with hy|hy
    ·exact q3 y hy
    ·rw[List.mem_singleton.1 hy];exact hf
theorem vW(last:Int):∀(C:List (List aj)) (i:Int),last<i→dB last i C=bg C.flatten
 | [],i,_=>rfl
 | c::r,i,h=>by
  unfold dB;rw[show(i == last)=false by simp;omega,vW last r (i+1) (by omega),List.flatten_cons,lW];rfl
theorem zo(c:List aj)(C2:List (List aj)):∀(C1:List (List aj)) (i:Int),dB (i+C1.length) i (C1++c::C2)=bg C1.flatten++ge c++bg C2.flatten
 | [],i=>by
  simp only[List.nil_append,List.length_nil,List.flatten_nil];unfold dB;rw[show(i == i+((0:Nat):Int))=true by simp,vW _ C2 (i+1) (by simp;omega)];simp[bg]
 | x::t,i=>by
  rw[List.cons_append];unfold dB;rw[show(i == i+(((x::t).length:Nat):Int))=false by simp;omega,show i+(((x::t).length:Nat):Int)=(i+1)+((t.length:Nat):Int) by simp;omega,zo c C2 t (i+1),List.flatten_cons,lW];simp[List.append_assoc]
structure Calm(E:List aj):Prop where
 adj:fL E
 kind:∀e∈E,e.Kind=1∨e.Kind=2
 soft:∀e∈E,e.Kind=1→e.Char=32→e.Soft=true
 ws:∀e∈E,(e.Box.Style.WhiteSpace != 2)=true
theorem LJ{F:List aj}{y:aj}(hy:y.Kind=1):(bg (F++[y])).getLast?=some y.Char:=by
 rw[jd,hy];simp
theorem Mp{E pre post:List aj}{C:List (List aj)}(hE:Calm E)(hs:E=pre++C.flatten++post)(hC:∀c∈C,c≠[]∧((cf c).2.1=true→∃e,c=[e]∧e.Kind=2)∧((cf c).2.1=false→∀e∈c,e.Kind=1)):dr (dB (eI 0 (-1) (C.map cf)) 0 C)=false:=by
 have forced:∀D:List (List aj),(∀x∈D,x∈C∧(cf x).2.1=true)→bg D.flatten=[]:=fun D hD=>by
  unfold bg;rw[List.filter_eq_nil_iff.2 ?_]
  ·rfl
  ·intro e he;obtain⟨c,hc,hec⟩:=List.mem_flatten.1 he;obtain⟨q1,q2⟩:=hD c hc;obtain⟨e',rfl,hk⟩:=(hC c q1).2.1 q2;rw[List.mem_singleton.1 hec,hk];simp
 obtain⟨h1,h2⟩|⟨C1,c,C2,h1,h2,h3,h4⟩:=DK C.length C rfl
 ·rw[h2,vW (-1) C 0 (by omega),forced C (fun x hx=>⟨hx,h1 x hx⟩)];rfl
 ·have hcC:c∈C:=by rw[h1];simp
  obtain⟨c1,_,c3⟩:=hC c hcC;have hk:=c3 h2;have hkc:=yz hk;have hz:dB (eI 0 (-1) (C.map cf)) 0 C=bg C1.flatten++ge c:=by
   rw[h4]
   conv=>lhs;rw[h1]
   have:=zo c C2 C1 0;rw[Int.zero_add]at this;rw[this,forced C2 (fun x hx=>⟨by rw[h1];simp[hx],h3 x hx⟩),List.append_nil]
  rw[hz];have hcl:=List.dropLast_concat_getLast c1;generalize hy:c.getLast c1=y at hcl;generalize hcd:c.dropLast=cd at hcl;have hyk:y.Kind=1:=hk y (by rw[←hy];exact List.getLast_mem c1);have hkcd:∀e∈cd,e.Kind=1:=fun e he=>hk e (by rw[←hcl];simp[he]);have hkc2:bg c=bg cd++[y.Char]:=by rw[←hcl,jd,hyk];rfl
  have hend:dr (bg c)=(y.Char == 32):=by
   unfold dr;rw[hkc2];simp
  have hws:((c.getD 0 default).Box.Style.WhiteSpace != 2)=true:=by
   refine hE.ws _ ?_;rw[hs];clear hkc2 hend hcl hy hyk;have:c.getD 0 default∈c:=by rw[bT (List.length_pos_iff.2 c1)];exact List.getElem_mem _
   have:c.getD 0 default∈C.flatten:=List.mem_flatten.2 ⟨c,hcC,this⟩;exact List.mem_append.2 (.inl (List.mem_append.2 (.inr this)))
  unfold ge;rw[hend,hws,Bool.and_true];cases h32:(y.Char == 32) with
  | false =>
   simp only[cond_false];unfold dr;rw[hkc2,← List.append_assoc,List.getLast?_concat];show(some y.Char == some 32)=false;simpa using h32
  | true =>
   simp only[cond_true];rw[hkc2,List.dropLast_concat,← lW];have hyE:E=pre++(C1.flatten++cd)++[y]++(C2.flatten++post):=by
    rw[hs,h1,List.flatten_append,List.flatten_cons,← hcl];simp
   generalize hF:C1.flatten++cd=F at *;rcases List.eq_nil_or_concat F with hF2|⟨F',x,hF2⟩
   ·rw[hF2];rfl
   ·rw[List.concat_eq_append]at hF2;subst hF2;have hi:(pre++(F'++[x])).length<E.length:=by rw[hyE];simp
    have hgy:E.getD (pre++(F'++[x])).length default=y:=by
     rw[hyE,show pre++(F'++[x])++[y]++(C2.flatten++post)=(pre++(F'++[x]))++y::(C2.flatten++post) by simp];exact CT _ _ _
    have hyin:y∈E:=by rw[hyE];simp
    have hsoft:=hE.soft y hyin hyk (by simpa using h32);obtain⟨a1,a2,a3⟩:=hE.adj _ hi (by rw[hgy];exact hsoft);have hgx:E.getD ((pre++(F'++[x])).length-1) default=x:=by
     rw[hyE,show pre++(F'++[x])++[y]++(C2.flatten++post)=(pre++F')++x::(y::(C2.flatten++post)) by simp,show(pre++(F'++[x])).length-1=(pre++F').length by simp];exact CT _ _ _
    rw[hgx]at a2 a3;have hxin:x∈E:=by rw[hyE];simp
    have hxk:x.Kind=1:=by
     rcases hE.kind x hxin with h|h
     ·exact h
     ·exact absurd h a3
    unfold dr;rw[LJ hxk];have hx32:x.Char≠32:=fun e=>by
     have:=hE.soft x hxin hxk e;rw[a2]at this;cases this
    simpa using hx32
end
end Go.Proofs.Ytnpmlepplfaijaa
namespace Go.Proofs.Ytnpmlepplfaijaa
set_option linter.all false
open Go.RowKit
set_option maxRecDepth 100000 in
theorem Ld(k:Nat):m5 (KN (k+40)) (k+40)=some true:=by kernel_rfl
end Go.Proofs.Ytnpmlepplfaijaa
namespace Go.Proofs.Ytnpmlepplfaijaa.QInlineText
set_option linter.all false
open Go.RowKit
noncomputable section
theorem xa{a b:ByteArray}(h:a.data.toList=b.data.toList):a=b:=by
 apply ByteArray.ext;exact Array.ext' h
theorem zf:bm []=⟨#[]⟩:=rfl
theorem vS(a b:List Int):bm a++bm b=bm (a++b):=by
 apply xa;rw[mj,ew,ew,ew,l8]
theorem GT(a:List Int)(r:Int):bm a++Utf8.encode r=bm (a++[r]):=by
 apply xa;rw[mj,ew,ew,l8];show _++cm r=_++bh [r];simp[bh]
theorem Mh:(100000000:Nat)≤9223372036854775807:=by decide
theorem n7{a b:ByteArray}(h:a.size+b.size≤100000000):gS a b=true:=decide_eq_true (Nat.le_trans h Mh)
theorem ip{cs:List Int}(h:∀r∈cs,bv r):(bm cs).size≤4*cs.length:=by
 rw[jq];exact(lq h).2
section
variable{K:Kn}{n:Nat}
theorem EP(b:ByteArray)(c0:Nat)(hc0:c0≤1000000):∀(m p:Nat) (cs:List Int),b.size-p<m→cs.length+(b.size-p)≤c0→(∀r∈cs,bv r)→jc K n b m (bm cs) p=some (bm (cs++(cF b p).filter bU)):=by
 intro m
 induction m with
 | zero=>intro p cs h;omega
 | succ m ih =>
  intro p cs h1 h2 h3;show k8 K n b (jc K n b m) (bm cs) p=_;unfold k8;by_cases hp:p<b.size
  ·have hw:=uC b p;have ho:=Mi b p;rw[if_pos (by simpa using hp),s4 hp];obtain⟨r,hr⟩:∃r,((Utf8.decode b p).1:Int)=r:=⟨_,rfl⟩;rw[hr]at ho;rw[hr];have no:bU r=false→gf K n b (bm cs) p (jc K n b m) false=some (bm (cs++(r::cF b (p+(Utf8.decode b p).2)).filter bU)):=fun hn=>by
    unfold gf k9;rw[if_neg (by simp),ih _ _ (by omega) (by omega) h3,List.filter_cons,if_neg (by rw[hn];simp)]
   have yes:bU r=true→gf K n b (bm cs) p (jc K n b m) true=some (bm (cs++(r::cF b (p+(Utf8.decode b p).2)).filter bU)):=fun hn=>by
    have hs:=ip h3;have hl:=(oa ho).2;have hsz:(Utf8.encode r).size=(cm r).length:=(fl (Utf8.encode r)).symm;unfold gf k9;rw[if_pos rfl,hr,n7 (by omega),bb,GT,ih _ _ (by omega) (by rw[List.length_append,List.length_singleton];omega) (fun x hx=>by
     rcases List.mem_append.1 hx with hx|hx
     ·exact h3 x hx
     ·rw[List.mem_singleton.1 hx];exact ho),List.filter_cons,if_pos hn,List.append_assoc]
    rfl
   cases q1:(r == 9) with
   | true =>
    rw[if_neg (by simpa[bne]using q1)];exact no (by simp[bU,cU,q1])
   | false =>
    rw[if_pos (by simp[bne,q1])];cases q2:(r == 10) with
    | true=>rw[if_neg (by simpa[bne]using q2)];exact no (by simp[bU,cU,q2])
    | false =>
     rw[if_pos (by simp[bne,q2])];cases q3:(r == 13) with
     | true=>rw[if_neg (by simpa[bne]using q3)];exact no (by simp[bU,cU,q3])
     | false =>
      rw[if_pos (by simp[bne,q3])];cases q4:(r == 32) with
      | true=>rw[show(r != 32)=false by simp[bne,q4]];exact no (by simp[bU,cU,q4])
      | false=>rw[show(r != 32)=true by simp[bne,q4]];exact yes (by simp[bU,cU,q1,q2,q3,q4])
  ·rw[if_neg (by simpa using hp),vd hp];simp
theorem Aj{b:ByteArray}(hn:b.size<n)(hb:b.size≤1000000):mH K n b=some (bm ((cF b 0).filter bU)):=by
 unfold mH;have:=EP (K:=K) (n:=n) b 1000000 (Nat.le_refl _) n 0 [] (by omega) (by show 0+_≤_;omega) (fun r hr=>by cases hr);rw[zf,List.nil_append]at this;exact this
theorem I1(b:ag):pS K n b=some (dd b):=by
 have e:pS K n b=fc K n b:=rfl;rw[e,uM]
end
theorem qN:∀(d:Nat) (L:List ag),∀r∈cB d L,bv r
 | 0,L,r,h=>by simp[cB]at h
 | d+1,L,r,h=>by
  unfold cB at h;obtain⟨b,hb,h⟩:=List.mem_flatMap.1 h;cases hf:dd b with
  | false=>rw[hf]at h;simp at h
  | true =>
   rw[hf]at h;simp only[cond_true]at h;rcases List.mem_append.1 h with h|h
   ·cases h2:(b.Kind == 2) with
    | false=>rw[h2]at h;simp at h
    | true=>rw[h2]at h;exact qN d _ r h
   ·cases h3:(b.Kind == 3) with
    | false=>rw[h3]at h;simp at h
    | true=>rw[h3]at h;exact n3 r (List.mem_filter.1 h).1
def fi(d:Nat)(b:ag):List Int:=bif dd b then (bif b.Kind == 2 then cB d b.Kids else [])++(bif b.Kind == 3 then (cF b.Text 0).filter bU else []) else []
theorem tq(d:Nat)(b:ag)(r:List ag):cB (d+1) (b::r)=fi d b++cB (d+1) r:=rfl
theorem BJ(d:Nat)(ih:∀L,(cB d L).length≤bn d L)(b:ag):(fi d b).length≤b.Text.size+bn d b.Kids:=by
 unfold fi;have h1:=ih b.Kids;have h2:=sY b.Text 0;have h3:=List.length_filter_le bU (cF b.Text 0);cases dd b with
 | false=>simp
 | true =>
  simp only[cond_true,List.length_append];cases (b.Kind == 2)<;>cases (b.Kind == 3)<;>simp only[cond_true,cond_false,List.length_nil]<;>omega
theorem vp:∀(d:Nat) (L:List ag),(cB d L).length≤bn d L:=by
 intro d
 induction d with
 | zero=>intro L;simp[cB,bn]
 | succ d ih =>
  intro L
  induction L with
  | nil=>simp[cB]
  | cons b r ihL =>
   have:=BJ d ih b;rw[tq,List.length_append];have e:bn (d+1) (b::r)=(1+b.Text.size+bn d b.Kids)+bn (d+1) r:=by simp[bn]
   omega
theorem tT:∀(d N:Nat) (L:List ag),Dp d L→bn d L≤100000→d+1100≤N→iP (KN N) N L=some (bm (cB d L)):=by
 intro d
 induction d with
 | zero=>intro N L h;exact h.elim
 | succ d ih =>
  intro N L hD hc hN;obtain⟨N,rfl⟩:∃M,N=M+1:=⟨N-1,by omega⟩;unfold Dp at hD;unfold iP;have loop:∀(m i:Nat) (cs:List Int),i≤L.length→L.length<m+i→cs.length+bn (d+1) (L.drop i)≤100000→(∀r∈cs,bv r)→iK (KN (N+1)) (N+1) L m (bm cs) (i:Int)=some (bm (cs++cB (d+1) (L.drop i))):=by
   intro m
   induction m with
   | zero=>intro i cs h1 h2;omega
   | succ m ihm =>
    intro i cs h1 h2 h3 hok;show ma (KN (N+1)) (N+1) L (iK (KN (N+1)) (N+1) L m) (bm cs) i=_;unfold ma;by_cases hi:i<L.length
    ·have hb:L.getD i default∈L:=by rw[bT hi];exact List.getElem_mem _
     have hdr:L.drop i=L.getD i default::L.drop (i+1):=by rw[List.drop_eq_getElem_cons hi,bT hi]
     have hw:aa ((i:Int)+1)=((i+1:Nat):Int):=by rw[bX (by omega) (by omega)];omega
     obtain⟨t1,t2⟩:=hD.2 _ hb;rw[hdr]at h3⊢;rw[tq,← List.append_assoc];have h3':cs.length+((1+(L.getD i default).Text.size+bn d (L.getD i default).Kids)+bn (d+1) (L.drop (i+1)))≤100000:=by
      simpa only[bn,List.map_cons,List.sum_cons]using h3
     have hl1:=BJ d (vp d) (L.getD i default);have hok1:∀r∈fi d (L.getD i default),bv r:=fun r hr=>by
      refine qN (d+1) [L.getD i default] r ?_;rw[tq];exact List.mem_append.2 (.inl hr)
     have fin:=ihm (i+1) (cs++fi d (L.getD i default)) (by omega) (by omega) (by rw[List.length_append];omega) (fun r hr=>by
      rcases List.mem_append.1 hr with hr|hr
      ·exact hok r hr
      ·exact hok1 r hr)
     rw[if_pos (by simpa using hi),b8 (by omega) (by omega),bb,I1];simp only[Option.bind_some,Int.toNat_natCast];have j3:∀x,x=fi d (L.getD i default)→mA (KN (N+1)) (N+1) L (i:Int) (iK (KN (N+1)) (N+1) L m) (bm (cs++x))=some (bm (cs++fi d (L.getD i default)++cB (d+1) (L.drop (i+1)))):=fun x hx=>by
      unfold mA;rw[hw,hx];exact fin
     cases hf:dd (L.getD i default) with
     | false =>
      rw[show(!false)=true from rfl,if_pos rfl];have:=j3 [] (by unfold fi;rw[hf];rfl);rwa[List.append_nil]at this
     | true =>
      rw[show(!true)=false from rfl,if_neg (by simp)];have j1:∀x,x=(bif (L.getD i default).Kind == 2 then cB d (L.getD i default).Kids else [])→lH (KN (N+1)) (N+1) L (i:Int) (iK (KN (N+1)) (N+1) L m) (bm (cs++x))=some (bm (cs++fi d (L.getD i default)++cB (d+1) (L.drop (i+1)))):=fun x hx=>by
       unfold lH n9;simp only[Option.bind_some,Int.toNat_natCast];have hxl:=vp d (L.getD i default).Kids;have hxk:∀r∈cs++x,bv r:=fun r hr=>by
        rcases List.mem_append.1 hr with hr|hr
        ·exact hok r hr
        ·rw[hx]at hr;cases h2:((L.getD i default).Kind == 2) with
         | false=>rw[h2]at hr;simp at hr
         | true=>rw[h2]at hr;exact qN d _ r hr
       have hxl2:x.length≤bn d (L.getD i default).Kids:=by
        rw[hx];cases ((L.getD i default).Kind == 2) with
        | false=>simp
        | true=>exact hxl
       cases h4:((L.getD i default).Kind == 3) with
       | true =>
        have hs1:=ip hxk;have hs2:=ip (cs:=(cF (L.getD i default).Text 0).filter bU) (fun r hr=>n3 r (List.mem_filter.1 hr).1);have hs3:=List.length_filter_le bU (cF (L.getD i default).Text 0);have hs4:=sY (L.getD i default).Text 0;rw[List.length_append]at hs1;rw[if_pos rfl,Aj (by omega) (by omega)];simp only[Option.bind_some];rw[n7 (by omega),bb,vS,List.append_assoc];exact j3 _ (by unfold fi;rw[hf,h4,hx];rfl)
       | false =>
        rw[if_neg (by simp)];exact j3 _ (by unfold fi;rw[hf,h4,hx];simp)
      cases h2:((L.getD i default).Kind == 2) with
      | true =>
       rw[if_pos rfl];have hk:=t2 (by simpa using h2);show((iP (KN N) N (L.getD i default).Kids).bind _)=_;rw[ih N _ hk (by omega) (by omega)];simp only[Option.bind_some];have hs1:=ip hok;have hs2:=ip (qN d (L.getD i default).Kids);have hs3:=vp d (L.getD i default).Kids;rw[n7 (by omega),bb,vS];exact j1 _ (by rw[h2];rfl)
      | false =>
       rw[if_neg (by simp)];have:=j1 [] (by rw[h2];rfl);rwa[List.append_nil]at this
    ·rw[if_neg (by simpa using hi),List.drop_eq_nil_of_le (by omega)];simp[cB]
  have:=loop (N+1) 0 [] (by omega) (by omega) (by rw[List.drop_zero];simpa using hc) (fun r hr=>by cases hr);rw[List.drop_zero,List.nil_append,zf]at this;exact this
theorem GV{K:Kn}{n:Nat}(f:af)(hfk:f.Kids.length≤1000000):∀(m i:Nat) (acc:ByteArray),i≤f.Kids.length→f.Kids.length<m+i→acc.size+(dq (f.Kids.drop i)).length≤1000000→∃b,jJ K n f m acc (i:Int)=some b∧b.data.toList=acc.data.toList++dq (f.Kids.drop i):=by
 intro m
 induction m with
 | zero=>intro i acc h1 h2;omega
 | succ m ih =>
  intro i acc h1 h2 h3;show ∃b,k7 K n f (jJ K n f m) acc i=some b∧_;unfold k7;by_cases hi:i<f.Kids.length
  ·have hdr:f.Kids.drop i=f.Kids.getD i default::f.Kids.drop (i+1):=by rw[List.drop_eq_getElem_cons hi,bT hi]
   have hw:aa ((i:Int)+1)=((i+1:Nat):Int):=by rw[bX (by omega) (by omega)];omega
   rw[hdr]at h3⊢;have e:dq (f.Kids.getD i default::f.Kids.drop (i+1))=(bif (f.Kids.getD i default).Kind == 3 then (f.Kids.getD i default).Text.data.toList else [])++dq (f.Kids.drop (i+1)):=rfl;rw[e]at h3⊢;rw[if_pos (by simpa using hi),b8 (by omega) (by omega)];simp only[bb,Option.bind_some,Int.toNat_natCast];unfold oE;rw[hw];cases hk:((f.Kids.getD i default).Kind == 3) with
   | true =>
    rw[hk]at h3;simp only[cond_true,List.length_append,fl]at h3;rw[if_pos rfl,n7 (by omega),bb];have hsz:(acc++(f.Kids.getD i default).Text).size=acc.size+(f.Kids.getD i default).Text.size:=by rw[←fl,mj,List.length_append,fl,fl]
    obtain⟨b,b1,b2⟩:=ih (i+1) (acc++(f.Kids.getD i default).Text) (by omega) (by omega) (by rw[hsz];omega);exact⟨b,b1,by rw[b2,mj];simp[List.append_assoc]⟩
   | false =>
    rw[hk]at h3;simp only[cond_false,List.nil_append]at h3;rw[if_neg (by simp)];obtain⟨b,b1,b2⟩:=ih (i+1) acc (by omega) (by omega) (by omega);exact⟨b,b1,by rw[b2];simp⟩
  ·rw[if_neg (by simpa using hi),List.drop_eq_nil_of_le (by omega)];exact⟨acc,rfl,by simp[dq]⟩
theorem HE{K:Kn}{n:Nat}{f:af}(hn:f.Kids.length<n)(hfk:f.Kids.length≤1000000){c:List Int}(hc:dq f.Kids=bh c)(hok:∀r∈c,bv r)(hl:c.length≤100000):ot K n f=some (bm c):=by
 have h4:=(lq hok).2;unfold ot;obtain⟨b,b1,b2⟩:=GV (K:=K) (n:=n) f hfk n 0 ⟨#[]⟩ (by omega) (by omega) (by rw[List.drop_zero,hc];show 0+_≤_;omega);rw[show jJ K n f n ⟨#[]⟩ 0=some b from b1];congr 1;apply xa;rw[b2,ew,List.drop_zero,hc];rfl
def gd(C:List (List aj)):List Nat→List (List Int)
 | a::b::r=>nJ C a b::gd C (b::r)
 | _=>[]
theorem sU(C:List (List aj)):∀S,(gd C S).flatten=g9 C S
 | []=>rfl
 | [a]=>rfl
 | a::b::r=>by unfold gd g9;rw[List.flatten_cons,sU C (b::r)]
theorem Kb(c:List aj):(ge c).length≤c.length:=by
 have:(bg c).length≤c.length:=by unfold bg;rw[List.length_map];exact List.length_filter_le _ _
 unfold ge;cases (dr (bg c)&&(c.getD 0 default).Box.Style.WhiteSpace != 2) with
 | false=>exact this
 | true=>simp;omega
theorem yQ(last:Int):∀(C:List (List aj)) (i:Int),(dB last i C).length≤C.flatten.length
 | [],i=>by simp[dB]
 | c::r,i=>by
  unfold dB;rw[List.length_append,List.flatten_cons,List.length_append];have h1:=yQ last r (i+1);have h2:(bg c).length≤c.length:=by unfold bg;rw[List.length_map];exact List.length_filter_le _ _
  have h3:=Kb c;cases (i == last) with
  | false=>simp only[cond_false];omega
  | true=>simp only[cond_true];omega
theorem zq{α:Type}{C:List α}{a b:Nat}(h:a≤b):C=C.take a++sl C a b++C.drop b:=by
 have:C.take a++sl C a b=C.take b:=by
  unfold sl
  conv=>rhs;rw[←List.take_append_drop a (C.take b)]
  rw[List.take_take,Nat.min_eq_left h]
 rw[this,List.take_append_drop]
theorem zb(C:List (List aj)):∀(S:List Nat) (a:Nat),gQ C.length (a::S)→(g9 C (a::S)).length≤(C.drop a).flatten.length
 | [],a,_=>by simp[g9]
 | b::r,a,h=>by
  have h1:=zb C r b h.2.2;have h2:=yQ (eI 0 (-1) ((sl C a b).map cf)) (sl C a b) 0;unfold g9;rw[List.length_append];have e:C.drop a=sl C a b++C.drop b:=by
   have:=zq (C:=C) h.1
   conv=>lhs;rw[this]
   have hle:a≤C.length:=Nat.le_trans h.1 h.2.1;rw[List.append_assoc,List.drop_append_of_le_length (by simp;omega)];simp
  rw[e,List.flatten_append,List.length_append];unfold nJ;omega
theorem B8(C:List (List aj)):∀(S:List Nat),gQ C.length S→∀c∈gd C S,∃a b,a≤b∧b≤C.length∧c=nJ C a b
 | [],_,c,h=>by cases h
 | [a],_,c,h=>by cases h
 | a::b::r,hA,c,h=>by
  unfold gd at h;rcases List.mem_cons.1 h with rfl|h
  ·exact⟨a,b,hA.1,hA.2.1,rfl⟩
  ·exact B8 C (b::r) hA.2.2 c h
theorem zM{s:aB}{w:Int}{X:List aq}{C:List (List aj)}(hX:X.map tf=C.map cf)(hb:∀r∈X,∀f∈r.Box,f.Kind=1)(hC:∀c∈C,∀e∈c,fa e):∀(S:List Nat) (h:Int),(ec s w X h S).1.map (fun f=>dq f.Kids)=(gd C S).map bh
 | [],h=>rfl
 | [a],h=>rfl
 | a::b::r,h=>by
  unfold ec gd;simp only[List.map_cons];rw[zM hX hb hC (b::r)];congr 1;unfold iU;simp only[List.nil_append];have e:(sl X a b).map tf=(sl C a b).map cf:=by rw[uK,uK,hX]
  rw[AF _ _ _ (fun r hr=>hb r (lP hr)),show rC (sl X a b)=_ from yS _ _ _,e,yG _ _ _ (fun c hc=>hC c (lP hc))];rfl
theorem z7{s:aB}{w:Int}{X:List aq}(hb:∀r∈X,r.Box.length≤1):∀(S:List Nat) (h:Int),∀f∈(ec s w X h S).1,f.Kids.length≤2*X.length
 | [],h,f,hf=>by cases hf
 | [a],h,f,hf=>by cases hf
 | a::b::r,h,f,hf=>by
  unfold ec at hf;rcases List.mem_cons.1 hf with rfl|hf
  ·have ln:∀(above last:Int) (L:List aq) (i x:Int),(∀r∈L,r.Box.length≤1)→(fv above last i x L).length≤2*L.length:=fun above last L=>by
    induction L with
    | nil=>intro i x _;simp[fv]
    | cons r t ih =>
     intro i x hL;unfold fv;simp only[List.length_append,List.length_cons];have h1:=ih (i+1) (aa (x+aa ((bif i == last then stripR r else r).Width+(bif i == last then stripR r else r).Space))) (fun r hr=>hL r (by simp[hr]));have h2:(gi above x (bif i == last then stripR r else r)).length≤2:=by
      have hbx:(bif i == last then stripR r else r).Box.length≤1:=by
       have h0:=hL r (by simp);cases (i == last) with
       | false=>exact h0
       | true =>
        unfold stripR;cases (d7 r.Text&&r.Style.WhiteSpace != 2)<;>exact h0
      generalize (bif i == last then stripR r else r)=r' at hbx;unfold gi nC;cases r'.Text.data.toList.isEmpty<;>simp<;>omega
     omega
   show(iU s w (sl X a b)).Kids.length≤_;unfold iU;simp only[List.nil_append];have h1:=ln (fj (fA s) (sl X a b)).1 (rC (sl X a b)) (sl X a b) 0 (qv s w (ke ((sl X a b).map vI))) (fun r hr=>hb r (lP hr));have h2:=rq X a b;omega
  ·exact z7 hb (b::r) _ f hf
theorem Fx:∀(m:Nat) (l:List aj),(∀e∈l,e.Kind=1∨e.Kind=2)→∀c∈ck m l,c≠[]∧((cf c).2.1=true→∃e,c=[e]∧e.Kind=2)∧((cf c).2.1=false→∀e∈c,e.Kind=1):=by
 intro m
 induction m with
 | zero=>intro l _ c h;cases h
 | succ m ih =>
  intro l hl c h;cases l with
  | nil=>cases h
  | cons e r =>
   have hr:∀x∈r,x.Kind=1∨x.Kind=2:=fun x hx=>hl x (by simp[hx]);unfold ck at h;rcases hl e (by simp)with k|k
   ·have e2:(e.Kind == 2||e.Kind == 3)=false:=by rw[k];rfl
    rw[e2]at h;simp only[cond_false]at h;rcases List.mem_cons.1 h with rfl|h
    ·refine⟨by simp,fun q=>?_,fun _ y hy=>?_⟩
     ·have q:(e.Kind == 2)=true:=q;rw[k]at q;cases q
     ·rcases List.mem_cons.1 hy with rfl|hy
      ·exact k
      ·exact wm _ _ _ y hy
    ·exact ih _ (fun x hx=>hr x (List.mem_of_mem_drop hx)) c h
   ·have e2:(e.Kind == 2||e.Kind == 3)=true:=by rw[k];rfl
    rw[e2]at h;simp only[cond_true]at h;rcases List.mem_cons.1 h with rfl|h
    ·refine⟨by simp,fun _=>⟨e,rfl,k⟩,fun q=>?_⟩;have q:(e.Kind == 2)=false:=q;rw[k]at q;cases q
    ·exact ih _ hr c h
theorem xM(d:Nat)(bx:List ag):∀e∈cO d bx,e.Kind=1∨e.Kind=2∨e.Kind=3 :=
 uO (P:=fun e=>e.Kind=1∨e.Kind=2∨e.Kind=3) (fun _ _ _ _ _=>.inl rfl) (fun _ _=>.inr (.inl rfl)) (fun _ _ _=>.inl rfl) (fun _ _ _=>.inl rfl) (fun _ _=>.inr (.inl rfl)) (fun _ _=>.inr (.inr rfl)) d bx (0,[]) (fun x hx=>by cases hx)
theorem ES{l:List bB}{d:Nat}{bx:List ag}(hb:Bx l d bx)(hp:∀s∈l,s.Style.WhiteSpace≠2∧Int.tmod s.Kind 8≠6):Calm (cO (d+1) bx):=by
 have hws:∀e∈cO (d+1) bx,e.Box.Style.WhiteSpace≠2:=sV d bx (0,[]) (fun b=>b.Style.WhiteSpace≠2) hb (fun b R hk=>by
  obtain⟨s,hs,h1,_⟩:=hk;rw[h1];exact(hp s hs).1) (fun x hx=>by cases hx)
 have hno:∀e∈cO (d+1) bx,e.Box.Kind≠5:=sV d bx (0,[]) (fun b=>b.Kind≠5) hb (fun b R hk h5=>by
  obtain⟨s,hs,_,q|q|q|q⟩:=hk
  ·rw[q.1]at h5;cases h5
  ·rw[q.1]at h5;cases h5
  ·exact(hp s hs).2 q.2.2.1
  ·rw[q.1]at h5;cases h5) (fun x hx=>by cases hx)
 have hobj:=xO (d+1) bx (0,[]) (fun x hx=>by cases hx);have hsoft:∀e∈cO (d+1) bx,e.Kind=1→e.Char=32→e.Soft=true∨e.Box.Style.WhiteSpace=2 :=
  uO (P:=fun e=>e.Kind=1→e.Char=32→e.Soft=true∨e.Box.Style.WhiteSpace=2) (fun b num r _ hs _ h32=>by
   have h32:r=32:=h32;subst h32;cases hs) (fun _ _ h=>by cases h) (fun b _ h _ _=>.inr h) (fun _ _ _ _ _=>.inl rfl) (fun _ _ h=>by cases h) (fun _ _ h=>by cases h) (d+1) bx (0,[]) (fun x hx=>by cases hx)
 refine⟨IJ (d+1) bx (0,[]) EQ,fun e he=>?_,fun e he h1 h32=>?_,fun e he=>?_⟩
 ·rcases xM (d+1) bx e he with h|h|h
  ·exact .inl h
  ·exact .inr h
  ·exact absurd (hobj e he h) (hno e he)
 ·rcases hsoft e he h1 h32 with h|h
  ·exact h
  ·exact absurd h (hws e he)
 ·have:=hws e he;simpa using this
theorem LK{c:List Int}(hok:∀r∈c,bv r)(hne:bh c≠[]):(jD (bm c) ((bh c).length-1) == 32)=dr c:=by
 rw[←AO hok,List.getLast?_eq_getElem?];have h0:0<(bh c).length:=List.length_pos_iff.2 hne;have h:(bh c).length-1<(bh c).length:=by omega
 rw[List.getElem?_eq_getElem h];have hb:jD (bm c) ((bh c).length-1)=(((bh c)[(bh c).length-1]).toNat:Int):=by
  unfold jD bm;simp[Array.getD,h0];rw[dif_pos h]
 rw[hb];generalize (bh c)[(bh c).length-1]=x;by_cases e:x=32
 ·subst e;rfl
 ·have h1:(some x == some 32)=false:=by simpa using e
  rw[h1,beq_eq_false_iff_ne];intro q;exact e (UInt8.toNat_inj.1 (by rw[show(32:UInt8).toNat=32 from rfl];omega))
section
variable{K:Kn}{n:Nat}{v6:Bool}{bx:List ag}{F:List af}{z:Int}{Ls:List (List Int)}{tx:List Int}
theorem II(hF:F.map (fun f=>dq f.Kids)=Ls.map bh)(hok:∀c∈Ls,∀r∈c,bv r)(hk:∀f∈F,f.Kids.length≤10000)(hend:v6=false→∀c∈Ls,dr c=false)(hn:12000≤n)(hFl:F.length≤10000)(htx:iP K n bx=some (bm tx)):
  ∀(m i:Nat) (cs:List Int),i≤F.length→F.length<m+i→(∀r∈cs,bv r)→cs.length+(Ls.drop i).flatten.length≤2500→(cs++(Ls.drop i).flatten).filter bU=tx→iW K n v6 bx (F,z) m (bm cs) (i:Int)=some true:=by
 have hlen:F.length=Ls.length:=by simpa using congrArg List.length hF
 intro m
 induction m with
 | zero=>intro i cs h1 h2;omega
 | succ m ih =>
  intro i cs h1 h2 h3 h4 h5;show lB K n v6 bx (F,z) (iW K n v6 bx (F,z) m) (bm cs) i=_;unfold lB;by_cases hi:i<F.length
  ·have hil:i<Ls.length:=by omega
   have hm:F.getD i default∈F:=by rw[bT hi];exact List.getElem_mem _
   have hml:Ls.getD i default∈Ls:=by rw[bT hil];exact List.getElem_mem _
   have hdr:Ls.drop i=Ls.getD i default::Ls.drop (i+1):=by rw[List.drop_eq_getElem_cons hil,bT hil]
   have hsh:dq (F.getD i default).Kids=bh (Ls.getD i default):=by
    have h6:(F.map (fun f=>dq f.Kids))[i]?=(Ls.map bh)[i]?:=by rw[hF]
    rw[List.getElem?_map,List.getElem?_map,List.getElem?_eq_getElem hi,List.getElem?_eq_getElem hil]at h6;rw[bT hi,bT hil];simpa using h6
   have hw:aa ((i:Int)+1)=((i+1:Nat):Int):=by rw[bX (by omega) (by omega)];omega
   rw[hdr,List.flatten_cons]at h4 h5;generalize hc:Ls.getD i default=c at *;have hokc:=hok c hml;have hcl:c.length≤2500:=by rw[List.length_append]at h4;omega
   rw[if_pos (by simpa using hi),b8 (by omega) (by simpa using hi),bb];simp only[Int.toNat_natCast];have hkm:=hk _ hm;rw[HE (by omega) (by omega) hsh hokc (by omega)];simp only[Option.bind_some];have hs1:=ip h3;have hs2:=ip hokc;rw[List.length_append]at h4;have j3:jx K n v6 bx (F,z) (bm cs) (i:Int) (bm c) (iW K n v6 bx (F,z) m) false=some true:=by
    unfold jx;rw[if_neg (by simp),n7 (by omega),bb,vS,hw];refine ih (i+1) (cs++c) (by omega) (by omega) (fun r hr=>?_) (by rw[List.length_append];omega) (by rw[List.append_assoc];exact h5);rcases List.mem_append.1 hr with hr|hr
    ·exact h3 r hr
    ·exact hokc r hr
   cases v6 with
   | true=>rw[show(!true)=false from rfl,if_neg (by simp)];exact j3
   | false =>
    rw[show(!false)=true from rfl,if_pos rfl,nS,xx,ew];by_cases hne:bh c=[]
    ·rw[hne,if_neg (by simp)];exact j3
    ·have h0:0<(bh c).length:=List.length_pos_iff.2 hne;have e1:aa (((bm c).size:Int)-1)=(((bh c).length-1:Nat):Int):=by
      rw[jq]at hs2⊢;rw[bX (by omega) (by omega)];omega
     rw[if_pos (by simpa using hne),e1,b8 (by omega) (by rw[jq];omega),bb,Int.toNat_natCast,LK hokc hne,hend rfl c hml];exact j3
  ·rw[if_neg (by simpa using hi)];rw[List.drop_eq_nil_of_le (by omega)]at h4 h5;simp only[List.flatten_nil,List.append_nil]at h4 h5;have hs:=ip h3;rw[Aj (by omega) (by omega),htx,wx h3,h5];simp only[Option.bind_some];simp
end
theorem F5{K:Kn}{n:Nat}{l:List bB}{v2:Int}(hl:l.length≤1000)(hrest:∀v6:Bool,(v6=false→∀s∈l,s.Style.WhiteSpace≠2∧Int.tmod s.Kind 8≠6)→((lY K n l).bind fun v9=>(lz K n l).bind fun v10=>(iy K n ).bind fun v11=>(ix K n v9 v10 v2 v11).bind fun v12=>iW K n v6 v9 v12 n ⟨#[]⟩ 0)=some true):
  ∀(m i:Nat) (v6:Bool),i≤l.length→l.length<m+i→(v6=false→∀s∈l.take i,s.Style.WhiteSpace≠2∧Int.tmod s.Kind 8≠6)→kZ K n l v2 m v6 (i:Int)=some true:=by
 intro m
 induction m with
 | zero=>intro i v6 h1 h2;omega
 | succ m ih =>
  intro i v6 h1 h2 h3;show mM K n l v2 (kZ K n l v2 m) v6 i=_;unfold mM;by_cases hi:i<l.length
  ·have hw:aa ((i:Int)+1)=((i+1:Nat):Int):=by rw[bX (by omega) (by omega)];omega
   have ht:l.take (i+1)=l.take i++[l.getD i default]:=by
    rw[List.take_add_one,List.getElem?_eq_getElem hi,bT hi];rfl
   rw[if_pos (by simpa using hi),b8 (by omega) (by omega),bb];simp only[Int.toNat_natCast];unfold lJ;rw[hw];cases v6 with
   | true=>rw[if_pos rfl];exact ih (i+1) true (by omega) (by omega) (fun h=>by cases h)
   | false =>
    rw[if_neg (by simp)];cases hws:((l.getD i default).Style.WhiteSpace == 2) with
    | true=>rw[if_pos rfl];exact ih (i+1) true (by omega) (by omega) (fun h=>by cases h)
    | false =>
     rw[if_neg (by simp)];refine ih (i+1) _ (by omega) (by omega) (fun h s hs=>?_);rw[ht]at hs;rcases List.mem_append.1 hs with hs|hs
     ·exact h3 rfl s hs
     ·rw[List.mem_singleton.1 hs];exact⟨by simpa using hws,by simpa using h⟩
  ·rw[if_neg (by simpa using hi)];refine hrest v6 (fun h s hs=>h3 h s ?_);rw[List.take_of_length_le (by omega)];exact hs
theorem MA(K:Kn)(n:Nat)(l:List bB):∃s,lz K n l=some s:=by
 unfold lz;cases l with
 | nil=>exact⟨_,rfl⟩
 | cons x r=>rw[if_neg (by simp;omega),b8 (by omega) (by simp)];exact⟨_,rfl⟩
theorem holds(x0:List bB)(x1:Int)(h0:bL Try.prog 32 ((vx bu) x0))(h1:bL Try.prog 3 ((bz .i64) x1)):∃n,sr (KN n) n x0 x1=some true:=by
 obtain⟨l,hl,hm,_⟩:=h0.Cj Try.underlying32;simp only[vx,List.cons.injEq,AV.sl.injEq,and_true]at hl;have hlen:l.length=x0.length:=by rw[←hl,List.length_map]
 have hm':l.length≤9223372036854775807:=hm;refine⟨(x0.length+14000)+11,?_⟩;generalize hM:x0.length+14000=M;obtain⟨v,hv,hv2⟩:=LC (KN (M+11)) (M+11) x0 16 (by omega) (by omega);unfold sr ql;rw[show m5 (KN (M+11)) (M+11)=some true from by
  have:=Ld (M-29);rwa[show M-29+40=M+11 by omega]at this,hv]
 simp only[Option.bind_some,Bool.not_true,Bool.false_eq_true,if_false];cases v with
 | false=>rfl
 | true =>
  have h16:x0.length≤16:=by have:=(hv2 rfl).1;omega
  have ht:∀s∈x0,s.Text.size≤60:=fun s hs=>by have:=((hv2 rfl).2 s hs).text;omega
  obtain⟨bx,b1,b2,b3,b4⟩:=Gt h16 ht (N:=M+11) (by omega);have hcnt:bn (16+1) bx≤2000:=by have:bn (16+1) bx≤992:=b4;omega
  rw[if_neg (by simp)];refine F5 (by omega) (fun v6 hpre=>?_) (M+11) 0 false (by omega) (by omega) (fun _ s hs=>by simp at hs);obtain⟨st,hst⟩:=MA (KN (M+11)) (M+11) x0;rw[b1,hst];simp only[Option.bind_some,iy];rw[show ix (KN (M+11)) (M+11) bx st x1 (⟨(Fv.fn 36),(Fv.fn 37),(Fv.fn 38),(Fv.fn 39)⟩:ca)=_ from HV ht b2 hcnt (M:=M) (by omega) st x1];simp only[Option.bind_some];have hXl:=CC M (16+1) (bD x1) bx;have hXo:=CO ht b2 hcnt (M:=M) (by omega) (bD x1);have hkinds:=xM (16+1) bx;have hEok:=vB (16+1) bx;have hElen:=qe (16+1) bx;have hX:(eJ M (16+1) (bD x1) bx).map tf=(ck ((cO (16+1) bx).length+1) (cO (16+1) bx)).map cf:=by
   unfold eJ gL;refine DM _ none _ hkinds (fun e he h3=>?_);obtain⟨k,hk⟩:=qt ht b2 e he h3;obtain⟨p1,_,p3⟩:=tm hk (M:=M) (by omega) (bD x1);exact⟨p1,p3⟩
  have hXk:∀r∈eJ M (16+1) (bD x1) bx,∀f∈r.Box,f.Kind=1:=by
   unfold eJ gL;refine xp (P:=fun r=>∀f∈r.Box,f.Kind=1) (fun e g f hf=>?_) _ _ _ (fun e he h3 g f hf=>?_) (fun e g x _ _ _ f hf=>?_)
   ·cases hf
   ·obtain⟨k,hk⟩:=qt ht b2 e he h3;obtain⟨_,⟨f',p2,p4⟩,_⟩:=tm hk (M:=M) (by omega) (bD x1);have hf:f∈(eX M (bD x1) e.Box).Box:=hf;rw[p2]at hf;rw[List.mem_singleton.1 hf];exact p4
   ·cases hf
  have hcalm:v6=false→Calm (cO (16+1) bx):=fun h=>ES b2 (hpre h);have hnsp:(bg (cO (16+1) bx)).filter bU=cB (16+1) bx:=by
   exact Ds (16+1) bx (0,[])
  have htxt:=tT (16+1) (M+11) bx b3 (by omega) (by omega);generalize eJ M (16+1) (bD x1) bx=X at *;generalize cO (16+1) bx=E at *;have hfl:=Lz (E.length+1) E (by omega);generalize hCe:ck (E.length+1) E=C at *;have hCX:C.length=X.length:=by simpa using (congrArg List.length hX).symm
  have hA:gQ C.length (cQ X (bD x1)):=by
   have:=Dk (X.map vI) (bD x1) (X.length+1) 0 (by omega) (by simp);rw[List.length_map]at this;rw[hCX];exact this
  obtain⟨S,hS⟩:∃S,cQ X (bD x1)=0::S:=by
   have:=zE (X.map vI) (bD x1) (X.length+1) 0 (by omega) (by simp);rw[List.length_map]at this;exact this
  have hlast:(0::S).getLast (by simp)=C.length:=by
   have e:cQ X (bD x1)=bM (X.map vI) (bD x1) (X.length+1) 0++[X.length]:=rfl;rw[hS]at e;have h9:(0::S).getLast?=some X.length:=by rw[e];simp
   rw[List.getLast?_eq_some_getLast (by simp)]at h9;rw[hCX];simpa using h9
  have hel:(cQ X (bD x1)).length≤X.length+2:=by
   have:=tP (X.map vI) (bD x1) (X.length+1) 0;simp only[List.length_map]at this;unfold cQ;simp only[List.length_append,List.length_cons,List.length_nil];omega
  have hCok:∀c∈C,∀e∈c,fa e:=fun c hc e he=>hEok e (by rw[←hfl];exact List.mem_flatten.2 ⟨c,hc,he⟩);have hsh:=zM (s:=st) (w:=bD x1) hX hXk hCok (cQ X (bD x1)) 0;have hkd:=z7 (s:=st) (w:=bD x1) (fun r hr=>(hXo r hr).1) (cQ X (bD x1)) 0;have hFl:=Bh st (bD x1) X (cQ X (bD x1)) 0;have hlm:=B8 C (cQ X (bD x1)) hA;have hal:(gd C (cQ X (bD x1))).flatten.length≤E.length:=by
   rw[sU,hS];rw[hS]at hA;have:=zb C S 0 hA;rw[List.drop_zero,hfl]at this;exact this
  have hfi:(gd C (cQ X (bD x1))).flatten.filter bU=cB (16+1) bx:=by
   rw[sU,hS];rw[hS]at hA;rw[Bg C S 0 hA,hlast,Fl,hfl,hnsp]
  generalize ec st (bD x1) X 0 (cQ X (bD x1))=Q at *;refine II (F:=Q.1) (z:=Q.2) (Ls:=gd C (cQ X (bD x1))) (tx:=cB (16+1) bx) hsh (fun c hc r hr=>?_) (fun f hf=>by have:=hkd f hf;omega) (fun h c hc=>?_) (by omega) (by omega) htxt (M+11) 0 [] (by omega) (by omega) (fun r hr=>by cases hr) (by rw[List.drop_zero];show 0+_≤2500;omega) (by rw[List.drop_zero,List.nil_append];exact hfi)
  ·obtain⟨a,b,q1,q2,rfl⟩:=hlm c hc;exact Cr _ _ _ (fun c' hc'=>hCok c' (lP hc')) r hr
  ·obtain⟨a,b,q1,q2,rfl⟩:=hlm c hc;have hcm:=hcalm h;refine Mp (E:=E) (pre:=(C.take a).flatten) (post:=(C.drop b).flatten) (C:=sl C a b) hcm ?_ (fun c' hc'=>?_)
   ·rw[←List.flatten_append,← List.flatten_append,← zq q1,hfl]
   ·rw[←hCe]at hc';exact Fx _ E hcm.kind c' (lP hc')
end
end Go.Proofs.Ytnpmlepplfaijaa.QInlineText
