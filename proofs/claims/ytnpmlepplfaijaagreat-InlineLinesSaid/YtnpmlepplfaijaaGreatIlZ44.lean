/- Plain laws about the plain functions: words for all of them. No program in sight. -/
import Derived.Test.YtnpmlepplfaijaaGreatIlGf
import Derived.Lib.TrimUEq
import Derived.Laws.BitsLemmas
namespace Go.Proofs.YtnpmlepplfaijaaGreat
set_option linter.all false
open Go.RowKit
theorem bG{n:Int}(h1 : -9223372036854775808≤n)(h2:n≤9223372036854775807):aa n=n:=by
 unfold aa;rw[IntKind.wrap_i64];omega
theorem aW{α:Type}(x:Option α):aA true x=x:=rfl
theorem Yp{α β:Type}(f:α→β)(c:Bool)(x:Option α):(aA c x).map f=aA c (x.map f):=by cases c<;>rfl
theorem SW{α β:Type}(f:α→β)(c:Prop)[Decidable c](x y:Option α):(if c then x else y).map f=if c then x.map f else y.map f:=by split<;>rfl
theorem bV{i:Int}{n:Nat}(h0:0≤i)(h1:i<n):bd i n=true:=by simp[bd,h0,h1]
theorem b9{α:Type}[Inhabited α]{L:List α}{k:Nat}(h:k<L.length):L.getD k default=L[k]:=by simp[List.getD_eq_getElem?_getD,List.getElem?_eq_getElem h]
theorem cv{n b:Nat}(h:n*b≤140737488355328)(hb:0<b):fits n b=true:=by
 have h1:n≤n*b:=Nat.le_mul_of_pos_right n hb;have h2:n≤9223372036854775807:=by omega
 simp only[fits,Bool.and_eq_true,decide_eq_true_eq];exact⟨h2,h⟩
end Go.Proofs.YtnpmlepplfaijaaGreat
namespace Go.Proofs.YtnpmlepplfaijaaGreat
set_option linter.all false
open Go.RowKit
def cO(r:Int):List UInt8:=(Utf8.encode r).data.toList
def cy(r:Int):Prop:=(0≤r∧r<55296)∨(57344≤r∧r≤1114111)
theorem YD{r:Int}(h:cy r):Utf8.valid r=true:=by
 unfold cy at h;unfold Utf8.valid;simp only[Bool.or_eq_true,Bool.and_eq_true,decide_eq_true_eq];omega
theorem dX{n:Nat}(h:n<256):(UInt8.ofNat n).toNat=n:=by rw[UInt8.toNat_ofNat',Nat.mod_eq_of_lt h]
theorem wZ {r:Int} (h:cy r):∃ c:Nat,r=(c:Int) ∧
    ((c<128∧cO r=[UInt8.ofNat c])∨(128≤c∧c<2048∧cO r=[UInt8.ofNat (192+c / 64),UInt8.ofNat (128+c % 64)]) ∨
     (2048≤c∧c<65536∧(c<55296∨57344≤c)∧cO r=[UInt8.ofNat (224+c / 4096),UInt8.ofNat (128+c / 64 % 64),UInt8.ofNat (128+c % 64)]) ∨
     (65536≤c∧c≤1114111∧cO r=[UInt8.ofNat (240+c / 262144),UInt8.ofNat (128+c / 4096 % 64),UInt8.ofNat (128+c / 64 % 64),UInt8.ofNat (128+c % 64)])):=by
  refine⟨r.toNat,by unfold cy at h;omega,?_⟩;unfold cO Utf8.encode;simp only[YD h,if_true];unfold cy at h;generalize hc:r.toNat=c at *;by_cases h1:c<128
  · left;simp[h1]
  · by_cases h2:c<2048
    · right;left;simp[h1,h2];omega
    · by_cases h3:c<65536
      · right;right;left;simp[h1,h2,h3];omega
      · right;right;right;simp[h1,h2,h3];omega
theorem Ci{r:Int}(h:cy r)(t:List UInt8):Lib.decodeL (cO r++t)=(r.toNat,(cO r).length):=by
 obtain⟨c,rfl,h|h|h|h⟩:=wZ h
 ·rw[h.2,Lib.decodeL_N];simp only[List.cons_append,List.nil_append,List.getD_cons_zero,dX (show c<256 by omega),Int.toNat_natCast,List.length_cons,List.length_nil];unfold Lib.decodeN;rw[if_pos h.1]
 ·rw[h.2.2,Lib.decodeL_N];simp only[List.cons_append,List.nil_append,List.getD_cons_zero,List.getD_cons_succ,dX (show 192+c / 64<256 by omega),dX (show 128+c % 64<256 by omega),Int.toNat_natCast,List.length_cons,List.length_nil];unfold Lib.decodeN;rw[if_neg (by omega),if_pos (by omega),if_pos (by omega)];congr 1;omega
 ·rw[h.2.2.2,Lib.decodeL_N];simp only[List.cons_append,List.nil_append,List.getD_cons_zero,List.getD_cons_succ,dX (show 224+c / 4096<256 by omega),dX (show 128+c / 64 % 64<256 by omega),dX (show 128+c % 64<256 by omega),Int.toNat_natCast,List.length_cons,List.length_nil];unfold Lib.decodeN;rw[if_neg (by omega),if_neg (by omega),if_pos (by omega),if_pos (by omega)];congr 1;omega
 ·rw[h.2.2,Lib.decodeL_N];simp only[List.cons_append,List.nil_append,List.getD_cons_zero,List.getD_cons_succ,dX (show 240+c / 262144<256 by omega),dX (show 128+c / 4096 % 64<256 by omega),dX (show 128+c / 64 % 64<256 by omega),dX (show 128+c % 64<256 by omega),Int.toNat_natCast,List.length_cons,List.length_nil];unfold Lib.decodeN;rw[if_neg (by omega),if_neg (by omega),if_neg (by omega),if_pos (by omega),if_pos (by omega)];congr 1;omega
theorem wc{r:Int}(h:cy r):1≤(cO r).length∧(cO r).length≤4:=by
 obtain⟨c,_,h|h|h|h⟩:=wZ h
 ·rw[h.2];simp
 ·rw[h.2.2];simp
 ·rw[h.2.2.2];simp
 ·rw[h.2.2];simp
theorem QE(n b0 b1 b2 b3:Nat):cy ((Lib.decodeN n b0 b1 b2 b3).1:Int):=by
 unfold Lib.decodeN cy
 repeat' split
 all_goals simp only[]
 all_goals omega
theorem TD(l:List UInt8):cy ((Lib.decodeL l).1:Int):=by rw[Lib.decodeL_N];exact QE _ _ _ _ _
def fZ:Nat→List UInt8→List Int
 | 0,_=>[]
 | n+1,l=>if l.isEmpty=true then [] else ((Lib.decodeL l).1:Int)::fZ n (l.drop (Lib.decodeL l).2)
theorem PM:∀(n m:Nat) (l:List UInt8),l.length≤n→l.length≤m→fZ n l=fZ m l:=by
 intro n
 induction n with
 | zero =>
  intro m l h1 h2;have:l=[]:=List.eq_nil_of_length_eq_zero (by omega);subst this;cases m<;>simp[fZ]
 | succ n ih =>
  intro m l h1 h2;cases m with
  | zero =>
   have:l=[]:=List.eq_nil_of_length_eq_zero (by omega);subst this;simp[fZ]
  | succ m =>
   unfold fZ;split
   ·rfl
   ·have:=Lib.decodeL_width l;rw[ih m _ (by simp;omega) (by simp;omega)]
def gn(l:List UInt8):List Int:=fZ l.length l
theorem N6:gn []=[]:=rfl
theorem Ma{l:List UInt8}(h:l≠[]):gn l=((Lib.decodeL l).1:Int)::gn (l.drop (Lib.decodeL l).2):=by
 unfold gn;cases l with
 | nil=>exact absurd rfl h
 | cons x r =>
  have:=Lib.decodeL_width (x::r);rw[show fZ (x::r).length (x::r)=((Lib.decodeL (x::r)).1:Int)::fZ r.length ((x::r).drop (Lib.decodeL (x::r)).2) from rfl];rw[PM r.length _ _ (by simp;omega) (Nat.le_refl _)]
theorem MD{r:Int}(h:cy r)(t:List UInt8):gn (cO r++t)=r::gn t:=by
 have hl:=wc h;rw[Ma (by intro e;rw[List.append_eq_nil_iff]at e;rw[e.1]at hl;simp at hl),Ci h t];simp only[List.drop_left];congr 1;unfold cy at h;omega
def cA(rs:List Int):List UInt8:=rs.flatMap cO
theorem Hp(r:Int)(rs:List Int):cA (r::rs)=cO r++cA rs:=by simp[cA]
theorem xv(a b:List Int):cA (a++b)=cA a++cA b:=by simp[cA]
theorem Gd:∀{rs:List Int} (t:List UInt8),(∀r∈rs,cy r)→gn (cA rs++t)=rs++gn t
 | [],t,_=>rfl
 | r::rs,t,h=>by
  rw[Hp,List.append_assoc,MD (h r (by simp)),Gd t (fun x hx=>h x (by simp[hx]))];rfl
theorem YJ{rs:List Int}(h:∀r∈rs,cy r):gn (cA rs)=rs:=by
 have:=Gd [] h;simpa[N6]using this
theorem E2:∀(n:Nat) (l:List UInt8),∀r∈fZ n l,cy r
 | 0,_,r,h=>by cases h
 | n+1,l,r,h=>by
  unfold fZ at h;split at h
  ·cases h
  ·rcases List.mem_cons.1 h with rfl|h
   ·exact TD l
   ·exact E2 n _ r h
theorem zM{l:List UInt8}:∀r∈gn l,cy r:=E2 _ _
theorem Jo:∀(n:Nat) (l:List UInt8),(fZ n l).length≤n
 | 0,_=>by simp[fZ]
 | n+1,l=>by
  unfold fZ;split
  ·simp
  ·have:=Jo n (l.drop (Lib.decodeL l).2);simp;omega
theorem YE(l:List UInt8):(gn l).length≤l.length:=Jo _ _
def eC(b:ByteArray)(p:Nat):List Int:=gn (b.data.toList.drop p)
theorem kE(b:ByteArray):b.data.toList.length=b.size:=rfl
theorem z9{b:ByteArray}{p:Nat}(h:¬ p<b.size):eC b p=[]:=by
 unfold eC;rw[List.drop_eq_nil_of_le (by rw[kE];omega)];rfl
theorem Cd{b:ByteArray}{p:Nat}(h:p<b.size):eC b p=((Utf8.decode b p).1:Int)::eC b (p+(Utf8.decode b p).2):=by
 unfold eC;rw[Ma (by intro e;have:=congrArg List.length e;simp at this;have h2:=kE b;simp at h2;omega),Lib.decodeL_drop,List.drop_drop]
theorem DR(b:ByteArray)(p:Nat):1≤(Utf8.decode b p).2:=by rw[←Lib.decodeL_drop];exact Lib.decodeL_width _
end Go.Proofs.YtnpmlepplfaijaaGreat
namespace Go.Proofs.YtnpmlepplfaijaaGreat
set_option linter.all false
open Go.RowKit
def ints(l:List UInt8):List Int:=l.map fun b=>(b.toNat:Int)
theorem P2(a b:List UInt8):ints (a++b)=ints a++ints b:=by simp[ints]
theorem XF(a:List UInt8):(ints a).length=a.length:=by simp[ints]
theorem QX(x y:Int):fp .u8 x y=bits .and .u8 x y:=rfl
theorem y5(x y:Int):dL .u8 x y=bits .or .u8 x y:=rfl
theorem w8{n:Int}(h:0≤n∧n<256):IntKind.wrap .u8 n=n:=by rw[IntKind.wrap_u8];omega
theorem qI(y:Int):dL .u8 128 (fp .u8 (IntKind.wrap .u8 y) 63)=128+y % 64:=by
 have h:0≤IntKind.wrap .u8 y∧IntKind.wrap .u8 y<256:=by rw[IntKind.wrap_u8];omega
 rw[QX,u8_and63 _ h.1 h.2,y5,u8_or128 _ (by omega) (by omega),IntKind.wrap_u8];omega
section
variable{K:Kn}{n:Nat}
theorem Uk{r:Int}(h:cy r){L:List Int}(hL:L.length≤1000000):sE K n r L=some (L++ints (cO r)):=by
 have h32:IntKind.wrap .u32 r=r:=by rw[IntKind.wrap_u32];unfold cy at h;omega
 unfold sE;rw[h32];obtain⟨c,rfl,hc|hc|hc|hc⟩:=wZ h
 ·rw[if_pos (by simp;omega),cv (by simp;omega) (by omega),aW,hc.2,w8 (by omega)];simp only[ints,List.map_cons,List.map_nil,dX (show c<256 by omega)]
 ·rw[if_neg (by simp;omega)];unfold qq;rw[h32,if_pos (by simp;omega),cv (by simp;omega) (by omega),aW,hc.2.2];simp only[Option.bind_some,ints,List.map_cons,List.map_nil,dX (show 192+c / 64<256 by omega),dX (show 128+c % 64<256 by omega)];rw[w8 (n:=(c:Int) / 64) (by omega),y5 192,u8_or192 _ (by omega) (by omega),qI];congr 3<;>omega
 ·rw[if_neg (by simp;omega)];unfold qq;rw[h32,if_neg (by simp;omega)];have hj:mC K n (c:Int) L true=some (L++ints (cO (c:Int))):=by
   unfold mC;rw[if_pos rfl,cv (by simp;omega) (by omega),aW,hc.2.2.2];simp only[ints,List.map_cons,List.map_nil,dX (show 224+c / 4096<256 by omega),dX (show 128+c / 64 % 64<256 by omega),dX (show 128+c % 64<256 by omega)];rw[w8 (n:=(c:Int) / 4096) (by omega),y5 224,u8_or224 _ (by omega) (by omega),qI,qI];congr 3<;>omega
  by_cases h1:(c:Int)<55296
  ·rw[if_pos (by simpa using h1),hj];rfl
  ·rw[if_neg (by simpa using h1),if_pos (by simp;omega),show decide ((c:Int)≤65535)=true by simp;omega,hj];rfl
 ·rw[if_neg (by simp;omega)];unfold qq;rw[h32,if_neg (by simp;omega),if_neg (by simp;omega),if_pos (by simp;omega),show decide ((c:Int)≤65535)=false by simp;omega];unfold mC;rw[h32,if_neg (by simp),if_pos (by simp;omega),show decide ((c:Int)≤1114111)=true by simp;omega];unfold u0;rw[if_pos rfl,cv (by simp;omega) (by omega),aW,hc.2.2];simp only[Option.bind_some,ints,List.map_cons,List.map_nil,dX (show 240+c / 262144<256 by omega),dX (show 128+c / 4096 % 64<256 by omega),dX (show 128+c / 64 % 64<256 by omega),dX (show 128+c % 64<256 by omega)];rw[w8 (n:=(c:Int) / 262144) (by omega),y5 240,u8_or240 _ (by omega) (by omega),qI,qI,qI];congr 3<;>omega
theorem ZV{r:Int}(h:cy r){L:List Int}(hL:L.length≤1000000)(b:Bool):∃x,oG K n r b L=some (x,(),L++ints (cO r)):=by
 unfold oG;rw[Uk h hL];cases b
 ·exact⟨_,rfl⟩
 ·exact⟨_,rfl⟩
end
theorem Nn{l:List UInt8}(h:l≠[]):nP (ints l)=true:=by
 unfold nP ints;rw[Bool.and_eq_true];refine⟨?_,by cases l;exact absurd rfl h;rfl⟩;rw[List.all_eq_true];intro n hn;obtain⟨b,_,rfl⟩:=List.mem_map.1 hn;have:=UInt8.toNat_lt b;simp;omega
theorem QJ(l:List UInt8):bytesOf (ints l)=⟨l.toArray⟩:=by
 unfold bytesOf ints;rw[List.map_map];congr 2
 conv=>rhs;rw[←List.map_id l]
 refine List.map_congr_left fun b _=>?_;simp
end Go.Proofs.YtnpmlepplfaijaaGreat
namespace Go.Proofs.YtnpmlepplfaijaaGreat
set_option linter.all false
open Go.RowKit
noncomputable section
def c6(r:Int):Bool:=r == 9||(r == 10||(r == 13||r == 32))
def gA(r:Int):Int:=(gJ (KN 0) 0 r).getD 0
def mR(s:Int):Int:=min (max s 0) 1048576
def jF(r s:Int):Int:=aa (Int.tdiv (aa ((aa (gA r*mR s))+15)) 16)
def lc(a b:Int):Bool:=bif c6 b||gA b == 0 then false else bif c6 a then true else bif a == 45&&b != 45 then true else decide (a≥11904)||decide (b≥11904)
def fa(e:au):Bool:=e.Kind == 1&&(e.Box.Style.WhiteSpace != 1&&e.Box.Style.WhiteSpace != 2)
def ee(a b:au):Bool :=
 bif a.Kind == 3||b.Kind == 3 then (a.Kind == 3||fa a)&&(b.Kind == 3||fa b)
 else bif a.Kind != 1||(b.Kind != 1||(!fa a||(a.Char != 32&&!fa b))) then false else lc a.Char b.Char
def fe{α:Type}(x:Option α):Prop:=∃u,x=some u
theorem ke{α:Type}(u:α):fe (some u):=⟨u,rfl⟩
theorem rR{α:Type}{c:Prop}[Decidable c]{x y:Option α}(h1:fe x)(h2:fe y):fe (if c then x else y):=by split;exact h1;exact h2
section
variable(K:Kn)(n:Nat)
theorem FH(r:Int):ry K n r=some (c6 r):=by
 unfold ry c6;cases h1:(r == 9)<;>cases h2:(r == 10)<;>cases h3:(r == 13)<;>cases h4:(r == 32)<;>simp[pc]
theorem Z1(r:Int):fe (gJ K n r):=by
 unfold gJ gl;simp only[dJ,dz,gb,rW]
 repeat first|exact ke _|apply rR
theorem BX(r:Int):gJ K n r=some (gA r):=by
 obtain⟨u,hu⟩:=Z1 K n r;have e:gJ (KN 0) 0 r=gJ K n r:=rfl;unfold gA;rw[e,hu];rfl
theorem Jc(r s:Int):mW K n r s=some (jF r s):=by
 unfold mW;rw[BX];rfl
theorem ZN(a b:Int):tU K n a b=some (lc a b):=by
 unfold tU lc;rw[FH,BX];simp only[Option.bind_some];have h1:o5 K n a b true=some false:=rfl;have h2:o5 K n a b false=some (bif c6 a then true else bif a == 45&&b != 45 then true else decide (a≥11904)||decide (b≥11904)):=by
  unfold o5;rw[if_neg (by simp),FH];simp only[Option.bind_some];cases c6 a with
  | true=>simp
  | false =>
   simp only[Bool.false_eq_true,if_false,cond_false];unfold vp uE;cases h3:(a == 45)<;>cases h4:(b != 45)<;>cases h5:decide (a≥11904)<;>simp
 cases c6 b with
 | true=>rw[if_pos rfl,h1];rfl
 | false =>
  rw[if_neg (by simp)];cases (gA b == 0) with
  | true=>rw[h1];rfl
  | false=>rw[h2];rfl
theorem FX(e:au):kS K n e=some (fa e):=by
 unfold kS fa pY;cases h1:(e.Kind == 1)<;>cases h2:(e.Box.Style.WhiteSpace != 1)<;>simp
end
theorem tI(a b:ByteArray):(a++b).data.toList=a.data.toList++b.data.toList:=by
 rw[ByteArray.data_append,Array.toList_append]
theorem Wu(a b:Int):(runesBytes [a,b]).data.toList=cO a++cO b:=by
 unfold runesBytes;simp only[List.foldl_cons,List.foldl_nil];rw[tI,tI];rfl
theorem RQ(K:Kn){n:Nat}(hn:3≤n){a b:Int}(ha:cy a)(hb:cy b):∃l,un K n (runesBytes [a,b])=some l∧decide ((l.length:Int)>0)=lc a b:=by
 generalize hB:runesBytes [a,b]=B;have hl:B.data.toList=cO a++cO b:=by rw[←hB];exact Wu a b
 have la:=wc ha;have lb:=wc hb;have hs:B.size=(cO a).length+(cO b).length:=by rw[←kE,hl,List.length_append]
 have d0:Utf8.decode B 0=(a.toNat,(cO a).length):=by
  rw[←Lib.decodeL_drop,List.drop_zero,hl,Ci ha]
 have d1:Utf8.decode B (cO a).length=(b.toNat,(cO b).length):=by
  rw[←Lib.decodeL_drop,hl,List.drop_left];have:=Ci hb [];rwa[List.append_nil]at this
 have ea:((a.toNat:Nat):Int)=a:=by unfold cy at ha;omega
 have eb:((b.toNat:Nat):Int)=b:=by unfold cy at hb;omega
 obtain⟨m,rfl⟩:∃m,n=m+3:=⟨n-3,by omega⟩;unfold un;show ∃l,jI K (m+3) B (mO K (m+3) B (m+2)) 0 0 []=some l∧_;unfold jI;rw[if_pos (by simp;omega),if_neg (by simp)];unfold o9;rw[if_neg (by simp)];unfold ox;rw[d0];simp only[Nat.zero_add,ea];show ∃l,jI K (m+3) B (mO K (m+3) B (m+1)) a (cO a).length []=some l∧_;unfold jI;rw[if_pos (by simp;omega),if_pos (by simp;omega),d1];simp only[eb];rw[ZN];simp only[Option.bind_some];have fin:∀(x:Int) (l:List Int),mO K (m+3) B (m+1) x ((cO a).length+(cO b).length) l=some l:=fun x l=>by
  show jI K (m+3) B (mO K (m+3) B m) x _ l=some l;unfold jI;rw[if_neg (by simp;omega)]
 cases hbt:lc a b with
 | true =>
  unfold o9;rw[if_pos rfl,cv (by simp) (by omega),aW];unfold ox;rw[d1];simp only[];rw[fin];exact⟨_,rfl,by simp⟩
 | false =>
  unfold o9;rw[if_neg (by simp)];unfold ox;rw[d1];simp only[];rw[fin];exact⟨_,rfl,by simp⟩
theorem Ix(K:Kn){n:Nat}(hn:3≤n){a b:au}(ha:cy a.Char)(hb:cy b.Char):rb K n a b=some (ee a b):=by
 obtain⟨l,h1,h2⟩:=RQ K hn ha hb;have jt:jp K n a b true=some false:=rfl;have jf:jp K n a b false=some (lc a.Char b.Char):=by
  unfold jp;rw[if_neg (by simp),h1];simp only[Option.bind_some];rw[h2]
 unfold rb ee;have k1:mU K n a b true=some ((a.Kind == 3||fa a)&&(b.Kind == 3||fa b)):=by
  unfold mU ms;simp only[FX,Option.bind_some];cases h3:(a.Kind == 3)<;>cases h4:(b.Kind == 3)<;>cases h5:fa a<;>cases h6:fa b<;>simp
 have k2:mU K n a b false=some (bif a.Kind != 1||(b.Kind != 1||(!fa a||(a.Char != 32&&!fa b))) then false else lc a.Char b.Char):=by
  unfold mU;simp only[FX,Option.bind_some,jt];cases h3:(a.Kind != 1)<;>cases h4:(b.Kind != 1)<;>cases h5:fa a<;>cases h6:(a.Char != 32)<;>cases h7:fa b<;>simp[jt,jf]
 cases h3:(a.Kind == 3) with
 | true=>rw[if_pos rfl,k1,h3];rfl
 | false =>
  rw[if_neg (by simp)];cases h4:(b.Kind == 3) with
  | true=>rw[k1,h3,h4];rfl
  | false=>rw[k2];rfl
def gK(s acc:Int):List Int→Int
 | []=>acc
 | r::t=>gK s (aa (acc+jF r s)) t
theorem Ti(K:Kn)(n:Nat)(b:ByteArray)(s:Int):∀(m:Nat) (acc:Int) (p:Nat),b.size-p<m→qN K n b s m acc p=some (gK s acc (eC b p)):=by
 intro m
 induction m with
 | zero=>intro acc p h;omega
 | succ m ih =>
  intro acc p h;show qm K n b s (qN K n b s m) acc p=_;unfold qm;by_cases hp:p<b.size
  ·have:=DR b p;rw[if_pos (by simpa using hp),Jc,Cd hp];simp only[Option.bind_some,gK];exact ih _ _ (by omega)
  ·rw[if_neg (by simpa using hp),z9 hp];rfl
theorem Gh(K:Kn){n:Nat}(b:ByteArray)(s:Int)(hn:b.size<n):ot K n b s=some (gK s 0 (eC b 0)):=by
 unfold ot;exact Ti K n b s n 0 0 (by omega)
def fg(s:aF):Int×Int:=(i7 (KN 0) 0 s).getD default
theorem ya(K:Kn)(n:Nat)(s:aF):i7 K n s=some (fg s):=rfl
def bE(x:List au):List Int:=x.map fun e=>e.Char
def fN(x:List au):Bool:=(x.getD (x.length-1) default).Soft
def nH(x:List au):List Int:=bif fN x then (bE x).dropLast else bE x
def cX(rs:List Int):ByteArray:=⟨(cA rs).toArray⟩
def sq(x:List au):aF:=(x.getD 0 default).Box.Style
def dR(x:List au):aH :=
 { cJ with Text:=cX (bE x),Width:=gK (sq x).FontSize 0 (nH x),Space:=bif fN x then jF 32 (sq x).FontSize else 0,Above:=(fg (sq x)).1,Below:=(fg (sq x)).2 }
theorem uk{rs:List Int}(h:∀r∈rs,cy r):rs.length≤(cA rs).length∧(cA rs).length≤4*rs.length:=by
 induction rs with
 | nil=>simp[cA]
 | cons r t ih =>
  have:=wc (h r (by simp));have:=ih (fun x hx=>h x (by simp[hx]));rw[Hp,List.length_append,List.length_cons];omega
theorem tP(rs:List Int):(cX rs).size=(cA rs).length:=by unfold cX;rfl
theorem rH(rs:List Int):(cX rs).data.toList=cA rs:=by unfold cX;simp
theorem FJ{rs:List Int}(h:∀r∈rs,cy r):eC (cX rs) 0=rs:=by
 unfold eC;rw[List.drop_zero,rH,YJ h]
theorem MS{rs:List Int}(h0:rs≠[])(h:rs.getLast h0=32):cA rs=cA rs.dropLast++[32]:=by
 conv=>lhs;rw[←List.dropLast_concat_getLast h0]
 rw[xv,h];rfl
theorem MP{rs:List Int}(h0:rs≠[])(h:rs.getLast h0=32):(cX rs).extract 0 ((cX rs).size-1)=cX rs.dropLast:=by
 have e:=MS h0 h;have hs:(cX rs).size=(cA rs.dropLast).length+1:=by rw[tP,e];simp
 apply ByteArray.ext;apply Array.ext';rw[ByteArray.data_extract,Array.toList_extract,rH,rH,hs,e];simp
structure g6(e:au):Prop where
 ch:cy e.Char
 soft:e.Soft=true→e.Char=32
theorem vm{x:List au}(h:∀e∈x,g6 e):∀r∈bE x,cy r:=by
 intro r hr;obtain⟨e,he,rfl⟩:=List.mem_map.1 hr;exact(h e he).ch
section
variable{K:Kn}{n:Nat}{x:List au}
theorem Ig(hx:x≠[])(hl:x.length≤2000)(ho:∀e∈x,g6 e)(hn:8010≤n)(b:Bool):qh K n x (ints (cA (bE x))) b=some (dR x):=by
 have h0:0<x.length:=List.length_pos_iff.2 hx;have hc:bE x≠[]:=by unfold bE;simp[hx]
 have hcl:(bE x).length=x.length:=by unfold bE;simp
 have hok:=vm ho;have hle:=uk hok;have hne:cA (bE x)≠[]:=by intro e;rw[e]at hle;have:=hle.1;simp only[List.length_nil]at this;omega
 have e1:aa ((x.length:Int)-1)=((x.length-1:Nat):Int):=by rw[bG (by omega) (by omega)];omega
 have hb:bytesOf (ints (cA (bE x)))=cX (bE x):=QJ _;have hsz:(cX (bE x)).size=(cA (bE x)).length:=tP _;have e2:aa (((cX (bE x)).size:Int)-1)=(((cX (bE x)).size-1:Nat):Int):=by rw[bG (by omega) (by omega)];omega
 have key:∀(v10:aF) (Y:ByteArray→Int→Option aH),(∀v14 v15,Y v14 v15=(ot K n v14 v10.FontSize).bind fun v16=>(i7 K n v10).bind fun v17=>some ({ cJ with Text:=bytesOf (ints (cA (bE x))),Width:=v16,Space:=v15,Above:=v17.1,Below:=v17.2 }:aH))→v10=sq x →
   aA (nP (ints (cA (bE x)))) (aA (bd (aa ((x.length:Int)-1)) x.length) ((some ((List.getD x ((aa ((x.length:Int)-1))).toNat default).Soft)).bind fun v11 =>
    if v11=true then aA (cN (0:Int) (aa (((bytesOf (ints (cA (bE x)))).size:Int)-1)) (bytesOf (ints (cA (bE x)))).size) ((some (ByteArray.extract (bytesOf (ints (cA (bE x)))) (0:Int).toNat ((aa (((bytesOf (ints (cA (bE x)))).size:Int)-1))).toNat)).bind fun v12=>(mW K n 32 v10.FontSize).bind fun v13=>Y v12 v13)
    else Y (bytesOf (ints (cA (bE x)))) 0))=some (dR x):=by
  intro v10 Y hY hv;subst hv;rw[Nn hne,aW,e1,bV (by omega) (by omega),aW];simp only[Option.bind_some,Int.toNat_natCast];have hs:(List.getD x (x.length-1) default).Soft=fN x:=rfl;rw[hs,hb,e2];cases hso:fN x with
  | true =>
   have hlast:(bE x).getLast hc=32:=by
    have hm:x.getD (x.length-1) default∈x:=by rw[b9 (by omega)];exact List.getElem_mem _
    have:=(ho _ hm).soft (by rw[hs];exact hso);rw[List.getLast_eq_getElem];unfold bE;rw[List.getElem_map];rw[b9 (by omega)]at this;simpa using this
   rw[if_pos rfl,show cN (0:Int) (((cX (bE x)).size-1:Nat):Int) (cX (bE x)).size=true by simp only[cN,Bool.and_eq_true,decide_eq_true_eq];omega,aW];simp only[Int.toNat_zero,Int.toNat_natCast];rw[MP hc hlast,Jc];simp only[Option.bind_some];rw[hY,Gh K (cX (bE x).dropLast) _ (by
    have h9:=uk (rs:=(bE x).dropLast) (fun r hr=>hok r ((List.dropLast_sublist _).subset hr));rw[tP];simp at h9;omega),FJ (fun r hr=>hok r ((List.dropLast_sublist _).subset hr)),ya,hb]
   simp only[Option.bind_some];unfold dR nH;rw[hso];rfl
  | false =>
   rw[if_neg (by simp),hY,Gh K (cX (bE x)) _ (by omega),FJ hok,ya,hb];simp only[Option.bind_some];unfold dR nH;rw[hso];rfl
 unfold qh;rw[bV (i:=(0:Int)) (by omega) (by omega)];simp only[aW,Option.bind_some];cases b with
 | true=>rw[if_pos rfl];exact key _ (fun v12 v13=>s9 K n _ _ v12 v13) (fun _ _=>rfl) rfl
 | false=>rw[if_neg (by simp)];exact key _ (fun v12 v13=>wj K n _ _ v12 v13) (fun _ _=>rfl) rfl
theorem ME(hx:x≠[])(hl:x.length≤2000)(ho:∀e∈x,g6 e)(hn:8010≤n):∀(m i:Nat) (b:Bool),i≤x.length→x.length<m+i→pd K n x m (i:Int) b (ints (cA ((bE x).take i)))=some (dR x):=by
 intro m
 induction m with
 | zero=>intro i b h1 h2;omega
 | succ m ih =>
  intro i b h1 h2;show rz K n x (pd K n x m) i b _=_;unfold rz;have hcl:(bE x).length=x.length:=by unfold bE;simp
  by_cases hi:i<x.length
  ·have hm:x.getD i default∈x:=by rw[b9 hi];exact List.getElem_mem _
   have hlen:=uk (rs:=(bE x).take i) (fun r hr=>vm ho r (List.mem_of_mem_take hr));have ht:(bE x).take (i+1)=(bE x).take i++[(x.getD i default).Char]:=by
    rw[List.take_add_one,List.getElem?_eq_getElem (by rw[hcl];exact hi),b9 hi];simp[bE]
   have hr:∀b,(oG K n ((List.getD x ((i:Int)).toNat default).Char) b (ints (cA ((bE x).take i)))).bind (fun v7=>pd K n x m (aa ((i:Int)+1)) true v7.2.2)=some (dR x):=fun b=>by
    rw[Int.toNat_natCast];obtain⟨y,hy⟩:=ZV (K:=K) (n:=n) (ho _ hm).ch (L:=ints (cA ((bE x).take i))) (by rw[XF];simp at hlen;omega) b;rw[hy];simp only[Option.bind_some];rw[bG (by omega) (by omega),show(i:Int)+1=((i+1:Nat):Int) by omega,← P2];have e:cA ((bE x).take i)++cO (x.getD i default).Char=cA ((bE x).take (i+1)):=by
     rw[ht,xv];simp[cA]
    rw[e];exact ih (i+1) true (by omega) (by omega)
   cases b with
   | true=>rw[if_pos rfl,if_pos (by simpa using hi),bV (by omega) (by omega),aW];exact hr true
   | false=>rw[if_neg (by simp),if_pos (by simpa using hi),bV (by omega) (by omega),aW];exact hr false
  ·have ht:(bE x).take i=bE x:=List.take_of_length_le (by omega);rw[ht];cases b with
   | true=>rw[if_pos rfl,if_neg (by simpa using hi)];exact Ig hx hl ho hn true
   | false=>rw[if_neg (by simp),if_neg (by simpa using hi)];exact Ig hx hl ho hn false
theorem Sc(hx:x≠[])(hl:x.length≤2000)(ho:∀e∈x,g6 e)(hn:8010≤n):tn K n x=some (dR x):=by
 unfold tn;exact ME hx hl ho hn n 0 false (by omega) (by omega)
end
end
end Go.Proofs.YtnpmlepplfaijaaGreat
namespace Go.Proofs.YtnpmlepplfaijaaGreat
set_option linter.all false
open Go.RowKit
theorem Sp{b:ByteArray}{L:List Int}(hL:b.data.toList.map (fun x=>(x.toNat:Int))=L){i:Nat}(h:i<L.length):oo b i=L.getD i default∧0≤L.getD i default∧L.getD i default<256:=by
 have hl:b.data.toList.length=L.length:=by rw[←hL];simp
 have hi:i<b.data.size:=by rw[←hl]at h;simpa using h
 have e:L.getD i default=((b.data[i]).toNat:Int):=by
  subst hL;rw[b9 h];simp
 have e2:oo b i=((b.data[i]).toNat:Int):=by
  unfold oo;rw[show b.data.getD i 0=b.data[i] from dif_pos hi]
 have:=UInt8.toNat_lt (b.data[i]);rw[e2,e];exact⟨rfl,by omega,by omega⟩
section
variable{K:Kn}{n:Nat}
theorem ZA{b:ByteArray}{L:List Int}{r:Int}(hL:b.data.toList.map (fun x=>(x.toNat:Int))=L)(hs:L.length≤100):∀(m i:Nat),i≤L.length→L.length<m+i→pW K n b r m (i:Int)=some ((L.drop i).any fun x=>r == x):=by
 have hl:b.size=L.length:=by rw[←hL,List.length_map,kE]
 intro m
 induction m with
 | zero=>intro i h1 h2;omega
 | succ m ih =>
  intro i h1 h2;show pE K n b r (pW K n b r m) i=_;unfold pE;by_cases hi:i<L.length
  ·obtain⟨q1,q2,q3⟩:=Sp hL hi;have hd:L.drop i=L.getD i default::L.drop (i+1):=by rw[List.drop_eq_getElem_cons hi,b9 hi]
   rw[if_pos (by simp;omega),bV (by omega) (by omega)];simp only[aW,Option.bind_some,Int.toNat_natCast];rw[q1,show IntKind.wrap .i32 (L.getD i default)=L.getD i default by rw[IntKind.wrap_i32];omega,hd,List.any_cons];cases he:(L.getD i default == r) with
   | true =>
    have:(r == L.getD i default)=true:=by rw[beq_iff_eq]at he⊢;exact he.symm
    rw[this];rfl
   | false =>
    have:(r == L.getD i default)=false:=by rw[beq_eq_false_iff_ne]at he⊢;exact fun e=>he e.symm
    rw[this,if_neg (by simp),bG (by omega) (by omega),show(i:Int)+1=((i+1:Nat):Int) by omega,ih (i+1) (by omega) (by omega)];rfl
  ·rw[if_neg (by simp;omega),List.drop_eq_nil_of_le (by omega)];rfl
theorem DP{b:ByteArray}{L:List Int}{r:Int}(hL:b.data.toList.map (fun x=>(x.toNat:Int))=L)(hs:L.length≤100)(hn:101≤n):oH K n b r=some (L.any fun x=>r == x):=by
 unfold oH;have:=ZA (K:=K) (n:=n) (r:=r) hL hs n 0 (by omega) (by omega);rwa[List.drop_zero]at this
theorem w5(r:Int):l7 K n r=some (c6 r):=by
 unfold l7 c6;cases h1:(r == 9)<;>cases h2:(r == 10)<;>cases h3:(r == 13)<;>cases h4:(r == 32)<;>simp[oe]
theorem GT(hn:101≤n)(r:Int):ri K n r=some (gA r):=by
 have j4:∀a:Bool,gb K n r a=if a=true then some 14 else if decide (r≥65)=true then sx K n (decide (r≤90)) else sx K n false:=fun a=>rfl;have o4:∀a c:Bool,(if a=true then gb K n r true else gb K n r c)=gb K n r (a||c):=fun a c=>by cases a<;>rfl
 have o3:∀a c:Bool,(if a=true then dz K n r true else dz K n r c)=dz K n r (a||c):=fun a c=>by cases a<;>rfl
 have o2:∀a c:Bool,(if a=true then dJ K n r true else dJ K n r c)=dJ K n r (a||c):=fun a c=>by cases a<;>rfl
 have p2:∀a c:Bool,(if a=true then kn K n r true else kn K n r c)=kn K n r (a||c):=fun a c=>by cases a<;>rfl
 have j2:∀a:Bool,kn K n r a=dJ K n r a:=fun a=>by
  unfold kn dJ;rw[DP (L:=[34,40,41,42,45,47,91,92,93,94,102,114,116,123,125]) rfl (by decide) hn,DP (L:=[37,64,77,87,109,119]) rfl (by decide) hn];simp only[Option.bind_some,o3,List.any_cons,List.any_nil,Bool.or_false];unfold dz;simp only[o4];rw[j4]
 have j1:∀a:Bool,iD K n r a=gl K n r a:=fun a=>by
  unfold iD gl;rw[DP (L:=[32,33,39,44,46,58,59,73,105,106,108,124]) rfl (by decide) hn];simp only[Option.bind_some,o2,p2,List.any_cons,List.any_nil,Bool.or_false];rw[j2,Bool.or_left_comm]
 rw[←BX K n];unfold ri gJ;simp only[j1]
theorem MN{x:Int}(h:0≤x)(h2:x≤1000000000000):aa (aa (Int.tdiv (aa x) 16)+min (Int.tmod (aa x) 16) 1)=aa (Int.tdiv (aa (aa x+15)) 16):=by
 rw[bG (n:=x) (by omega) (by omega),bG (n:=x+15) (by omega) (by omega),Int.tdiv_eq_ediv_of_nonneg h,Int.tmod_eq_emod_of_nonneg h,Int.tdiv_eq_ediv_of_nonneg (by omega),bG (n:=x / 16) (by omega) (by omega)];congr 1;omega
theorem aal(r:Int):0≤gA r∧gA r≤16:=by
 have:∀o:Option Int,(∃v,o=some v∧0≤v∧v≤16)→0≤o.getD 0∧o.getD 0≤16:=fun o ⟨v,h,h1,h2⟩=>by rw[h];exact⟨h1,h2⟩
 refine this _ ?_;have si:∀{c:Prop} [Decidable c] {x y:Option Int},(∃v,x=some v∧0≤v∧v≤16)→(∃v,y=some v∧0≤v∧v≤16)→∃v,(if c then x else y)=some v∧0≤v∧v≤16:=by
  intro c _ x y h1 h2;split;exact h1;exact h2
 have sv:∀v:Int,0≤v∧v≤16→∃u,some v=some u∧0≤u∧u≤16:=fun v h=>⟨v,rfl,h⟩;unfold gJ gl;simp only[dJ,dz,gb,rW]
 repeat first|exact sv _ (by decide)|apply si
theorem Qp(hn:101≤n)(r s:Int):vr K n r s=some (jF r s):=by
 unfold vr jq jF;rw[GT hn];simp only[Option.bind_some];have h1:=aal r;have h2:0≤mR s∧mR s≤1048576:=by unfold mR;omega
 have h3:0≤gA r*mR s:=Int.mul_nonneg h1.1 h2.1;have h4:gA r*mR s≤16*1048576:=Int.mul_le_mul h1.2 h2.2 h2.1 (by omega);show some (aa (aa (Int.tdiv (aa (gA r*mR s)) 16)+min (Int.tmod (aa (gA r*mR s)) 16) 1))=_;rw[MN h3 (by omega)]
theorem W9(hn:101≤n)(a b:Int):oD K n a b=some (lc a b):=by
 unfold oD lc;rw[w5,GT hn];simp only[Option.bind_some];have h1:pw K n a b true=some false:=rfl;have h2:pw K n a b false=some (bif c6 a then true else bif a == 45&&b != 45 then true else decide (a≥11904)||decide (b≥11904)):=by
  unfold pw;rw[if_neg (by simp),w5];simp only[Option.bind_some];unfold pG vA;cases c6 a<;>cases h3:(a == 45)<;>cases h4:(b != 45)<;>cases h5:decide (a≥11904)<;>simp
 cases c6 b with
 | true=>rw[if_pos rfl,h1];rfl
 | false =>
  rw[if_neg (by simp)];cases (gA b == 0) with
  | true=>rw[h1];rfl
  | false=>rw[h2];rfl
end
end Go.Proofs.YtnpmlepplfaijaaGreat
namespace Go.Proofs.YtnpmlepplfaijaaGreat
set_option linter.all false
open Go.RowKit
noncomputable section
def fb(e:au):Bool:=e.Box.Style.WhiteSpace == 2
def dj(out:List au):au:=out.getD (out.length-1) default
def ia(out:List au):Bool:=out.isEmpty||((dj out).Soft||(dj out).Kind == 2)
def g8(out:List au)(e:au):List au :=
  bif c6 e.Char then
    (bif fb e then (bif e.Char == 10 then out++[{ e with Kind:=2,Char:=32 }] else bif e.Char == 13 then out else out++[{ e with Char:=32 }])
     else bif ia out then out else out++[{ e with Soft:=true,Char:=32 }])
  else out++[e]
theorem DG(out:List au)(e:au):(g8 out e).length≤out.length+1:=by
 unfold g8;cases c6 e.Char<;>cases fb e<;>cases (e.Char == 10)<;>cases (e.Char == 13)<;>cases ia out<;>simp
section
variable(K:Kn)(n:Nat)
theorem Cb{out:List au}(hl:out.length≤1000000)(e:au):nt K n out e=some (out++[{ e with Char:=32 }]):=by
 unfold nt;rw[cv (by simp;omega) (by omega),aW]
theorem Va{out:List au}(hl:out.length≤1000000)(e:au):uU K n e out=some (g8 out e):=by
 have h4:∀b,kj K n e out b=some (bif b then out else out++[{ e with Soft:=true,Char:=32 }]):=fun b=>by
  unfold kj;cases b with
  | true=>rfl
  | false=>rw[if_neg (by simp),Cb K n hl];rfl
 have h3:∀b,fb e=b→∀c,sM K n e out c=some (bif c then out else bif b then out++[{ e with Char:=32 }] else bif ia out then out else out++[{ e with Soft:=true,Char:=32 }]):=fun b hb c=>by
  unfold sM;cases c with
  | true=>rfl
  | false =>
   have hp:(e.Box.Style.WhiteSpace == 2)=b:=hb;rw[if_neg (by simp),hp];cases b with
   | true=>rw[show(!true)=false from rfl,if_neg (by simp),Cb K n hl];rfl
   | false =>
    rw[show(!false)=true from rfl,if_pos rfl];by_cases h0:out=[]
    ·subst h0;rw[if_pos (by simp),h4];rfl
    ·have hlen:0<out.length:=List.length_pos_iff.2 h0;have e1:aa ((out.length:Int)-1)=((out.length-1:Nat):Int):=by rw[bG (by omega) (by omega)];omega
     have hem:out.isEmpty=false:=by cases out;exact absurd rfl h0;rfl
     rw[if_neg (by simp;exact h0),e1,bV (by omega) (by omega)];simp only[aW,Int.toNat_natCast]
     change (if (dj out).Soft=true then kj K n e out true else kj K n e out ((dj out).Kind == 2))=_
     cases hs:(dj out).Soft with
     | true=>rw[if_pos rfl,h4];unfold ia;rw[hem,hs];rfl
     | false=>rw[if_neg (by simp),h4];unfold ia;rw[hem,hs];rfl
 have h2:∀c,sB K n e out c=some (bif c then out++[{ e with Kind:=2,Char:=32 }] else bif fb e then (bif e.Char == 13 then out else out++[{ e with Char:=32 }]) else bif ia out then out else out++[{ e with Soft:=true,Char:=32 }]):=fun c=>by
  unfold sB;cases c with
  | true=>rw[if_pos rfl,Cb K n hl];rfl
  | false =>
   have hp:(e.Box.Style.WhiteSpace == 2)=fb e:=rfl;rw[if_neg (by simp),hp];cases hpe:fb e with
   | true=>rw[if_pos rfl,h3 true hpe];rfl
   | false=>rw[if_neg (by simp),h3 false hpe];rfl
 have h1:jG K n e out true=some (bif fb e then (bif e.Char == 10 then out++[{ e with Kind:=2,Char:=32 }] else bif e.Char == 13 then out else out++[{ e with Char:=32 }]) else bif ia out then out else out++[{ e with Soft:=true,Char:=32 }]):=by
  unfold jG;have hp:(e.Box.Style.WhiteSpace == 2)=fb e:=rfl;rw[if_pos rfl,hp];cases hpe:fb e with
  | true=>rw[if_pos rfl,h2,hpe];rfl
  | false=>rw[if_neg (by simp),h2,hpe];rfl
 have h0:jG K n e out false=some (out++[e]):=by
  unfold jG;rw[if_neg (by simp),cv (by simp;omega) (by omega),aW]
 unfold uU g8 c6;cases q1:(e.Char == 9) with
 | true=>rw[if_pos rfl,h1];rfl
 | false =>
  rw[if_neg (by simp)];cases q2:(e.Char == 10) with
  | true=>rw[if_pos rfl,h1,q2];rfl
  | false =>
   rw[if_neg (by simp)];cases q3:(e.Char == 13) with
   | true=>rw[if_pos rfl,h1,q2,q3];rfl
   | false =>
    rw[if_neg (by simp)];cases q4:(e.Char == 32) with
    | true=>rw[h1,q2,q3];rfl
    | false=>rw[h0];rfl
end
def fz(b:ah):Bool:=(fQ (KN 0) 0 b).getD false
def gx(b:ah)(num:Int)(out:List au)(rs:List Int):List au:=rs.foldl (fun o r=>g8 o ⟨1,num,r,false,b⟩) out
def vM:Nat→List ah→Int×List au→Int×List au
  | 0,_,s=>s
  | d+1,L,s=>L.foldl (fun s b=>bif fz b then
      (bif b.Kind == 2 then vM d b.Kids (aa (s.1+1),s.2)
       else bif b.Kind == 4 then (aa (s.1+1),s.2++[⟨2,aa (s.1+1),0,false,b⟩])
       else bif b.Kind == 5 then (aa (s.1+1),s.2++[⟨3,aa (s.1+1),0,false,b⟩])
       else bif b.Kind == 3 then (aa (s.1+1),gx b (aa (s.1+1)) s.2 (eC b.Text 0))
       else (aa (s.1+1),s.2)) else s) s
def cL (d : Nat) (s : Int × List au) (b : ah) : Int × List au := bif fz b then
      (bif b.Kind == 2 then vM d b.Kids (aa (s.1+1),s.2)
       else bif b.Kind == 4 then (aa (s.1+1),s.2++[⟨2,aa (s.1+1),0,false,b⟩])
       else bif b.Kind == 5 then (aa (s.1+1),s.2++[⟨3,aa (s.1+1),0,false,b⟩])
       else bif b.Kind == 3 then (aa (s.1+1),gx b (aa (s.1+1)) s.2 (eC b.Text 0))
       else (aa (s.1+1),s.2)) else s
theorem fq(d:Nat)(L:List ah)(s:Int×List au):vM (d+1) L s=L.foldl (cL d) s:=rfl
def bA:Nat→List ah→Nat
 | 0,_=>0
 | d+1,L=>(L.map fun b=>1+b.Text.size+bA d b.Kids).sum
def Dp:Nat→List ah→Prop
 | 0,_=>False
 | d+1,L=>L.length≤1000∧∀b∈L,b.Text.size≤1000∧(b.Kind=2→Dp d b.Kids)
theorem G0(b:ah)(num:Int):∀(rs:List Int) (out:List au),(gx b num out rs).length≤out.length+rs.length
 | [],out=>by simp[gx]
 | r::t,out=>by
  have:=G0 b num t (g8 out ⟨1,num,r,false,b⟩);have:=DG out ⟨1,num,r,false,b⟩;unfold gx at *;simp only[List.foldl_cons,List.length_cons];omega
theorem EO(b:ByteArray)(p:Nat):(eC b p).length≤b.size:=by
 unfold eC;have:=YE (b.data.toList.drop p);rw[List.length_drop,kE]at this;omega
theorem AE(d:Nat)(ih:∀L s,(vM d L s).2.length≤s.2.length+bA d L)(s:Int×List au)(b:ah):(cL d s b).2.length≤s.2.length+(1+b.Text.size+bA d b.Kids):=by
 unfold cL;cases fz b with
 | false=>simp only[cond_false];omega
 | true =>
  simp only[cond_true];cases (b.Kind == 2) with
  | true=>have:=ih b.Kids (aa (s.1+1),s.2);simp only[cond_true];simp only[]at this;omega
  | false =>
   simp only[cond_false];cases (b.Kind == 4) with
   | true=>simp only[cond_true,List.length_append,List.length_cons,List.length_nil];omega
   | false =>
    simp only[cond_false];cases (b.Kind == 5) with
    | true=>simp only[cond_true,List.length_append,List.length_cons,List.length_nil];omega
    | false =>
     simp only[cond_false];cases (b.Kind == 3) with
     | true =>
      have:=G0 b (aa (s.1+1)) (eC b.Text 0) s.2;have:=EO b.Text 0;simp only[cond_true];omega
     | false=>simp only[cond_false];omega
theorem Dv:∀(d:Nat) (L:List ah) (s:Int×List au),(vM d L s).2.length≤s.2.length+bA d L:=by
 intro d
 induction d with
 | zero=>intro L s;simp[vM,bA]
 | succ d ih =>
  intro L
  induction L with
  | nil=>intro s;simp[vM,bA]
  | cons b r ihL =>
   intro s;have h1:=AE d ih s b;have h2:=ihL (cL d s b);rw[fq,List.foldl_cons];rw[fq]at h2;simp only[bA,List.map_cons,List.sum_cons]at h2⊢;omega
theorem D1(K:Kn)(n:Nat)(b:ah):fQ K n b=some (fz b):=by
 have e:fQ (KN 0) 0 b=fQ K n b:=rfl;have:fe (fQ K n b):=by
  unfold fQ
  repeat first|exact ke _|apply rR
 obtain⟨u,hu⟩:=this;unfold fz;rw[e,hu];rfl
theorem Xq(K:Kn)(n:Nat)(L:List ah)(i num:Int)(C:Int→Int→List au→Option (Int×List au))(hi:i.toNat<L.length):∀(m p:Nat) (out:List au),(L.getD i.toNat default).Text.size-p<m→out.length+((L.getD i.toNat default).Text.size-p)≤900000 →
  qZ K n L i num C m p out=C (aa (i+1)) (aa (num+1)) (gx (L.getD i.toNat default) (aa (num+1)) out (eC (L.getD i.toNat default).Text p)):=by
 intro m
 induction m with
 | zero=>intro p out h;omega
 | succ m ih =>
  intro p out h1 h2;show rL K n L i num C (qZ K n L i num C m) p out=_;unfold rL;by_cases hp:p<(L.getD i.toNat default).Text.size
  ·have hw:=DR (L.getD i.toNat default).Text p;rw[if_pos (by simpa using hp)];simp only[Option.bind_some];rw[Va K n (by omega)];simp only[Option.bind_some];have hpl:=DG out ⟨1,aa (num+1),((Utf8.decode (L.getD i.toNat default).Text p).1:Int),false,L.getD i.toNat default⟩;rw[ih _ _ (by omega) (by omega),Cd hp];rfl
  ·rw[if_neg (by simpa using hp),z9 hp];rfl
theorem Mn:∀(d N:Nat) (L:List ah) (s:Int×List au),Dp d L→s.2.length+bA d L≤800000→d+1100≤N→jP (KN N) N L s.1 s.2=some (vM d L s):=by
 intro d
 induction d with
 | zero=>intro N L s h;exact h.elim
 | succ d ih =>
  intro N L s hD hs hN;obtain⟨N,rfl⟩:∃M,N=M+1:=⟨N-1,by omega⟩;unfold Dp at hD;unfold jP;have loop:∀(m i:Nat) (s:Int×List au),i≤L.length→L.length<m+i→s.2.length+bA (d+1) (L.drop i)≤800000→oq (KN (N+1)) (N+1) L m (i:Int) s.1 s.2=some (vM (d+1) (L.drop i) s):=by
   intro m
   induction m with
   | zero=>intro i s h1 h2;omega
   | succ m ihm =>
    intro i s h1 h2 h3;show qL (KN (N+1)) (N+1) L (oq (KN (N+1)) (N+1) L m) i s.1 s.2=_;unfold qL;by_cases hi:i<L.length
    ·have hb:L.getD i default∈L:=by rw[b9 hi];exact List.getElem_mem _
     have hdr:L.drop i=L.getD i default::L.drop (i+1):=by rw[List.drop_eq_getElem_cons hi,b9 hi]
     have hw:aa ((i:Int)+1)=((i+1:Nat):Int):=by rw[bG (by omega) (by omega)];omega
     rw[hdr]at h3⊢;rw[fq,List.foldl_cons,← fq];have hvl:=AE d (Dv d) s (L.getD i default);have h3':s.2.length+((1+(L.getD i default).Text.size+bA d (L.getD i default).Kids)+bA (d+1) (L.drop (i+1)))≤800000:=by
      simpa only[bA,List.map_cons,List.sum_cons]using h3
     have fin:=ihm (i+1) (cL d s (L.getD i default)) (by omega) (by omega) (by omega);rw[if_pos (by simpa using hi),bV (by omega) (by omega),aW,D1];simp only[Option.bind_some,Int.toNat_natCast];have step:∀s',cL d s (L.getD i default)=s'→oq (KN (N+1)) (N+1) L m (aa ((i:Int)+1)) s'.1 s'.2=some (vM (d+1) (L.drop (i+1)) (cL d s (L.getD i default))):=fun s' e=>by
      rw[←e,hw];exact fin
     cases hf:fz (L.getD i default) with
     | false =>
      rw[show(!false)=true from rfl,if_pos rfl];unfold kO;exact step s (by unfold cL;rw[hf];rfl)
     | true =>
      rw[show(!true)=false from rfl,if_neg (by simp)];cases h2':((L.getD i default).Kind == 2) with
      | true =>
       have hk:(L.getD i default).Kind=2:=by simpa using h2'
       have:=ih N (L.getD i default).Kids (aa (s.1+1),s.2) ((hD.2 _ hb).2 hk) (by simp only[];omega) (by omega);rw[if_pos rfl];show((jP (KN N) N (L.getD i default).Kids (aa (s.1+1)) s.2).bind _)=_;rw[show jP (KN N) N (L.getD i default).Kids (aa (s.1+1)) s.2=_ from this];simp only[Option.bind_some];unfold iY kO;exact step _ (by unfold cL;rw[hf,h2'];rfl)
      | false =>
       rw[if_neg (by simp)];cases h4':((L.getD i default).Kind == 4) with
       | true =>
        rw[if_pos rfl,cv (by simp;omega) (by omega),aW];unfold iY kO;exact step (_,_) (by unfold cL;rw[hf,h2',h4'];rfl)
       | false =>
        rw[if_neg (by simp)];cases h5':((L.getD i default).Kind == 5) with
        | true =>
         rw[if_pos rfl,cv (by simp;omega) (by omega),aW];unfold iY kO;exact step (_,_) (by unfold cL;rw[hf,h2',h4',h5'];rfl)
        | false =>
         rw[if_neg (by simp)];cases h3'':((L.getD i default).Kind == 3) with
         | true =>
          have ht:=(hD.2 _ hb).1;rw[if_pos rfl,Xq (KN (N+1)) (N+1) L i s.1 _ (by simpa using hi) (N+1) 0 s.2 (by rw[Int.toNat_natCast];omega) (by rw[Int.toNat_natCast];omega)];rw[Int.toNat_natCast];exact step (_,_) (by unfold cL;rw[hf,h2',h4',h5',h3''];rfl)
         | false =>
          rw[if_neg (by simp)];unfold iY kO;exact step (_,_) (by unfold cL;rw[hf,h2',h4',h5',h3''];rfl)
    ·rw[if_neg (by simpa using hi),List.drop_eq_nil_of_le (by omega)];rfl
  have:=loop (N+1) 0 s (by omega) (by omega) (by rw[List.drop_zero];exact hs);rw[List.drop_zero]at this;exact this
def dB(d:Nat)(L:List ah):List au:=(vM d L (0,[])).2
theorem X2{d N:Nat}{L:List ah}(hD:Dp d L)(hc:bA d L≤800000)(hN:d+1100≤N):td (KN N) N L=some (dB d L):=by
 unfold td;rw[show jP (KN N) N L 0 []=_ from Mn d N L (0,[]) hD (by simpa using hc) hN];rfl
theorem yD(d:Nat)(L:List ah):(dB d L).length≤bA d L:=by
 have:=Dv d L (0,[]);unfold dB;simpa using this
theorem UH{P:au→Prop}{out:List au}{e:au}(h:∀x∈out,P x)(h1:c6 e.Char=false→P e)(h2:fb e=true→P { e with Kind:=2,Char:=32 })(h3:fb e=true→P { e with Char:=32 })(h4:fb e=false→P { e with Soft:=true,Char:=32 }):∀x∈g8 out e,P x:=by
 have ap:∀y,P y→∀x∈out++[y],P x:=fun y hy x hx=>by
  rcases List.mem_append.1 hx with hx|hx
  ·exact h x hx
  ·rw[List.mem_singleton.1 hx];exact hy
 unfold g8;cases hs:c6 e.Char with
 | false=>exact ap _ (h1 hs)
 | true =>
  simp only[cond_true];cases hp:fb e with
  | true =>
   simp only[cond_true];cases (e.Char == 10) with
   | true=>exact ap _ (h2 hp)
   | false =>
    simp only[cond_false];cases (e.Char == 13) with
    | true=>exact h
    | false=>exact ap _ (h3 hp)
  | false =>
   simp only[cond_false];cases ia out with
   | true=>exact h
   | false=>exact ap _ (h4 hp)
theorem xU{P:au→Prop}(b:ah)(num:Int)(hP:∀r,cy r→(c6 r=false→P ⟨1,num,r,false,b⟩))(h2:P ⟨2,num,32,false,b⟩)(h3:b.Style.WhiteSpace=2→P ⟨1,num,32,false,b⟩)(h4:b.Style.WhiteSpace≠2→P ⟨1,num,32,true,b⟩):∀(rs:List Int) (out:List au),(∀r∈rs,cy r)→(∀x∈out,P x)→∀x∈gx b num out rs,P x
 | [],out,_,h=>h
 | r::t,out,hr,h=>by
  unfold gx;rw[List.foldl_cons];refine xU b num hP h2 h3 h4 t _ (fun x hx=>hr x (by simp[hx])) (UH h (fun hs=>hP r (hr r (by simp)) hs) (fun _=>h2) (fun hp=>h3 (by simpa[fb]using hp)) (fun hp=>h4 (by simpa[fb]using hp)))
theorem B5{P:au→Prop}(h1:∀(b:ah) (num r:Int),cy r→c6 r=false→P ⟨1,num,r,false,b⟩)(h2:∀(b:ah) (num:Int),P ⟨2,num,32,false,b⟩)(h3:∀(b:ah) (num:Int),b.Style.WhiteSpace=2→P ⟨1,num,32,false,b⟩)(h4:∀(b:ah) (num:Int),b.Style.WhiteSpace≠2→P ⟨1,num,32,true,b⟩)
  (h5:∀(b:ah) (num:Int),P ⟨2,num,0,false,b⟩) (h6:∀(b:ah) (num:Int),P ⟨3,num,0,false,b⟩):∀(d:Nat) (L:List ah) (s:Int×List au),(∀x∈s.2,P x)→∀x∈(vM d L s).2,P x:=by
 have ap:∀{out:List au} (y:au),(∀x∈out,P x)→P y→∀x∈out++[y],P x:=fun y h hy x hx=>by
  rcases List.mem_append.1 hx with hx|hx
  ·exact h x hx
  ·rw[List.mem_singleton.1 hx];exact hy
 intro d
 induction d with
 | zero=>intro L s h;exact h
 | succ d ih =>
  intro L
  induction L with
  | nil=>intro s h;exact h
  | cons b r ihL =>
   intro s h;rw[fq,List.foldl_cons,← fq];refine ihL _ ?_;unfold cL;cases fz b with
   | false=>exact h
   | true =>
    simp only[cond_true];cases (b.Kind == 2) with
    | true=>exact ih _ _ h
    | false =>
     simp only[cond_false];cases (b.Kind == 4) with
     | true=>exact ap _ h (h5 _ _)
     | false =>
      simp only[cond_false];cases (b.Kind == 5) with
      | true=>exact ap _ h (h6 _ _)
      | false =>
       simp only[cond_false];cases (b.Kind == 3) with
       | true=>exact xU b _ (fun r hr hs=>h1 b _ r hr hs) (h2 b _) (h3 b _) (h4 b _) _ _ zM h
       | false=>exact h
theorem B8:cy 32:=by unfold cy;omega
theorem GI:cy 0:=by unfold cy;omega
theorem D0(d:Nat)(L:List ah):∀x∈dB d L,g6 x :=
 B5 (fun b num r hr _=>⟨hr,fun h=>by cases h⟩) (fun b num=>⟨B8,fun _=>rfl⟩) (fun b num _=>⟨B8,fun _=>rfl⟩) (fun b num _=>⟨B8,fun _=>rfl⟩) (fun b num=>⟨GI,fun h=>by cases h⟩) (fun b num=>⟨GI,fun h=>by cases h⟩) d L (0,[]) (fun x hx=>by cases hx)
end
end Go.Proofs.YtnpmlepplfaijaaGreat
namespace Go.Proofs.YtnpmlepplfaijaaGreat
set_option linter.all false
open Go.RowKit
noncomputable section
structure fC(e:au)(t:aK):Prop where
 box:t.Box=e.Box
 soft:t.Soft=e.Soft
 forced:t.Forced=(e.Kind == 2)
 block:t.Block=(e.Kind == 3)
 char:e.Kind=1→t.Char=e.Char
structure ft(c:Int)(E:List au)(T:List aK):Prop where
 len:E.length=T.length
 el:∀i,i<E.length→fC (E.getD i default) (T.getD i default)
 num:∀i,i<E.length→(E.getD i default).Of≤c
 idx:∀i,i<E.length→(T.getD i default).Number≤(i:Int)
 pair:∀i j,i<E.length→j<E.length→((E.getD i default).Of=(E.getD j default).Of↔(T.getD i default).Number=(T.getD j default).Number)
structure fK(c n0:Int)(E:List au)(T:List aK):Prop where
 len:E.length=T.length
 el:∀i,i<E.length→fC (E.getD i default) (T.getD i default)
 num:∀i,i<E.length→((E.getD i default).Of≤c∧(T.getD i default).Number<n0)∨((E.getD i default).Of=c+1∧(T.getD i default).Number=n0)
 idx:∀i,i<E.length→(T.getD i default).Number≤(i:Int)
 n0le:n0≤(T.length:Int)
 pair:∀i j,i<E.length→j<E.length→((E.getD i default).Of=(E.getD j default).Of↔(T.getD i default).Number=(T.getD j default).Number)
theorem E5{α:Type}[Inhabited α](a:List α)(y:α){i:Nat}(h:i<a.length):(a++[y]).getD i default=a.getD i default:=by
 rw[b9 (by simp;omega),b9 h,List.getElem_append_left h]
theorem Dc{α:Type}[Inhabited α](a:List α)(y:α){i:Nat}(h:i=a.length):(a++[y]).getD i default=y:=by
 subst h;rw[b9 (by simp)];simp
theorem Z8(c:Int):ft c [] []:=⟨rfl,fun i h=>by simp at h,fun i h=>by simp at h,fun i h=>by simp at h,fun i j h=>by simp at h⟩
theorem ft.up{c c':Int}{E T}(h:ft c E T)(hc:c≤c'):ft c' E T:=⟨h.len,h.el,fun i hi=>Int.le_trans (h.num i hi) hc,h.idx,h.pair⟩
theorem ft.open{c:Int}{E T}(h:ft c E T):fK c (T.length:Int) E T :=
 ⟨h.len,h.el,fun i hi=>.inl ⟨h.num i hi,by have:=h.idx i hi;have:=h.len;omega⟩,h.idx,Int.le_refl _,h.pair⟩
theorem fK.close{c n0:Int}{E T}(h:fK c n0 E T):ft (c+1) E T :=
 ⟨h.len,h.el,fun i hi=>by rcases h.num i hi with q|q<;>omega,h.idx,h.pair⟩
theorem fK.snoc{c n0:Int}{E T}(h:fK c n0 E T){e:au}{t:aK}(he:fC e t)(h1:e.Of=c+1)(h2:t.Number=n0):fK c n0 (E++[e]) (T++[t]):=by
 have hl:(E++[e]).length=E.length+1:=by simp
 have hlen:=h.len;have cs:∀i,i<(E++[e]).length→(i<E.length∧(E++[e]).getD i default=E.getD i default∧(T++[t]).getD i default=T.getD i default)∨(i=E.length∧(E++[e]).getD i default=e∧(T++[t]).getD i default=t):=fun i hi=>by
  by_cases q:i<E.length
  ·exact .inl ⟨q,E5 E e q,E5 T t (by omega)⟩
  ·exact .inr ⟨by omega,Dc E e (by omega),Dc T t (by omega)⟩
 have nw:∀i,i<E.length→((E.getD i default).Of=c+1↔(T.getD i default).Number=n0):=fun i hi=>by
  rcases h.num i hi with q|q
  ·constructor<;>intro _<;>omega
  ·exact⟨fun _=>q.2,fun _=>q.1⟩
 refine⟨by simp[hlen],fun i hi=>?_,fun i hi=>?_,fun i hi=>?_,?_,fun i j hi hj=>?_⟩
 ·obtain⟨q,q1,q2⟩|⟨q,q1,q2⟩:=cs i hi
  ·rw[q1,q2];exact h.el i q
  ·rw[q1,q2];exact he
 ·obtain⟨q,q1,q2⟩|⟨q,q1,q2⟩:=cs i hi
  ·rw[q1,q2];exact h.num i q
  ·rw[q1,q2];exact .inr ⟨h1,h2⟩
 ·obtain⟨q,q1,q2⟩|⟨q,q1,q2⟩:=cs i hi
  ·rw[q2];exact h.idx i q
  ·rw[q2,h2];have:=h.n0le;omega
 ·have:=h.n0le;simp;omega
 ·rcases cs i hi with⟨q,q1,q2⟩|⟨q,q1,q2⟩<;>rcases cs j hj with⟨r,r1,r2⟩|⟨r,r1,r2⟩<;>rw[q1,q2,r1,r2]
  ·exact h.pair i j q r
  ·rw[h1,h2];exact nw i q
  ·rw[h1,h2];have:=nw j r;exact⟨fun a=>(this.1 a.symm).symm,fun a=>(this.2 a.symm).symm⟩
  ·exact⟨fun _=>rfl,fun _=>rfl⟩
theorem Na{c n0:Int}{E T}(h:fK c n0 E T)(h0:0<E.length):fC (dj E) (T.getD (T.length-1) default):=by
 have:=h.el (E.length-1) (by omega);rw[show T.length-1=E.length-1 by rw[h.len]];exact this
section
variable{K:Kn}{n:Nat}
theorem PW{c n0:Int}{E:List au}{T:List aK}(h:fK c n0 E T)(hl:T.length≤1000000)(b:ah)(r:Int):
  ∃T',uF K n ({ mq with Box:=b,Number:=n0,Char:=r }:aK) T=some T'∧fK c n0 (g8 E ⟨1,c+1,r,false,b⟩) T':=by
 have ap:∀(e:au) (t:aK),fC e t→e.Of=c+1→t.Number=n0→∃T',aA (fits (T.length+([t]:(List aK)).length) 536) (some (T++[t]))=some T'∧fK c n0 (E++[e]) T':=fun e t h1 h2 h3=>by
  rw[cv (by simp;omega) (by omega),aW];exact⟨_,rfl,h.snoc h1 h2 h3⟩
 unfold uF g8;rw[w5];simp only[Option.bind_some];show ∃T',(if (b.Style.WhiteSpace == 2)=true then _ else _)=some T'∧fK c n0 (bif c6 r then (bif (b.Style.WhiteSpace == 2) then _ else _) else _) T';cases hp:(b.Style.WhiteSpace == 2) with
 | true =>
  rw[if_pos rfl];simp only[cond_true];show ∃T',(if (r == 13)=true then some T else if (r == 10)=true then _ else _)=some T'∧fK c n0 (bif c6 r then (bif (r == 10) then _ else bif (r == 13) then _ else _) else _) T';unfold tN vN;cases h13:(r == 13) with
  | true =>
   have e:r=13:=by simpa using h13
   subst e;rw[if_pos rfl];exact⟨T,rfl,h⟩
  | false =>
   rw[if_neg (by simp)];cases h10:(r == 10) with
   | true =>
    have e:r=10:=by simpa using h10
    subst e;rw[if_pos rfl,if_neg (by simp)];exact ap { (⟨1,c+1,10,false,b⟩:au)with Kind:=2,Char:=32 } _ ⟨rfl,rfl,rfl,rfl,fun q=>by cases q⟩ rfl rfl
   | false =>
    rw[if_neg (by simp)];show ∃T',(if (r == 9)=true then _ else _)=some T'∧_;cases h9:(r == 9) with
    | true =>
     have e:r=9:=by simpa using h9
     subst e;rw[if_pos rfl];exact ap { (⟨1,c+1,9,false,b⟩:au)with Char:=32 } _ ⟨rfl,rfl,rfl,rfl,fun _=>rfl⟩ rfl rfl
    | false =>
     rw[if_neg (by simp)];cases h32:(r == 32) with
     | true =>
      have e:r=32:=by simpa using h32
      subst e;exact ap { (⟨1,c+1,32,false,b⟩:au)with Char:=32 } _ ⟨rfl,rfl,rfl,rfl,fun _=>rfl⟩ rfl rfl
     | false =>
      rw[show c6 r=false by unfold c6;rw[h9,h10,h13,h32];rfl];exact ap (⟨1,c+1,r,false,b⟩:au) _ ⟨rfl,rfl,rfl,rfl,fun _=>rfl⟩ rfl rfl
 | false =>
  rw[if_neg (by simp)];simp only[cond_false];show ∃T',(if (c6 r)=true then _ else _)=some T'∧fK c n0 (bif c6 r then _ else _) T';cases hs:c6 r with
  | false =>
   rw[if_neg (by simp)];unfold sU;exact ap (⟨1,c+1,r,false,b⟩:au) _ ⟨rfl,rfl,rfl,rfl,fun _=>rfl⟩ rfl rfl
  | true =>
   rw[if_pos rfl];simp only[cond_true];have hlen:=h.len;by_cases h0:T.length=0
   ·rw[if_pos (by simp;exact List.eq_nil_of_length_eq_zero h0)];have hE:E=[]:=List.eq_nil_of_length_eq_zero (by omega);refine⟨T,rfl,?_⟩;rw[show ia E=true by rw[hE];rfl];exact h
   ·have hE:E.isEmpty=false:=by cases E;exact absurd hlen.symm h0;rfl
    have hl2:=Na h (by omega);have e1:aa ((T.length:Int)-1)=((T.length-1:Nat):Int):=by rw[bG (by omega) (by omega)];omega
    rw[if_neg (by simp;intro q;rw[q]at h0;exact h0 rfl),e1,bV (by omega) (by omega)];rw[aW,aW,Int.toNat_natCast,hl2.soft,hl2.forced];have hsk:ia E=((dj E).Soft||(dj E).Kind == 2):=by unfold ia;rw[hE];rfl
    rw[hsk];cases (dj E).Soft with
    | true=>exact⟨T,rfl,h⟩
    | false =>
     rw[if_neg (by simp),Bool.false_or];cases ((dj E).Kind == 2) with
     | true=>exact⟨T,rfl,h⟩
     | false =>
      unfold rh sU;rw[if_neg (by simp)];exact ap { (⟨1,c+1,r,false,b⟩:au)with Soft:=true,Char:=32 } _ ⟨rfl,rfl,rfl,rfl,fun _=>rfl⟩ rfl rfl
theorem PD(b:ByteArray)(hb:b.size≤1000000):∀(m p:Nat) (cs os:List Int),b.size-p<m→cs.length+(b.size-p)≤1000000→os.length+(b.size-p)≤1000000→∃o,pK K n b m p cs os=some (cs++eC b p,o):=by
 intro m
 induction m with
 | zero=>intro p cs os h;omega
 | succ m ih =>
  intro p cs os h1 h2 h3;show ∃o,rZ K n b (pK K n b m) p cs os=some (_,o);unfold rZ;by_cases hp:p<b.size
  ·have hw:=DR b p;rw[if_pos (by simpa using hp),cv (by simp;omega) (by omega),aW,cv (by simp;omega) (by omega),aW,Cd hp];obtain⟨o,ho⟩:=ih (p+(Utf8.decode b p).2) (cs++[((Utf8.decode b p).1:Int)]) (os++[((p:Nat):Int)]) (by omega) (by rw[List.length_append];show _+1+_≤_;omega) (by rw[List.length_append];show _+1+_≤_;omega);exact⟨o,by rw[ho,List.append_assoc];rfl⟩
  ·rw[if_neg (by simpa using hp),cv (by simp;omega) (by omega),aW,z9 hp,List.append_nil];exact⟨_,rfl⟩
end
end
end Go.Proofs.YtnpmlepplfaijaaGreat
namespace Go.Proofs.YtnpmlepplfaijaaGreat
set_option linter.all false
open Go.RowKit
noncomputable section
theorem Br(d:Nat)(ih:∀L (s:Int×List au),0≤s.1→s.1+bA d L≤1000000→s.1≤(vM d L s).1∧(vM d L s).1≤s.1+bA d L)(s:Int×List au)(b:ah)(h0:0≤s.1)(h1:s.1+((1+b.Text.size+bA d b.Kids:Nat):Int)≤1000000):s.1≤(cL d s b).1∧(cL d s b).1≤s.1+((1+b.Text.size+bA d b.Kids:Nat):Int):=by
 have hw:aa (s.1+1)=s.1+1:=bG (by omega) (by omega);unfold cL;rw[hw];cases fz b with
 | false=>simp only[cond_false];omega
 | true =>
  simp only[cond_true];cases (b.Kind == 2) with
  | true =>
   have:=ih b.Kids (s.1+1,s.2) (by show 0≤s.1+1;omega) (by show s.1+1+_≤_;omega);simp only[cond_true];simp only[]at this;omega
  | false =>
   simp only[cond_false];cases (b.Kind == 4) with
   | true=>simp only[cond_true];omega
   | false =>
    simp only[cond_false];cases (b.Kind == 5) with
    | true=>simp only[cond_true];omega
    | false =>
     simp only[cond_false];cases (b.Kind == 3) with
     | true=>simp only[cond_true];omega
     | false=>simp only[cond_false];omega
theorem Lv:∀(d:Nat) (L:List ah) (s:Int×List au),0≤s.1→s.1+bA d L≤1000000→s.1≤(vM d L s).1∧(vM d L s).1≤s.1+bA d L:=by
 intro d
 induction d with
 | zero=>intro L s _ _;simp[vM,bA]
 | succ d ih =>
  intro L
  induction L with
  | nil=>intro s _ _;simp[vM,bA]
  | cons b r ihL =>
   intro s h0 h1;have e:bA (d+1) (b::r)=(1+b.Text.size+bA d b.Kids)+bA (d+1) r:=by simp[bA]
   rw[e]at h1⊢;have q1:=Br d ih s b h0 (by omega);have q2:=ihL (cL d s b) (by omega) (by omega);rw[fq,List.foldl_cons,← fq];omega
section
variable{K:Kn}{n:Nat}
theorem Ze{L:List ah}{i:Int}{T0:List aK}{cs os:List Int}(hcs:cs.length≤900000)(C:Int→List aK→Option (List aK))(c:Int)(b:ah)(hb:L.getD i.toNat default=b):∀(m k:Nat) (E:List au) (T:List aK),k≤cs.length→cs.length<m+k→fK c (T0.length:Int) E T→T.length+(cs.length-k)≤900000 →
  ∃T',qM K n L i T0 (cs,os) C m (k:Int) T=C (aa (i+1)) T'∧fK c (T0.length:Int) (gx b (c+1) E (cs.drop k)) T':=by
 intro m
 induction m with
 | zero=>intro k E T h1 h2;omega
 | succ m ih =>
  intro k E T h1 h2 h3 h4;show ∃T',sV K n L i T0 (cs,os) C (qM K n L i T0 (cs,os) C m) (k:Int) T=_∧_;unfold sV;by_cases hk:k<cs.length
  ·have hd:cs.drop k=cs.getD k default::cs.drop (k+1):=by rw[List.drop_eq_getElem_cons hk,b9 hk]
   rw[if_pos (by simpa using hk),bV (by omega) (by simpa using hk),aW,hb,hd];simp only[Int.toNat_natCast];obtain⟨T1,t1,t2⟩:=PW (K:=K) (n:=n) h3 (by omega) b (cs.getD k default);rw[t1];simp only[Option.bind_some];rw[bG (by omega) (by omega),show(k:Int)+1=((k+1:Nat):Int) by omega];have hl:=t2.len;have hl0:=h3.len;have hp:=DG E ⟨1,c+1,cs.getD k default,false,b⟩;obtain⟨T',q1,q2⟩:=ih (k+1) _ T1 (by omega) (by omega) t2 (by omega);refine⟨T',q1,?_⟩;unfold gx at q2⊢;rw[List.foldl_cons];exact q2
  ·rw[if_neg (by simpa using hk),List.drop_eq_nil_of_le (by omega)];unfold gZ kX;exact⟨T,rfl,h3⟩
theorem Rq(b:ah):iR K n b=some (fz b):=by
 have e:iR K n b=fQ K n b:=rfl;rw[e,D1]
end
theorem OK:∀(d N:Nat) (L:List ah) (s:Int×List au) (T:List aK),Dp d L→0≤s.1→s.1+bA d L≤100000→s.2.length+bA d L≤100000→d+1100≤N→ft s.1 s.2 T→∃T',nj (KN N) N L T=some T'∧ft (vM d L s).1 (vM d L s).2 T':=by
 intro d
 induction d with
 | zero=>intro N L s T h;exact h.elim
 | succ d ih =>
  intro N L s T hD g0 g1 g2 hN hS;obtain⟨N,rfl⟩:∃M,N=M+1:=⟨N-1,by omega⟩;unfold Dp at hD;unfold nj;have loop:∀(m i:Nat) (s:Int×List au) (T:List aK),i≤L.length→L.length<m+i→0≤s.1→s.1+bA (d+1) (L.drop i)≤100000→s.2.length+bA (d+1) (L.drop i)≤100000→ft s.1 s.2 T→∃T',kh (KN (N+1)) (N+1) L m (i:Int) T=some T'∧ft (vM (d+1) (L.drop i) s).1 (vM (d+1) (L.drop i) s).2 T':=by
   intro m
   induction m with
   | zero=>intro i s T h1 h2;omega
   | succ m ihm =>
    intro i s T h1 h2 h0 h3 h4 hS;show ∃T',sw (KN (N+1)) (N+1) L (kh (KN (N+1)) (N+1) L m) i T=some T'∧_;unfold sw;by_cases hi:i<L.length
    ·have hb:L.getD i default∈L:=by rw[b9 hi];exact List.getElem_mem _
     have hdr:L.drop i=L.getD i default::L.drop (i+1):=by rw[List.drop_eq_getElem_cons hi,b9 hi]
     have hw:aa ((i:Int)+1)=((i+1:Nat):Int):=by rw[bG (by omega) (by omega)];omega
     have e:bA (d+1) (L.getD i default::L.drop (i+1))=(1+(L.getD i default).Text.size+bA d (L.getD i default).Kids)+bA (d+1) (L.drop (i+1)):=by simp[bA]
     rw[hdr,e]at h3 h4;rw[hdr];rw[fq,List.foldl_cons,← fq];obtain⟨t1,t2⟩:=hD.2 _ hb;have hlen:=hS.len;have hvl:=AE d (Dv d) s (L.getD i default);have hvn:=Br d (Lv d) s (L.getD i default) h0 (by omega);have hws:aa (s.1+1)=s.1+1:=bG (by omega) (by omega);rw[if_pos (by simpa using hi),bV (by omega) (by omega),aW,Rq];simp only[Option.bind_some,Int.toNat_natCast];have step:∀(T1:List aK) (s':Int×List au),cL d s (L.getD i default)=s'→ft s'.1 s'.2 T1→∃T',kh (KN (N+1)) (N+1) L m (aa ((i:Int)+1)) T1=some T'∧ft (vM (d+1) (L.drop (i+1)) (cL d s (L.getD i default))).1 (vM (d+1) (L.drop (i+1)) (cL d s (L.getD i default))).2 T':=fun T1 s' he h1=>by
      rw[hw];rw[←he]at h1;exact ihm (i+1) _ T1 (by omega) (by omega) (by omega) (by omega) (by omega) h1
     have one:∀(e1:au) (t:aK),fC e1 t→e1.Of=s.1+1→t.Number=(T.length:Int)→cL d s (L.getD i default)=(s.1+1,s.2++[e1])→∃T',aA (fits (T.length+([t]:(List aK)).length) 536) (gZ (KN (N+1)) (N+1) L (i:Int) (kh (KN (N+1)) (N+1) L m) (T++[t]))=some T'∧ft (vM (d+1) (L.drop (i+1)) (cL d s (L.getD i default))).1 (vM (d+1) (L.drop (i+1)) (cL d s (L.getD i default))).2 T':=fun e1 t q1 q2 q3 q4=>by
      rw[cv (by simp;omega) (by omega),aW];unfold gZ kX;exact step _ _ q4 (hS.open.snoc q1 q2 q3).close
     cases hf:fz (L.getD i default) with
     | false =>
      rw[show(!false)=true from rfl,if_pos rfl];unfold kX;exact step T s (by unfold cL;rw[hf];rfl) hS
     | true =>
      rw[show(!true)=false from rfl,if_neg (by simp)];cases k2:((L.getD i default).Kind == 2) with
      | true =>
       rw[if_pos rfl];have hk:=t2 (by simpa using k2);obtain⟨T1,q1,q2⟩:=ih N (L.getD i default).Kids (s.1+1,s.2) T hk (by show 0≤s.1+1;omega) (by show s.1+1+_≤_;omega) (by show s.2.length+_≤_;omega) (by omega) (hS.up (by show s.1≤s.1+1;omega));show ∃T',((nj (KN N) N (L.getD i default).Kids T).bind _)=some T'∧_;rw[q1];simp only[Option.bind_some];unfold gZ kX;exact step T1 _ (by unfold cL;rw[hf,k2,hws];rfl) q2
      | false =>
       rw[if_neg (by simp)];cases k4:((L.getD i default).Kind == 4) with
       | true =>
        rw[if_pos rfl];exact one ⟨2,s.1+1,0,false,L.getD i default⟩ _ ⟨rfl,rfl,rfl,rfl,fun q=>by cases q⟩ rfl rfl (by unfold cL;rw[hf,k2,k4,hws];rfl)
       | false =>
        rw[if_neg (by simp)];cases k5:((L.getD i default).Kind == 5) with
        | true =>
         rw[if_pos rfl];exact one ⟨3,s.1+1,0,false,L.getD i default⟩ _ ⟨rfl,rfl,rfl,rfl,fun q=>by cases q⟩ rfl rfl (by unfold cL;rw[hf,k2,k4,k5,hws];rfl)
        | false =>
         rw[if_neg (by simp)];cases k3:((L.getD i default).Kind == 3) with
         | true =>
          rw[if_pos rfl];obtain⟨o,ho⟩:=PD (K:=KN (N+1)) (n:=N+1) (L.getD i default).Text (by omega) (N+1) 0 [] [] (by omega) (by show 0+_≤_;omega) (by show 0+_≤_;omega);rw[List.nil_append]at ho;rw[show wJ (KN (N+1)) (N+1) (L.getD i default).Text=_ from ho];simp only[Option.bind_some];have hrl:=EO (L.getD i default).Text 0;obtain⟨T1,q1,q2⟩:=Ze (K:=KN (N+1)) (n:=N+1) (L:=L) (i:=(i:Int)) (T0:=T) (cs:=eC (L.getD i default).Text 0) (os:=o) (by omega) (kh (KN (N+1)) (N+1) L m) s.1 (L.getD i default) (by rw[Int.toNat_natCast]) (N+1) 0 s.2 T (by omega) (by omega) hS.open (by omega);rw[show(0:Int)=((0:Nat):Int) from rfl,q1];rw[List.drop_zero]at q2;exact step T1 (s.1+1,gx (L.getD i default) (s.1+1) s.2 (eC (L.getD i default).Text 0)) (by unfold cL;rw[hf,k2,k4,k5,k3,hws];rfl) q2.close
         | false =>
          rw[if_neg (by simp)];unfold gZ kX;exact step T (s.1+1,s.2) (by unfold cL;rw[hf,k2,k4,k5,k3,hws];rfl) (hS.up (by show s.1≤s.1+1;omega))
    ·rw[if_neg (by simpa using hi),List.drop_eq_nil_of_le (by omega)];exact⟨T,rfl,hS⟩
  have:=loop (N+1) 0 s T (by omega) (by omega) g0 (by rw[List.drop_zero];exact g1) (by rw[List.drop_zero];exact g2) hS;rw[List.drop_zero]at this;exact this
theorem Ov{d N:Nat}{L:List ah}(hD:Dp d L)(hc:bA d L≤100000)(hN:d+1100≤N):∃c T,nj (KN N) N L []=some T∧ft c (dB d L) T:=by
 obtain⟨T,q1,q2⟩:=OK d N L (0,[]) [] hD (Int.le_refl _) (by show(0:Int)+_≤_;omega) (by show 0+_≤_;omega) hN (Z8 0);exact⟨_,T,q1,q2⟩
end
end Go.Proofs.YtnpmlepplfaijaaGreat
namespace Go.Proofs.YtnpmlepplfaijaaGreat
set_option linter.all false
open Go.RowKit
structure R4 where
 w:Int
 s:Int
 g:Bool
 f:Bool
instance:Inhabited R4:=⟨⟨0,0,false,false⟩⟩
def vI(r:aH):R4:=⟨r.Width,r.Space,r.Glued,r.Forced⟩
theorem wK{L:List aH}{k:Nat}(h:k<L.length):(L.map vI)[k]'(by simpa using h)=vI (L.getD k default):=by
 rw[b9 h];simp
def gr(l:List R4)(i:Nat):Nat:=i+((l.drop i).takeWhile R4.g).length
theorem jX(l:List R4)(i:Nat):i≤gr l i:=Nat.le_add_right _ _
theorem GB{α:Type}(p:α→Bool):∀l:List α,(l.takeWhile p).length≤l.length
 | []=>Nat.le_refl _
 | x::r=>by
  rw[List.takeWhile_cons];split
  ·simp;exact GB p r
  ·simp
theorem rx{l:List R4}{i:Nat}(h:i≤l.length):gr l i≤l.length:=by
 have:=GB R4.g (l.drop i);simp at this;unfold gr;omega
theorem Er{l:List R4}{i:Nat}(h:i<l.length)(hg:l[i].g=true):gr l i=gr l (i+1):=by
 unfold gr;rw[List.drop_eq_getElem_cons h,List.takeWhile_cons,if_pos hg];simp;omega
theorem GY{l:List R4}{i:Nat}(h:i<l.length)(hg:l[i].g=false):gr l i=i:=by
 unfold gr;rw[List.drop_eq_getElem_cons h,List.takeWhile_cons,if_neg (by simp[hg])];simp
theorem I1{l:List R4}{i:Nat}(h:l.length≤i):gr l i=i:=by
 unfold gr;rw[List.drop_eq_nil_of_le h];simp
def wS(n last:Int):List R4→Int
 | []=>aa (n-last)
 | r::t=>wS (aa (n+aa (r.w+r.s))) (if r.f then last else r.s) t
def kt(l:List R4):Int:=wS 0 0 l
def qx(n:Int):List R4→Int
 | []=>n
 | r::t=>qx (aa (n+aa (r.w+r.s))) t
def fu(x:Int):List R4→Int
 | []=>x
 | r::t=>fu (if r.f then x else r.s) t
theorem Gk:∀(l:List R4) (n last:Int),wS n last l=aa (qx n l-fu last l)
 | [],n,last=>rfl
 | r::t,n,last=>by unfold wS qx fu;exact Gk t _ _
theorem A9:∀(l m:List R4) (x:Int),fu x (l++m)=fu (fu x l) m
 | [],m,x=>rfl
 | r::t,m,x=>by simp only[List.cons_append,fu];exact A9 t m _
theorem RH(n:Int):aa (aa n)=aa n:=by
 have : -9223372036854775808≤aa n∧aa n≤9223372036854775807:=by unfold aa;rw[IntKind.wrap_i64];omega
 exact bG this.1 this.2
section
variable{K:Kn}{n:Nat}{L:List aH}
theorem NW:∀(m:Nat) (i:Int),0≤i→i≤L.length→L.length<m+i.toNat→(L.length:Int)<9223372036854775807→rX K n L m i=some ((gr (L.map vI) i.toNat:Nat):Int):=by
 intro m
 induction m with
 | zero=>intro i h0 h1 h2;omega
 | succ m ih =>
  intro i h0 h1 h2 hL;show qc K n L (rX K n L m) i=_;unfold qc;by_cases hi:i<(L.length:Int)
  ·have hk:i.toNat<L.length:=by omega
   rw[if_pos (by simpa using hi),bV h0 hi,aW];unfold qT;have hv:=wK hk;cases hg:(L.getD i.toNat default).Glued with
   | true =>
    rw[if_pos rfl,bG (by omega) (by omega),ih (i+1) (by omega) (by omega) (by omega) hL];rw[Er (l:=L.map vI) (i:=i.toNat) (by simpa using hk) (by rw[hv];exact hg),show(i+1).toNat=i.toNat+1 by omega]
   | false =>
    rw[if_neg (by simp)];rw[GY (l:=L.map vI) (i:=i.toNat) (by simpa using hk) (by rw[hv];exact hg)];congr 1;omega
  ·rw[if_neg (by simpa using hi)];unfold qT;rw[if_neg (by simp),I1 (by simp;omega)];congr 1;omega
theorem EB{i:Int}(h0:0≤i)(h1:i<L.length)(hn:L.length<n)(hL:(L.length:Int)<9223372036854775807):qH K n L i=some ((gr (L.map vI) (i.toNat+1):Nat):Int):=by
 unfold qH;rw[bG (by omega) (by omega),NW n (i+1) (by omega) (by omega) (by omega) hL,show(i+1).toNat=i.toNat+1 by omega]
theorem TT:∀(m:Nat) (k:Nat),k≤L.length→k<m→(L.length:Int)<9223372036854775807 →
  ∃j:Int,lM K n L m ((k:Int)-1)=some j∧((j = -1∧∀x,fu x ((L.map vI).take k)=x)∨(0≤j∧j<k∧∀x,fu x ((L.map vI).take k)=(L.getD j.toNat default).Space)):=by
 intro m
 induction m with
 | zero=>intro k _ h;omega
 | succ m ih =>
  intro k hk hm hL;show ∃j,mg K n L (lM K n L m) ((k:Int)-1)=some j∧_;unfold mg;cases k with
  | zero=>rw[if_neg (by simp)];exact⟨-1,rfl,.inl ⟨rfl,fun x=>by simp[fu]⟩⟩
  | succ k =>
   have e:(((k+1:Nat):Int)-1)=(k:Int):=by omega
   rw[e,if_pos (by simp),bV (by omega) (by omega),aW,Int.toNat_natCast];have hkl:k<L.length:=by omega
   have hv:=wK hkl;have ht:(L.map vI).take (k+1)=(L.map vI).take k++[vI (L.getD k default)]:=by
    rw[List.take_add_one,List.getElem?_eq_getElem (by simpa using hkl),hv];rfl
   cases hf:(L.getD k default).Forced with
   | false =>
    rw[show(!false)=true from rfl,if_pos rfl];refine⟨(k:Int),rfl,.inr ⟨by omega,by omega,fun x=>?_⟩⟩;rw[ht,A9,Int.toNat_natCast];simp only[fu,vI,hf,Bool.false_eq_true,if_false]
   | true =>
    rw[show(!true)=false from rfl,if_neg (by simp),bG (by omega) (by omega)];obtain⟨j,h1,h2⟩:=ih k (by omega) (by omega) hL;refine⟨j,h1,?_⟩;have hx:∀x,fu x ((L.map vI).take (k+1))=fu x ((L.map vI).take k):=fun x=>by
     rw[ht,A9];simp only[fu,vI,hf,if_true]
    obtain⟨a,b⟩|⟨a,b,c⟩:=h2
    ·exact .inl ⟨a,fun x=>(hx x).trans (b x)⟩
    ·exact .inr ⟨a,by omega,fun x=>(hx x).trans (c x)⟩
theorem QO(hn:L.length<n)(hL:(L.length:Int)<9223372036854775807):∃j:Int,l9 K n L=some j∧((j = -1∧∀x,fu x (L.map vI)=x)∨(0≤j∧j<L.length∧∀x,fu x (L.map vI)=(L.getD j.toNat default).Space)):=by
 unfold l9;rw[bG (by omega) (by omega)];obtain⟨j,h1,h2⟩:=TT (K:=K) (n:=n) (L:=L) n L.length (Nat.le_refl _) hn hL;refine⟨j,h1,?_⟩;rw[List.take_of_length_le (by simp)]at h2;exact h2
theorem Wx(hn:L.length<n)(hL:(L.length:Int)<9223372036854775807):∀(m:Nat) (x i:Int),0≤i→i≤L.length→L.length<m+i.toNat→aa x=x →
  qx 0 (L.map vI)=qx x ((L.map vI).drop i.toNat)→sf K n L m x i=some (kt (L.map vI)):=by
 intro m
 induction m with
 | zero=>intro x i h0 h1 h2;omega
 | succ m ih =>
  intro x i h0 h1 h2 hx hs;show qA K n L (sf K n L m) x i=_;unfold qA;by_cases hi:i<(L.length:Int)
  ·have hk:i.toNat<L.length:=by omega
   rw[if_pos (by simpa using hi),bV h0 hi,aW,bG (n:=i+1) (by omega) (by omega)];refine ih _ (i+1) (by omega) (by omega) (by omega) (RH _) ?_;rw[hs,List.drop_eq_getElem_cons (by simpa using hk),wK hk,show(i+1).toNat=i.toNat+1 by omega];rfl
  ·rw[if_neg (by simpa using hi)];rw[List.drop_eq_nil_of_le (by simp;omega)]at hs;simp only[qx]at hs;obtain⟨j,h3,h4⟩:=QO (K:=K) (L:=L) hn hL;rw[h3];simp only[Option.bind_some,tC];unfold kt;rw[Gk,hs];obtain⟨rfl,h5⟩|⟨h5,h6,h7⟩:=h4
   ·rw[if_neg (by simp),h5];simp[hx]
   ·rw[if_pos (by simpa using h5),bV h5 h6,aW,h7]
theorem JL(hn:L.length<n)(hL:(L.length:Int)<9223372036854775807):sn K n L=some (kt (L.map vI)):=by
 unfold sn;exact Wx hn hL n 0 0 (by omega) (by omega) (by simpa using hn) (by unfold aa;rw[IntKind.wrap_i64];omega) rfl
end
def sl{α:Type}(l:List α)(a b:Nat):List α:=List.drop a (List.take b l)
theorem FS{α β:Type}(f:α→β)(l:List α)(a b:Nat):(sl l a b).map f=sl (l.map f) a b:=by unfold sl;rw[List.map_drop,List.map_take]
theorem oF{α:Type}(l:List α)(a b:Nat):(sl l a b).length≤l.length:=by unfold sl;simp;omega
def lE(l:List R4)(w:Int)(a:Nat):Nat→Nat→Nat
 | 0,e=>e
 | m+1,e=>if e<l.length∧(l.getD (e-1) default).f=false∧¬ kt (sl l a (gr l (e+1)))>w then lE l w a m (gr l (e+1)) else e
def bM(l:List R4)(w:Int):Nat→Nat→List Nat
 | 0,_=>[]
 | m+1,a=>if a<l.length then a::bM l w m (lE l w a l.length (gr l (a+1))) else []
theorem ss(l:List R4)(w:Int)(a:Nat):∀m e,e≤lE l w a m e
 | 0,e=>Nat.le_refl _
 | m+1,e=>by
  unfold lE;split
  ·have:=ss l w a m (gr l (e+1));have:=jX l (e+1);omega
  ·exact Nat.le_refl _
theorem wD(l:List R4)(w:Int)(a:Nat):∀m e,e≤l.length→lE l w a m e≤l.length
 | 0,e,h=>h
 | m+1,e,h=>by
  unfold lE;split
  ·rename_i h1;exact wD l w a m _ (rx (by omega))
  ·exact h
theorem Fw(l:List R4)(w:Int)(a:Nat):∀(m m' e:Nat),l.length≤m+e→l.length≤m'+e→lE l w a m e=lE l w a m' e:=by
 intro m
 induction m with
 | zero =>
  intro m' e h h';cases m' with
  | zero=>rfl
  | succ m'=>unfold lE;rw[if_neg (by omega)]
 | succ m ih =>
  intro m' e h h';cases m' with
  | zero=>unfold lE;rw[if_neg (by omega)]
  | succ m' =>
   unfold lE;split
   ·have:=jX l (e+1);exact ih m' _ (by omega) (by omega)
   ·rfl
end Go.Proofs.YtnpmlepplfaijaaGreat
namespace Go.Proofs.YtnpmlepplfaijaaGreat
set_option linter.all false
open Go.RowKit
theorem Lo(l:List R4)(w:Int):∀(m m' a:Nat),l.length<m+a→l.length<m'+a→bM l w m a=bM l w m' a:=by
 intro m
 induction m with
 | zero =>
  intro m' a h h';cases m' with
  | zero=>rfl
  | succ m'=>unfold bM;rw[if_neg (by omega)]
 | succ m ih =>
  intro m' a h h';cases m' with
  | zero=>unfold bM;rw[if_neg (by omega)]
  | succ m' =>
   unfold bM;split
   ·have:=ss l w a l.length (gr l (a+1));have:=jX l (a+1);rw[ih m' _ (by omega) (by omega)]
   ·rfl
theorem xX(l:List R4)(w:Int):∀(m a:Nat),(bM l w m a).length≤l.length-a
 | 0,a=>by simp[bM]
 | m+1,a=>by
  unfold bM;split
  ·have:=xX l w m (lE l w a l.length (gr l (a+1)));have:=ss l w a l.length (gr l (a+1));have:=jX l (a+1);simp;omega
  ·simp
section
variable{K:Kn}{n:Nat}{L:List aH}{w:Int}
theorem US(hn:L.length<n)(hL:(L.length:Int)<9223372036854775807)(a:Nat)(out:List Int)(C:Int→List Int→Option (List Int)):∀(m e:Nat),1≤e→a≤e→e≤L.length→L.length<m+e →
  sT K n L w a out C m e=C ((lE (L.map vI) w a m e:Nat):Int) (out++[(a:Int)]):=by
 intro m
 induction m with
 | zero=>intro e h0 h1 h2 h3;omega
 | succ m ih =>
  intro e h0 h1 h2 h3;show sP K n L w a out C (sT K n L w a out C m) e=_;unfold sP lE;by_cases he:e<L.length
  ·rw[if_pos (by simpa using he),bG (by omega) (by omega),bV (by omega) (by omega),aW];unfold rc;have e1:((e:Int)-1).toNat=e-1:=by omega
   have hv:=wK (L:=L) (k:=e-1) (by omega);have hf:((L.map vI).getD (e-1) default).f=(L.getD ((e:Int)-1).toNat default).Forced:=by
    rw[b9 (by simp;omega),hv,e1];rfl
   cases hb:(L.getD ((e:Int)-1).toNat default).Forced with
   | true =>
    rw[show(!true)=false from rfl,if_neg (by simp),if_neg (by rw[hf,hb];simp)];rfl
   | false =>
    have hg:=rx (l:=L.map vI) (i:=e+1) (by simp;omega);have hge:=jX (L.map vI) (e+1);simp only[List.length_map]at hg;rw[show(!false)=true from rfl,if_pos rfl,EB (by omega) (by omega) hn hL];simp only[Option.bind_some,Int.toNat_natCast];rw[show cN (a:Int) ((gr (L.map vI) (e+1):Nat):Int) L.length=true by simp only[cN,Bool.and_eq_true,decide_eq_true_eq];omega,aW];have hs:List.drop a (List.take (gr (L.map vI) (e+1)) L)=sl L a (gr (L.map vI) (e+1)):=rfl;rw[hs,JL (by have:=oF L a (gr (L.map vI) (e+1));omega) (by have:=oF L a (gr (L.map vI) (e+1));omega),FS];simp only[Option.bind_some];by_cases hw:kt (sl (L.map vI) a (gr (L.map vI) (e+1)))>w
    ·rw[if_pos (by simpa using hw),if_neg (by simp[hw])];rfl
    ·rw[if_neg (by simpa using hw),if_pos ⟨by simpa using he,by rw[hf,hb],hw⟩];exact ih _ (by omega) (by omega) (by omega) (by omega)
  ·rw[if_neg (by simpa using he),if_neg (by simp;omega)];unfold rc;rw[if_neg (by simp)];rfl
theorem OO(hn:L.length<n)(hL:(L.length:Int)≤1000000):∀(m a:Nat) (out:List Int),a≤L.length→out.length≤a→L.length<m+a→pX K n L w m a out=some (out++(bM (L.map vI) w m a).map fun (k:Nat)=>(k:Int)):=by
 intro m
 induction m with
 | zero=>intro a out h1 h2 h3;omega
 | succ m ih =>
  intro a out h1 h2 h3;show sd K n L w (pX K n L w m) a out=_;unfold sd bM;by_cases ha:a<L.length
  ·rw[if_pos (by simpa using ha),if_pos (by simpa using ha),cv (by simp;omega) (by omega),aW,EB (by omega) (by omega) hn (by omega)];simp only[Option.bind_some,Int.toNat_natCast];have hg:=rx (l:=L.map vI) (i:=a+1) (by simp;omega);have hge:=jX (L.map vI) (a+1);simp only[List.length_map]at hg;rw[US hn (by omega) a out _ n _ (by omega) (by omega) hg (by omega)];rw[Fw (L.map vI) w a n (L.map vI).length _ (by simp;omega) (by simp)];have h5:=wD (L.map vI) w a (L.map vI).length (gr (L.map vI) (a+1)) (by simpa using hg);have h6:=ss (L.map vI) w a (L.map vI).length (gr (L.map vI) (a+1));simp only[List.length_map]at h5 h6⊢;rw[ih _ _ h5 (by simp;omega) (by omega)];simp[List.append_assoc]
  ·rw[if_neg (by simpa using ha),if_neg (by simpa using ha)];simp
theorem VV(hn:L.length<n)(hL:(L.length:Int)≤1000000):tv K n L w=some ((bM (L.map vI) w (L.length+1) 0).map fun (k:Nat)=>(k:Int)):=by
 unfold tv;rw[show(0:Int)=((0:Nat):Int) from rfl,OO hn hL n 0 [] (by omega) (by simp) (by omega),Lo (L.map vI) w n (L.length+1) 0 (by simp;omega) (by simp)];simp
end
end Go.Proofs.YtnpmlepplfaijaaGreat
namespace Go.Proofs.YtnpmlepplfaijaaGreat
set_option linter.all false
open Go.RowKit
noncomputable section
def jl(o:Int):au→List au→Nat
 | _,[]=>0
 | a,b::r=>bif b.Kind == 1&&(b.Of == o&&!ee a b) then jl o b r+1 else 0
theorem C9(o:Int):∀(l:List au) (a:au),jl o a l≤l.length
 | [],_=>Nat.le_refl _
 | b::r,a=>by
  unfold jl;cases (b.Kind == 1&&(b.Of == o&&!ee a b)) with
  | true=>have:=C9 o r b;simp;omega
  | false=>simp
def iK(p:Option au)(e:au):Bool:=match p with
 | none=>false
 | some q=>q.Kind != 2&&!ee q e
def runM(x:aH)(e:au)(g:Bool):aH:={ x with Node:=e.Box.Node,Style:=e.Box.Style,Glued:=g }
def cM(pl:ah→aH):Nat→Option au→List au→List aH
 | 0,_,_=>[]
 | _+1,_,[]=>[]
 | m+1,p,e::r =>
  bif e.Kind == 2 then runM { cJ with Forced:=true } e (iK p e)::cM pl m (some e) r
  else bif e.Kind == 3 then runM (pl e.Box) e (iK p e)::cM pl m (some e) r
  else runM (dR (e::r.take (jl e.Of e r))) e (iK p e)::cM pl m (some (dj (e::r.take (jl e.Of e r)))) (r.drop (jl e.Of e r))
def cY(L:List au)(i:Nat):Option au:=if i=0 then none else some (L.getD (i-1) default)
theorem K2{α:Type}[Inhabited α]{L:List α}{i k:Nat}(h:i<L.length):sl L i (i+1+k)=L.getD i default::(L.drop (i+1)).take k:=by
 unfold sl;rw[List.drop_take,show i+1+k-i=k+1 by omega,List.drop_eq_getElem_cons h,List.take_succ_cons,b9 h]
theorem LK{α:Type}{L:List α}{a b:Nat}{x:α}(h:x∈sl L a b):x∈L:=by
 unfold sl at h;exact List.mem_of_mem_take (List.mem_of_mem_drop h)
theorem FM{α:Type}{L:List α}{a b:Nat}(h:b≤L.length):(sl L a b).length=b-a:=by unfold sl;simp;omega
theorem MQ{L:List au}{i k:Nat}(h:i+k<L.length):dj (L.getD i default::(L.drop (i+1)).take k)=L.getD (i+k) default:=by
 rw[←K2 (by omega)];unfold dj;have hl:=FM (L:=L) (a:=i) (b:=i+1+k) (by omega);rw[hl,b9 (by rw[hl];omega),b9 h];unfold sl;rw[List.getElem_drop,List.getElem_take];congr 1;omega
section
variable{K:Kn}{n:Nat}{v2:Fv}{L:List au}{pl:ah→aH}
theorem SO(ho:∀e∈L,g6 e)(hl:L.length≤2000)(hn:8010≤n)(i:Nat)(acc:List aH)(g:Bool)(C:Int→List aH→Option (List aH))(hi:i<L.length):∀(m x:Nat),i<x→x≤L.length→L.length<m+x →
  oc K n v2 L (i:Int) acc g C m (x:Int)=jm K n v2 L i acc g C ((x+jl (L.getD i default).Of (L.getD (x-1) default) (L.drop x):Nat):Int) (dR (sl L i (x+jl (L.getD i default).Of (L.getD (x-1) default) (L.drop x)))):=by
 have fin:∀y:Nat,i<y→y≤L.length→∀(D:Int→Option (List aH)),jE K n v2 L (i:Int) acc g (y:Int) C D false=jm K n v2 L i acc g C (y:Int) (dR (sl L i y)):=fun y h1 h2 D=>by
  unfold jE;have hsl:List.drop i (List.take y L)=sl L i y:=rfl;have hlen:=FM (L:=L) (a:=i) (b:=y) h2;rw[if_neg (by simp),show cN (i:Int) (y:Int) L.length=true by simp only[cN,Bool.and_eq_true,decide_eq_true_eq];omega,aW];simp only[Int.toNat_natCast];rw[hsl,Sc (by intro e;rw[e]at hlen;simp at hlen;omega) (by omega) (fun e he=>ho e (LK he)) hn];rfl
 intro m
 induction m with
 | zero=>intro x h1 h2 h3;omega
 | succ m ih =>
  intro x h1 h2 h3;show qR K n v2 L i acc g C (oc K n v2 L i acc g C m) x=_;unfold qR;by_cases hx:x<L.length
  ·have hdr:L.drop x=L.getD x default::L.drop (x+1):=by rw[List.drop_eq_getElem_cons hx,b9 hx]
   have hb:L.getD x default∈L:=by rw[b9 hx];exact List.getElem_mem _
   have ha:L.getD (x-1) default∈L:=by rw[b9 (by omega)];exact List.getElem_mem _
   have e1:aa ((x:Int)-1)=((x-1:Nat):Int):=by rw[bG (by omega) (by omega)];omega
   rw[if_pos (by simpa using hx),bV (by omega) (by omega)];simp only[aW,Int.toNat_natCast,e1];rw[hdr];unfold jl;have nog:∀{b:Bool},b=false→jE K n v2 L (i:Int) acc g (x:Int) C (oc K n v2 L i acc g C m) false=jm K n v2 L i acc g C ((x+(bif b then jl (L.getD i default).Of (L.getD x default) (L.drop (x+1))+1 else 0):Nat):Int) (dR (sl L i (x+(bif b then jl (L.getD i default).Of (L.getD x default) (L.drop (x+1))+1 else 0)))):=fun {b} hb=>by
    subst hb;exact fin x h1 h2 _
   cases hk:((L.getD x default).Kind == 1) with
   | false=>rw[if_neg (by simp)];exact nog rfl
   | true =>
    rw[if_pos rfl];cases hof:((L.getD x default).Of == (L.getD i default).Of) with
    | false=>rw[if_neg (by simp)];exact nog rfl
    | true =>
     rw[if_pos rfl,bV (by omega) (by omega),aW,Ix K (by omega) (ho _ ha).ch (ho _ hb).ch];simp only[Option.bind_some];cases hbr:ee (L.getD (x-1) default) (L.getD x default) with
     | true=>exact nog rfl
     | false =>
      unfold jE;rw[show(!false)=true from rfl,if_pos rfl,bG (by omega) (by omega),show(x:Int)+1=((x+1:Nat):Int) by omega,ih (x+1) (by omega) (by omega) (by omega)];simp only[Nat.add_sub_cancel,Bool.and_self,cond_true];rw[show x+1+jl (L.getD i default).Of (L.getD x default) (L.drop (x+1))=x+(jl (L.getD i default).Of (L.getD x default) (L.drop (x+1))+1) by omega]
  ·rw[if_neg (by simpa using hx),List.drop_eq_nil_of_le (by omega)];unfold jl;exact fin x h1 h2 _
theorem zn(i:Nat)(acc:List aH)(g:Bool)(C:Int→List aH→Option (List aH))(hacc:acc.length≤1000000)(y:Int)(x:aH):jm K n v2 L (i:Int) acc g C y x=C y (acc++[runM x (L.getD i default) g]):=by
 unfold jm;simp only[Option.bind_some,Int.toNat_natCast];rw[cv (by simp;omega) (by omega),aW];rfl
theorem QF(ho:∀e∈L,g6 e)(hl:L.length≤2000)(hn:8010≤n)(hpl:∀e∈L,e.Kind=3→K.pC v2 e.Box=some (pl e.Box)):∀(m i:Nat) (acc:List aH),i≤L.length→L.length<m+i→acc.length≤i →
  pj K n v2 L m (i:Int) acc=some (acc++cM pl m (cY L i) (L.drop i)):=by
 intro m
 induction m with
 | zero=>intro i acc h1 h2;omega
 | succ m ih =>
  intro i acc h1 h2 h3;show qE K n v2 L (pj K n v2 L m) i acc=_;unfold qE;by_cases hi:i<L.length
  ·have hdr:L.drop i=L.getD i default::L.drop (i+1):=by rw[List.drop_eq_getElem_cons hi,b9 hi]
   have hb:L.getD i default∈L:=by rw[b9 hi];exact List.getElem_mem _
   rw[if_pos (by simpa using hi),bV (by omega) (by omega)];simp only[aW,Int.toNat_natCast];rw[hdr];have hw:aa ((i:Int)+1)=((i+1:Nat):Int):=by rw[bG (by omega) (by omega)];omega
   have hprev:cY L (i+1)=some (L.getD i default):=by unfold cY;rw[if_neg (by omega),Nat.add_sub_cancel]
   have key:∀g,g=iK (cY L i) (L.getD i default)→oK K n v2 L (i:Int) acc (pj K n v2 L m) g=some (acc++cM pl (m+1) (cY L i) (L.getD i default::L.drop (i+1))):=by
    intro g hg;unfold oK cM;simp only[Option.bind_some,Int.toNat_natCast];rw[←hg];cases k2:((L.getD i default).Kind == 2) with
    | true =>
     rw[if_pos rfl,zn i acc g _ (by omega),hw,ih (i+1) _ (by omega) (by omega) (by simp;omega),hprev];simp[List.append_assoc]
    | false =>
     rw[if_neg (by simp)];cases k3:((L.getD i default).Kind == 3) with
     | true =>
      rw[if_pos rfl,hpl _ hb (by simpa using k3)];simp only[Option.bind_some];rw[zn i acc g _ (by omega),hw,ih (i+1) _ (by omega) (by omega) (by simp;omega),hprev];simp[List.append_assoc]
     | false =>
      rw[if_neg (by simp),hw,SO ho hl hn i acc g _ hi n (i+1) (by omega) (by omega) (by omega),Nat.add_sub_cancel];simp only[cond_false];have hj:=C9 (L.getD i default).Of (L.drop (i+1)) (L.getD i default);rw[List.length_drop]at hj;generalize jl (L.getD i default).Of (L.getD i default) (L.drop (i+1))=k at *;rw[zn i acc g _ (by omega),ih (i+1+k) _ (by omega) (by omega) (by simp;omega),K2 hi,MQ (by omega),List.drop_drop];have hp:cY L (i+1+k)=some (L.getD (i+k) default):=by unfold cY;rw[if_neg (by omega)];congr 2;omega
      rw[hp];simp[List.append_assoc]
   by_cases h0:i=0
   ·rw[if_neg (by simp;omega)];exact key false (by unfold cY;rw[if_pos h0];rfl)
   ·have ha:L.getD (i-1) default∈L:=by rw[b9 (by omega)];exact List.getElem_mem _
    have e1:aa ((i:Int)-1)=((i-1:Nat):Int):=by rw[bG (by omega) (by omega)];omega
    have hp:cY L i=some (L.getD (i-1) default):=by unfold cY;rw[if_neg h0]
    rw[if_pos (by simp;omega),e1,bV (by omega) (by omega)];simp only[aW,Int.toNat_natCast];by_cases hk:((L.getD (i-1) default).Kind != 2)=true
    ·rw[if_pos hk,Ix K (by omega) (ho _ ha).ch (ho _ hb).ch];simp only[Option.bind_some];exact key _ (by rw[hp];show _=((L.getD (i-1) default).Kind != 2&&!ee (L.getD (i-1) default) (L.getD i default));rw[hk];rfl)
    ·rw[if_neg hk];have hk':((L.getD (i-1) default).Kind != 2)=false:=by simpa using hk
     exact key false (by rw[hp];show _=((L.getD (i-1) default).Kind != 2&&!ee (L.getD (i-1) default) (L.getD i default));rw[hk'];rfl)
  ·rw[if_neg (by simpa using hi),List.drop_eq_nil_of_le (by omega)];simp[cM]
theorem UK(pl:ah→aH):∀(m m':Nat) (p:Option au) (l:List au),l.length<m→l.length<m'→cM pl m p l=cM pl m' p l:=by
 intro m
 induction m with
 | zero=>intro m' p l h;omega
 | succ m ih =>
  intro m' p l h h';cases m' with
  | zero=>omega
  | succ m' =>
   cases l with
   | nil=>rfl
   | cons e r =>
    simp only[List.length_cons]at h h';unfold cM;rw[ih m' (some e) r (by omega) (by omega),ih m' _ (r.drop (jl e.Of e r)) (by simp;omega) (by simp;omega)]
theorem Sl(pl:ah→aH):∀(m:Nat) (p:Option au) (l:List au),(cM pl m p l).length≤l.length:=by
 intro m
 induction m with
 | zero=>intro p l;simp[cM]
 | succ m ih =>
  intro p l;cases l with
  | nil=>simp[cM]
  | cons e r =>
   unfold cM;have h1:=ih (some e) r;have h2:=ih (some (dj (e::r.take (jl e.Of e r)))) (r.drop (jl e.Of e r));rw[List.length_drop]at h2;cases (e.Kind == 2) with
   | true=>simp;omega
   | false =>
    cases (e.Kind == 3) with
    | true=>simp;omega
    | false=>simp;omega
def iG(pl:ah→aH)(L:List au):List aH:=cM pl (L.length+1) none L
end
theorem Mq{N d:Nat}{B:List ah}{v2:Fv}{pl:ah→aH}(hD:Dp d B)(hc:bA d B≤2000)(hN:d+9000≤N)(hpl:∀e∈dB d B,e.Kind=3→(KN N).pC v2 e.Box=some (pl e.Box)):
  rM (KN N) N B v2=some (iG pl (dB d B)):=by
 have hlen:=yD d B;unfold rM;rw[X2 hD (by omega) (by omega)];simp only[Option.bind_some];rw[show(0:Int)=((0:Nat):Int) from rfl,QF (pl:=pl) (D0 d B) (by omega) (by omega) hpl N 0 [] (by omega) (by omega) (by simp),List.drop_zero,List.nil_append];unfold iG;rw[UK pl N ((dB d B).length+1) _ _ (by omega) (by omega)];rfl
end
end Go.Proofs.YtnpmlepplfaijaaGreat
namespace Go.Proofs.YtnpmlepplfaijaaGreat
set_option linter.all false
open Go.RowKit
noncomputable section
structure EK(e:au):Prop where
 kind:e.Kind=1∨e.Kind=2∨e.Kind=3
 sp:e.Kind=1→c6 e.Char=(e.Char == 32)
theorem Mm(d:Nat)(bx:List ah):∀e∈dB d bx,EK e :=
 B5 (P:=EK) (fun b num r _ hs=>⟨.inl rfl,fun _=>by
   show c6 r=(r == 32);rw[hs];cases h:(r == 32) with
   | false=>rfl
   | true =>
    have e : r=32:=by simpa using h
    subst e;cases hs⟩) (fun _ _=>⟨.inr (.inl rfl),fun h=>by cases h⟩) (fun _ _ _=>⟨.inl rfl,fun _=>rfl⟩) (fun _ _ _=>⟨.inl rfl,fun _=>rfl⟩) (fun _ _=>⟨.inr (.inl rfl),fun h=>by cases h⟩) (fun _ _=>⟨.inr (.inr rfl),fun h=>by cases h⟩) d bx (0,[]) (fun x hx=>by cases hx)
def jj(e:au):Bool:=e.Box.Style.WhiteSpace != 1&&e.Box.Style.WhiteSpace != 2
section
variable{K:Kn}{n:Nat}
theorem xM{e:au}{t:aK}(h:fC e t):kU K n t=some (jj e):=by
 unfold kU tA jj;rw[h.box];cases h1:(e.Box.Style.WhiteSpace != 1)<;>cases h2:(e.Box.Style.WhiteSpace != 2)<;>simp
theorem V0(hn:101≤n){a b:au}{ta tb:aK}(ha:fC a ta)(hb:fC b tb)(ka:EK a)(kb:EK b):uY K n ta tb=some (ee a b):=by
 have j1t:kk K n ta tb true=some false:=rfl;have nb:fa b=(b.Kind == 1&&jj b):=rfl;have na:fa a=(a.Kind == 1&&jj a):=rfl;have j4:∀c:Bool,py K n ta tb c=bif c then some false else oD K n ta.Char tb.Char:=fun c=>by
  unfold py;cases c
  ·cases oD K n ta.Char tb.Char<;>rfl
  ·rfl
 have j2t:oX K n ta tb true=some ((ta.Block||jj a)&&(tb.Block||jj b)):=by
  unfold oX mo;simp only[xM ha,xM hb,Option.bind_some];cases ta.Block<;>cases tb.Block<;>cases jj a<;>cases jj b<;>rfl
 unfold uY;rw[ha.forced,hb.forced];unfold ee;rcases ka.kind with k|k|k
 ·rw[show(a.Kind == 2)=false by rw[k];rfl,if_neg (by simp)];rcases kb.kind with q|q|q
  ·rw[show(b.Kind == 2)=false by rw[q];rfl,show(a.Kind == 3)=false by rw[k];rfl,show(b.Kind == 3)=false by rw[q];rfl];unfold kk;rw[if_neg (by simp),ha.block,hb.block,show(a.Kind == 3)=false by rw[k];rfl,show(b.Kind == 3)=false by rw[q];rfl,if_neg (by simp)];unfold oX;rw[if_neg (by simp),xM ha,xM hb,w5];simp only[Option.bind_some,j4];rw[ha.char k,hb.char q,W9 hn,ka.sp k,na,nb,show(a.Kind == 1)=true by rw[k];rfl,show(b.Kind == 1)=true by rw[q];rfl,show(a.Kind != 1)=false by rw[k];rfl,show(b.Kind != 1)=false by rw[q];rfl];cases jj a<;>cases jj b<;>cases h:(a.Char == 32)<;>simp[bne,h]
  ·rw[show(b.Kind == 2)=true by rw[q];rfl,j1t,show(a.Kind == 3)=false by rw[k];rfl,show(b.Kind == 3)=false by rw[q];rfl,show(b.Kind != 1)=true by rw[q];rfl,show(a.Kind != 1)=false by rw[k];rfl];rfl
  ·rw[show(b.Kind == 2)=false by rw[q];rfl,show(a.Kind == 3)=false by rw[k];rfl,show(b.Kind == 3)=true by rw[q];rfl];unfold kk;rw[if_neg (by simp),ha.block,hb.block,show(a.Kind == 3)=false by rw[k];rfl,show(b.Kind == 3)=true by rw[q];rfl,if_neg (by simp),j2t,ha.block,hb.block,na,show(a.Kind == 3)=false by rw[k];rfl,show(b.Kind == 3)=true by rw[q];rfl,show(a.Kind == 1)=true by rw[k];rfl];rfl
 ·rw[show(a.Kind == 2)=true by rw[k];rfl,if_pos rfl,j1t,show(a.Kind == 3)=false by rw[k];rfl,na,show(a.Kind == 1)=false by rw[k];rfl,show(a.Kind != 1)=true by rw[k];rfl];cases (b.Kind == 3)<;>rfl
 ·rw[show(a.Kind == 2)=false by rw[k];rfl,if_neg (by simp),show(a.Kind == 3)=true by rw[k];rfl];rcases kb.kind with q|q|q
  ·rw[show(b.Kind == 2)=false by rw[q];rfl,show(b.Kind == 3)=false by rw[q];rfl];unfold kk;rw[if_neg (by simp),ha.block,show(a.Kind == 3)=true by rw[k];rfl,if_pos rfl,j2t,ha.block,hb.block,nb,show(a.Kind == 3)=true by rw[k];rfl,show(b.Kind == 3)=false by rw[q];rfl,show(b.Kind == 1)=true by rw[q];rfl];rfl
  ·rw[show(b.Kind == 2)=true by rw[q];rfl,j1t,nb,show(b.Kind == 3)=false by rw[q];rfl,show(b.Kind == 1)=false by rw[q];rfl];rfl
  ·rw[show(b.Kind == 2)=false by rw[q];rfl,show(b.Kind == 3)=true by rw[q];rfl];unfold kk;rw[if_neg (by simp),ha.block,show(a.Kind == 3)=true by rw[k];rfl,if_pos rfl,j2t,ha.block,hb.block,show(a.Kind == 3)=true by rw[k];rfl,show(b.Kind == 3)=true by rw[q];rfl];rfl
end
def hZ(p:Option au)(e:au):Bool:=match p with
 | none=>false
 | some q=>q.Kind == 1&&(e.Kind == 1&&(e.Of == q.Of&&!ee q e))
abbrev RT:=aO×Option (List aK)
def gp(acc:List RT)(t:aK):List RT:=acc.set (acc.length-1) ((acc.getD (acc.length-1) default).1,some ((((acc.getD (acc.length-1) default).2).getD [])++[t]))
def oW(p:Option au)(e:au)(t:aK):RT:=({ dE with Glued:=iK p e,Forced:=t.Forced },some [t])
def gM:Option au→List au→List aK→List RT→List RT
 | p,e::r,t::s,acc=>gM (some e) r s (bif hZ p e then gp acc t else acc++[oW p e t])
 | _,_,_,acc=>acc
end
end Go.Proofs.YtnpmlepplfaijaaGreat
namespace Go.Proofs.YtnpmlepplfaijaaGreat
set_option linter.all false
open Go.RowKit
noncomputable section
theorem CM(p:Option au)(e:au)(r:List au)(t:aK)(s:List aK)(acc:List RT):gM p (e::r) (t::s) acc=gM (some e) r s (bif hZ p e then gp acc t else acc++[oW p e t]):=by
 conv=>lhs;unfold gM
def sm(i:Nat)(acc:List RT):Prop:=∀p∈acc,∃l,p.2=some l∧l.length≤i
theorem NK{i:Nat}{acc:List RT}(h:sm i acc)(p:Option au)(e:au)(t:aK):sm (i+1) (acc++[oW p e t]):=by
 intro x hx;rcases List.mem_append.1 hx with hx|hx
 ·obtain⟨l,h1,h2⟩:=h x hx;exact⟨l,h1,by omega⟩
 ·rw[List.mem_singleton.1 hx];exact⟨[t],rfl,by simp⟩
theorem UJ{i:Nat}{acc:List RT}(h:sm i acc)(h0:0<acc.length)(t:aK):sm (i+1) (gp acc t):=by
 intro x hx;unfold gp at hx;rcases List.mem_or_eq_of_mem_set hx with hx|hx
 ·obtain⟨l,h1,h2⟩:=h x hx;exact⟨l,h1,by omega⟩
 ·have hm:acc.getD (acc.length-1) default∈acc:=by rw[b9 (by omega)];exact List.getElem_mem _
  obtain⟨l,h1,h2⟩:=h _ hm;rw[hx,h1];exact⟨_,rfl,by simp;omega⟩
theorem Qt{i:Nat}{acc:List RT}(h:sm i acc):acc.all (fun p=>p.2.isSome)=true:=by
 rw[List.all_eq_true];intro p hp;obtain⟨l,h1,_⟩:=h p hp;rw[h1];rfl
section
variable{K:Kn}{n:Nat}{w:Int}{E:List au}{T:List aK}{c:Int}
theorem WN(hS:ft c E T)(hk:∀e∈E,EK e)(hl:E.length≤100000)(hn:101≤n):∀(m i:Nat) (acc:List RT),i≤E.length→E.length<m+i→(0<i→0<acc.length)→acc.length≤i→sm i acc →
  kJ K n w T m (i:Int) acc=kG K n w n 0 ((gM (cY E i) (E.drop i) (T.drop i) acc).map de):=by
 have hlen:=hS.len;intro m
 induction m with
 | zero=>intro i acc h1 h2;omega
 | succ m ih =>
  intro i acc h1 h2 h3 h4 h5;show rt K n w T (kJ K n w T m) i acc=_;unfold rt;by_cases hi:i<E.length
  ·have hiT:i<T.length:=by omega
   have hdE:E.drop i=E.getD i default::E.drop (i+1):=by rw[List.drop_eq_getElem_cons hi,b9 hi]
   have d6:T.drop i=T.getD i default::T.drop (i+1):=by rw[List.drop_eq_getElem_cons hiT,b9 hiT]
   have hme:E.getD i default∈E:=by rw[b9 hi];exact List.getElem_mem _
   have hel:=hS.el i hi;have hke:=hk _ hme;have hprev:cY E (i+1)=some (E.getD i default):=by unfold cY;rw[if_neg (by omega),Nat.add_sub_cancel]
   have hw:aa ((i:Int)+1)=((i+1:Nat):Int):=by rw[bG (by omega) (by omega)];omega
   rw[if_pos (by simpa using hiT),bV (by omega) (by omega),aW,hdE,d6,CM];have new:∀(v8 g:Bool),hZ (cY E i) (E.getD i default)=false→g=iK (cY E i) (E.getD i default)→n7 K n w T (i:Int) acc v8 (kJ K n w T m) g=kG K n w n 0 ((gM (some (E.getD i default)) (E.drop (i+1)) (T.drop (i+1)) (bif hZ (cY E i) (E.getD i default) then gp acc (T.getD i default) else acc++[oW (cY E i) (E.getD i default) (T.getD i default)])).map de):=fun v8 g hg1 hg2=>by
    unfold n7 rC;rw[Int.toNat_natCast,cv (by simp) (by omega),aW,cv (by omega) (by omega),aW,hw,hg1,hg2];have:=ih (i+1) (acc++[oW (cY E i) (E.getD i default) (T.getD i default)]) (by omega) (by omega) (fun _=>by simp) (by simp;omega) (NK h5 _ _ _);rw[hprev]at this;exact this
   by_cases h0:i=0
   ·subst h0;have hp:cY E 0=none:=rfl;rw[if_neg (by simp)];unfold qO gv;rw[if_neg (by simp),if_neg (by simp),if_neg (by simp)];exact new false false (by rw[hp];rfl) (by rw[hp];rfl)
   ·have hi1:i-1<E.length:=by omega
    have e1:aa ((i:Int)-1)=((i-1:Nat):Int):=by rw[bG (by omega) (by omega)];omega
    have hmq:E.getD (i-1) default∈E:=by rw[b9 hi1];exact List.getElem_mem _
    have hq:=hS.el (i-1) hi1;have hkq:=hk _ hmq;have hp:cY E i=some (E.getD (i-1) default):=by unfold cY;rw[if_neg h0]
    have hpos:decide ((i:Int)>0)=true:=by simp;omega
    have hpair:=hS.pair (i-1) i hi1 hi;rw[if_pos hpos,e1,bV (by omega) (by omega),aW,Int.toNat_natCast,Int.toNat_natCast,V0 hn hq hel hkq hke];simp only[Option.bind_some];have no:∀v8,v8=ee (E.getD (i-1) default) (E.getD i default)→hZ (cY E i) (E.getD i default)=false→gv K n w T (i:Int) acc v8 (kJ K n w T m) false=kG K n w n 0 ((gM (some (E.getD i default)) (E.drop (i+1)) (T.drop (i+1)) (bif hZ (cY E i) (E.getD i default) then gp acc (T.getD i default) else acc++[oW (cY E i) (E.getD i default) (T.getD i default)])).map de):=fun v8 hv hg=>by
     unfold gv;rw[if_neg (by simp),if_pos hpos,e1,bV (by omega) (by omega),aW,Int.toNat_natCast,hq.forced];have hgl:iK (cY E i) (E.getD i default)=((E.getD (i-1) default).Kind != 2&&!v8):=by rw[hp,hv];rfl
     cases hf:((E.getD (i-1) default).Kind == 2) with
     | true=>rw[if_neg (by simp)];exact new v8 false hg (by rw[hgl,show((E.getD (i-1) default).Kind != 2)=!((E.getD (i-1) default).Kind == 2) from rfl,hf];rfl)
     | false=>rw[if_pos (by simp)];exact new v8 (!v8) hg (by rw[hgl,show((E.getD (i-1) default).Kind != 2)=!((E.getD (i-1) default).Kind == 2) from rfl,hf];cases v8<;>rfl)
    unfold qO;rw[if_pos hpos,e1,bV (i:=((i-1:Nat):Int)) (n:=T.length) (by omega) (by omega),Int.toNat_natCast,Int.toNat_natCast];simp only[aW];rw[hel.block,hel.forced,hq.block,hq.forced];have hgo:hZ (cY E i) (E.getD i default)=((E.getD (i-1) default).Kind == 1&&((E.getD i default).Kind == 1&&((E.getD i default).Of == (E.getD (i-1) default).Of&&!ee (E.getD (i-1) default) (E.getD i default)))):=by rw[hp];rfl
    cases hb:ee (E.getD (i-1) default) (E.getD i default) with
    | true=>rw[if_neg (by simp)];exact no true hb.symm (by rw[hgo,hb];simp)
    | false =>
     rw[if_pos (by simp)];rcases hke.kind with k|k|k
     ·rw[show((E.getD i default).Kind == 3)=false by rw[k];rfl,if_pos (by simp),show((E.getD i default).Kind == 2)=false by rw[k];rfl,if_pos (by simp)];rcases hkq.kind with q|q|q
      ·rw[show((E.getD (i-1) default).Kind == 3)=false by rw[q];rfl,if_pos (by simp),show((E.getD (i-1) default).Kind == 2)=false by rw[q];rfl,if_pos (by simp)];by_cases hof:(E.getD (i-1) default).Of=(E.getD i default).Of
       ·have hnum:=hpair.1 hof;rw[show((T.getD (i-1) default).Number == (T.getD i default).Number)=true by simpa using hnum];have hg:hZ (cY E i) (E.getD i default)=true:=by rw[hgo,hb,k,q,hof];simp
        have ha:=h3 (by omega);have hm:acc.getD (acc.length-1) default∈acc:=by rw[b9 (by omega)];exact List.getElem_mem _
        obtain⟨l,l1,l2⟩:=h5 _ hm;have e2:aa ((acc.length:Int)-1)=((acc.length-1:Nat):Int):=by rw[bG (by omega) (by omega)];omega
        unfold gv rC;rw[if_pos rfl,e2,bV (i:=((acc.length-1:Nat):Int)) (n:=acc.length) (by omega) (by omega)];simp only[aW,Int.toNat_natCast];rw[l1];simp only[Option.bind_some];rw[cv (by simp;omega) (by omega),aW,hw,hg];have:=ih (i+1) (gp acc (T.getD i default)) (by omega) (by omega) (fun _=>by unfold gp;simp only[List.length_set];exact ha) (by unfold gp;simp only[List.length_set];omega) (UJ h5 ha _);rw[hprev]at this;rw[show gp acc (T.getD i default)=acc.set (acc.length-1) ((acc.getD (acc.length-1) default).1,some (l++[T.getD i default])) by unfold gp;rw[l1];rfl]at this⊢;exact this
       ·have hnum:¬ (T.getD (i-1) default).Number=(T.getD i default).Number:=fun x=>hof (hpair.2 x);rw[show((T.getD (i-1) default).Number == (T.getD i default).Number)=false by simpa using hnum];exact no false hb.symm (by
         rw[hgo];have:((E.getD i default).Of == (E.getD (i-1) default).Of)=false:=by rw[beq_eq_false_iff_ne];exact fun x=>hof x.symm
         rw[this];simp)
      ·rw[show((E.getD (i-1) default).Kind == 3)=false by rw[q];rfl,if_pos (by simp),show((E.getD (i-1) default).Kind == 2)=true by rw[q];rfl,if_neg (by simp)];exact no false hb.symm (by rw[hgo,q];rfl)
      ·rw[show((E.getD (i-1) default).Kind == 3)=true by rw[q];rfl,if_neg (by simp)];exact no false hb.symm (by rw[hgo,q];rfl)
     ·rw[show((E.getD i default).Kind == 3)=false by rw[k];rfl,if_pos (by simp),show((E.getD i default).Kind == 2)=true by rw[k];rfl,if_neg (by simp)];exact no false hb.symm (by rw[hgo,k];simp)
     ·rw[show((E.getD i default).Kind == 3)=true by rw[k];rfl,if_neg (by simp)];exact no false hb.symm (by rw[hgo,k];simp)
  ·rw[if_neg (by simp;omega),List.drop_eq_nil_of_le (by omega)];have e:gM (cY E i) [] (T.drop i) acc=acc:=by unfold gM;rfl
   rw[e,Qt h5,aW]
end
end
end Go.Proofs.YtnpmlepplfaijaaGreat
namespace Go.Proofs.YtnpmlepplfaijaaGreat
set_option linter.all false
open Go.RowKit
noncomputable section
def d6(p:Option au)(e:au)(t:aK):aO:={ dE with Glued:=iK p e,Forced:=t.Forced }
def fE:Nat→Option au→List au→List aK→List RT
 | m+1,p,e::r,t::s =>
  bif e.Kind == 2 then (d6 p e t,some [t])::fE m (some e) r s
  else bif e.Kind == 3 then (d6 p e t,some [t])::fE m (some e) r s
  else (d6 p e t,some (t::s.take (jl e.Of e r)))::fE m (some (dj (e::r.take (jl e.Of e r)))) (r.drop (jl e.Of e r)) (s.drop (jl e.Of e r))
 | _,_,_,_=>[]
theorem Yr(acc:List RT)(h:aO)(cur:List aK)(t:aK):gp (acc++[(h,some cur)]) t=acc++[(h,some (cur++[t]))]:=by
 unfold gp;have e1:(acc++[(h,some cur)]).length-1=acc.length:=by simp
 have e2:(acc++[(h,some cur)]).getD acc.length default=(h,some cur):=Dc acc _ rfl;rw[e1,e2];simp
theorem Qz(a b:au)(x:List au):dj (a::b::x)=dj (b::x):=by
 unfold dj;simp
theorem Fo:∀(r:List au) (s:List aK) (a:au) (o:Int) (h:aO) (cur:List aK) (acc:List RT),a.Kind=1→a.Of=o→r.length=s.length →
  gM (some a) r s (acc++[(h,some cur)])=gM (some (dj (a::r.take (jl o a r)))) (r.drop (jl o a r)) (s.drop (jl o a r)) (acc++[(h,some (cur++s.take (jl o a r)))])∧∀b r',r.drop (jl o a r)=b::r'→hZ (some (dj (a::r.take (jl o a r)))) b=false
 | [],s,a,o,h,cur,acc,_,_,hl=>by
  have:s=[]:=List.eq_nil_of_length_eq_zero hl.symm;subst this;refine⟨?_,fun b r' e=>by simp at e⟩;simp[jl,dj]
 | b::r,[],_,_,_,_,_,_,_,hl=>by simp at hl
 | b::r,t::s,a,o,h,cur,acc,ka,ho,hl=>by
  have hg:hZ (some a) b=(b.Kind == 1&&(b.Of == o&&!ee a b)):=by
   show(a.Kind == 1&&(b.Kind == 1&&(b.Of == a.Of&&!ee a b)))=_;rw[ka,ho];rfl
  cases hc:(b.Kind == 1&&(b.Of == o&&!ee a b)) with
  | false =>
   have hj:jl o a (b::r)=0:=by unfold jl;rw[hc];rfl
   rw[hj];refine⟨by simp[dj],fun b' r' e=>?_⟩;simp only[List.drop_zero,List.cons.injEq]at e;rw[←e.1];have:dj (a::List.take 0 (b::r))=a:=by simp[dj]
   rw[this,hg,hc]
  | true =>
   have hj : jl o a (b :: r)=jl o b r + 1:=by
    conv=>lhs;unfold jl
    rw[hc];rfl
   have hc2:=hc;simp only[Bool.and_eq_true,beq_iff_eq]at hc2;obtain⟨q1,q2⟩:=Fo r s b o h (cur++[t]) acc hc2.1 hc2.2.1 (by simpa using hl);rw[hj,List.take_succ_cons,List.drop_succ_cons,List.take_succ_cons,List.drop_succ_cons,Qz];refine⟨?_,q2⟩;rw[CM,hg,hc];simp only[cond_true];rw[Yr,q1,List.append_assoc];rfl
theorem OD:∀(m:Nat) (p:Option au) (E:List au) (T:List aK) (acc:List RT),E.length=T.length→E.length<m→(∀e∈E,e.Kind=1∨e.Kind=2∨e.Kind=3)→(∀e r,E=e::r→hZ p e=false)→gM p E T acc=acc++fE m p E T:=by
 intro m
 induction m with
 | zero=>intro p E T acc h1 h2;omega
 | succ m ih =>
  intro p E T acc h1 h2 hk hg;cases E with
  | nil =>
   unfold gM fE;simp
  | cons e r =>
   cases T with
   | nil=>simp at h1
   | cons t s =>
    simp only[List.length_cons]at h1 h2;have hk':∀x∈r,x.Kind=1∨x.Kind=2∨x.Kind=3:=fun x hx=>hk x (by simp[hx]);rw[CM,hg e r rfl];simp only[cond_false];have stop:e.Kind≠1→∀x r',r=x::r'→hZ (some e) x=false:=fun q x r' _=>by
     show(e.Kind == 1&&_)=false;rw[show(e.Kind == 1)=false by simpa using q];rfl
    have hn:oW p e t=(d6 p e t,some [t]):=rfl;unfold fE;rcases hk e (by simp)with k|k|k
    ·rw[show(e.Kind == 2)=false by rw[k];rfl,show(e.Kind == 3)=false by rw[k];rfl];simp only[cond_false];obtain⟨q1,q2⟩:=Fo r s e e.Of (d6 p e t) [t] acc k rfl (by omega);rw[hn,q1,ih _ _ _ _ (by simp;omega) (by simp;omega) (fun x hx=>hk' x (List.mem_of_mem_drop hx)) q2,List.append_assoc];rfl
    ·rw[show(e.Kind == 2)=true by rw[k];rfl];simp only[cond_true];rw[hn,ih _ _ _ _ (by omega) (by omega) hk' (stop (by omega)),List.append_assoc];rfl
    ·rw[show(e.Kind == 2)=false by rw[k];rfl,show(e.Kind == 3)=true by rw[k];rfl];simp only[cond_true,cond_false];rw[hn,ih _ _ _ _ (by omega) (by omega) hk' (stop (by omega)),List.append_assoc];rfl
def fU:List au→List aK→Prop
 | [],[]=>True
 | e::r,t::s=>fC e t∧fU r s
 | _,_=>False
theorem GF:∀(E:List au) (T:List aK),E.length=T.length→(∀i,i<E.length→fC (E.getD i default) (T.getD i default))→fU E T
 | [],[],_,_=>trivial
 | [],t::s,h,_=>by simp at h
 | e::r,[],h,_=>by simp at h
 | e::r,t::s,h,H=>⟨H 0 (by simp),GF r s (by simpa using h) (fun i hi=>by have:=H (i+1) (by simp;omega);simpa using this)⟩
theorem Gt:∀(k:Nat) (E:List au) (T:List aK),fU E T→fU (E.take k) (T.take k)
 | 0,_,_,_=>by simp[fU]
 | k+1,[],[],_=>by simp[fU]
 | k+1,[],t::s,h=>h.elim
 | k+1,e::r,[],h=>h.elim
 | k+1,e::r,t::s,h=>⟨h.1,Gt k r s h.2⟩
theorem zV:∀(k:Nat) (E:List au) (T:List aK),fU E T→fU (E.drop k) (T.drop k)
 | 0,_,_,h=>by simpa using h
 | k+1,[],[],_=>by simp[fU]
 | k+1,[],t::s,h=>h.elim
 | k+1,e::r,[],h=>h.elim
 | k+1,e::r,t::s,h=>zV k r s h.2
theorem xk:∀(E:List au) (T:List aK),fU E T→E.length=T.length
 | [],[],_=>rfl
 | [],t::s,h=>h.elim
 | e::r,[],h=>h.elim
 | e::r,t::s,h=>by simp[xk r s h.2]
end
end Go.Proofs.YtnpmlepplfaijaaGreat
namespace Go.Proofs.YtnpmlepplfaijaaGreat
set_option linter.all false
open Go.RowKit
def nD(l:List cc)(R:List ah→Prop)(b:ah):Prop:=∃s∈l,b.Style=s.Style ∧
  ((b.Kind=3∧b.Text=s.Text∧b.Kids=[])∨(b.Kind=4∧b.Text=⟨#[]⟩∧b.Kids=[]) ∨
   (b.Kind=5∧b.Text=⟨#[]⟩∧Int.tmod s.Kind 8=6∧∃k,b.Kids=[k]∧k.Kind=3∧k.Kids=[]∧k.Style=s.Style∧k.Text=s.Text)∨(b.Kind=2∧b.Text=⟨#[]⟩∧R b.Kids))
def Bx(l:List cc):Nat→List ah→Prop
 | 0,L=>L=[]
 | d+1,L=>L.length≤16∧∀b∈L,nD l (Bx l d) b
theorem D2{l:List cc}(ht:∀s∈l,s.Text.size≤60):∀(d:Nat) (L:List ah),Bx l d L→Dp (d+1) L
 | 0,L,h=>by
  unfold Bx at h;subst h;unfold Dp;exact⟨by simp,fun b hb=>by cases hb⟩
 | d+1,L,h=>by
  unfold Bx at h;unfold Dp;refine⟨by omega,fun b hb=>?_⟩;obtain⟨s,hs,_,h3|h4|h5|h2⟩:=h.2 b hb
  ·exact⟨by rw[h3.2.1];have:=ht s hs;omega,fun e=>by rw[h3.1]at e;cases e⟩
  ·exact⟨by rw[h4.2.1];decide,fun e=>by rw[h4.1]at e;cases e⟩
  ·exact⟨by rw[h5.2.1];decide,fun e=>by rw[h5.1]at e;cases e⟩
  ·exact⟨by rw[h2.2.1];decide,fun _=>D2 ht d _ h2.2.2⟩
theorem Yw:∀(d:Nat) (a b:List ah),bA d (a++b)=bA d a+bA d b
 | 0,a,b=>rfl
 | d+1,a,b=>by simp[bA]
theorem LY(d:Nat)(b:ah):bA (d+1) [b]=1+b.Text.size+bA d b.Kids:=by simp[bA]
theorem RK{l:List cc}(hl:l.length≤16)(ht:∀s∈l,s.Text.size≤60):∀(k N i0:Nat) (dep:Int),l.length-i0≤k→i0≤l.length→k+50≤N →
  ∃(bx:List ah) (nx:Nat),kf (KN N) N l (i0:Int) dep=some (bx,(nx:Int))∧i0≤nx∧nx≤l.length∧Bx l k bx∧bx.length≤nx-i0∧bA (k+1) bx≤62*(nx-i0):=by
 intro k
 induction k with
 | zero =>
  intro N i0 dep h1 h2 hN;obtain⟨N,rfl⟩:∃M,N=M+1:=⟨N-1,by omega⟩;refine⟨[],i0,?_,Nat.le_refl _,h2,rfl,by simp,by simp[bA]⟩;unfold kf;show mH (KN (N+1)) (N+1) l dep (jW (KN (N+1)) (N+1) l dep N) i0 []=_;unfold mH;rw[if_neg (by simp;omega)];unfold mF;rw[if_neg (by simp)]
 | succ k ih =>
  intro N i0 dep h1 h2 hN;obtain⟨N,rfl⟩:∃M,N=M+1:=⟨N-1,by omega⟩;unfold kf;have loop:∀(m i:Nat) (acc:List ah),i0≤i→i≤l.length→l.length<m+i→(∀b∈acc,nD l (Bx l k) b)→acc.length≤i-i0→bA (k+2) acc≤62*(i-i0) →
    ∃(bx:List ah) (nx:Nat),jW (KN (N+1)) (N+1) l dep m (i:Int) acc=some (bx,(nx:Int))∧i0≤nx∧nx≤l.length∧(∀b∈bx,nD l (Bx l k) b)∧bx.length≤nx-i0∧bA (k+2) bx≤62*(nx-i0):=by
   intro m
   induction m with
   | zero=>intro i acc h0 h1 h2;omega
   | succ m ihm =>
    intro i acc g0 g1 g2 g3 g4 g5;show ∃(bx:List ah) (nx:Nat),mH (KN (N+1)) (N+1) l dep (jW (KN (N+1)) (N+1) l dep m) i acc=some (bx,(nx:Int))∧_;unfold mH;have stop:∃(bx:List ah) (nx:Nat),mF (KN (N+1)) (N+1) l dep i acc (jW (KN (N+1)) (N+1) l dep m) false=some (bx,(nx:Int))∧i0≤nx∧nx≤l.length∧(∀b∈bx,nD l (Bx l k) b)∧bx.length≤nx-i0∧bA (k+2) bx≤62*(nx-i0):=by
     unfold mF;rw[if_neg (by simp)];exact⟨acc,i,rfl,g0,g1,g3,g4,g5⟩
    by_cases hi:i<l.length
    ·rw[if_pos (by simpa using hi),bV (by omega) (by omega),aW];cases hd:decide ((List.getD l ((i:Int)).toNat default).Depth≥dep) with
     | false=>exact stop
     | true =>
      have hs:l.getD i default∈l:=by rw[b9 hi];exact List.getElem_mem _
      have hw:aa ((i:Int)+1)=((i+1:Nat):Int):=by rw[bG (by omega) (by omega)];omega
      unfold mF;rw[if_pos rfl,bV (by omega) (by omega)];simp only[aW,Option.bind_some,Int.toNat_natCast];have go:∀(kd:Int) (tx:ByteArray) (kids:List ah) (j:Nat),i+1≤j→j≤l.length→nD l (Bx l k) ⟨kd,aa (10+(i:Int)),(l.getD i default).Style,tx,0,0,kids⟩→1+tx.size+bA (k+1) kids≤62*(j-i) →
        ∃(bx:List ah) (nx:Nat),mb (KN (N+1)) (N+1) l dep i acc (jW (KN (N+1)) (N+1) l dep m) (j:Int) kd tx kids=some (bx,(nx:Int))∧i0≤nx∧nx≤l.length∧(∀b∈bx,nD l (Bx l k) b)∧bx.length≤nx-i0∧bA (k+2) bx≤62*(nx-i0):=by
       intro kd tx kids j q1 q2 q3 q4;unfold mb;simp only[Int.toNat_natCast];rw[cv (by simp;omega) (by omega),aW];refine ihm j _ (by omega) q2 (by omega) (fun b hb=>?_) (by simp;omega) ?_
       ·rcases List.mem_append.1 hb with hb|hb
        ·exact g3 b hb
        ·rw[List.mem_singleton.1 hb];exact q3
       ·rw[Yw,LY];simp only[];omega
      by_cases h5:Int.tmod (l.getD i default).Kind 8=5
      ·rw[if_pos (by simpa using h5),hw];exact go 4 ⟨#[]⟩ [] (i+1) (by omega) (by omega) ⟨_,hs,rfl,.inr (.inl ⟨rfl,rfl,rfl⟩)⟩ (by
        have:(⟨#[]⟩:ByteArray).size=0:=rfl;rw[this];simp[bA])
      ·rw[if_neg (by simpa using h5)];by_cases h6:Int.tmod (l.getD i default).Kind 8=6
       ·rw[if_pos (by simpa using h6),cv (by simp) (by omega),aW,hw];refine go 5 ⟨#[]⟩ [{ fT with Kind:=3,Style:=(l.getD i default).Style,Text:=(l.getD i default).Text }] (i+1) (by omega) (by omega) ⟨_,hs,rfl,.inr (.inr (.inl ⟨rfl,rfl,h6,_,rfl,rfl,rfl,rfl,rfl⟩))⟩ ?_;have h0:(⟨#[]⟩:ByteArray).size=0:=rfl;have hz:bA k (fT).Kids=0:=by
         cases k<;>simp[bA,fT]
        have:=ht _ hs;rw[h0,LY];simp only[];rw[hz];omega
       ·rw[if_neg (by simpa using h6)];by_cases h7:Int.tmod (l.getD i default).Kind 8=7
        ·rw[if_pos (by simpa using h7),hw];obtain⟨bx,nx,e1,e2,e3,e4,e5,e6⟩:=ih N (i+1) (IntKind.wrap .u8 ((l.getD i default).Depth+1)) (by omega) (by omega) (by omega);show ∃(bx:List ah) (nx:Nat),((kf (KN N) N l ((i+1:Nat):Int) (IntKind.wrap .u8 ((l.getD i default).Depth+1))).bind _)=some (bx,(nx:Int))∧_;rw[e1];simp only[Option.bind_some];refine go 2 ⟨#[]⟩ bx nx (by omega) e3 ⟨_,hs,rfl,.inr (.inr (.inr ⟨rfl,rfl,e4⟩))⟩ ?_;have h0:(⟨#[]⟩:ByteArray).size=0:=rfl;rw[h0];omega
        ·rw[if_neg (by simpa using h7),hw];refine go 3 (l.getD i default).Text [] (i+1) (by omega) (by omega) ⟨_,hs,rfl,.inl ⟨rfl,rfl,rfl⟩⟩ ?_;have:=ht _ hs;have hz:bA (k+1) []=0:=by simp[bA]
         rw[hz];omega
    ·rw[if_neg (by simpa using hi)];exact stop
  obtain⟨bx,nx,e1,e2,e3,e4,e5,e6⟩:=loop (N+1) i0 [] (Nat.le_refl _) h2 (by omega) (fun b hb=>by cases hb) (by simp) (by simp[bA]);exact⟨bx,nx,e1,e2,e3,⟨by omega,e4⟩,e5,e6⟩
theorem Wl{l:List cc}(hl:l.length≤16)(ht:∀s∈l,s.Text.size≤60){N:Nat}(hN:70≤N):∃bx,pH (KN N) N l=some bx∧Bx l 16 bx∧Dp 17 bx∧bA 17 bx≤992:=by
 obtain⟨bx,nx,e1,e2,e3,e4,e5,e6⟩:=RK hl ht 16 N 0 0 (by omega) (by omega) (by omega);have e6':bA 17 bx≤62*(nx-0):=e6;refine⟨bx,?_,e4,D2 ht 16 bx e4,by omega⟩;unfold pH;rw[show kf (KN N) N l 0 0=_ from e1];rfl
theorem FE{l:List cc}:∀(d:Nat) (L:List ah) (s:Int×List au) (Q:ah→Prop),Bx l d L→(∀b R,nD l R b→Q b)→(∀x∈s.2,Q x.Box)→∀x∈(vM (d+1) L s).2,Q x.Box:=by
 intro d
 induction d with
 | zero=>intro L s Q h hQ hs;unfold Bx at h;subst h;exact hs
 | succ d ih =>
  intro L s Q h hQ;unfold Bx at h;obtain⟨hz,h⟩:=h;clear hz
  induction L generalizing s with
  | nil=>intro hs;exact hs
  | cons b r ihL =>
   intro hs;rw[fq,List.foldl_cons,← fq];refine ihL _ (fun b hb=>h b (by simp[hb])) ?_;have hb:=h b (by simp);have ap:∀(y:au),y.Box=b→∀x∈s.2++[y],Q x.Box:=fun y hy x hx=>by
    rcases List.mem_append.1 hx with hx|hx
    ·exact hs x hx
    ·rw[List.mem_singleton.1 hx,hy];exact hQ b _ hb
   unfold cL;cases fz b with
   | false=>exact hs
   | true =>
    simp only[cond_true];cases h2:(b.Kind == 2) with
    | true =>
     simp only[cond_true];obtain⟨_,_,_,h3|h4|h5|h2'⟩:=hb
     ·rw[h3.1]at h2;simp at h2
     ·rw[h4.1]at h2;simp at h2
     ·rw[h5.1]at h2;simp at h2
     ·exact ih b.Kids _ Q h2'.2.2 hQ hs
    | false =>
     simp only[cond_false];cases (b.Kind == 4) with
     | true=>exact ap _ rfl
     | false =>
      simp only[cond_false];cases (b.Kind == 5) with
      | true=>exact ap _ rfl
      | false =>
       simp only[cond_false];cases (b.Kind == 3) with
       | true=>exact xU (P:=fun x=>Q x.Box) b _ (fun _ _ _=>hQ b _ hb) (hQ b _ hb) (fun _=>hQ b _ hb) (fun _=>hQ b _ hb) _ _ zM hs
       | false=>exact hs
theorem WJ:∀(d:Nat) (L:List ah) (s:Int×List au),(∀x∈s.2,x.Kind=3→x.Box.Kind=5)→∀x∈(vM d L s).2,x.Kind=3→x.Box.Kind=5:=by
 intro d
 induction d with
 | zero=>intro L s hs;exact hs
 | succ d ih =>
  intro L
  induction L with
  | nil=>intro s hs;exact hs
  | cons b r ihL =>
   intro s hs;rw[fq,List.foldl_cons,← fq];refine ihL _ ?_;have ap:∀(y:au),(y.Kind=3→y.Box.Kind=5)→∀x∈s.2++[y],x.Kind=3→x.Box.Kind=5:=fun y hy x hx=>by
    rcases List.mem_append.1 hx with hx|hx
    ·exact hs x hx
    ·rw[List.mem_singleton.1 hx];exact hy
   unfold cL;cases fz b with
   | false=>exact hs
   | true =>
    simp only[cond_true];cases (b.Kind == 2) with
    | true=>exact ih b.Kids _ hs
    | false =>
     simp only[cond_false];cases (b.Kind == 4) with
     | true=>exact ap _ (fun e=>by cases e)
     | false =>
      simp only[cond_false];cases h5:(b.Kind == 5) with
      | true=>exact ap _ (fun _=>by simpa using h5)
      | false =>
       simp only[cond_false];cases (b.Kind == 3) with
       | true=>exact xU (P:=fun x=>x.Kind=3→x.Box.Kind=5) b _ (fun _ _ _ e=>by cases e) (fun e=>by cases e) (fun _ e=>by cases e) (fun _ e=>by cases e) _ _ zM hs
       | false=>exact hs
end Go.Proofs.YtnpmlepplfaijaaGreat
namespace Go.Proofs.YtnpmlepplfaijaaGreat
set_option linter.all false
open Go.RowKit
def db(l:cu)(b:Int):Int×Bool :=
 if l.Kind=1 then (min (max l.Value (-1048576)) 1048576,true)
 else if l.Kind=2 then (min (max (aa (Int.tdiv (aa ((min (max b 0) 1048576)*(min (max l.Value (-1000000)) 1000000))) 10000)) (-1048576)) 1048576,true)
 else (0,false)
def gL(x:Int):Int:=min (max x 0) 1048576
section
variable(K:Kn)(n:Nat)
theorem DJ(x:Int):fh K n x=some (gL x):=rfl
theorem EH(x:Int):dG K n x=some (gL x):=rfl
theorem js(l:cu)(b:Int):dQ K n l b=some (db l b):=by
 unfold dQ db;by_cases h1:l.Kind=1
 ·simp[h1,rV]
 ·by_cases h2:l.Kind=2
  ·simp[h2,rV,fh]
  ·simp[h1,h2]
theorem y4(l:cu)(b:Int):dw K n l b=some (db l b):=by
 unfold dw db;by_cases h1:l.Kind=1
 ·simp[h1,ix]
 ·by_cases h2:l.Kind=2
  ·simp[h2,ix,dG]
  ·simp[h1,h2]
def oO(s:aF)(w c:Int):Int :=
 let m:=if (db s.MaxWidth w).2=true then min (max c 0) (max (db s.MaxWidth w).1 0) else max c 0
 if (db s.MinWidth w).2=true then max m (db s.MinWidth w).1 else m
theorem Dn(s:aF)(w c:Int):nl K n s w c=some (oO s w c):=by
 unfold nl oO;simp only[js,Option.bind_some,tX,ui]
 repeat (first|rfl|split)
theorem Ev(s:aF)(w c:Int):ik K n s w c=some (oO s w c):=by
 unfold ik oO;simp only[y4,Option.bind_some,mi,my]
 repeat (first|rfl|split)
def gW(s:aF)(w c:Int):aR :=
 ⟨⟨(db s.Margin.a0 w).1,(db s.Margin.a1 w).1,(db s.Margin.a2 w).1,(db s.Margin.a3 w).1⟩,⟨gL s.Border.a0,gL s.Border.a1,gL s.Border.a2,gL s.Border.a3⟩,
  ⟨max (db s.Padding.a0 w).1 0,max (db s.Padding.a1 w).1 0,max (db s.Padding.a2 w).1 0,max (db s.Padding.a3 w).1 0⟩,c⟩
theorem yd(s:aF)(w c:Int):jU K n s w c=some (gW s w c):=by
 simp only[jU,js,DJ,Option.bind_some,gW]
theorem E1(s:aF)(w c:Int):iJ K n s w c=some (gW s w c):=by
 simp only[iJ,y4,EH,Option.bind_some,gW]
def zL(z:aR):Int:=aa ((aa ((aa ((aa ((aa ((aa (z.Content+z.Margin.a1))+z.Margin.a3))+z.Border.a1))+z.Border.a3))+z.Padding.a1))+z.Padding.a3)
theorem wC(z:aR):kL K n z=some (zL z):=rfl
theorem Jl(z:aR):iQ K n z=some (zL z):=rfl
def fx(l:cu):Prop := -16777216≤l.Value∧l.Value≤16777216
theorem fL(l:cu):∃b,eA K n l=some b∧(b=true→fx l):=by
 unfold eA tu;by_cases h:l.Value ≥ -16777216
 ·simp only[h,decide_true,if_true];exact⟨_,rfl,fun e=>⟨h,of_decide_eq_true e⟩⟩
 ·simp only[h,decide_false,Bool.false_eq_true,if_false];exact⟨_,rfl,fun e=>by cases e⟩
structure Cc(x:cc):Prop where
 text:(x.Text.size:Int)≤60
 left:fx x.Style.Left
 top:fx x.Style.Top
 width:fx x.Style.Width
 height:fx x.Style.Height
 minw:fx x.Style.MinWidth
 maxw:fx x.Style.MaxWidth
 basis:fx x.Style.Basis
 lh:0≤x.Style.LineHeight∧x.Style.LineHeight≤65536
 fs:0≤x.Style.FontSize∧x.Style.FontSize≤65536
 grow:0≤x.Style.Grow∧x.Style.Grow≤1048576
 shrink:0≤x.Style.Shrink∧x.Style.Shrink≤1048576
 m0:fx x.Style.Margin.a0
 m1:fx x.Style.Margin.a1
 m2:fx x.Style.Margin.a2
 m3:fx x.Style.Margin.a3
 p0:fx x.Style.Padding.a0
 p1:fx x.Style.Padding.a1
 p2:fx x.Style.Padding.a2
 p3:fx x.Style.Padding.a3
theorem QB(L:List cc)(m:Int)(L1:Int→Option Bool)(i:Int)(h0:0≤i)(hi:i<L.length):kH K n L m L1 i=some false∨(Cc (L.getD i.toNat default)∧kH K n L m L1 i=L1 (aa (i+1))):=by
 unfold kH;simp only[hi,decide_true,if_true,bV h0 hi,aW];generalize hx:L.getD i.toNat default=x;have j5:∀b,rj K n L m i L1 b=if b=true then some false else L1 (aa (i+1)):=fun b=>rfl;obtain⟨b1,e1,f1⟩:=fL K n x.Style.Left;obtain⟨b2,e2,f2⟩:=fL K n x.Style.Top;obtain⟨b3,e3,f3⟩:=fL K n x.Style.Width;obtain⟨b4,e4,f4⟩:=fL K n x.Style.Height;obtain⟨b5,e5,f5⟩:=fL K n x.Style.MinWidth;obtain⟨b6,e6,f6⟩:=fL K n x.Style.MaxWidth;obtain⟨b7,e7,f7⟩:=fL K n x.Style.Basis;obtain⟨c0,g0,k0⟩:=fL K n x.Style.Margin.a0;obtain⟨c1,g1,k1⟩:=fL K n x.Style.Margin.a1;obtain⟨c2,g2,k2⟩:=fL K n x.Style.Margin.a2;obtain⟨c3,g3,k3⟩:=fL K n x.Style.Margin.a3;obtain⟨d0,q0,r0⟩:=fL K n x.Style.Padding.a0;obtain⟨d1,q1,r1⟩:=fL K n x.Style.Padding.a1;obtain⟨d2,q2,r2⟩:=fL K n x.Style.Padding.a2;obtain⟨d3,q3,r3⟩:=fL K n x.Style.Padding.a3;have jt:dI K n L m i L1 true=some false:=rfl;have j1:dI K n L m i L1 false=some false∨((c0=true∧c1=true∧c2=true∧c3=true∧d0=true∧d1=true∧d2=true∧d3=true)∧dI K n L m i L1 false=L1 (aa (i+1))):=by
  simp only[dI,ue,vX,vk,rj,hx,g0,g1,g2,g3,q0,q1,q2,q3,Option.bind_some];cases c0<;>cases d0<;>cases c1<;>cases d1<;>cases c2<;>cases d2<;>cases c3<;>cases d3<;>simp
 simp only[e1,e2,e3,e4,e5,e6,e7,Option.bind_some,jt];by_cases t0:(x.Text.size:Int)>60
 ·left;simp[t0]
 simp only[t0,decide_false,Bool.false_eq_true,if_false];cases b1
 ·left;simp
 simp only[Bool.not_true,Bool.false_eq_true,if_false];cases b2
 ·left;simp
 simp only[Bool.not_true,Bool.false_eq_true,if_false];cases b3
 ·left;simp
 simp only[Bool.not_true,Bool.false_eq_true,if_false];cases b4
 ·left;simp
 simp only[Bool.not_true,Bool.false_eq_true,if_false];cases b5
 ·left;simp
 simp only[Bool.not_true,Bool.false_eq_true,if_false];cases b6
 ·left;simp
 simp only[Bool.not_true,Bool.false_eq_true,if_false];cases b7
 ·left;simp
 simp only[Bool.not_true,Bool.false_eq_true,if_false];by_cases u1:x.Style.LineHeight<0
 ·left;simp[u1]
 simp only[u1,decide_false,Bool.false_eq_true,if_false];by_cases u2:x.Style.LineHeight>65536
 ·left;simp[u2]
 simp only[u2,decide_false,Bool.false_eq_true,if_false];by_cases u3:x.Style.FontSize<0
 ·left;simp[u3]
 simp only[u3,decide_false,Bool.false_eq_true,if_false];by_cases u4:x.Style.FontSize>65536
 ·left;simp[u4]
 simp only[u4,decide_false,Bool.false_eq_true,if_false];by_cases u5:x.Style.Grow<0
 ·left;simp[u5]
 simp only[u5,decide_false,Bool.false_eq_true,if_false];by_cases u6:x.Style.Grow>1048576
 ·left;simp[u6]
 simp only[u6,decide_false,Bool.false_eq_true,if_false];by_cases u7:x.Style.Shrink<0
 ·left;simp[u7]
 simp only[u7,decide_false,Bool.false_eq_true,if_false];by_cases u8:x.Style.Shrink>1048576
 ·left;simp only[u8,decide_true];exact jt
 simp only[u8,decide_false];rcases j1 with h|⟨⟨a0,a1,a2,a3,p0,p1,p2,p3⟩,h⟩
 ·exact .inl h
 ·refine .inr ⟨⟨by omega,f1 rfl,f2 rfl,f3 rfl,f4 rfl,f5 rfl,f6 rfl,f7 rfl,⟨by omega,by omega⟩,⟨by omega,by omega⟩,⟨by omega,by omega⟩,⟨by omega,by omega⟩,k0 a0,k1 a1,k2 a2,k3 a3,r0 p0,r1 p1,r2 p2,r3 p3⟩,h⟩
theorem Yt(L:List cc)(mx:Int)(hL:(L.length:Int)≤9223372036854775807):∀(m:Nat) (i:Int),0≤i→i≤L.length→(L.length:Int)<m+i →
  ∃b,pe K n L mx m i=some b∧(b=true→(L.length:Int)≤mx∧∀k,i.toNat≤k→k<L.length→Cc (L.getD k default)):=by
 intro m
 induction m with
 | zero=>intro i h0 h1 h2;omega
 | succ m ih =>
  intro i h0 h1 h2;show ∃b,kH K n L mx (pe K n L mx m) i=some b∧_;by_cases hi:i<(L.length:Int)
  ·rcases QB K n L mx (pe K n L mx m) i h0 hi with h|⟨h,h'⟩
   ·exact⟨false,h,fun e=>by cases e⟩
   ·obtain⟨b,hb,hk⟩:=ih (i+1) (by omega) (by omega) (by omega);rw[h',bG (by omega) (by omega)];refine⟨b,hb,fun e=>⟨(hk e).1,fun k h3 h4=>?_⟩⟩;by_cases e2:k=i.toNat
    ·subst e2;exact h
    ·exact(hk e).2 k (by omega) h4
  ·have hd:decide (i<(L.length:Int))=false:=by simpa using hi
   unfold kH;simp only[hd,Bool.false_eq_true,if_false];exact⟨_,rfl,fun e=>⟨of_decide_eq_true e,fun k h3 h4=>by omega⟩⟩
theorem S5(L:List cc)(mx:Int)(hL:(L.length:Int)≤9223372036854775807)(hn:L.length<n):∃b,yF K n L mx=some b∧(b=true→(L.length:Int)≤mx∧∀x∈L,Cc x):=by
 obtain⟨b,h1,h2⟩:=Yt K n L mx hL n 0 (by omega) (by omega) (by omega);refine⟨b,h1,fun e=>⟨(h2 e).1,fun x hx=>?_⟩⟩;obtain⟨k,hk,rfl⟩:=List.mem_iff_getElem.1 hx;have:=(h2 e).2 k (by simp) hk;rwa[b9 hk]at this
end
end Go.Proofs.YtnpmlepplfaijaaGreat
namespace Go.Proofs.YtnpmlepplfaijaaGreat
set_option linter.all false
open Go.RowKit
theorem C8{α β:Type}{x:Option α}{f:α→Option β}(h:fe x)(hf:∀a,fe (f a)):fe (x.bind f):=by
 obtain⟨a,rfl⟩:=h;exact hf a
theorem UT(K:Kn)(n:Nat)(s:aF):fe (lY K n s):=by
 unfold lY nS nX nF nY oy nM nW oC ol oi sG
 repeat first|exact ke _|apply rR
structure eR(b:ah)(k:ah):Prop where
 kids:b.Kids=[k]
 kind:k.Kind=3
 text:k.Text.size≤60
section
variable{N:Nat}{b k:ah}
theorem L7(h:eR b k):je (KN (N+9)) (N+9) b=some ([k],false):=by
 have hf:fz k=true:=by unfold fz fQ;rw[if_pos (by simp[h.kind])];rfl
 unfold je;show k7 (KN (N+9)) (N+9) b (mw (KN (N+9)) (N+9) b (N+8)) 0 []=_;unfold k7;rw[if_pos (by simp[h.kids]),bV (by omega) (by rw[h.kids];simp),aW,D1];simp only[Option.bind_some,h.kids];have e0:([k].getD (Int.toNat 0) default)=k:=rfl;rw[e0,hf,if_pos rfl,cv (by simp) (by omega),aW];unfold qY;rw[bG (by omega) (by omega)];show k7 (KN (N+9)) (N+9) b (mw (KN (N+9)) (N+9) b (N+7)) (0+1) ([]++[k])=_;unfold k7;rw[if_neg (by simp[h.kids])];have hc:lr (KN (N+9)) (N+9) ([]++[k]) (Fv.fn 102)=some false:=by
  unfold lr vW;show(Option.bind (kz (KN (N+9)) (N+9) [k] (Fv.fn 102) (jY (KN (N+9)) (N+9) [k] (Fv.fn 102) (N+8)) 0) _)=_;unfold kz;rw[if_pos (by simp),bV (by omega) (by simp),aW];have ho:(KN (N+9)).jz (Fv.fn 102) ([k].getD (Int.toNat 0) default)=some false:=by
   show mr (KN (N+8)) (N+8) k=some false;unfold mr pf;rw[if_neg (by simp[h.kind]),if_neg (by simp[h.kind])];simp[h.kind]
  rw[ho];simp only[Option.bind_some,Bool.false_eq_true,if_false];rw[bG (by omega) (by omega)];show(Option.bind (kz (KN (N+9)) (N+9) [k] (Fv.fn 102) (jY (KN (N+9)) (N+9) [k] (Fv.fn 102) (N+7)) (0+1)) _)=_;unfold kz;rw[if_neg (by simp)];rfl
 rw[hc];rfl
theorem PT(h:eR b k)(s:aF):fe (jH (KN (N+9)) (N+9) [k] s):=by
 unfold jH;show fe (gS (KN (N+9)) (N+9) [k] (jA (KN (N+9)) (N+9) [k] (N+8)) 0 0 0);unfold gS;rw[if_pos (by simp),bV (by omega) (by simp),aW,bG (n:=0+1) (by omega) (by omega)];generalize max (0:Int) _=x;generalize aa (0+_)=y;show fe (gS (KN (N+9)) (N+9) [k] (jA (KN (N+9)) (N+9) [k] (N+7)) x y (0+1));unfold gS;rw[if_neg (by simp)];exact ke _
theorem Wz(h:eR b k)(s:aF)(w:Int):∃l y,jy (KN (N+9)) (N+9) [k] s w=some (l,y)∧l.length≤1:=by
 unfold jy;show ∃l y,gN (KN (N+9)) (N+9) [k] s w (il (KN (N+9)) (N+9) [k] s w (N+8)) 0 0 []=some (l,y)∧_;unfold gN;rw[if_pos (by simp),bV (by omega) (by simp)];simp only[aW,Option.bind_some];have fin:∀(y:Int) (l:List ab),l.length≤1→∃l' y',jO (KN (N+9)) (N+9) [k] s w 0 (il (KN (N+9)) (N+9) [k] s w (N+8)) y l=some (l',y')∧l'.length≤1:=fun y l hl=>by
  unfold jO;rw[bG (by omega) (by omega)];show ∃l' y',gN (KN (N+9)) (N+9) [k] s w (il (KN (N+9)) (N+9) [k] s w (N+7)) y (0+1) l=some (l',y')∧_;unfold gN;rw[if_neg (by simp)];exact⟨l,y,rfl,hl⟩
 split
 ·rw[cv (by simp) (by omega),aW];exact fin _ _ (by simp)
 ·exact fin _ _ (by simp)
def Tk(x:Option ab):Prop:=∃f,x=some f∧f.Kind=1
theorem gY{c:Prop}[Decidable c]{x y:Option ab}(h1:Tk x)(h2:Tk y):Tk (if c then x else y):=by split;exact h1;exact h2
theorem VQ(K:Kn)(n:Nat)(b:ah)(z:aR)(F:List ah)(v19:List ab)(v25:Int)(v33 v34:aq)(v35:Bool)(v39 v40:Int)(hl:v19.length≤1000):∀(m i:Nat) (v48:List ab),i≤v19.length→v19.length<m+i→v48.length=v19.length→Tk (mI K n b z (F,false) v19 v25 v33 v34 v35 v39 v40 m i v48):=by
 intro m
 induction m with
 | zero=>intro i v48 h1 h2;omega
 | succ m ih =>
  intro i v48 h1 h2 h3;show Tk (o7 K n b z (F,false) v19 v25 v33 v34 v35 v39 v40 (mI K n b z (F,false) v19 v25 v33 v34 v35 v39 v40 m) i v48);unfold o7;by_cases hi:i<v19.length
  ·rw[if_pos (by simpa using hi),bV (by omega) (by omega)];simp only[aW,Option.bind_some,List.length_set];rw[bV (by omega) (by omega)];simp only[aW,Option.bind_some,Bool.false_eq_true,if_false];unfold qS sS;rw[if_neg (by simp),bG (by omega) (by omega)];exact ih (i+1) _ (by omega) (by omega) (by simp[h3])
  ·rw[if_neg (by simpa using hi)];exact⟨_,rfl,rfl⟩
theorem Zp(K:Kn)(n:Nat)(b:ah)(z:aR)(F:List ah)(v19:List ab)(v25 v32:Int)(v33 v34:aq)(v35:Bool)(hl:v19.length≤1000)(hn:1001≤n):Tk (gT K n b z (F,false) v19 v25 v32 v33 v34 v35):=by
 have h8:∀x,Tk (pa K n b z (F,false) v19 v25 v33 v34 v35 x):=fun x=>VQ K n b z F v19 v25 v33 v34 v35 _ _ hl n 0 v19 (by omega) (by omega) rfl;unfold gT;rw[js];simp only[Option.bind_some];unfold sA;exact gY (gY (h8 _) (h8 _)) (gY (h8 _) (h8 _))
theorem RE(h:eR b k)(hN:1100≤N)(z:aR)(env:cD)(he:env.Lines=(Fv.fn 33)):Tk (mj (KN (N+10)) (N+10) b z false false env):=by
 unfold mj;rw[show je (KN (N+10)) (N+10) b=_ from L7 (N:=N+1) h];simp only[Option.bind_some,Bool.false_eq_true,if_false];rw[he];obtain⟨l,y,e,hl⟩:=Wz (N:=N) h b.Style z.Content;rw[show(KN (N+10)).sh ((Fv.fn 33)) [k] b.Style z.Content=some (l,y) from e];simp only[Option.bind_some];have hcl:∃l',l6 (KN (N+10)) (N+10) l=some l'∧l'.length≤1000:=by
  unfold l6 both;rw[cv (by simp;omega) (by omega)];cases l with
  | nil=>exact⟨[],by simp[aW],by simp⟩
  | cons x r=>exact⟨x::r,by simp[aW],by omega⟩
 obtain⟨l',e2,hl2⟩:=hcl;rw[e2];simp only[Option.bind_some];have j6:∀a b' c d e',Tk (gT (KN (N+10)) (N+10) b z ([k],false) l' a b' c d e'):=fun a b' c d e'=>Zp _ _ b z [k] l' a b' c d e' hl2 (by omega);have j5:∀v15 v16 v17 v18 v21 v25 v26 v27,Tk (mS (KN (N+10)) (N+10) b z false ([k],false) v15 v16 v17 v18 l' v21 v25 v26 v27):=fun v15 v16 v17 v18 v21 v25 v26 v27=>by
  unfold mS;refine gY (j6 _ _ _ _ _) (gY (gY (j6 _ _ _ _ _) (j6 _ _ _ _ _)) (gY (j6 _ _ _ _ _) (j6 _ _ _ _ _)))
 have j4:∀v15 v16 v17 v18 v21 v25 v26,Tk (mV (KN (N+10)) (N+10) b z false false ([k],false) v15 v16 v17 v18 l' v21 v25 v26):=fun v15 v16 v17 v18 v21 v25 v26=>by
  unfold mV;exact gY (gY (j5 _ _ _ _ _ _ _ _) (j5 _ _ _ _ _ _ _ _)) (j5 _ _ _ _ _ _ _ _)
 have j3:∀v15 v16 v17 v18 v20 v21 v23,Tk (pr (KN (N+10)) (N+10) b z false false ([k],false) v15 v16 v17 v18 l' v20 v21 v23):=fun v15 v16 v17 v18 v20 v21 v23=>by
  unfold pr;exact gY (j4 _ _ _ _ _ _ _) (j4 _ _ _ _ _ _ _)
 unfold kQ;simp only[qK,Option.bind_some];exact gY (by obtain⟨v,hv⟩:∃v,gO (KN (N+10)) (N+10) ⟨max z.Margin.a0 0,min z.Margin.a0 0⟩ bX=some v:=⟨_,rfl⟩;rw[hv];exact j4 _ _ _ _ _ _ _) (gY (j3 _ _ _ _ _ _ _) (j3 _ _ _ _ _ _ _))
theorem YC(K:Kn)(n:Nat)(f:ab)(w:Int):∃g,mf K n f w=some g∧g.Kind=f.Kind:=by
 unfold mf rU;simp only[js,Option.bind_some]
 repeat' split
 all_goals exact⟨_,rfl,rfl⟩
theorem Ji(h:eR b k)(hN:1100≤N)(w:Int):∃r,jv (KN (N+10)) (N+10) b w ⟨(Fv.fn 31),(Fv.fn 32),(Fv.fn 33),(Fv.fn 34)⟩=some r∧r.Text=⟨#[]⟩∧(∃f,r.Box=[f]∧f.Kind=1)∧r.Forced=false:=by
 have hin:fe (mc (KN (N+10)) (N+10) b ⟨(Fv.fn 31),(Fv.fn 32),(Fv.fn 33),(Fv.fn 34)⟩):=by
  unfold mc;refine C8 (UT _ _ _) fun s=>?_;rw[js];simp only[Option.bind_some];refine rR (ke _) ?_;rw[show je (KN (N+10)) (N+10) b=_ from L7 (N:=N+1) h];simp only[Option.bind_some,Bool.not_false,if_true];exact C8 (PT (N:=N) h b.Style) fun x=>ke _
 have hs:fe (nd (KN (N+10)) (N+10) b w ⟨(Fv.fn 31),(Fv.fn 32),(Fv.fn 33),(Fv.fn 34)⟩):=by
  unfold nd n9;rw[js];simp only[Option.bind_some,Dn];refine rR ?_ (ke _);refine C8 hin fun x=>?_;simp only[DJ,yd,wC,Option.bind_some];exact ke _
 obtain⟨c,hc⟩:=hs;unfold jv;rw[hc];simp only[Option.bind_some,yd];obtain⟨f,hf,hk⟩:=RE h hN (gW b.Style w c) ⟨(Fv.fn 31),(Fv.fn 32),(Fv.fn 33),(Fv.fn 34)⟩ rfl;unfold nI;rw[hf];simp only[Option.bind_some];obtain⟨g,hg,hgk⟩:=YC (KN (N+10)) (N+10) f w;rw[hg];simp only[Option.bind_some,wC,fP];exact⟨_,rfl,rfl,⟨g,rfl,by rw[hgk,hk]⟩,rfl⟩
end
end Go.Proofs.YtnpmlepplfaijaaGreat
namespace Go.Proofs.YtnpmlepplfaijaaGreat
set_option linter.all false
open Go.RowKit
noncomputable section
def gz:cD:=⟨(Fv.fn 31),(Fv.fn 32),(Fv.fn 33),(Fv.fn 34)⟩
def eL(M:Nat)(w:Int)(b:ah):aH:=(jv (KN (M+10)) (M+10) b w gz).getD default
theorem As{l:List cc}(ht:∀s∈l,s.Text.size≤60){d:Nat}{bx:List ah}(hb:Bx l d bx):∀e∈dB (d+1) bx,e.Kind=3→∃k,eR e.Box k:=by
 intro e he h3;have h5:=WJ (d+1) bx (0,[]) (fun x hx=>by cases hx) e he h3;have hQ:=FE (l:=l) d bx (0,[]) (fun b=>b.Kind=5→∃k,eR b k) hb (fun b R hk h5=>by
  obtain⟨s,hs,_,q|q|q|q⟩:=hk
  ·rw[q.1]at h5;cases h5
  ·rw[q.1]at h5;cases h5
  ·obtain⟨k,k1,k2,_,_,k5⟩:=q.2.2.2;exact⟨k,k1,k2,by rw[k5];exact ht s hs⟩
  ·rw[q.1]at h5;cases h5) (fun x hx=>by cases hx) e he
 exact hQ h5
theorem UL{l:List cc}(ht:∀s∈l,s.Text.size≤60){d:Nat}{bx:List ah}(hb:Bx l d bx)(hc:bA (d+1) bx≤2000){M:Nat}(hM:d+9100≤M)(w:Int):tH (KN (M+11)) (M+11) bx w gz=some (iG (eL M w) (dB (d+1) bx)):=by
 unfold tH;rw[show rM (KN (M+11)) (M+11) bx _=_ from Mq (pl:=eL M w) (D2 ht d bx hb) hc (by omega) (fun e he h3=>by
  obtain⟨k,hk⟩:=As ht hb e he h3;obtain⟨r,hr,_⟩:=Ji hk (N:=M) (by omega) w;show jv (KN (M+10)) (M+10) e.Box w gz=_;unfold eL;rw[show jv (KN (M+10)) (M+10) e.Box w gz=_ from hr];rfl)]
 rfl
theorem R7{b k:ah}(hk:eR b k){M:Nat}(hM:1100≤M)(w:Int):(eL M w b).Text=⟨#[]⟩∧(∃f,(eL M w b).Box=[f]∧f.Kind=1)∧(eL M w b).Forced=false:=by
 obtain⟨r,hr,h1,h2⟩:=Ji hk (N:=M) hM w;unfold eL;rw[show jv (KN (M+10)) (M+10) b w gz=_ from hr];exact⟨h1,h2⟩
end
end Go.Proofs.YtnpmlepplfaijaaGreat
namespace Go.Proofs.YtnpmlepplfaijaaGreat
set_option linter.all false
open Go.RowKit
set_option linter.unusedSimpArgs false
def xL(r:(List ab)×Int×aq×aq×Bool):ct:=⟨r.1,r.2.1,r.2.2.1,r.2.2.2.1,r.2.2.2.2⟩
theorem Gm(K:Kn)(n:Nat)(L:List ab):∀(m:Nat) (i h:Int) (b:aq) (t:Bool) (mm:aq) (l:List ab),
  lA K n L m i h b t mm l=(iX K n L m h t i b mm l).map xL
 | 0,_,_,_,_,_,_=>rfl
 | m+1,i,h,b,t,mm,l=>by
  simp only[lA,lK,iX,nB,gO,hH,fJ,fP,Option.bind_some,nc,mY,mu,lP,nq,oh,pm,o1,Gm K n L m,SW,Yp,Option.map_some,xL]
theorem V9(K:Kn)(n:Nat)(L:List ab):l3 K n L=(oP K n L).map xL:=Gm K n L n _ _ _ _ _ _
theorem Pv(K:Kn)(n:Nat)(L:List ab)(hL:(L.length:Int)≤9223372036854775807):∀(m:Nat) (i h:Int) (b:aq) (t:Bool) (mm:aq) (l:List ab),0≤i→i≤L.length→(L.length:Int)<m+i→((l.length:Int)+L.length)*584≤140737488355328+i*584 →
  ∃r,iX K n L m h t i b mm l=some r∧(r.1.length:Int)=l.length+L.length-i∧(∀f∈r.1,f∈l∨∃g∈L,f.Kids=g.Kids):=by
 intro m
 induction m with
 | zero=>intro i _ _ _ _ _ h0 h1 h2 _;omega
 | succ m ih =>
  intro i h b t mm l h0 h1 h2 h3;simp only[iX,nB];by_cases hi:i<(L.length:Int)
  ·have hin:=bV h0 hi;have hw:aa (i+1)=i+1:=bG (by omega) (by omega);have hf:fits (l.length+1) 584=true:=cv (by omega) (by omega);have key:∀(h':Int) (t':Bool) (b' mm':aq) (y:Int),∃r,iX K n L m h' t' (i+1) b' mm' (l++[{ L.getD i.toNat default with Y:=y }])=some r∧(r.1.length:Int)=l.length+L.length-i∧(∀f∈r.1,f∈l∨∃g∈L,f.Kids=g.Kids):=by
    intro h' t' b' mm' y;obtain⟨r,hr,hlen,hk⟩:=ih (i+1) h' b' t' mm' (l++[{ L.getD i.toNat default with Y:=y }]) (by omega) (by omega) (by omega) (by simp only[List.length_append,List.length_cons,List.length_nil];omega);refine⟨r,hr,by rw[hlen];simp only[List.length_append,List.length_cons,List.length_nil];omega,fun f hf=>?_⟩;rcases hk f hf with hm|hm
    ·rcases List.mem_append.1 hm with hm|hm
     ·exact .inl hm
     ·right;have hlt:i.toNat<L.length:=by omega
      refine⟨L[i.toNat],List.getElem_mem _,?_⟩;simp only[List.mem_cons,List.not_mem_nil,or_false]at hm;rw[hm,b9 hlt]
    ·exact .inr hm
   simp only[hi,decide_true,if_true,hin,aW,gO,fP,Option.bind_some,nq,oh,pm,List.length_cons,List.length_nil,Nat.zero_add,hf,hw]
   repeat (first|exact key _ _ _ _ _|split)
  ·have:decide (i<(L.length:Int))=false:=by simpa using hi
   simp only[this,Bool.false_eq_true,if_false,o1];split<;>exact⟨_,rfl,by show(l.length:Int)=_;omega,fun f hf=>.inl hf⟩
theorem VI(K:Kn)(n:Nat)(L:List ab)(hn:L.length<n)(hL:L.length*584≤140737488355328):∃r,oP K n L=some r∧r.1.length=L.length∧∀f∈r.1,∃g∈L,f.Kids=g.Kids:=by
 obtain⟨r,h1,hlen,h2⟩:=Pv K n L (by omega) n 0 0 bX true bX [] (by omega) (by omega) (by omega) (by simp;omega);exact⟨r,h1,by simp only[List.length_nil]at hlen;omega,fun f hf=>(h2 f hf).elim (fun h=>by cases h) (fun h=>h)⟩
theorem FC(s:aF):B4 s s=true:=by simp[B4,ff]
theorem HA(s:aq):xY s s=true:=by simp[xY]
end Go.Proofs.YtnpmlepplfaijaaGreat
namespace Go.Proofs.YtnpmlepplfaijaaGreat
set_option linter.all false
open Go.RowKit
theorem hI{i:Nat}(h:i<1000000):aa ((i:Int)+1)=((i+1:Nat):Int):=by rw[bG (by omega) (by omega)];omega
theorem gU{i n:Nat}(h:i<n):decide ((i:Int)<(n:Int))=true:=by simpa using h
theorem gP{i n:Nat}(h:n≤i):decide ((i:Int)<(n:Int))=false:=by simpa using h
theorem fV{i n:Nat}(h:i<n):bd (i:Int) n=true:=bV (by omega) (by omega)
theorem drop_at'{α:Type}[Inhabited α]{L:List α}{i:Nat}(h:i<L.length):L.drop i=L.getD i default::L.drop (i+1):=by
 rw[b9 h];exact List.drop_eq_getElem_cons h
theorem qW{α:Type}[Inhabited α]{L:List α}{i:Nat}(h:i<L.length):L.getD i default∈L:=by
 rw[b9 h];exact List.getElem_mem h
def gV(k:ah):Bool:=k.Kind == 3||k.Style.Position != 2
def dc(k:ah):Bool:=k.Kind == 1||(k.Kind == 6||k.Kind == 7)
theorem RX(K:Kn)(n:Nat)(k:ah):fQ K n k=some (gV k):=by
 unfold fQ gV ul;cases h:k.Kind == 3<;>simp
theorem TX(K:Kn)(n:Nat)(k:ah):iR K n k=some (gV k):=by
 unfold iR gV lZ;cases h:k.Kind == 3<;>simp
theorem Bn(K:Kn)(n:Nat)(k:ah):mr K n k=some (dc k):=by
 unfold mr dc pf;cases h:k.Kind == 1<;>cases h2:k.Kind == 6<;>simp
theorem Uz(K:Kn)(n:Nat)(hO:∀x,K.jz (Fv.fn 102) x=some (dc x))(L:List ah)(hL:L.length≤20):∀(m i:Nat),i≤L.length→L.length<m+i →
  ∃r,jY K n L (Fv.fn 102) m i=some r∧decide (r≥0)=(L.drop i).any dc:=by
 intro m
 induction m with
 | zero=>intro i h1 h2;omega
 | succ m ih =>
  intro i h1 h2;simp only[jY,kz];by_cases hi:i<L.length
  ·rw[drop_at' hi];simp only[gU hi,if_true,fV hi,aW,hO,Option.bind_some,Int.toNat_natCast,List.any_cons,hI (show i<1000000 by omega)];cases hq:dc (L.getD i default)
   ·simp only[Bool.false_eq_true,if_false,Bool.false_or];exact ih (i+1) (by omega) (by omega)
   ·exact⟨_,rfl,by simp⟩
  ·have e:i=L.length:=by omega
   subst e;simp only[gP (Nat.le_refl _),Bool.false_eq_true,if_false,List.drop_length];exact⟨_,rfl,by simp⟩
theorem MR(K:Kn)(n:Nat)(hO:∀x,K.jz (Fv.fn 102) x=some (dc x))(L:List ah)(hL:L.length≤20)(hn:20<n):lr K n L (Fv.fn 102)=some (L.any dc):=by
 obtain⟨r,h1,h2⟩:=Uz K n hO L hL n 0 (by omega) (by omega);unfold lr vW;rw[show jY K n L (Fv.fn 102) n 0=some r from h1];simp only[Option.bind_some,h2,List.drop_zero]
theorem Sz(K:Kn)(n:Nat)(b:ah)(hb:b.Kids.length≤20):∀(m i:Nat) (acc:List ah),i≤b.Kids.length→b.Kids.length<m+i→acc.length≤i →
  mw K n b m i acc=(lr K n (acc++(b.Kids.drop i).filter gV) (Fv.fn 102)).bind fun v=>some (acc++(b.Kids.drop i).filter gV,v):=by
 intro m
 induction m with
 | zero=>intro i acc h1 h2;omega
 | succ m ih =>
  intro i acc h1 h2 h3;simp only[mw,k7];by_cases hi:i<b.Kids.length
  ·rw[drop_at' hi];simp only[gU hi,if_true,fV hi,aW,RX,Option.bind_some,qY,Int.toNat_natCast,List.length_cons,List.length_nil,hI (show i<1000000 by omega),List.filter_cons];cases hq:gV (b.Kids.getD i default)
   ·simp only[Bool.false_eq_true,if_false];exact ih (i+1) acc (by omega) (by omega) (by omega)
   ·simp only[if_true];rw[cv (by omega) (by omega),aW,ih (i+1) _ (by omega) (by omega) (by simp;omega)];simp only[List.append_assoc,List.singleton_append]
  ·have e:i=b.Kids.length:=by omega
   subst e;simp only[gP (Nat.le_refl _),Bool.false_eq_true,if_false,List.drop_length,List.filter_nil,List.append_nil]
def cm(b:ah):List ah:=b.Kids.filter gV
theorem w3{b:ah}:(cm b).length≤b.Kids.length:=List.length_filter_le _ _
theorem HK(K:Kn)(n:Nat)(hO:∀x,K.jz (Fv.fn 102) x=some (dc x))(b:ah)(hb:b.Kids.length≤20)(hn:20<n):je K n b=some (cm b,(cm b).any dc):=by
 have h:=Sz K n b hb n 0 [] (by omega) (by omega) (by simp);unfold je;refine (show _=_ from h).trans ?_;simp only[List.nil_append,List.drop_zero];rw[show b.Kids.filter gV=cm b from rfl,MR K n hO _ (Nat.le_trans w3 hb) hn];rfl
theorem Rd(K:Kn)(n:Nat)(b:ah)(hb:b.Kids.length≤20):∀(m i:Nat) (acc:List ah),i≤b.Kids.length→b.Kids.length<m+i→acc.length≤i →
  mZ K n b m i acc=some (acc++(b.Kids.drop i).filter gV):=by
 intro m
 induction m with
 | zero=>intro i acc h1 h2;omega
 | succ m ih =>
  intro i acc h1 h2 h3;simp only[mZ,lu];by_cases hi:i<b.Kids.length
  ·rw[drop_at' hi];simp only[gU hi,if_true,fV hi,aW,TX,Option.bind_some,m4,Int.toNat_natCast,List.length_cons,List.length_nil,hI (show i<1000000 by omega),List.filter_cons];cases hq:gV (b.Kids.getD i default)
   ·simp only[Bool.false_eq_true,if_false];exact ih (i+1) acc (by omega) (by omega) (by omega)
   ·simp only[if_true];rw[cv (by omega) (by omega),aW,ih (i+1) _ (by omega) (by omega) (by simp;omega)];simp only[List.append_assoc,List.singleton_append]
  ·have e:i=b.Kids.length:=by omega
   subst e;simp only[gP (Nat.le_refl _),Bool.false_eq_true,if_false,List.drop_length,List.filter_nil,List.append_nil]
theorem CB(K:Kn)(n:Nat)(b:ah)(hb:b.Kids.length≤20)(hn:20<n):lg K n b=some (cm b):=by
 have h:=Rd K n b hb n 0 [] (by omega) (by omega) (by simp);exact(show _=_ from h).trans (by simp only[List.nil_append,List.drop_zero];rfl)
theorem Yf(K:Kn)(n:Nat)(L:List ah)(hL:L.length≤20):∀(m i:Nat),i≤L.length→L.length<m+i→lz K n L m i=some ((L.drop i).any fun k=>k.Kind == 1):=by
 intro m
 induction m with
 | zero=>intro i h1 h2;omega
 | succ m ih =>
  intro i h1 h2;simp only[lz,ml];by_cases hi:i<L.length
  ·rw[drop_at' hi];simp only[gU hi,if_true,fV hi,aW,Int.toNat_natCast,List.any_cons,hI (show i<1000000 by omega)];cases hq:(L.getD i default).Kind == 1
   ·simp only[Bool.false_eq_true,if_false,Bool.false_or];exact ih (i+1) (by omega) (by omega)
   ·simp
  ·have e:i=L.length:=by omega
   subst e;simp[gP (Nat.le_refl _)]
theorem Hh(K:Kn)(n:Nat)(b:ah)(hb:b.Kids.length≤20)(hn:20<n):kB K n b=some ((cm b).any fun k=>k.Kind == 1):=by
 unfold kB;rw[CB K n b hb hn,Option.bind_some];have:=@w3 b;exact(Yf K n (cm b) (by omega) n 0 (by omega) (by omega)).trans (by simp only[List.drop_zero])
def fj(s:aF)(w:Int):List ah→Int→List ab→List ab×Int
 | [],y,acc=>(acc,y)
 | k::r,y,acc=>if k.Text.toList == (⟨#[]⟩:ByteArray).toList then fj s w r y acc else fj s w r (aa (y+s.LineHeight)) (acc++[{ bb with Kind:=2,Y:=y,W:=w,H:=s.LineHeight,Text:=k.Text }])
theorem Pz(K:Kn)(n:Nat)(L:List ah)(s:aF)(w:Int)(hL:L.length≤20):∀(m i:Nat) (y:Int) (acc:List ab),i≤L.length→L.length<m+i→acc.length≤i →
  il K n L s w m y i acc=some (fj s w (L.drop i) y acc):=by
 intro m
 induction m with
 | zero=>intro i y acc h1 h2;omega
 | succ m ih =>
  intro i y acc h1 h2 h3;simp only[il,gN];by_cases hi:i<L.length
  ·rw[drop_at' hi];simp only[gU hi,if_true,fV hi,aW,Option.bind_some,jO,Int.toNat_natCast,List.length_cons,List.length_nil,hI (show i<1000000 by omega),fj];cases hq:(L.getD i default).Text.toList == (⟨#[]⟩:ByteArray).toList
   ·simp only[Bool.not_false,Bool.false_eq_true,if_false,if_true];rw[cv (by omega) (by omega),aW,ih (i+1) _ _ (by omega) (by omega) (by simp;omega)]
   ·simp only[Bool.not_true,Bool.false_eq_true,if_false,if_true];exact ih (i+1) _ acc (by omega) (by omega) (by omega)
  ·have e:i=L.length:=by omega
   subst e;simp only[gP (Nat.le_refl _),Bool.false_eq_true,if_false,List.drop_length,fj]
theorem GH(K:Kn)(n:Nat)(L:List ah)(s:aF)(w:Int)(hL:L.length≤20)(hn:20<n):jy K n L s w=some (fj s w L 0 []) :=
 (Pz K n L s w hL n 0 0 [] (by omega) (by omega) (by simp)).trans (by simp only[List.drop_zero])
theorem Be(s:aF)(w:Int):∀(L:List ah) (y:Int) (acc:List ab),(∀f∈acc,f.Kids=[])→(fj s w L y acc).1.length≤acc.length+L.length∧∀f∈(fj s w L y acc).1,f.Kids=[]
 | [],y,acc,h=>⟨by simp[fj],h⟩
 | k::r,y,acc,h=>by
  unfold fj;split
  ·have:=Be s w r y acc h;exact⟨by simp only[List.length_cons];omega,this.2⟩
  ·have:=Be s w r (aa (y+s.LineHeight)) (acc++[{ bb with Kind:=2,Y:=y,W:=w,H:=s.LineHeight,Text:=k.Text }]) (fun f hf=>by
    rcases List.mem_append.1 hf with hf|hf
    ·exact h f hf
    ·simp only[List.mem_cons,List.not_mem_nil,or_false]at hf;subst hf;rfl)
   refine⟨?_,this.2⟩;have h1:=this.1;simp only[List.length_append,List.length_cons,List.length_nil]at h1⊢;omega
def fX(f:ab)(w:Int):ab :=
 if f.Style.Position=1 then { f with X:=aa (f.X+(db f.Style.Left w).1),Y:=if f.Style.Top.Kind=1 then aa (f.Y+(db f.Style.Top 0).1) else f.Y } else f
theorem Lj(K:Kn)(n:Nat)(f:ab)(w:Int):mf K n f w=some (fX f w):=by
 unfold mf fX;simp only[js,Option.bind_some,rU];by_cases h:f.Style.Position=1
 ·by_cases h2:f.Style.Top.Kind=1<;>simp[h,h2]
 ·simp[h]
theorem LS(K:Kn)(n:Nat)(f:ab)(w:Int):k8 K n f w=some (fX f w):=by
 unfold k8 fX;simp only[y4,Option.bind_some,ly];by_cases h:f.Style.Position=1
 ·by_cases h2:f.Style.Top.Kind=1<;>simp[h,h2]
 ·simp[h]
theorem Lb(f:ab)(w:Int):(fX f w).Kids=f.Kids:=by unfold fX;split<;>rfl
def Fd:Nat→ab→Prop
 | 0,_=>False
 | d+1,f=>f.Kids.length≤20∧∀k∈f.Kids,Fd d k
theorem Wb(N n:Nat)(f:ab)(hf:f.Kids.length≤20)(hk:∀k∈f.Kids,(KN N).qJ k k=some true):∀(m i:Nat),i≤f.Kids.length→f.Kids.length<m+i→lT (KN N) n f f m i=some true:=by
 intro m
 induction m with
 | zero=>intro i h1 h2;omega
 | succ m ih =>
  intro i h1 h2;simp only[lT,pJ];by_cases hi:i<f.Kids.length
  ·simp only[gU hi,if_true,fV hi,aW,Int.toNat_natCast,hk _ (qW hi),Option.bind_some,Bool.not_true,Bool.false_eq_true,if_false,hI (show i<1000000 by omega)];exact ih (i+1) (by omega) (by omega)
  ·have e:i=f.Kids.length:=by omega
   subst e;simp[gP (Nat.le_refl _)]
theorem GA:∀(d N n:Nat) (f:ab),Fd d f→d≤N+1→20<n→d+20≤N→ja (KN N) n f f=some true
 | 0,_,_,_,h,_,_,_=>h.elim
 | d+1,N,n,f,h,h1,h2,h3=>by
  have hl:=Wb N n f h.1 (fun k hk=>by
   match N,h1,h3 with
   | N+1,h1,h3 =>
    show ja (KN N) N k k=some true;by_cases hd:d=0
    ·subst hd;exact(h.2 k hk).elim
    ·exact GA d N N k (h.2 k hk) (by omega) (by omega) (by omega)) n 0 (by omega) (by have:=h.1;omega)
  unfold ja;simp only[bne_self_eq_false,beq_self_eq_true,Bool.not_true,Bool.false_eq_true,if_false,FC,HA,eV];exact hl
end Go.Proofs.YtnpmlepplfaijaaGreat
namespace Go.Proofs.YtnpmlepplfaijaaGreat
set_option linter.all false
open Go.RowKit
theorem s5{a b:Int}(h:a % 18446744073709551616=b % 18446744073709551616):aa a=aa b:=by
 unfold aa;rw[IntKind.wrap_i64,IntKind.wrap_i64];omega
theorem gc(a:Int):aa a % 18446744073709551616=a % 18446744073709551616:=by
 unfold aa;rw[IntKind.wrap_i64];omega
def jK(bl:Bool)(z:aR)(down:Int)(f:ab):ab :=
 if bl=true then fX { f with X:=aa (f.X+aa (z.Border.a3+z.Padding.a3)),Y:=aa (f.Y+aa (aa (z.Border.a0+z.Padding.a0)+down)) } z.Content
 else { f with X:=aa (f.X+aa (z.Border.a3+z.Padding.a3)),Y:=aa (f.Y+aa (aa (z.Border.a0+z.Padding.a0)+down)) }
theorem Ro(bl:Bool)(z:aR)(down:Int)(f:ab):(jK bl z down f).Kids=f.Kids:=by
 unfold jK;split
 ·rw[Lb]
 ·rfl
def mQ(b:ah)(z:aR)(bl:Bool)(L:List ab)(d:Int)(bf af:aq)(em:Bool)(h:Int):ab :=
 ⟨1,b.Node,z.Margin.a3,0,aa (z.Content+aa (aa (aa (z.Border.a3+z.Padding.a3)+z.Border.a1)+z.Padding.a1)),aa (aa (aa (aa (h+z.Border.a0)+z.Padding.a0)+z.Border.a2)+z.Padding.a2),0,⟨#[]⟩,b.Style,bf,af,em,L.map (jK bl z d)⟩
theorem Hj{α:Type}(A R:List α)(x y:α):(A++x::R).set A.length y=A++y::R:=by
 rw[List.set_append_right _ _ (Nat.le_refl _)];simp
theorem HN{α:Type}(A R:List α)(x d:α):(A++x::R).getD A.length d=x:=by simp[List.getD_eq_getElem?_getD]
theorem V7(K:Kn)(n:Nat)(b:ah)(z:aR)(v6:(List ah)×Bool)(L:List ab)(d:Int)(bf af:aq)(em:Bool)(v39 H:Int)(hl:L.length≤20)(ho:v6.2=true→v6.1.length=L.length∧∀k∈v6.1,dc k=true):
  ∀(m:Nat) (A R:List ab),A.length+R.length=L.length→R.length<m→mI K n b z v6 L d bf af em v39 H m (A.length:Int) (A++R) =
   some ⟨1,b.Node,z.Margin.a3,0,aa (z.Content+v39),H,0,⟨#[]⟩,b.Style,bf,af,em,A++R.map (jK v6.2 z d)⟩:=by
 intro m
 induction m with
 | zero=>intro A R _ h2;omega
 | succ m ih =>
  intro A R h1 h2;simp only[mI,o7];cases R with
  | nil =>
   have e:A.length=L.length:=by simpa using h1
   simp only[gP (show L.length≤A.length by omega),Bool.false_eq_true,if_false,List.map_nil]
  | cons x R =>
   simp only[List.length_cons]at h1 h2;have hA:A.length<L.length:=by omega
   have nx:=ih (A++[jK v6.2 z d x]) R (by simp;omega) (by omega);simp only[List.append_assoc,List.singleton_append,List.length_append,List.length_cons,List.length_nil,Nat.zero_add]at nx;simp only[gU hA,if_true,Int.toNat_natCast,Hj,HN,fV (show A.length<(A++x::R).length by simp),List.length_append,List.length_cons,fV (show A.length<A.length+(R.length+1) by omega),aW,Bn,Option.bind_some,qS,sS,Lj,hI (show A.length<1000000 by omega),List.map_cons];cases hv:v6.2 with
   | false =>
    rw[hv]at nx;simp only[Bool.false_eq_true,if_false];simp only[jK,Bool.false_eq_true,if_false]at nx⊢;exact nx
   | true =>
    rw[hv]at nx;obtain⟨g1,g2⟩:=ho hv;have hin:A.length<v6.1.length:=by omega
    simp only[if_true,fV hin,aW,g2 _ (qW hin)];simp only[jK,if_true]at nx⊢;exact nx
theorem PA(K:Kn)(n:Nat)(b:ah)(z:aR)(W:Int)(bl:Bool)(v13:Int)(v14 v15:aq)(v16:Bool)(L:List ab)(d:Int)(bf af:aq)(em:Bool)(H:Int)(hl:L.length≤20):
  ∀(m i:Nat) (acc:List ab),i≤L.length→L.length<m+i→acc.length≤i→lq K n b z W bl v13 v14 v15 v16 L d bf af em m i H acc =
   some ⟨1,b.Node,z.Margin.a3,0,W,H,0,⟨#[]⟩,b.Style,bf,af,em,acc++(L.drop i).map (jK bl z d)⟩:=by
 intro m
 induction m with
 | zero=>intro i acc _ h2;omega
 | succ m ih =>
  intro i acc h1 h2 h3;simp only[lq,lx];by_cases hi:i<L.length
  ·rw[drop_at' hi];simp only[gU hi,if_true,fV hi,aW,LS,Option.bind_some,lW,Int.toNat_natCast,List.length_cons,List.length_nil,hI (show i<1000000 by omega),List.map_cons];rw[cv (by omega) (by omega)];cases bl with
   | false =>
    simp only[Bool.false_eq_true,if_false,aW];rw[ih (i+1) _ (by omega) (by omega) (by simp;omega)];simp only[List.append_assoc,List.singleton_append,jK,Bool.false_eq_true,if_false]
   | true =>
    simp only[if_true,aW];rw[ih (i+1) _ (by omega) (by omega) (by simp;omega)];simp only[List.append_assoc,List.singleton_append,jK,if_true]
  ·have e:i=L.length:=by omega
   subst e;simp only[gP (Nat.le_refl _),Bool.false_eq_true,if_false,List.drop_length,List.map_nil,List.append_nil]
def g9(z:aR):Int:=aa (aa (aa (aa (z.Content+z.Border.a1)+z.Border.a3)+z.Padding.a1)+z.Padding.a3)
section
variable(K:Kn)(n:Nat)(hn:20<n)(b:ah)(z:aR)(L:List ab)(hl:L.length≤20)
include hn hl
theorem Ot(v6:(List ah)×Bool)(ho:v6.2=true→v6.1.length=L.length∧∀k∈v6.1,dc k=true)(d:Int)(bf af:aq)(em:Bool)(h:Int):pa K n b z v6 L d bf af em h=some (mQ b z v6.2 L d bf af em h):=by
 unfold pa;simp only[xh,Option.bind_some];exact V7 K n b z v6 L d bf af em _ _ hl ho n [] L (by simp) (by omega)
theorem Zd(bl:Bool)(v13:Int)(v14 v15:aq)(v16:Bool)(d:Int)(bf af:aq)(em:Bool)(h:Int):k9 K n b z (g9 z) bl v13 v14 v15 v16 L d bf af em h=some (mQ b z bl L d bf af em h):=by
 unfold k9;refine (PA K n b z (g9 z) bl v13 v14 v15 v16 L d bf af em _ hl n 0 [] (by omega) (by omega) (by simp)).trans ?_;simp only[List.nil_append,List.drop_zero,mQ,g9];have e1:aa (aa (aa (aa (z.Content+z.Border.a1)+z.Border.a3)+z.Padding.a1)+z.Padding.a3)=aa (z.Content+aa (aa (aa (z.Border.a3+z.Padding.a3)+z.Border.a1)+z.Padding.a1)):=by
  apply s5;have:=gc (aa (aa (z.Content+z.Border.a1)+z.Border.a3)+z.Padding.a1);have:=gc (aa (z.Content+z.Border.a1)+z.Border.a3);have:=gc (z.Content+z.Border.a1);have:=gc (aa (aa (z.Border.a3+z.Padding.a3)+z.Border.a1)+z.Padding.a1);have:=gc (aa (z.Border.a3+z.Padding.a3)+z.Border.a1);have:=gc (z.Border.a3+z.Padding.a3);omega
 have e2:aa (aa (aa (aa (h+z.Border.a0)+z.Border.a2)+z.Padding.a0)+z.Padding.a2)=aa (aa (aa (aa (h+z.Border.a0)+z.Padding.a0)+z.Border.a2)+z.Padding.a2):=by
  apply s5;have:=gc (aa (aa (h+z.Border.a0)+z.Border.a2)+z.Padding.a0);have:=gc (aa (h+z.Border.a0)+z.Border.a2);have:=gc (aa (aa (h+z.Border.a0)+z.Padding.a0)+z.Border.a2);have:=gc (aa (h+z.Border.a0)+z.Padding.a0);omega
 rw[e1,e2]
def uS(s:aF)(h:Int):Int:=if s.Height.Kind=1 then max (min (max s.Height.Value (-1048576)) 1048576) 0 else max h 0
theorem Xy(v6:(List ah)×Bool)(ho:v6.2=true→v6.1.length=L.length∧∀k∈v6.1,dc k=true)(d h:Int)(bf af:aq)(em:Bool):gT K n b z v6 L d h bf af em=some (mQ b z v6.2 L d bf af em (uS b.Style h)):=by
 unfold gT;simp only[js,Option.bind_some,sA,Ot K n hn b z L hl v6 ho];by_cases hk:b.Style.Height.Kind=1
 ·simp[hk,uS,db]
 ·simp only[uS,hk,if_false,beq_iff_eq,Bool.false_eq_true];split<;>rfl
def lF(l:cu):Int×Bool:=if l.Kind=1 then (max (min (max l.Value (-1048576)) 1048576) 0,true) else (0,false)
omit hn hl in
theorem RZ(l:cu):ln K n l=some (lF l):=by
 unfold ln lF;by_cases h:l.Kind=1<;>simp[h,ix]
theorem ON(bl:Bool)(v13:Int)(v14 v15:aq)(v16:Bool)(d h:Int)(bf af:aq)(em:Bool):gu K n b z (g9 z) bl v13 v14 v15 v16 L (lF b.Style.Height) d h bf af em=some (mQ b z bl L d bf af em (uS b.Style h)):=by
 unfold gu;simp only[Zd K n hn b z L hl];by_cases hk:b.Style.Height.Kind=1<;>simp[hk,lF,uS]
def ofM(x:Int):aq:=⟨max x 0,min x 0⟩
def ey(m:aq):Prop:=0≤m.Pos∧m.Pos≤16777216 ∧ -16777216≤m.Neg∧m.Neg≤0
instance(m:aq):Decidable (ey m):=by unfold ey;infer_instance
def xB(z:aR):Prop:=(-16777216≤z.Margin.a0∧z.Margin.a0≤16777216)∧(-16777216≤z.Margin.a2∧z.Margin.a2≤16777216)
def MB(f:ab):Prop:=ey f.Before∧ey f.After
theorem ML(v6:(List ah)×Bool)(ho:v6.2=true→v6.1.length=L.length∧∀k∈v6.1,dc k=true)(above below:Bool)(h:Int)(through:Bool)(bf af:aq):
  ∃d e f g x,kQ K n b z above below v6 h through bf af L=some (mQ b z v6.2 L d e f g x)∧iz K n b z (g9 z) v6.2 h bf af through L (lF b.Style.Height) above below=some (mQ b z v6.2 L d e f g x) ∧
   (above=false→below=false→g=false∧e=ofM z.Margin.a0∧f=ofM z.Margin.a2)∧(ey bf→ey af→xB z→ey e∧ey f):=by
 have c1:∀x y:Int,aa (x+y)=aa (y+x):=fun x y=>by rw[Int.add_comm]
 have c3:∀y u:Int,aa (h+aa (y+u))=aa (aa (y+h)+u):=fun y u=>by
  apply s5;have:=gc (y+u);have:=gc (y+h);omega
 cases above<;>cases below<;>cases through <;>
  simp only[kQ,pr,mV,mS,iz,m9,kZ,lp,mB,qK,nf,gO,hH,fP,fJ,Option.bind_some,Bool.not_true,Bool.not_false,Bool.false_eq_true,if_true,if_false,
   Xy K n hn b z L hl v6 ho,ON K n hn b z L hl] <;>
  refine⟨_,_,_,_,_,rfl,?_,?_,?_⟩<;>first|(intro hb ha hz;unfold ey at *;unfold xB at hz;dsimp only;refine⟨?_,?_⟩<;>omega)|exact fun _ _=>⟨rfl,rfl,rfl⟩|(intro h1 h2;contradiction)|rfl|(rw[c1 h];done)|(rw[c3];done)
end
def vU:Nat→ah→Prop
 | 0,_=>False
 | d+1,b=>b.Kids.length≤20∧((∀k∈b.Kids,k.Kind=1∧vU d k)∨∀k∈b.Kids,k.Kind=3)
theorem wz:∀{d:Nat} {f g:ab},f.Kids=g.Kids→Fd d g→Fd d f
 | 0,_,_,_,h=>h.elim
 | d+1,f,g,e,h=>by unfold Fd at h⊢;rw[e];exact h
theorem Gg{d:Nat}{f:ab}(h:f.Kids=[]):Fd (d+1) f:=by unfold Fd;rw[h];simp
section
variable(K:Kn)(n:Nat)
theorem Pn(b:ah)(z:aR)(v3 v4:Bool)(env:cD)(v6:(List ah)×Bool)(F:ah→ab)(hl:v6.1.length≤20)(hF:∀k∈v6.1,K.n8 env.Layout k z.Content=some (F k)):
  ∀(m i:Nat) (acc:List ab),i≤v6.1.length→v6.1.length<m+i→acc.length≤i→oM K n b z v3 v4 env v6 m i acc =
   (oP K n (acc++(v6.1.drop i).map F)).bind fun v12=>kQ K n b z v3 v4 v6 v12.2.1 v12.2.2.2.2 v12.2.2.1 v12.2.2.2.1 v12.1:=by
 intro m
 induction m with
 | zero=>intro i acc _ h2;omega
 | succ m ih =>
  intro i acc h1 h2 h3;simp only[oM,uW];by_cases hi:i<v6.1.length
  ·rw[drop_at' hi];simp only[gU hi,if_true,fV hi,aW,hF _ (qW hi),Option.bind_some,Int.toNat_natCast,List.length_cons,List.length_nil,hI (show i<1000000 by omega),List.map_cons];rw[cv (by omega) (by omega),aW,ih (i+1) _ (by omega) (by omega) (by simp;omega)];simp only[List.append_assoc,List.singleton_append]
  ·have e:i=v6.1.length:=by omega
   subst e;simp only[gP (Nat.le_refl _),Bool.false_eq_true,if_false,List.drop_length,List.map_nil,List.append_nil]
theorem RC(b:ah)(z:aR)(v3 v4:Bool)(L:List ah)(F:ah→ab)(hl:L.length≤20)(hF:∀k∈L,fv K n k z.Content=some (F k)):
  ∀(m i:Nat) (acc:List ab),i≤L.length→L.length<m+i→acc.length≤i→kg K n b z v3 (g9 z) v4 L m i acc =
   (l3 K n (acc++(L.drop i).map F)).bind fun v11=>iA K n b z v3 (g9 z) v4 v11.Height v11.Before v11.After v11.Through v11.List:=by
 intro m
 induction m with
 | zero=>intro i acc _ h2;omega
 | succ m ih =>
  intro i acc h1 h2 h3;simp only[kg,mE];by_cases hi:i<L.length
  ·rw[drop_at' hi];simp only[gU hi,if_true,fV hi,aW,hF _ (qW hi),Option.bind_some,Int.toNat_natCast,List.length_cons,List.length_nil,hI (show i<1000000 by omega),List.map_cons];rw[cv (by omega) (by omega),aW,ih (i+1) _ (by omega) (by omega) (by simp;omega)];simp only[List.append_assoc,List.singleton_append]
  ·have e:i=L.length:=by omega
   subst e;simp only[gP (Nat.le_refl _),Bool.false_eq_true,if_false,List.drop_length,List.map_nil,List.append_nil]
end
def mX(b:ah)(z:aR)(share:Bool):Bool:=share&&(b.Style.Overflow == 0&&aa (z.Border.a0+z.Padding.a0) == 0)
def m7(b:ah)(z:aR)(share:Bool):Bool:=share&&(b.Style.Overflow == 0&&(aa (z.Border.a2+z.Padding.a2) == 0&&b.Style.Height.Kind != 1))
theorem WR(K:Kn)(n:Nat)(b:ah)(z:aR)(share bl:Bool)(h:Int)(bf af:aq)(th:Bool)(L:List ab):
  iA K n b z share (g9 z) bl h bf af th L=iz K n b z (g9 z) bl h bf af th L (lF b.Style.Height) (mX b z share) (m7 b z share):=by
 unfold iA mX m7;simp only[RZ,Option.bind_some,ng,lU];have e:(!(lF b.Style.Height).2)=(b.Style.Height.Kind != 1):=by
  unfold lF;by_cases hk:b.Style.Height.Kind=1<;>simp[hk]
 rw[e];cases share
 ·simp
 ·cases ho:b.Style.Overflow == 0
  ·simp
  ·cases hq:aa (z.Border.a2+z.Padding.a2) == 0<;>simp
theorem SP(K:Kn)(n:Nat)(l:List ab)(hl:l.length≤20):l6 K n l=some l:=by
 unfold l6 both;have hf:fits (([]:List ab).length+l.length) 584=true:=by rw[List.length_nil,Nat.zero_add];exact cv (by omega) (by omega)
 rw[hf];cases l<;>simp[aW]
theorem V3(K:Kn)(n:Nat)(L:List ab)(hL:∀f∈L,MB f):∀(m:Nat) (i h:Int) (b:aq) (t:Bool) (mm:aq) (l:List ab) {r:(List ab)×Int×aq×aq×Bool},ey b→ey mm→iX K n L m h t i b mm l=some r→ey r.2.2.1∧ey r.2.2.2.1:=by
 intro m
 induction m with
 | zero=>intro i h b t mm l r hb hm e;cases e
 | succ m ih =>
  intro i h b t mm l r hb hm e;simp only[iX,nB]at e;by_cases hi:i<(L.length:Int)
  ·simp only[hi,decide_true,if_true]at e;obtain⟨hin,e⟩:=aL e;obtain⟨h0,h1⟩:=ci hin;have hf:=hL _ (qW h1);have hj:ey ⟨max mm.Pos (L.getD i.toNat default).Before.Pos,min mm.Neg (L.getD i.toNat default).Before.Neg⟩:=by
    have:=hf.1;unfold ey at *
    dsimp only;omega
   simp only[gO,fP,Option.bind_some,nq,oh,pm]at e;generalize hx:L.getD i.toNat default=x at *;cases he:x.Empty<;>cases t<;>simp only[he,Bool.not_true,Bool.not_false,Bool.false_eq_true,if_true,if_false]at e<;>have e:=(aL e).2
   ·exact ih _ _ _ _ _ _ hb hf.2 e
   ·exact ih _ _ _ _ _ _ hj hf.2 e
   ·exact ih _ _ _ _ _ _ hb hj e
   ·exact ih _ _ _ _ _ _ hb hj e
  ·simp only[hi,decide_false,Bool.false_eq_true,if_false,o1]at e;split at e<;>(injection e with e;subst e)<;>first|exact⟨hm,hm⟩|exact⟨hb,hm⟩
theorem Hb(K:Kn)(n:Nat)(L:List ab)(hL:∀f∈L,MB f){r:(List ab)×Int×aq×aq×Bool}(h:oP K n L=some r):ey r.2.2.1∧ey r.2.2.2.1 :=
 V3 K n L hL n _ _ _ _ _ _ (by decide) (by decide) h
theorem core(d N:Nat)(b:ah)(z:aR)(share:Bool)(hg:vU (d+1) b)(hN:20<N)(env:cD)(he:env.Layout=(Fv.fn 31)∧env.Lines=(Fv.fn 33))
  (ih:∀k,vU d k→∃f,(KN (N+1)).n8 (Fv.fn 31) k z.Content=some f∧fv (KN (N+1)) (N+1) k z.Content=some f∧Fd (d+1) f∧MB f) :
  ∃f,mj (KN (N+1)) (N+1) b z (mX b z share) (m7 b z share) env=some f∧kI (KN (N+1)) (N+1) b z share=some f∧Fd (d+2) f∧(share=false→f.Empty=false∧f.Before=ofM z.Margin.a0∧f.After=ofM z.Margin.a2)∧(xB z→MB f):=by
 have hO:∀x,(KN (N+1)).jz (Fv.fn 102) x=some (dc x):=fun x=>Bn (KN N) N x;have hlen:b.Kids.length≤20:=hg.1;have hfl:(cm b).length≤20:=Nat.le_trans w3 hlen;have hsub:∀k∈cm b,k∈b.Kids:=fun k hk=>(List.mem_filter.1 hk).1;have hany:((cm b).any fun k=>k.Kind == 1)=(cm b).any dc:=by
  apply Bool.eq_iff_iff.2;simp only[List.any_eq_true];constructor
  ·rintro ⟨k,hk,e⟩;exact⟨k,hk,by simp[dc,e]⟩
  ·rintro ⟨k,hk,e⟩
   refine⟨k,hk,?_⟩;rcases hg.2 with h|h
   ·simp[(h k (hsub k hk)).1]
   ·have:=h k (hsub k hk);simp[dc,this]at e
 unfold mj kI;rw[HK _ _ hO b hlen (by omega),Hh _ _ b hlen (by omega),CB _ _ b hlen (by omega),hany];simp only[Option.bind_some];rw[show aa (aa (aa (aa (z.Content+z.Border.a1)+z.Border.a3)+z.Padding.a1)+z.Padding.a3)=g9 z from rfl];have fin:∀(L:List ab) (bl:Bool) (h:Int) (th:Bool) (bf af:aq),bl=(cm b).any dc→L.length≤20→(bl=true→(cm b).length=L.length∧∀k∈cm b,dc k=true)→(∀f∈L,Fd (d+1) f)→ey bf→ey af →
   ∃f,kQ (KN (N+1)) (N+1) b z (mX b z share) (m7 b z share) (cm b,(cm b).any dc) h th bf af L=some f∧iA (KN (N+1)) (N+1) b z share (g9 z) bl h bf af th L=some f∧Fd (d+2) f∧(share=false→f.Empty=false∧f.Before=ofM z.Margin.a0∧f.After=ofM z.Margin.a2)∧(xB z→MB f):=by
  intro L bl h th bf af hbl hL ho hk hmb hma;subst hbl;obtain⟨d',e,f,g,x,h1,h2,h3,h5⟩:=ML (KN (N+1)) (N+1) (by omega) b z L hL (cm b,(cm b).any dc) ho (mX b z share) (m7 b z share) h th bf af;refine⟨_,h1,(WR _ _ _ _ _ _ _ _ _ _ _).trans h2,⟨?_,?_⟩,fun hs=>?_,fun hz=>h5 hmb hma hz⟩
  ·simpa[mQ]using hL
  ·intro k hkk;obtain⟨y,hy,rfl⟩:=List.mem_map.1 hkk;exact wz (Ro _ _ _ _) (hk y hy)
  ·subst hs;exact h3 rfl rfl
 cases hb:(cm b).any dc with
 | true =>
  have hall:∀k∈b.Kids,k.Kind=1∧vU d k:=by
   rcases hg.2 with h|h
   ·exact h
   ·obtain⟨k,hk,e⟩:=List.any_eq_true.1 hb;have:=h k (hsub k hk);simp[dc,this]at e
  have hF:∀k∈cm b,(KN (N+1)).n8 env.Layout k z.Content=some ((fv (KN (N+1)) (N+1) k z.Content).getD default)∧fv (KN (N+1)) (N+1) k z.Content=some ((fv (KN (N+1)) (N+1) k z.Content).getD default)∧Fd (d+1) ((fv (KN (N+1)) (N+1) k z.Content).getD default)∧MB ((fv (KN (N+1)) (N+1) k z.Content).getD default):=fun k hk=>by
   obtain⟨f,h1,h2,h3⟩:=ih k (hall k (hsub k hk)).2;rw[he.1,h1,h2];exact⟨rfl,rfl,h3⟩
  simp only[if_true];have e1:=Pn (KN (N+1)) (N+1) b z (mX b z share) (m7 b z share) env (cm b,true) (fun k=>(fv (KN (N+1)) (N+1) k z.Content).getD default) hfl (fun k hk=>(hF k hk).1) (N+1) 0 [] (by omega) (by simp only[];omega) (by simp);have e2:=RC (KN (N+1)) (N+1) b z share true (cm b) (fun k=>(fv (KN (N+1)) (N+1) k z.Content).getD default) hfl (fun k hk=>(hF k hk).2.1) (N+1) 0 [] (by omega) (by omega) (by simp);simp only[List.nil_append,List.drop_zero]at e1 e2;obtain⟨r,hr,hrl,hrk⟩:=VI (KN (N+1)) (N+1) ((cm b).map fun k=>(fv (KN (N+1)) (N+1) k z.Content).getD default) (by simp;omega) (by simp;omega);rw[show oM (KN (N+1)) (N+1) b z (mX b z share) (m7 b z share) env (cm b,true) (N+1) 0 []=_ from e1,show kg (KN (N+1)) (N+1) b z share (g9 z) true (cm b) (N+1) 0 []=_ from e2,V9,hr];simp only[Option.bind_some,Option.map_some,xL];rw[List.length_map]at hrl;have:=fin r.1 true r.2.1 r.2.2.2.2 r.2.2.1 r.2.2.2.1 hb.symm (by omega) (fun _=>⟨by omega,fun k hk=>by simp[dc,(hall k (hsub k hk)).1]⟩) (fun f hf=>by
   obtain⟨g,hg',e⟩:=hrk f hf;obtain⟨k,hk,rfl⟩:=List.mem_map.1 hg';exact wz e (hF k hk).2.2.1) (Hb _ _ _ (fun f hf=>by
   obtain⟨k,hk,rfl⟩:=List.mem_map.1 hf;exact(hF k hk).2.2.2) hr).1 (Hb _ _ _ (fun f hf=>by
   obtain⟨k,hk,rfl⟩:=List.mem_map.1 hf;exact(hF k hk).2.2.2) hr).2
  rw[hb]at this;exact this
 | false =>
  simp only[Bool.false_eq_true,if_false];have hLn:(KN (N+1)).sh env.Lines (cm b) b.Style z.Content=some (fj b.Style z.Content (cm b) 0 []):=by
   rw[he.2];exact GH (KN N) N (cm b) b.Style z.Content hfl hN
  obtain⟨l1,l2⟩:=Be b.Style z.Content (cm b) 0 [] (by simp);simp only[List.length_nil,Nat.zero_add]at l1;have hcl:l6 (KN (N+1)) (N+1) (fj b.Style z.Content (cm b) 0 []).1=some (fj b.Style z.Content (cm b) 0 []).1:=by
   exact SP _ _ _ (by omega)
  rw[hLn,GH _ _ (cm b) b.Style z.Content hfl (by omega)];simp only[Option.bind_some,hcl];have:=fin (fj b.Style z.Content (cm b) 0 []).1 false (fj b.Style z.Content (cm b) 0 []).2 (((fj b.Style z.Content (cm b) 0 []).1.length:Int) == 0) bX bX hb.symm (by omega) (fun h=>by cases h) (fun f hf=>Gg (l2 f hf)) (by decide) (by decide);rw[hb]at this;exact this
end Go.Proofs.YtnpmlepplfaijaaGreat
namespace Go.Proofs.YtnpmlepplfaijaaGreat
set_option linter.all false
open Go.RowKit
theorem Dw(l:cu)(w:Int):db l (gL w)=db l w:=by
 unfold db gL;have e:min (max (min (max w 0) 1048576) 0) 1048576=min (max w 0) 1048576:=by omega
 rw[e]
theorem OZ(s:aF)(w c:Int):gW s (gL w) c=gW s w c:=by unfold gW;simp only[Dw]
theorem Eo(s:aF)(w c:Int):oO s (gL w) c=oO s w c:=by unfold oO;simp only[Dw]
def bB(l:cu):cu:=if l.Kind=2 then fA else l
def xP(s:aF):aF:={ s with Width:=bB s.Width,MinWidth:=bB s.MinWidth,MaxWidth:=bB s.MaxWidth,Margin:=⟨bB s.Margin.a0,bB s.Margin.a1,bB s.Margin.a2,bB s.Margin.a3⟩,Padding:=⟨bB s.Padding.a0,bB s.Padding.a1,bB s.Padding.a2,bB s.Padding.a3⟩ }
section
variable(K:Kn)(n:Nat)
theorem ip{α:Type}(l:cu)(f:cu→α)(y:α)(hy:y=f l):(if (l.Kind == 2)=true then f fA else y)=f (bB l):=by
 unfold bB;by_cases h:l.Kind=2
 ·simp[h]
 ·simp[h,hy]
theorem Ys(s:aF):lY K n s=some (xP s):=by
 unfold lY;refine (ip s.Width (fun l=>nS K n { s with Width:=l }) _ rfl).trans ?_;unfold nS;refine (ip s.MinWidth (fun l=>nX K n { s with Width:=bB s.Width,MinWidth:=l }) _ rfl).trans ?_;unfold nX;refine (ip s.MaxWidth (fun l=>nF K n { s with Width:=bB s.Width,MinWidth:=bB s.MinWidth,MaxWidth:=l }) _ rfl).trans ?_;unfold nF;refine (ip s.Margin.a0 (fun l=>nY K n { s with Width:=bB s.Width,MinWidth:=bB s.MinWidth,MaxWidth:=bB s.MaxWidth,Margin:=⟨l,s.Margin.a1,s.Margin.a2,s.Margin.a3⟩ }) _ rfl).trans ?_;unfold nY;refine (ip s.Padding.a0 (fun l=>oy K n { s with Width:=bB s.Width,MinWidth:=bB s.MinWidth,MaxWidth:=bB s.MaxWidth,Margin:=⟨bB s.Margin.a0,s.Margin.a1,s.Margin.a2,s.Margin.a3⟩,Padding:=⟨l,s.Padding.a1,s.Padding.a2,s.Padding.a3⟩ }) _ rfl).trans ?_;unfold oy;refine (ip s.Margin.a1 (fun l=>nM K n { s with Width:=bB s.Width,MinWidth:=bB s.MinWidth,MaxWidth:=bB s.MaxWidth,Margin:=⟨bB s.Margin.a0,l,s.Margin.a2,s.Margin.a3⟩,Padding:=⟨bB s.Padding.a0,s.Padding.a1,s.Padding.a2,s.Padding.a3⟩ }) _ rfl).trans ?_
 unfold nM;refine (ip s.Padding.a1 (fun l=>nW K n { s with Width:=bB s.Width,MinWidth:=bB s.MinWidth,MaxWidth:=bB s.MaxWidth,Margin:=⟨bB s.Margin.a0,bB s.Margin.a1,s.Margin.a2,s.Margin.a3⟩,Padding:=⟨bB s.Padding.a0,l,s.Padding.a2,s.Padding.a3⟩ }) _ rfl).trans ?_;unfold nW;refine (ip s.Margin.a2 (fun l=>oC K n { s with Width:=bB s.Width,MinWidth:=bB s.MinWidth,MaxWidth:=bB s.MaxWidth,Margin:=⟨bB s.Margin.a0,bB s.Margin.a1,l,s.Margin.a3⟩,Padding:=⟨bB s.Padding.a0,bB s.Padding.a1,s.Padding.a2,s.Padding.a3⟩ }) _ rfl).trans ?_;unfold oC;refine (ip s.Padding.a2 (fun l=>ol K n { s with Width:=bB s.Width,MinWidth:=bB s.MinWidth,MaxWidth:=bB s.MaxWidth,Margin:=⟨bB s.Margin.a0,bB s.Margin.a1,bB s.Margin.a2,s.Margin.a3⟩,Padding:=⟨bB s.Padding.a0,bB s.Padding.a1,l,s.Padding.a3⟩ }) _ rfl).trans ?_;unfold ol;refine (ip s.Margin.a3 (fun l=>oi K n { s with Width:=bB s.Width,MinWidth:=bB s.MinWidth,MaxWidth:=bB s.MaxWidth,Margin:=⟨bB s.Margin.a0,bB s.Margin.a1,bB s.Margin.a2,l⟩,Padding:=⟨bB s.Padding.a0,bB s.Padding.a1,bB s.Padding.a2,s.Padding.a3⟩ }) _ rfl).trans ?_
 unfold oi;refine (ip s.Padding.a3 (fun l=>sG K n { s with Width:=bB s.Width,MinWidth:=bB s.MinWidth,MaxWidth:=bB s.MaxWidth,Margin:=⟨bB s.Margin.a0,bB s.Margin.a1,bB s.Margin.a2,bB s.Margin.a3⟩,Padding:=⟨bB s.Padding.a0,bB s.Padding.a1,bB s.Padding.a2,l⟩ }) _ rfl).trans ?_;rfl
def oT:List ah→Int→Int→Int×Int
 | [],a,b=>(a,b)
 | k::r,a,b=>oT r (max a (aa (8*(k.Text.size:Int)))) (aa (b+aa (8*(k.Text.size:Int))))
theorem Re(L:List ah)(hL:L.length≤20):∀(m i:Nat) (a b:Int),i≤L.length→L.length<m+i→jA K n L m a b i=some (oT (L.drop i) a b):=by
 intro m
 induction m with
 | zero=>intro i a b h1 h2;omega
 | succ m ih =>
  intro i a b h1 h2;simp only[jA,gS];by_cases hi:i<L.length
  ·rw[drop_at' hi];simp only[gU hi,if_true,fV hi,aW,Int.toNat_natCast,hI (show i<1000000 by omega),oT];exact ih (i+1) _ _ (by omega) (by omega)
  ·have e:i=L.length:=by omega
   subst e;simp only[gP (Nat.le_refl _),Bool.false_eq_true,if_false,List.drop_length,oT]
theorem Fm(L:List ah)(s:aF)(hL:L.length≤20)(hn:20<n):jH K n L s=some (oT L 0 0) :=
 (Re K n L hL n 0 0 0 (by omega) (by omega)).trans (by simp only[List.drop_zero])
end
end Go.Proofs.YtnpmlepplfaijaaGreat
