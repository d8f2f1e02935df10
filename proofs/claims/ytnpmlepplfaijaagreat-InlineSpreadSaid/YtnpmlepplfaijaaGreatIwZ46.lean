/- Plain laws about the plain functions: words for all of them. No program in sight. -/
import Derived.Test.YtnpmlepplfaijaaGreatIwGf
import Derived.Lib.TrimUEq
import Derived.Laws.BitsLemmas
namespace Go.Proofs.YtnpmlepplfaijaaGreat
set_option linter.all false
open Go.RowKit
theorem bj{n:Int}(h1 : -9223372036854775808≤n)(h2:n≤9223372036854775807):aa n=n:=by
 unfold aa;rw[IntKind.wrap_i64];omega
theorem aZ{α:Type}(x:Option α):aC true x=x:=rfl
theorem acu{α β:Type}(f:α→β)(c:Bool)(x:Option α):(aC c x).map f=aC c (x.map f):=by cases c<;>rfl
theorem VK{α β:Type}(f:α→β)(c:Prop)[Decidable c](x y:Option α):(if c then x else y).map f=if c then x.map f else y.map f:=by split<;>rfl
theorem bT{i:Int}{n:Nat}(h0:0≤i)(h1:i<n):aY i n=true:=by simp[aY,h0,h1]
theorem bV{α:Type}[Inhabited α]{L:List α}{k:Nat}(h:k<L.length):L.getD k default=L[k]:=by simp[List.getD_eq_getElem?_getD,List.getElem?_eq_getElem h]
theorem cO{n b:Nat}(h:n*b≤140737488355328)(hb:0<b):fits n b=true:=by
 have h1:n≤n*b:=Nat.le_mul_of_pos_right n hb;have h2:n≤9223372036854775807:=by omega
 simp only[fits,Bool.and_eq_true,decide_eq_true_eq];exact⟨h2,h⟩
end Go.Proofs.YtnpmlepplfaijaaGreat
namespace Go.Proofs.YtnpmlepplfaijaaGreat
set_option linter.all false
open Go.RowKit
def c6(r:Int):List UInt8:=(Utf8.encode r).data.toList
def cE(r:Int):Prop:=(0≤r∧r<55296)∨(57344≤r∧r≤1114111)
theorem WR{r:Int}(h:cE r):Utf8.valid r=true:=by
 unfold cE at h;unfold Utf8.valid;simp only[Bool.or_eq_true,Bool.and_eq_true,decide_eq_true_eq];omega
theorem d4{n:Nat}(h:n<256):(UInt8.ofNat n).toNat=n:=by rw[UInt8.toNat_ofNat',Nat.mod_eq_of_lt h]
theorem As {r:Int} (h:cE r):∃ c:Nat,r=(c:Int) ∧
    ((c<128∧c6 r=[UInt8.ofNat c])∨(128≤c∧c<2048∧c6 r=[UInt8.ofNat (192+c / 64),UInt8.ofNat (128+c % 64)]) ∨
     (2048≤c∧c<65536∧(c<55296∨57344≤c)∧c6 r=[UInt8.ofNat (224+c / 4096),UInt8.ofNat (128+c / 64 % 64),UInt8.ofNat (128+c % 64)]) ∨
     (65536≤c∧c≤1114111∧c6 r=[UInt8.ofNat (240+c / 262144),UInt8.ofNat (128+c / 4096 % 64),UInt8.ofNat (128+c / 64 % 64),UInt8.ofNat (128+c % 64)])):=by
  refine⟨r.toNat,by unfold cE at h;omega,?_⟩;unfold c6 Utf8.encode;simp only[WR h,if_true];unfold cE at h;generalize hc:r.toNat=c at *;by_cases h1:c<128
  · left;simp[h1]
  · by_cases h2:c<2048
    · right;left;simp[h1,h2];omega
    · by_cases h3:c<65536
      · right;right;left;simp[h1,h2,h3];omega
      · right;right;right;simp[h1,h2,h3];omega
theorem A3{r:Int}(h:cE r)(t:List UInt8):Lib.decodeL (c6 r++t)=(r.toNat,(c6 r).length):=by
 obtain⟨c,rfl,h|h|h|h⟩:=As h
 ·rw[h.2,Lib.decodeL_N];simp only[List.cons_append,List.nil_append,List.getD_cons_zero,d4 (show c<256 by omega),Int.toNat_natCast,List.length_cons,List.length_nil];unfold Lib.decodeN;rw[if_pos h.1]
 ·rw[h.2.2,Lib.decodeL_N];simp only[List.cons_append,List.nil_append,List.getD_cons_zero,List.getD_cons_succ,d4 (show 192+c / 64<256 by omega),d4 (show 128+c % 64<256 by omega),Int.toNat_natCast,List.length_cons,List.length_nil];unfold Lib.decodeN;rw[if_neg (by omega),if_pos (by omega),if_pos (by omega)];congr 1;omega
 ·rw[h.2.2.2,Lib.decodeL_N];simp only[List.cons_append,List.nil_append,List.getD_cons_zero,List.getD_cons_succ,d4 (show 224+c / 4096<256 by omega),d4 (show 128+c / 64 % 64<256 by omega),d4 (show 128+c % 64<256 by omega),Int.toNat_natCast,List.length_cons,List.length_nil];unfold Lib.decodeN;rw[if_neg (by omega),if_neg (by omega),if_pos (by omega),if_pos (by omega)];congr 1;omega
 ·rw[h.2.2,Lib.decodeL_N];simp only[List.cons_append,List.nil_append,List.getD_cons_zero,List.getD_cons_succ,d4 (show 240+c / 262144<256 by omega),d4 (show 128+c / 4096 % 64<256 by omega),d4 (show 128+c / 64 % 64<256 by omega),d4 (show 128+c % 64<256 by omega),Int.toNat_natCast,List.length_cons,List.length_nil];unfold Lib.decodeN;rw[if_neg (by omega),if_neg (by omega),if_neg (by omega),if_pos (by omega),if_pos (by omega)];congr 1;omega
theorem uv{r:Int}(h:cE r):1≤(c6 r).length∧(c6 r).length≤4:=by
 obtain⟨c,_,h|h|h|h⟩:=As h
 ·rw[h.2];simp
 ·rw[h.2.2];simp
 ·rw[h.2.2.2];simp
 ·rw[h.2.2];simp
theorem PX(n b0 b1 b2 b3:Nat):cE ((Lib.decodeN n b0 b1 b2 b3).1:Int):=by
 unfold Lib.decodeN cE
 repeat' split
 all_goals simp only[]
 all_goals omega
theorem abF(l:List UInt8):cE ((Lib.decodeL l).1:Int):=by rw[Lib.decodeL_N];exact PX _ _ _ _ _
def gq:Nat→List UInt8→List Int
 | 0,_=>[]
 | n+1,l=>if l.isEmpty=true then [] else ((Lib.decodeL l).1:Int)::gq n (l.drop (Lib.decodeL l).2)
theorem Py:∀(n m:Nat) (l:List UInt8),l.length≤n→l.length≤m→gq n l=gq m l:=by
 intro n
 induction n with
 | zero =>
  intro m l h1 h2;have:l=[]:=List.eq_nil_of_length_eq_zero (by omega);subst this;cases m<;>simp[gq]
 | succ n ih =>
  intro m l h1 h2;cases m with
  | zero =>
   have:l=[]:=List.eq_nil_of_length_eq_zero (by omega);subst this;simp[gq]
  | succ m =>
   unfold gq;split
   ·rfl
   ·have:=Lib.decodeL_width l;rw[ih m _ (by simp;omega) (by simp;omega)]
def gJ(l:List UInt8):List Int:=gq l.length l
theorem Zo:gJ []=[]:=rfl
theorem J9{l:List UInt8}(h:l≠[]):gJ l=((Lib.decodeL l).1:Int)::gJ (l.drop (Lib.decodeL l).2):=by
 unfold gJ;cases l with
 | nil=>exact absurd rfl h
 | cons x r =>
  have:=Lib.decodeL_width (x::r);rw[show gq (x::r).length (x::r)=((Lib.decodeL (x::r)).1:Int)::gq r.length ((x::r).drop (Lib.decodeL (x::r)).2) from rfl];rw[Py r.length _ _ (by simp;omega) (Nat.le_refl _)]
theorem SK{r:Int}(h:cE r)(t:List UInt8):gJ (c6 r++t)=r::gJ t:=by
 have hl:=uv h;rw[J9 (by intro e;rw[List.append_eq_nil_iff]at e;rw[e.1]at hl;simp at hl),A3 h t];simp only[List.drop_left];congr 1;unfold cE at h;omega
def cG(rs:List Int):List UInt8:=rs.flatMap c6
theorem Nv(r:Int)(rs:List Int):cG (r::rs)=c6 r++cG rs:=by simp[cG]
theorem xr(a b:List Int):cG (a++b)=cG a++cG b:=by simp[cG]
theorem Hz:∀{rs:List Int} (t:List UInt8),(∀r∈rs,cE r)→gJ (cG rs++t)=rs++gJ t
 | [],t,_=>rfl
 | r::rs,t,h=>by
  rw[Nv,List.append_assoc,SK (h r (by simp)),Hz t (fun x hx=>h x (by simp[hx]))];rfl
theorem aam{rs:List Int}(h:∀r∈rs,cE r):gJ (cG rs)=rs:=by
 have:=Hz [] h;simpa[Zo]using this
theorem I7:∀(n:Nat) (l:List UInt8),∀r∈gq n l,cE r
 | 0,_,r,h=>by cases h
 | n+1,l,r,h=>by
  unfold gq at h;split at h
  ·cases h
  ·rcases List.mem_cons.1 h with rfl|h
   ·exact abF l
   ·exact I7 n _ r h
theorem AW{l:List UInt8}:∀r∈gJ l,cE r:=I7 _ _
theorem GQ:∀(n:Nat) (l:List UInt8),(gq n l).length≤n
 | 0,_=>by simp[gq]
 | n+1,l=>by
  unfold gq;split
  ·simp
  ·have:=GQ n (l.drop (Lib.decodeL l).2);simp;omega
theorem aaU(l:List UInt8):(gJ l).length≤l.length:=GQ _ _
def ff(b:ByteArray)(p:Nat):List Int:=gJ (b.data.toList.drop p)
theorem sG(b:ByteArray):b.data.toList.length=b.size:=rfl
theorem BM{b:ByteArray}{p:Nat}(h:¬ p<b.size):ff b p=[]:=by
 unfold ff;rw[List.drop_eq_nil_of_le (by rw[sG];omega)];rfl
theorem El{b:ByteArray}{p:Nat}(h:p<b.size):ff b p=((Utf8.decode b p).1:Int)::ff b (p+(Utf8.decode b p).2):=by
 unfold ff;rw[J9 (by intro e;have:=congrArg List.length e;simp at this;have h2:=sG b;simp at h2;omega),Lib.decodeL_drop,List.drop_drop]
theorem CM(b:ByteArray)(p:Nat):1≤(Utf8.decode b p).2:=by rw[←Lib.decodeL_drop];exact Lib.decodeL_width _
end Go.Proofs.YtnpmlepplfaijaaGreat
namespace Go.Proofs.YtnpmlepplfaijaaGreat
set_option linter.all false
open Go.RowKit
def ints(l:List UInt8):List Int:=l.map fun b=>(b.toNat:Int)
theorem abg(a b:List UInt8):ints (a++b)=ints a++ints b:=by simp[ints]
theorem Z6(a:List UInt8):(ints a).length=a.length:=by simp[ints]
theorem abc(x y:Int):fC .u8 x y=bits .and .u8 x y:=rfl
theorem zy(x y:Int):dV .u8 x y=bits .or .u8 x y:=rfl
theorem w8{n:Int}(h:0≤n∧n<256):IntKind.wrap .u8 n=n:=by rw[IntKind.wrap_u8];omega
theorem rm(y:Int):dV .u8 128 (fC .u8 (IntKind.wrap .u8 y) 63)=128+y % 64:=by
 have h:0≤IntKind.wrap .u8 y∧IntKind.wrap .u8 y<256:=by rw[IntKind.wrap_u8];omega
 rw[abc,u8_and63 _ h.1 h.2,zy,u8_or128 _ (by omega) (by omega),IntKind.wrap_u8];omega
section
variable{K:Kn}{n:Nat}
theorem QE{r:Int}(h:cE r){L:List Int}(hL:L.length≤1000000):ru K n r L=some (L++ints (c6 r)):=by
 have h32:IntKind.wrap .u32 r=r:=by rw[IntKind.wrap_u32];unfold cE at h;omega
 unfold ru;rw[h32];obtain⟨c,rfl,hc|hc|hc|hc⟩:=As h
 ·rw[if_pos (by simp;omega),cO (by simp;omega) (by omega),aZ,hc.2,w8 (by omega)];simp only[ints,List.map_cons,List.map_nil,d4 (show c<256 by omega)]
 ·rw[if_neg (by simp;omega)];unfold ri;rw[h32,if_pos (by simp;omega),cO (by simp;omega) (by omega),aZ,hc.2.2];simp only[Option.bind_some,ints,List.map_cons,List.map_nil,d4 (show 192+c / 64<256 by omega),d4 (show 128+c % 64<256 by omega)];rw[w8 (n:=(c:Int) / 64) (by omega),zy 192,u8_or192 _ (by omega) (by omega),rm];congr 3<;>omega
 ·rw[if_neg (by simp;omega)];unfold ri;rw[h32,if_neg (by simp;omega)];have hj:nC K n (c:Int) L true=some (L++ints (c6 (c:Int))):=by
   unfold nC;rw[if_pos rfl,cO (by simp;omega) (by omega),aZ,hc.2.2.2];simp only[ints,List.map_cons,List.map_nil,d4 (show 224+c / 4096<256 by omega),d4 (show 128+c / 64 % 64<256 by omega),d4 (show 128+c % 64<256 by omega)];rw[w8 (n:=(c:Int) / 4096) (by omega),zy 224,u8_or224 _ (by omega) (by omega),rm,rm];congr 3<;>omega
  by_cases h1:(c:Int)<55296
  ·rw[if_pos (by simpa using h1),hj];rfl
  ·rw[if_neg (by simpa using h1),if_pos (by simp;omega),show decide ((c:Int)≤65535)=true by simp;omega,hj];rfl
 ·rw[if_neg (by simp;omega)];unfold ri;rw[h32,if_neg (by simp;omega),if_neg (by simp;omega),if_pos (by simp;omega),show decide ((c:Int)≤65535)=false by simp;omega];unfold nC;rw[h32,if_neg (by simp),if_pos (by simp;omega),show decide ((c:Int)≤1114111)=true by simp;omega];unfold vU;rw[if_pos rfl,cO (by simp;omega) (by omega),aZ,hc.2.2];simp only[Option.bind_some,ints,List.map_cons,List.map_nil,d4 (show 240+c / 262144<256 by omega),d4 (show 128+c / 4096 % 64<256 by omega),d4 (show 128+c / 64 % 64<256 by omega),d4 (show 128+c % 64<256 by omega)];rw[w8 (n:=(c:Int) / 262144) (by omega),zy 240,u8_or240 _ (by omega) (by omega),rm,rm,rm];congr 3<;>omega
theorem Pc{r:Int}(h:cE r){L:List Int}(hL:L.length≤1000000)(b:Bool):∃x,oc K n r b L=some (x,(),L++ints (c6 r)):=by
 unfold oc;rw[QE h hL];cases b
 ·exact⟨_,rfl⟩
 ·exact⟨_,rfl⟩
end
theorem aan{l:List UInt8}(h:l≠[]):pw (ints l)=true:=by
 unfold pw ints;rw[Bool.and_eq_true];refine⟨?_,by cases l;exact absurd rfl h;rfl⟩;rw[List.all_eq_true];intro n hn;obtain⟨b,_,rfl⟩:=List.mem_map.1 hn;have:=UInt8.toNat_lt b;simp;omega
theorem Ud(l:List UInt8):bytesOf (ints l)=⟨l.toArray⟩:=by
 unfold bytesOf ints;rw[List.map_map];congr 2
 conv=>rhs;rw[←List.map_id l]
 refine List.map_congr_left fun b _=>?_;simp
end Go.Proofs.YtnpmlepplfaijaaGreat
namespace Go.Proofs.YtnpmlepplfaijaaGreat
set_option linter.all false
open Go.RowKit
noncomputable section
def dd(r:Int):Bool:=r == 9||(r == 10||(r == 13||r == 32))
def fk(r:Int):Int:=(gv (KN 0) 0 r).getD 0
def iG(s:Int):Int:=min (max s 0) 1048576
def fu(r s:Int):Int:=aa (Int.tdiv (aa ((aa (fk r*iG s))+15)) 16)
def lD(a b:Int):Bool:=bif dd b||fk b == 0 then false else bif dd a then true else bif a == 45&&b != 45 then true else decide (a≥11904)||decide (b≥11904)
def fR(e:aw):Bool:=e.Kind == 1&&(e.Box.Style.WhiteSpace != 1&&e.Box.Style.WhiteSpace != 2)
def dn(a b:aw):Bool :=
 bif a.Kind == 3||b.Kind == 3 then (a.Kind == 3||fR a)&&(b.Kind == 3||fR b)
 else bif a.Kind != 1||(b.Kind != 1||(!fR a||(a.Char != 32&&!fR b))) then false else lD a.Char b.Char
def gb{α:Type}(x:Option α):Prop:=∃u,x=some u
theorem m8{α:Type}(u:α):gb (some u):=⟨u,rfl⟩
theorem ua{α:Type}{c:Prop}[Decidable c]{x y:Option α}(h1:gb x)(h2:gb y):gb (if c then x else y):=by split;exact h1;exact h2
section
variable(K:Kn)(n:Nat)
theorem KP(r:Int):tR K n r=some (dd r):=by
 unfold tR dd;cases h1:(r == 9)<;>cases h2:(r == 10)<;>cases h3:(r == 13)<;>cases h4:(r == 32)<;>simp[pR]
theorem aau(r:Int):gb (gv K n r):=by
 unfold gv gj;simp only[dN,dA,fY,oN]
 repeat first|exact m8 _|apply ua
theorem ET(r:Int):gv K n r=some (fk r):=by
 obtain⟨u,hu⟩:=aau K n r;have e:gv (KN 0) 0 r=gv K n r:=rfl;unfold fk;rw[e,hu];rfl
theorem Gp(r s:Int):nR K n r s=some (fu r s):=by
 unfold nR;rw[ET];rfl
theorem SE(a b:Int):vZ K n a b=some (lD a b):=by
 unfold vZ lD;rw[KP,ET];simp only[Option.bind_some];have h1:oK K n a b true=some false:=rfl;have h2:oK K n a b false=some (bif dd a then true else bif a == 45&&b != 45 then true else decide (a≥11904)||decide (b≥11904)):=by
  unfold oK;rw[if_neg (by simp),KP];simp only[Option.bind_some];cases dd a with
  | true=>simp
  | false =>
   simp only[Bool.false_eq_true,if_false,cond_false];unfold t8 vf;cases h3:(a == 45)<;>cases h4:(b != 45)<;>cases h5:decide (a≥11904)<;>simp
 cases dd b with
 | true=>rw[if_pos rfl,h1];rfl
 | false =>
  rw[if_neg (by simp)];cases (fk b == 0) with
  | true=>rw[h1];rfl
  | false=>rw[h2];rfl
theorem Kh(e:aw):kG K n e=some (fR e):=by
 unfold kG fR tr;cases h1:(e.Kind == 1)<;>cases h2:(e.Box.Style.WhiteSpace != 1)<;>simp
end
theorem t6(a b:ByteArray):(a++b).data.toList=a.data.toList++b.data.toList:=by
 rw[ByteArray.data_append,Array.toList_append]
theorem Vq(a b:Int):(runesBytes [a,b]).data.toList=c6 a++c6 b:=by
 unfold runesBytes;simp only[List.foldl_cons,List.foldl_nil];rw[t6,t6];rfl
theorem WJ(K:Kn){n:Nat}(hn:3≤n){a b:Int}(ha:cE a)(hb:cE b):∃l,tY K n (runesBytes [a,b])=some l∧decide ((l.length:Int)>0)=lD a b:=by
 generalize hB:runesBytes [a,b]=B;have hl:B.data.toList=c6 a++c6 b:=by rw[←hB];exact Vq a b
 have la:=uv ha;have lb:=uv hb;have hs:B.size=(c6 a).length+(c6 b).length:=by rw[←sG,hl,List.length_append]
 have d0:Utf8.decode B 0=(a.toNat,(c6 a).length):=by
  rw[←Lib.decodeL_drop,List.drop_zero,hl,A3 ha]
 have d1:Utf8.decode B (c6 a).length=(b.toNat,(c6 b).length):=by
  rw[←Lib.decodeL_drop,hl,List.drop_left];have:=A3 hb [];rwa[List.append_nil]at this
 have ea:((a.toNat:Nat):Int)=a:=by unfold cE at ha;omega
 have eb:((b.toNat:Nat):Int)=b:=by unfold cE at hb;omega
 obtain⟨m,rfl⟩:∃m,n=m+3:=⟨n-3,by omega⟩;unfold tY;show ∃l,jG K (m+3) B (my K (m+3) B (m+2)) 0 0 []=some l∧_;unfold jG;rw[if_pos (by simp;omega),if_neg (by simp)];unfold oa;rw[if_neg (by simp)];unfold nY;rw[d0];simp only[Nat.zero_add,ea];show ∃l,jG K (m+3) B (my K (m+3) B (m+1)) a (c6 a).length []=some l∧_;unfold jG;rw[if_pos (by simp;omega),if_pos (by simp;omega),d1];simp only[eb];rw[SE];simp only[Option.bind_some];have fin:∀(x:Int) (l:List Int),my K (m+3) B (m+1) x ((c6 a).length+(c6 b).length) l=some l:=fun x l=>by
  show jG K (m+3) B (my K (m+3) B m) x _ l=some l;unfold jG;rw[if_neg (by simp;omega)]
 cases hbt:lD a b with
 | true =>
  unfold oa;rw[if_pos rfl,cO (by simp) (by omega),aZ];unfold nY;rw[d1];simp only[];rw[fin];exact⟨_,rfl,by simp⟩
 | false =>
  unfold oa;rw[if_neg (by simp)];unfold nY;rw[d1];simp only[];rw[fin];exact⟨_,rfl,by simp⟩
theorem sT(K:Kn){n:Nat}(hn:3≤n){a b:aw}(ha:cE a.Char)(hb:cE b.Char):jU K n a b=some (dn a b):=by
 obtain⟨l,h1,h2⟩:=WJ K hn ha hb;have jt:j9 K n a b true=some false:=rfl;have jf:j9 K n a b false=some (lD a.Char b.Char):=by
  unfold j9;rw[if_neg (by simp),h1];simp only[Option.bind_some];rw[h2]
 unfold jU dn;have k1:mb K n a b true=some ((a.Kind == 3||fR a)&&(b.Kind == 3||fR b)):=by
  unfold mb mZ;simp only[Kh,Option.bind_some];cases h3:(a.Kind == 3)<;>cases h4:(b.Kind == 3)<;>cases h5:fR a<;>cases h6:fR b<;>simp
 have k2:mb K n a b false=some (bif a.Kind != 1||(b.Kind != 1||(!fR a||(a.Char != 32&&!fR b))) then false else lD a.Char b.Char):=by
  unfold mb;simp only[Kh,Option.bind_some,jt];cases h3:(a.Kind != 1)<;>cases h4:(b.Kind != 1)<;>cases h5:fR a<;>cases h6:(a.Char != 32)<;>cases h7:fR b<;>simp[jt,jf]
 cases h3:(a.Kind == 3) with
 | true=>rw[if_pos rfl,k1,h3];rfl
 | false =>
  rw[if_neg (by simp)];cases h4:(b.Kind == 3) with
  | true=>rw[k1,h3,h4];rfl
  | false=>rw[k2];rfl
def fj(s acc:Int):List Int→Int
 | []=>acc
 | r::t=>fj s (aa (acc+fu r s)) t
theorem YA(K:Kn)(n:Nat)(b:ByteArray)(s:Int):∀(m:Nat) (acc:Int) (p:Nat),b.size-p<m→ry K n b s m acc p=some (fj s acc (ff b p)):=by
 intro m
 induction m with
 | zero=>intro acc p h;omega
 | succ m ih =>
  intro acc p h;show sw K n b s (ry K n b s m) acc p=_;unfold sw;by_cases hp:p<b.size
  ·have:=CM b p;rw[if_pos (by simpa using hp),Gp,El hp];simp only[Option.bind_some,fj];exact ih _ _ (by omega)
  ·rw[if_neg (by simpa using hp),BM hp];rfl
theorem Kt(K:Kn){n:Nat}(b:ByteArray)(s:Int)(hn:b.size<n):qg K n b s=some (fj s 0 (ff b 0)):=by
 unfold qg;exact YA K n b s n 0 0 (by omega)
def ux(s:aI):Int×Int:=(jJ (KN 0) 0 s).getD default
theorem DT(K:Kn)(n:Nat)(s:aI):jJ K n s=some (ux s):=rfl
def bJ(x:List aw):List Int:=x.map fun e=>e.Char
def eA(x:List aw):Bool:=(x.getD (x.length-1) default).Soft
def jK(x:List aw):List Int:=bif eA x then (bJ x).dropLast else bJ x
def dg(rs:List Int):ByteArray:=⟨(cG rs).toArray⟩
def nA(x:List aw):aI:=(x.getD 0 default).Box.Style
def dm(x:List aw):ay :=
 { cq with Text:=dg (bJ x),Width:=fj (nA x).FontSize 0 (jK x),Space:=bif eA x then fu 32 (nA x).FontSize else 0,Above:=(ux (nA x)).1,Below:=(ux (nA x)).2 }
theorem vq{rs:List Int}(h:∀r∈rs,cE r):rs.length≤(cG rs).length∧(cG rs).length≤4*rs.length:=by
 induction rs with
 | nil=>simp[cG]
 | cons r t ih =>
  have:=uv (h r (by simp));have:=ih (fun x hx=>h x (by simp[hx]));rw[Nv,List.length_append,List.length_cons];omega
theorem xb(rs:List Int):(dg rs).size=(cG rs).length:=by unfold dg;rfl
theorem rA(rs:List Int):(dg rs).data.toList=cG rs:=by unfold dg;simp
theorem II{rs:List Int}(h:∀r∈rs,cE r):ff (dg rs) 0=rs:=by
 unfold ff;rw[List.drop_zero,rA,aam h]
theorem ac1{rs:List Int}(h0:rs≠[])(h:rs.getLast h0=32):cG rs=cG rs.dropLast++[32]:=by
 conv=>lhs;rw[←List.dropLast_concat_getLast h0]
 rw[xr,h];rfl
theorem acB{rs:List Int}(h0:rs≠[])(h:rs.getLast h0=32):(dg rs).extract 0 ((dg rs).size-1)=dg rs.dropLast:=by
 have e:=ac1 h0 h;have hs:(dg rs).size=(cG rs.dropLast).length+1:=by rw[xb,e];simp
 apply ByteArray.ext;apply Array.ext';rw[ByteArray.data_extract,Array.toList_extract,rA,rA,hs,e];simp
structure fp(e:aw):Prop where
 ch:cE e.Char
 soft:e.Soft=true→e.Char=32
theorem wj{x:List aw}(h:∀e∈x,fp e):∀r∈bJ x,cE r:=by
 intro r hr;obtain⟨e,he,rfl⟩:=List.mem_map.1 hr;exact(h e he).ch
section
variable{K:Kn}{n:Nat}{x:List aw}
theorem LU(hx:x≠[])(hl:x.length≤2000)(ho:∀e∈x,fp e)(hn:8010≤n)(b:Bool):qZ K n x (ints (cG (bJ x))) b=some (dm x):=by
 have h0:0<x.length:=List.length_pos_iff.2 hx;have hc:bJ x≠[]:=by unfold bJ;simp[hx]
 have hcl:(bJ x).length=x.length:=by unfold bJ;simp
 have hok:=wj ho;have hle:=vq hok;have hne:cG (bJ x)≠[]:=by intro e;rw[e]at hle;have:=hle.1;simp only[List.length_nil]at this;omega
 have e1:aa ((x.length:Int)-1)=((x.length-1:Nat):Int):=by rw[bj (by omega) (by omega)];omega
 have hb:bytesOf (ints (cG (bJ x)))=dg (bJ x):=Ud _;have hsz:(dg (bJ x)).size=(cG (bJ x)).length:=xb _;have e2:aa (((dg (bJ x)).size:Int)-1)=(((dg (bJ x)).size-1:Nat):Int):=by rw[bj (by omega) (by omega)];omega
 have key:∀(v10:aI) (Y:ByteArray→Int→Option ay),(∀v14 v15,Y v14 v15=(qg K n v14 v10.FontSize).bind fun v16=>(jJ K n v10).bind fun v17=>some ({ cq with Text:=bytesOf (ints (cG (bJ x))),Width:=v16,Space:=v15,Above:=v17.1,Below:=v17.2 }:ay))→v10=nA x →
   aC (pw (ints (cG (bJ x)))) (aC (aY (aa ((x.length:Int)-1)) x.length) ((some ((List.getD x ((aa ((x.length:Int)-1))).toNat default).Soft)).bind fun v11 =>
    if v11=true then aC (cL (0:Int) (aa (((bytesOf (ints (cG (bJ x)))).size:Int)-1)) (bytesOf (ints (cG (bJ x)))).size) ((some (ByteArray.extract (bytesOf (ints (cG (bJ x)))) (0:Int).toNat ((aa (((bytesOf (ints (cG (bJ x)))).size:Int)-1))).toNat)).bind fun v12=>(nR K n 32 v10.FontSize).bind fun v13=>Y v12 v13)
    else Y (bytesOf (ints (cG (bJ x)))) 0))=some (dm x):=by
  intro v10 Y hY hv;subst hv;rw[aan hne,aZ,e1,bT (by omega) (by omega),aZ];simp only[Option.bind_some,Int.toNat_natCast];have hs:(List.getD x (x.length-1) default).Soft=eA x:=rfl;rw[hs,hb,e2];cases hso:eA x with
  | true =>
   have hlast:(bJ x).getLast hc=32:=by
    have hm:x.getD (x.length-1) default∈x:=by rw[bV (by omega)];exact List.getElem_mem _
    have:=(ho _ hm).soft (by rw[hs];exact hso);rw[List.getLast_eq_getElem];unfold bJ;rw[List.getElem_map];rw[bV (by omega)]at this;simpa using this
   rw[if_pos rfl,show cL (0:Int) (((dg (bJ x)).size-1:Nat):Int) (dg (bJ x)).size=true by simp only[cL,Bool.and_eq_true,decide_eq_true_eq];omega,aZ];simp only[Int.toNat_zero,Int.toNat_natCast];rw[acB hc hlast,Gp];simp only[Option.bind_some];rw[hY,Kt K (dg (bJ x).dropLast) _ (by
    have h9:=vq (rs:=(bJ x).dropLast) (fun r hr=>hok r ((List.dropLast_sublist _).subset hr));rw[xb];simp at h9;omega),II (fun r hr=>hok r ((List.dropLast_sublist _).subset hr)),DT,hb]
   simp only[Option.bind_some];unfold dm jK;rw[hso];rfl
  | false =>
   rw[if_neg (by simp),hY,Kt K (dg (bJ x)) _ (by omega),II hok,DT,hb];simp only[Option.bind_some];unfold dm jK;rw[hso];rfl
 unfold qZ;rw[bT (i:=(0:Int)) (by omega) (by omega)];simp only[aZ,Option.bind_some];cases b with
 | true=>rw[if_pos rfl];exact key _ (fun v12 v13=>vm K n _ _ v12 v13) (fun _ _=>rfl) rfl
 | false=>rw[if_neg (by simp)];exact key _ (fun v12 v13=>wL K n _ _ v12 v13) (fun _ _=>rfl) rfl
theorem QU(hx:x≠[])(hl:x.length≤2000)(ho:∀e∈x,fp e)(hn:8010≤n):∀(m i:Nat) (b:Bool),i≤x.length→x.length<m+i→pg K n x m (i:Int) b (ints (cG ((bJ x).take i)))=some (dm x):=by
 intro m
 induction m with
 | zero=>intro i b h1 h2;omega
 | succ m ih =>
  intro i b h1 h2;show tw K n x (pg K n x m) i b _=_;unfold tw;have hcl:(bJ x).length=x.length:=by unfold bJ;simp
  by_cases hi:i<x.length
  ·have hm:x.getD i default∈x:=by rw[bV hi];exact List.getElem_mem _
   have hlen:=vq (rs:=(bJ x).take i) (fun r hr=>wj ho r (List.mem_of_mem_take hr));have ht:(bJ x).take (i+1)=(bJ x).take i++[(x.getD i default).Char]:=by
    rw[List.take_add_one,List.getElem?_eq_getElem (by rw[hcl];exact hi),bV hi];simp[bJ]
   have hr:∀b,(oc K n ((List.getD x ((i:Int)).toNat default).Char) b (ints (cG ((bJ x).take i)))).bind (fun v7=>pg K n x m (aa ((i:Int)+1)) true v7.2.2)=some (dm x):=fun b=>by
    rw[Int.toNat_natCast];obtain⟨y,hy⟩:=Pc (K:=K) (n:=n) (ho _ hm).ch (L:=ints (cG ((bJ x).take i))) (by rw[Z6];simp at hlen;omega) b;rw[hy];simp only[Option.bind_some];rw[bj (by omega) (by omega),show(i:Int)+1=((i+1:Nat):Int) by omega,← abg];have e:cG ((bJ x).take i)++c6 (x.getD i default).Char=cG ((bJ x).take (i+1)):=by
     rw[ht,xr];simp[cG]
    rw[e];exact ih (i+1) true (by omega) (by omega)
   cases b with
   | true=>rw[if_pos rfl,if_pos (by simpa using hi),bT (by omega) (by omega),aZ];exact hr true
   | false=>rw[if_neg (by simp),if_pos (by simpa using hi),bT (by omega) (by omega),aZ];exact hr false
  ·have ht:(bJ x).take i=bJ x:=List.take_of_length_le (by omega);rw[ht];cases b with
   | true=>rw[if_pos rfl,if_neg (by simpa using hi)];exact LU hx hl ho hn true
   | false=>rw[if_neg (by simp),if_neg (by simpa using hi)];exact LU hx hl ho hn false
theorem Ef(hx:x≠[])(hl:x.length≤2000)(ho:∀e∈x,fp e)(hn:8010≤n):oY K n x=some (dm x):=by
 unfold oY;exact QU hx hl ho hn n 0 false (by omega) (by omega)
end
end
end Go.Proofs.YtnpmlepplfaijaaGreat
namespace Go.Proofs.YtnpmlepplfaijaaGreat
set_option linter.all false
open Go.RowKit
theorem OQ{b:ByteArray}{L:List Int}(hL:b.data.toList.map (fun x=>(x.toNat:Int))=L){i:Nat}(h:i<L.length):oy b i=L.getD i default∧0≤L.getD i default∧L.getD i default<256:=by
 have hl:b.data.toList.length=L.length:=by rw[←hL];simp
 have hi:i<b.data.size:=by rw[←hl]at h;simpa using h
 have e:L.getD i default=((b.data[i]).toNat:Int):=by
  subst hL;rw[bV h];simp
 have e2:oy b i=((b.data[i]).toNat:Int):=by
  unfold oy;rw[show b.data.getD i 0=b.data[i] from dif_pos hi]
 have:=UInt8.toNat_lt (b.data[i]);rw[e2,e];exact⟨rfl,by omega,by omega⟩
section
variable{K:Kn}{n:Nat}
theorem Xt{b:ByteArray}{L:List Int}{r:Int}(hL:b.data.toList.map (fun x=>(x.toNat:Int))=L)(hs:L.length≤100):∀(m i:Nat),i≤L.length→L.length<m+i→qP K n b r m (i:Int)=some ((L.drop i).any fun x=>r == x):=by
 have hl:b.size=L.length:=by rw[←hL,List.length_map,sG]
 intro m
 induction m with
 | zero=>intro i h1 h2;omega
 | succ m ih =>
  intro i h1 h2;show sf K n b r (qP K n b r m) i=_;unfold sf;by_cases hi:i<L.length
  ·obtain⟨q1,q2,q3⟩:=OQ hL hi;have hd:L.drop i=L.getD i default::L.drop (i+1):=by rw[List.drop_eq_getElem_cons hi,bV hi]
   rw[if_pos (by simp;omega),bT (by omega) (by omega)];simp only[aZ,Option.bind_some,Int.toNat_natCast];rw[q1,show IntKind.wrap .i32 (L.getD i default)=L.getD i default by rw[IntKind.wrap_i32];omega,hd,List.any_cons];cases he:(L.getD i default == r) with
   | true =>
    have:(r == L.getD i default)=true:=by rw[beq_iff_eq]at he⊢;exact he.symm
    rw[this];rfl
   | false =>
    have:(r == L.getD i default)=false:=by rw[beq_eq_false_iff_ne]at he⊢;exact fun e=>he e.symm
    rw[this,if_neg (by simp),bj (by omega) (by omega),show(i:Int)+1=((i+1:Nat):Int) by omega,ih (i+1) (by omega) (by omega)];rfl
  ·rw[if_neg (by simp;omega),List.drop_eq_nil_of_le (by omega)];rfl
theorem AJ{b:ByteArray}{L:List Int}{r:Int}(hL:b.data.toList.map (fun x=>(x.toNat:Int))=L)(hs:L.length≤100)(hn:101≤n):pd K n b r=some (L.any fun x=>r == x):=by
 unfold pd;have:=Xt (K:=K) (n:=n) (r:=r) hL hs n 0 (by omega) (by omega);rwa[List.drop_zero]at this
theorem yp(r:Int):mC K n r=some (dd r):=by
 unfold mC dd;cases h1:(r == 9)<;>cases h2:(r == 10)<;>cases h3:(r == 13)<;>cases h4:(r == 32)<;>simp[oe]
theorem I4(hn:101≤n)(r:Int):rh K n r=some (fk r):=by
 have j4:∀a:Bool,fY K n r a=if a=true then some 14 else if decide (r≥65)=true then rV K n (decide (r≤90)) else rV K n false:=fun a=>rfl;have o4:∀a c:Bool,(if a=true then fY K n r true else fY K n r c)=fY K n r (a||c):=fun a c=>by cases a<;>rfl
 have o3:∀a c:Bool,(if a=true then dA K n r true else dA K n r c)=dA K n r (a||c):=fun a c=>by cases a<;>rfl
 have o2:∀a c:Bool,(if a=true then dN K n r true else dN K n r c)=dN K n r (a||c):=fun a c=>by cases a<;>rfl
 have p2:∀a c:Bool,(if a=true then lK K n r true else lK K n r c)=lK K n r (a||c):=fun a c=>by cases a<;>rfl
 have j2:∀a:Bool,lK K n r a=dN K n r a:=fun a=>by
  unfold lK dN;rw[AJ (L:=[34,40,41,42,45,47,91,92,93,94,102,114,116,123,125]) rfl (by decide) hn,AJ (L:=[37,64,77,87,109,119]) rfl (by decide) hn];simp only[Option.bind_some,o3,List.any_cons,List.any_nil,Bool.or_false];unfold dA;simp only[o4];rw[j4]
 have j1:∀a:Bool,iX K n r a=gj K n r a:=fun a=>by
  unfold iX gj;rw[AJ (L:=[32,33,39,44,46,58,59,73,105,106,108,124]) rfl (by decide) hn];simp only[Option.bind_some,o2,p2,List.any_cons,List.any_nil,Bool.or_false];rw[j2,Bool.or_left_comm]
 rw[←ET K n];unfold rh gv;simp only[j1]
theorem Vr{x:Int}(h:0≤x)(h2:x≤1000000000000):aa (aa (Int.tdiv (aa x) 16)+min (Int.tmod (aa x) 16) 1)=aa (Int.tdiv (aa (aa x+15)) 16):=by
 rw[bj (n:=x) (by omega) (by omega),bj (n:=x+15) (by omega) (by omega),Int.tdiv_eq_ediv_of_nonneg h,Int.tmod_eq_emod_of_nonneg h,Int.tdiv_eq_ediv_of_nonneg (by omega),bj (n:=x / 16) (by omega) (by omega)];congr 1;omega
theorem abE(r:Int):0≤fk r∧fk r≤16:=by
 have:∀o:Option Int,(∃v,o=some v∧0≤v∧v≤16)→0≤o.getD 0∧o.getD 0≤16:=fun o ⟨v,h,h1,h2⟩=>by rw[h];exact⟨h1,h2⟩
 refine this _ ?_;have si:∀{c:Prop} [Decidable c] {x y:Option Int},(∃v,x=some v∧0≤v∧v≤16)→(∃v,y=some v∧0≤v∧v≤16)→∃v,(if c then x else y)=some v∧0≤v∧v≤16:=by
  intro c _ x y h1 h2;split;exact h1;exact h2
 have sv:∀v:Int,0≤v∧v≤16→∃u,some v=some u∧0≤u∧u≤16:=fun v h=>⟨v,rfl,h⟩;unfold gv gj;simp only[dN,dA,fY,oN]
 repeat first|exact sv _ (by decide)|apply si
theorem Wf(hn:101≤n)(r s:Int):uY K n r s=some (fu r s):=by
 unfold uY lX fu;rw[I4 hn];simp only[Option.bind_some];have h1:=abE r;have h2:0≤iG s∧iG s≤1048576:=by unfold iG;omega
 have h3:0≤fk r*iG s:=Int.mul_nonneg h1.1 h2.1;have h4:fk r*iG s≤16*1048576:=Int.mul_le_mul h1.2 h2.2 h2.1 (by omega);show some (aa (aa (Int.tdiv (aa (fk r*iG s)) 16)+min (Int.tmod (aa (fk r*iG s)) 16) 1))=_;rw[Vr h3 (by omega)]
theorem aco(hn:101≤n)(a b:Int):ov K n a b=some (lD a b):=by
 unfold ov lD;rw[yp,I4 hn];simp only[Option.bind_some];have h1:oE K n a b true=some false:=rfl;have h2:oE K n a b false=some (bif dd a then true else bif a == 45&&b != 45 then true else decide (a≥11904)||decide (b≥11904)):=by
  unfold oE;rw[if_neg (by simp),yp];simp only[Option.bind_some];unfold sD ub;cases dd a<;>cases h3:(a == 45)<;>cases h4:(b != 45)<;>cases h5:decide (a≥11904)<;>simp
 cases dd b with
 | true=>rw[if_pos rfl,h1];rfl
 | false =>
  rw[if_neg (by simp)];cases (fk b == 0) with
  | true=>rw[h1];rfl
  | false=>rw[h2];rfl
end
end Go.Proofs.YtnpmlepplfaijaaGreat
namespace Go.Proofs.YtnpmlepplfaijaaGreat
set_option linter.all false
open Go.RowKit
noncomputable section
def fP(e:aw):Bool:=e.Box.Style.WhiteSpace == 2
def du(out:List aw):aw:=out.getD (out.length-1) default
def hH(out:List aw):Bool:=out.isEmpty||((du out).Soft||(du out).Kind == 2)
def ig(out:List aw)(e:aw):List aw :=
  bif dd e.Char then
    (bif fP e then (bif e.Char == 10 then out++[{ e with Kind:=2,Char:=32 }] else bif e.Char == 13 then out else out++[{ e with Char:=32 }])
     else bif hH out then out else out++[{ e with Soft:=true,Char:=32 }])
  else out++[e]
theorem A6(out:List aw)(e:aw):(ig out e).length≤out.length+1:=by
 unfold ig;cases dd e.Char<;>cases fP e<;>cases (e.Char == 10)<;>cases (e.Char == 13)<;>cases hH out<;>simp
section
variable(K:Kn)(n:Nat)
theorem B5{out:List aw}(hl:out.length≤1000000)(e:aw):qr K n out e=some (out++[{ e with Char:=32 }]):=by
 unfold qr;rw[cO (by simp;omega) (by omega),aZ]
theorem aa0{out:List aw}(hl:out.length≤1000000)(e:aw):vG K n e out=some (ig out e):=by
 have h4:∀b,lj K n e out b=some (bif b then out else out++[{ e with Soft:=true,Char:=32 }]):=fun b=>by
  unfold lj;cases b with
  | true=>rfl
  | false=>rw[if_neg (by simp),B5 K n hl];rfl
 have h3:∀b,fP e=b→∀c,sO K n e out c=some (bif c then out else bif b then out++[{ e with Char:=32 }] else bif hH out then out else out++[{ e with Soft:=true,Char:=32 }]):=fun b hb c=>by
  unfold sO;cases c with
  | true=>rfl
  | false =>
   have hp:(e.Box.Style.WhiteSpace == 2)=b:=hb;rw[if_neg (by simp),hp];cases b with
   | true=>rw[show(!true)=false from rfl,if_neg (by simp),B5 K n hl];rfl
   | false =>
    rw[show(!false)=true from rfl,if_pos rfl];by_cases h0:out=[]
    ·subst h0;rw[if_pos (by simp),h4];rfl
    ·have hlen:0<out.length:=List.length_pos_iff.2 h0;have e1:aa ((out.length:Int)-1)=((out.length-1:Nat):Int):=by rw[bj (by omega) (by omega)];omega
     have hem:out.isEmpty=false:=by cases out;exact absurd rfl h0;rfl
     rw[if_neg (by simp;exact h0),e1,bT (by omega) (by omega)];simp only[aZ,Int.toNat_natCast]
     change (if (du out).Soft=true then lj K n e out true else lj K n e out ((du out).Kind == 2))=_
     cases hs:(du out).Soft with
     | true=>rw[if_pos rfl,h4];unfold hH;rw[hem,hs];rfl
     | false=>rw[if_neg (by simp),h4];unfold hH;rw[hem,hs];rfl
 have h2:∀c,sc K n e out c=some (bif c then out++[{ e with Kind:=2,Char:=32 }] else bif fP e then (bif e.Char == 13 then out else out++[{ e with Char:=32 }]) else bif hH out then out else out++[{ e with Soft:=true,Char:=32 }]):=fun c=>by
  unfold sc;cases c with
  | true=>rw[if_pos rfl,B5 K n hl];rfl
  | false =>
   have hp:(e.Box.Style.WhiteSpace == 2)=fP e:=rfl;rw[if_neg (by simp),hp];cases hpe:fP e with
   | true=>rw[if_pos rfl,h3 true hpe];rfl
   | false=>rw[if_neg (by simp),h3 false hpe];rfl
 have h1:km K n e out true=some (bif fP e then (bif e.Char == 10 then out++[{ e with Kind:=2,Char:=32 }] else bif e.Char == 13 then out else out++[{ e with Char:=32 }]) else bif hH out then out else out++[{ e with Soft:=true,Char:=32 }]):=by
  unfold km;have hp:(e.Box.Style.WhiteSpace == 2)=fP e:=rfl;rw[if_pos rfl,hp];cases hpe:fP e with
  | true=>rw[if_pos rfl,h2,hpe];rfl
  | false=>rw[if_neg (by simp),h2,hpe];rfl
 have h0:km K n e out false=some (out++[e]):=by
  unfold km;rw[if_neg (by simp),cO (by simp;omega) (by omega),aZ]
 unfold vG ig dd;cases q1:(e.Char == 9) with
 | true=>rw[if_pos rfl,h1];rfl
 | false =>
  rw[if_neg (by simp)];cases q2:(e.Char == 10) with
  | true=>rw[if_pos rfl,h1,q2];rfl
  | false =>
   rw[if_neg (by simp)];cases q3:(e.Char == 13) with
   | true=>rw[if_pos rfl,h1,q2,q3];rfl
   | false =>
    rw[if_neg (by simp)];cases q4:(e.Char == 32) with
    | true=>rw[h1,q2,q3];rfl
    | false=>rw[h0];rfl
end
def gh(b:ai):Bool:=(gB (KN 0) 0 b).getD false
def gI(b:ai)(num:Int)(out:List aw)(rs:List Int):List aw:=rs.foldl (fun o r=>ig o ⟨1,num,r,false,b⟩) out
def vM:Nat→List ai→Int×List aw→Int×List aw
  | 0,_,s=>s
  | d+1,L,s=>L.foldl (fun s b=>bif gh b then
      (bif b.Kind == 2 then vM d b.Kids (aa (s.1+1),s.2)
       else bif b.Kind == 4 then (aa (s.1+1),s.2++[⟨2,aa (s.1+1),0,false,b⟩])
       else bif b.Kind == 5 then (aa (s.1+1),s.2++[⟨3,aa (s.1+1),0,false,b⟩])
       else bif b.Kind == 3 then (aa (s.1+1),gI b (aa (s.1+1)) s.2 (ff b.Text 0))
       else (aa (s.1+1),s.2)) else s) s
def cV (d : Nat) (s : Int × List aw) (b : ai) : Int × List aw := bif gh b then
      (bif b.Kind == 2 then vM d b.Kids (aa (s.1+1),s.2)
       else bif b.Kind == 4 then (aa (s.1+1),s.2++[⟨2,aa (s.1+1),0,false,b⟩])
       else bif b.Kind == 5 then (aa (s.1+1),s.2++[⟨3,aa (s.1+1),0,false,b⟩])
       else bif b.Kind == 3 then (aa (s.1+1),gI b (aa (s.1+1)) s.2 (ff b.Text 0))
       else (aa (s.1+1),s.2)) else s
theorem fF(d:Nat)(L:List ai)(s:Int×List aw):vM (d+1) L s=L.foldl (cV d) s:=rfl
def bL:Nat→List ai→Nat
 | 0,_=>0
 | d+1,L=>(L.map fun b=>1+b.Text.size+bL d b.Kids).sum
def Dp:Nat→List ai→Prop
 | 0,_=>False
 | d+1,L=>L.length≤1000∧∀b∈L,b.Text.size≤1000∧(b.Kind=2→Dp d b.Kids)
theorem LX(b:ai)(num:Int):∀(rs:List Int) (out:List aw),(gI b num out rs).length≤out.length+rs.length
 | [],out=>by simp[gI]
 | r::t,out=>by
  have:=LX b num t (ig out ⟨1,num,r,false,b⟩);have:=A6 out ⟨1,num,r,false,b⟩;unfold gI at *;simp only[List.foldl_cons,List.length_cons];omega
theorem G1(b:ByteArray)(p:Nat):(ff b p).length≤b.size:=by
 unfold ff;have:=aaU (b.data.toList.drop p);rw[List.length_drop,sG]at this;omega
theorem AR(d:Nat)(ih:∀L s,(vM d L s).2.length≤s.2.length+bL d L)(s:Int×List aw)(b:ai):(cV d s b).2.length≤s.2.length+(1+b.Text.size+bL d b.Kids):=by
 unfold cV;cases gh b with
 | false=>simp only[cond_false];omega
 | true =>
  simp only[cond_true];cases (b.Kind == 2) with
  | true=>have:=ih b.Kids (aa (s.1+1),s.2);simp only[cond_true];simp only[]at this;omega
  | false =>
   simp only[cond_false];cases (b.Kind == 4) with
   | true=>simp only[cond_true,List.length_append,List.length_cons,List.length_nil];omega
   | false =>
    simp only[cond_false];cases (b.Kind == 5) with
    | true=>simp only[cond_true,List.length_append,List.length_cons,List.length_nil];omega
    | false =>
     simp only[cond_false];cases (b.Kind == 3) with
     | true =>
      have:=LX b (aa (s.1+1)) (ff b.Text 0) s.2;have:=G1 b.Text 0;simp only[cond_true];omega
     | false=>simp only[cond_false];omega
theorem B0:∀(d:Nat) (L:List ai) (s:Int×List aw),(vM d L s).2.length≤s.2.length+bL d L:=by
 intro d
 induction d with
 | zero=>intro L s;simp[vM,bL]
 | succ d ih =>
  intro L
  induction L with
  | nil=>intro s;simp[vM,bL]
  | cons b r ihL =>
   intro s;have h1:=AR d ih s b;have h2:=ihL (cV d s b);rw[fF,List.foldl_cons];rw[fF]at h2;simp only[bL,List.map_cons,List.sum_cons]at h2⊢;omega
theorem A7(K:Kn)(n:Nat)(b:ai):gB K n b=some (gh b):=by
 have e:gB (KN 0) 0 b=gB K n b:=rfl;have:gb (gB K n b):=by
  unfold gB
  repeat first|exact m8 _|apply ua
 obtain⟨u,hu⟩:=this;unfold gh;rw[e,hu];rfl
theorem VI(K:Kn)(n:Nat)(L:List ai)(i num:Int)(C:Int→Int→List aw→Option (Int×List aw))(hi:i.toNat<L.length):∀(m p:Nat) (out:List aw),(L.getD i.toNat default).Text.size-p<m→out.length+((L.getD i.toNat default).Text.size-p)≤900000 →
  sn K n L i num C m p out=C (aa (i+1)) (aa (num+1)) (gI (L.getD i.toNat default) (aa (num+1)) out (ff (L.getD i.toNat default).Text p)):=by
 intro m
 induction m with
 | zero=>intro p out h;omega
 | succ m ih =>
  intro p out h1 h2;show qO K n L i num C (sn K n L i num C m) p out=_;unfold qO;by_cases hp:p<(L.getD i.toNat default).Text.size
  ·have hw:=CM (L.getD i.toNat default).Text p;rw[if_pos (by simpa using hp)];simp only[Option.bind_some];rw[aa0 K n (by omega)];simp only[Option.bind_some];have hpl:=A6 out ⟨1,aa (num+1),((Utf8.decode (L.getD i.toNat default).Text p).1:Int),false,L.getD i.toNat default⟩;rw[ih _ _ (by omega) (by omega),El hp];rfl
  ·rw[if_neg (by simpa using hp),BM hp];rfl
theorem Sg:∀(d N:Nat) (L:List ai) (s:Int×List aw),Dp d L→s.2.length+bL d L≤800000→d+1100≤N→kY (KN N) N L s.1 s.2=some (vM d L s):=by
 intro d
 induction d with
 | zero=>intro N L s h;exact h.elim
 | succ d ih =>
  intro N L s hD hs hN;obtain⟨N,rfl⟩:∃M,N=M+1:=⟨N-1,by omega⟩;unfold Dp at hD;unfold kY;have loop:∀(m i:Nat) (s:Int×List aw),i≤L.length→L.length<m+i→s.2.length+bL (d+1) (L.drop i)≤800000→qp (KN (N+1)) (N+1) L m (i:Int) s.1 s.2=some (vM (d+1) (L.drop i) s):=by
   intro m
   induction m with
   | zero=>intro i s h1 h2;omega
   | succ m ihm =>
    intro i s h1 h2 h3;show tq (KN (N+1)) (N+1) L (qp (KN (N+1)) (N+1) L m) i s.1 s.2=_;unfold tq;by_cases hi:i<L.length
    ·have hb:L.getD i default∈L:=by rw[bV hi];exact List.getElem_mem _
     have hdr:L.drop i=L.getD i default::L.drop (i+1):=by rw[List.drop_eq_getElem_cons hi,bV hi]
     have hw:aa ((i:Int)+1)=((i+1:Nat):Int):=by rw[bj (by omega) (by omega)];omega
     rw[hdr]at h3⊢;rw[fF,List.foldl_cons,← fF];have hvl:=AR d (B0 d) s (L.getD i default);have h3':s.2.length+((1+(L.getD i default).Text.size+bL d (L.getD i default).Kids)+bL (d+1) (L.drop (i+1)))≤800000:=by
      simpa only[bL,List.map_cons,List.sum_cons]using h3
     have fin:=ihm (i+1) (cV d s (L.getD i default)) (by omega) (by omega) (by omega);rw[if_pos (by simpa using hi),bT (by omega) (by omega),aZ,A7];simp only[Option.bind_some,Int.toNat_natCast];have step:∀s',cV d s (L.getD i default)=s'→qp (KN (N+1)) (N+1) L m (aa ((i:Int)+1)) s'.1 s'.2=some (vM (d+1) (L.drop (i+1)) (cV d s (L.getD i default))):=fun s' e=>by
      rw[←e,hw];exact fin
     cases hf:gh (L.getD i default) with
     | false =>
      rw[show(!false)=true from rfl,if_pos rfl];unfold lM;exact step s (by unfold cV;rw[hf];rfl)
     | true =>
      rw[show(!true)=false from rfl,if_neg (by simp)];cases h2':((L.getD i default).Kind == 2) with
      | true =>
       have hk:(L.getD i default).Kind=2:=by simpa using h2'
       have:=ih N (L.getD i default).Kids (aa (s.1+1),s.2) ((hD.2 _ hb).2 hk) (by simp only[];omega) (by omega);rw[if_pos rfl];show((kY (KN N) N (L.getD i default).Kids (aa (s.1+1)) s.2).bind _)=_;rw[show kY (KN N) N (L.getD i default).Kids (aa (s.1+1)) s.2=_ from this];simp only[Option.bind_some];unfold jk lM;exact step _ (by unfold cV;rw[hf,h2'];rfl)
      | false =>
       rw[if_neg (by simp)];cases h4':((L.getD i default).Kind == 4) with
       | true =>
        rw[if_pos rfl,cO (by simp;omega) (by omega),aZ];unfold jk lM;exact step (_,_) (by unfold cV;rw[hf,h2',h4'];rfl)
       | false =>
        rw[if_neg (by simp)];cases h5':((L.getD i default).Kind == 5) with
        | true =>
         rw[if_pos rfl,cO (by simp;omega) (by omega),aZ];unfold jk lM;exact step (_,_) (by unfold cV;rw[hf,h2',h4',h5'];rfl)
        | false =>
         rw[if_neg (by simp)];cases h3'':((L.getD i default).Kind == 3) with
         | true =>
          have ht:=(hD.2 _ hb).1;rw[if_pos rfl,VI (KN (N+1)) (N+1) L i s.1 _ (by simpa using hi) (N+1) 0 s.2 (by rw[Int.toNat_natCast];omega) (by rw[Int.toNat_natCast];omega)];rw[Int.toNat_natCast];exact step (_,_) (by unfold cV;rw[hf,h2',h4',h5',h3''];rfl)
         | false =>
          rw[if_neg (by simp)];unfold jk lM;exact step (_,_) (by unfold cV;rw[hf,h2',h4',h5',h3''];rfl)
    ·rw[if_neg (by simpa using hi),List.drop_eq_nil_of_le (by omega)];rfl
  have:=loop (N+1) 0 s (by omega) (by omega) (by rw[List.drop_zero];exact hs);rw[List.drop_zero]at this;exact this
def cd(d:Nat)(L:List ai):List aw:=(vM d L (0,[])).2
theorem D2{d N:Nat}{L:List ai}(hD:Dp d L)(hc:bL d L≤800000)(hN:d+1100≤N):pW (KN N) N L=some (cd d L):=by
 unfold pW;rw[show kY (KN N) N L 0 []=_ from Sg d N L (0,[]) hD (by simpa using hc) hN];rfl
theorem zW(d:Nat)(L:List ai):(cd d L).length≤bL d L:=by
 have:=B0 d L (0,[]);unfold cd;simpa using this
theorem SQ{P:aw→Prop}{out:List aw}{e:aw}(h:∀x∈out,P x)(h1:dd e.Char=false→P e)(h2:fP e=true→P { e with Kind:=2,Char:=32 })(h3:fP e=true→P { e with Char:=32 })(h4:fP e=false→P { e with Soft:=true,Char:=32 }):∀x∈ig out e,P x:=by
 have ap:∀y,P y→∀x∈out++[y],P x:=fun y hy x hx=>by
  rcases List.mem_append.1 hx with hx|hx
  ·exact h x hx
  ·rw[List.mem_singleton.1 hx];exact hy
 unfold ig;cases hs:dd e.Char with
 | false=>exact ap _ (h1 hs)
 | true =>
  simp only[cond_true];cases hp:fP e with
  | true =>
   simp only[cond_true];cases (e.Char == 10) with
   | true=>exact ap _ (h2 hp)
   | false =>
    simp only[cond_false];cases (e.Char == 13) with
    | true=>exact h
    | false=>exact ap _ (h3 hp)
  | false =>
   simp only[cond_false];cases hH out with
   | true=>exact h
   | false=>exact ap _ (h4 hp)
theorem ya{P:aw→Prop}(b:ai)(num:Int)(hP:∀r,cE r→(dd r=false→P ⟨1,num,r,false,b⟩))(h2:P ⟨2,num,32,false,b⟩)(h3:b.Style.WhiteSpace=2→P ⟨1,num,32,false,b⟩)(h4:b.Style.WhiteSpace≠2→P ⟨1,num,32,true,b⟩):∀(rs:List Int) (out:List aw),(∀r∈rs,cE r)→(∀x∈out,P x)→∀x∈gI b num out rs,P x
 | [],out,_,h=>h
 | r::t,out,hr,h=>by
  unfold gI;rw[List.foldl_cons];refine ya b num hP h2 h3 h4 t _ (fun x hx=>hr x (by simp[hx])) (SQ h (fun hs=>hP r (hr r (by simp)) hs) (fun _=>h2) (fun hp=>h3 (by simpa[fP]using hp)) (fun hp=>h4 (by simpa[fP]using hp)))
theorem A4{P:aw→Prop}(h1:∀(b:ai) (num r:Int),cE r→dd r=false→P ⟨1,num,r,false,b⟩)(h2:∀(b:ai) (num:Int),P ⟨2,num,32,false,b⟩)(h3:∀(b:ai) (num:Int),b.Style.WhiteSpace=2→P ⟨1,num,32,false,b⟩)(h4:∀(b:ai) (num:Int),b.Style.WhiteSpace≠2→P ⟨1,num,32,true,b⟩)
  (h5:∀(b:ai) (num:Int),P ⟨2,num,0,false,b⟩) (h6:∀(b:ai) (num:Int),P ⟨3,num,0,false,b⟩):∀(d:Nat) (L:List ai) (s:Int×List aw),(∀x∈s.2,P x)→∀x∈(vM d L s).2,P x:=by
 have ap:∀{out:List aw} (y:aw),(∀x∈out,P x)→P y→∀x∈out++[y],P x:=fun y h hy x hx=>by
  rcases List.mem_append.1 hx with hx|hx
  ·exact h x hx
  ·rw[List.mem_singleton.1 hx];exact hy
 intro d
 induction d with
 | zero=>intro L s h;exact h
 | succ d ih =>
  intro L
  induction L with
  | nil=>intro s h;exact h
  | cons b r ihL =>
   intro s h;rw[fF,List.foldl_cons,← fF];refine ihL _ ?_;unfold cV;cases gh b with
   | false=>exact h
   | true =>
    simp only[cond_true];cases (b.Kind == 2) with
    | true=>exact ih _ _ h
    | false =>
     simp only[cond_false];cases (b.Kind == 4) with
     | true=>exact ap _ h (h5 _ _)
     | false =>
      simp only[cond_false];cases (b.Kind == 5) with
      | true=>exact ap _ h (h6 _ _)
      | false =>
       simp only[cond_false];cases (b.Kind == 3) with
       | true=>exact ya b _ (fun r hr hs=>h1 b _ r hr hs) (h2 b _) (h3 b _) (h4 b _) _ _ AW h
       | false=>exact h
theorem CR:cE 32:=by unfold cE;omega
theorem Kx:cE 0:=by unfold cE;omega
theorem yc(d:Nat)(L:List ai):∀x∈cd d L,fp x :=
 A4 (fun b num r hr _=>⟨hr,fun h=>by cases h⟩) (fun b num=>⟨CR,fun _=>rfl⟩) (fun b num _=>⟨CR,fun _=>rfl⟩) (fun b num _=>⟨CR,fun _=>rfl⟩) (fun b num=>⟨Kx,fun h=>by cases h⟩) (fun b num=>⟨Kx,fun h=>by cases h⟩) d L (0,[]) (fun x hx=>by cases hx)
end
end Go.Proofs.YtnpmlepplfaijaaGreat
namespace Go.Proofs.YtnpmlepplfaijaaGreat
set_option linter.all false
open Go.RowKit
noncomputable section
structure fN(e:aw)(t:aM):Prop where
 box:t.Box=e.Box
 soft:t.Soft=e.Soft
 forced:t.Forced=(e.Kind == 2)
 block:t.Block=(e.Kind == 3)
 char:e.Kind=1→t.Char=e.Char
structure fA(c:Int)(E:List aw)(T:List aM):Prop where
 len:E.length=T.length
 el:∀i,i<E.length→fN (E.getD i default) (T.getD i default)
 num:∀i,i<E.length→(E.getD i default).Of≤c
 idx:∀i,i<E.length→(T.getD i default).Number≤(i:Int)
 pair:∀i j,i<E.length→j<E.length→((E.getD i default).Of=(E.getD j default).Of↔(T.getD i default).Number=(T.getD j default).Number)
structure fU(c n0:Int)(E:List aw)(T:List aM):Prop where
 len:E.length=T.length
 el:∀i,i<E.length→fN (E.getD i default) (T.getD i default)
 num:∀i,i<E.length→((E.getD i default).Of≤c∧(T.getD i default).Number<n0)∨((E.getD i default).Of=c+1∧(T.getD i default).Number=n0)
 idx:∀i,i<E.length→(T.getD i default).Number≤(i:Int)
 n0le:n0≤(T.length:Int)
 pair:∀i j,i<E.length→j<E.length→((E.getD i default).Of=(E.getD j default).Of↔(T.getD i default).Number=(T.getD j default).Number)
theorem Iv{α:Type}[Inhabited α](a:List α)(y:α){i:Nat}(h:i<a.length):(a++[y]).getD i default=a.getD i default:=by
 rw[bV (by simp;omega),bV h,List.getElem_append_left h]
theorem BA{α:Type}[Inhabited α](a:List α)(y:α){i:Nat}(h:i=a.length):(a++[y]).getD i default=y:=by
 subst h;rw[bV (by simp)];simp
theorem Su(c:Int):fA c [] []:=⟨rfl,fun i h=>by simp at h,fun i h=>by simp at h,fun i h=>by simp at h,fun i j h=>by simp at h⟩
theorem fA.up{c c':Int}{E T}(h:fA c E T)(hc:c≤c'):fA c' E T:=⟨h.len,h.el,fun i hi=>Int.le_trans (h.num i hi) hc,h.idx,h.pair⟩
theorem fA.open{c:Int}{E T}(h:fA c E T):fU c (T.length:Int) E T :=
 ⟨h.len,h.el,fun i hi=>.inl ⟨h.num i hi,by have:=h.idx i hi;have:=h.len;omega⟩,h.idx,Int.le_refl _,h.pair⟩
theorem fU.close{c n0:Int}{E T}(h:fU c n0 E T):fA (c+1) E T :=
 ⟨h.len,h.el,fun i hi=>by rcases h.num i hi with q|q<;>omega,h.idx,h.pair⟩
theorem fU.snoc{c n0:Int}{E T}(h:fU c n0 E T){e:aw}{t:aM}(he:fN e t)(h1:e.Of=c+1)(h2:t.Number=n0):fU c n0 (E++[e]) (T++[t]):=by
 have hl:(E++[e]).length=E.length+1:=by simp
 have hlen:=h.len;have cs:∀i,i<(E++[e]).length→(i<E.length∧(E++[e]).getD i default=E.getD i default∧(T++[t]).getD i default=T.getD i default)∨(i=E.length∧(E++[e]).getD i default=e∧(T++[t]).getD i default=t):=fun i hi=>by
  by_cases q:i<E.length
  ·exact .inl ⟨q,Iv E e q,Iv T t (by omega)⟩
  ·exact .inr ⟨by omega,BA E e (by omega),BA T t (by omega)⟩
 have nw:∀i,i<E.length→((E.getD i default).Of=c+1↔(T.getD i default).Number=n0):=fun i hi=>by
  rcases h.num i hi with q|q
  ·constructor<;>intro _<;>omega
  ·exact⟨fun _=>q.2,fun _=>q.1⟩
 refine⟨by simp[hlen],fun i hi=>?_,fun i hi=>?_,fun i hi=>?_,?_,fun i j hi hj=>?_⟩
 ·obtain⟨q,q1,q2⟩|⟨q,q1,q2⟩:=cs i hi
  ·rw[q1,q2];exact h.el i q
  ·rw[q1,q2];exact he
 ·obtain⟨q,q1,q2⟩|⟨q,q1,q2⟩:=cs i hi
  ·rw[q1,q2];exact h.num i q
  ·rw[q1,q2];exact .inr ⟨h1,h2⟩
 ·obtain⟨q,q1,q2⟩|⟨q,q1,q2⟩:=cs i hi
  ·rw[q2];exact h.idx i q
  ·rw[q2,h2];have:=h.n0le;omega
 ·have:=h.n0le;simp;omega
 ·rcases cs i hi with⟨q,q1,q2⟩|⟨q,q1,q2⟩<;>rcases cs j hj with⟨r,r1,r2⟩|⟨r,r1,r2⟩<;>rw[q1,q2,r1,r2]
  ·exact h.pair i j q r
  ·rw[h1,h2];exact nw i q
  ·rw[h1,h2];have:=nw j r;exact⟨fun a=>(this.1 a.symm).symm,fun a=>(this.2 a.symm).symm⟩
  ·exact⟨fun _=>rfl,fun _=>rfl⟩
theorem aak{c n0:Int}{E T}(h:fU c n0 E T)(h0:0<E.length):fN (du E) (T.getD (T.length-1) default):=by
 have:=h.el (E.length-1) (by omega);rw[show T.length-1=E.length-1 by rw[h.len]];exact this
section
variable{K:Kn}{n:Nat}
theorem acX{c n0:Int}{E:List aw}{T:List aM}(h:fU c n0 E T)(hl:T.length≤1000000)(b:ai)(r:Int):
  ∃T',un K n ({ mh with Box:=b,Number:=n0,Char:=r }:aM) T=some T'∧fU c n0 (ig E ⟨1,c+1,r,false,b⟩) T':=by
 have ap:∀(e:aw) (t:aM),fN e t→e.Of=c+1→t.Number=n0→∃T',aC (fits (T.length+([t]:(List aM)).length) 536) (some (T++[t]))=some T'∧fU c n0 (E++[e]) T':=fun e t h1 h2 h3=>by
  rw[cO (by simp;omega) (by omega),aZ];exact⟨_,rfl,h.snoc h1 h2 h3⟩
 unfold un ig;rw[yp];simp only[Option.bind_some];show ∃T',(if (b.Style.WhiteSpace == 2)=true then _ else _)=some T'∧fU c n0 (bif dd r then (bif (b.Style.WhiteSpace == 2) then _ else _) else _) T';cases hp:(b.Style.WhiteSpace == 2) with
 | true =>
  rw[if_pos rfl];simp only[cond_true];show ∃T',(if (r == 13)=true then some T else if (r == 10)=true then _ else _)=some T'∧fU c n0 (bif dd r then (bif (r == 10) then _ else bif (r == 13) then _ else _) else _) T';unfold wi uF;cases h13:(r == 13) with
  | true =>
   have e:r=13:=by simpa using h13
   subst e;rw[if_pos rfl];exact⟨T,rfl,h⟩
  | false =>
   rw[if_neg (by simp)];cases h10:(r == 10) with
   | true =>
    have e:r=10:=by simpa using h10
    subst e;rw[if_pos rfl,if_neg (by simp)];exact ap { (⟨1,c+1,10,false,b⟩:aw)with Kind:=2,Char:=32 } _ ⟨rfl,rfl,rfl,rfl,fun q=>by cases q⟩ rfl rfl
   | false =>
    rw[if_neg (by simp)];show ∃T',(if (r == 9)=true then _ else _)=some T'∧_;cases h9:(r == 9) with
    | true =>
     have e:r=9:=by simpa using h9
     subst e;rw[if_pos rfl];exact ap { (⟨1,c+1,9,false,b⟩:aw)with Char:=32 } _ ⟨rfl,rfl,rfl,rfl,fun _=>rfl⟩ rfl rfl
    | false =>
     rw[if_neg (by simp)];cases h32:(r == 32) with
     | true =>
      have e:r=32:=by simpa using h32
      subst e;exact ap { (⟨1,c+1,32,false,b⟩:aw)with Char:=32 } _ ⟨rfl,rfl,rfl,rfl,fun _=>rfl⟩ rfl rfl
     | false =>
      rw[show dd r=false by unfold dd;rw[h9,h10,h13,h32];rfl];exact ap (⟨1,c+1,r,false,b⟩:aw) _ ⟨rfl,rfl,rfl,rfl,fun _=>rfl⟩ rfl rfl
 | false =>
  rw[if_neg (by simp)];simp only[cond_false];show ∃T',(if (dd r)=true then _ else _)=some T'∧fU c n0 (bif dd r then _ else _) T';cases hs:dd r with
  | false =>
   rw[if_neg (by simp)];unfold qU;exact ap (⟨1,c+1,r,false,b⟩:aw) _ ⟨rfl,rfl,rfl,rfl,fun _=>rfl⟩ rfl rfl
  | true =>
   rw[if_pos rfl];simp only[cond_true];have hlen:=h.len;by_cases h0:T.length=0
   ·rw[if_pos (by simp;exact List.eq_nil_of_length_eq_zero h0)];have hE:E=[]:=List.eq_nil_of_length_eq_zero (by omega);refine⟨T,rfl,?_⟩;rw[show hH E=true by rw[hE];rfl];exact h
   ·have hE:E.isEmpty=false:=by cases E;exact absurd hlen.symm h0;rfl
    have hl2:=aak h (by omega);have e1:aa ((T.length:Int)-1)=((T.length-1:Nat):Int):=by rw[bj (by omega) (by omega)];omega
    rw[if_neg (by simp;intro q;rw[q]at h0;exact h0 rfl),e1,bT (by omega) (by omega)];rw[aZ,aZ,Int.toNat_natCast,hl2.soft,hl2.forced];have hsk:hH E=((du E).Soft||(du E).Kind == 2):=by unfold hH;rw[hE];rfl
    rw[hsk];cases (du E).Soft with
    | true=>exact⟨T,rfl,h⟩
    | false =>
     rw[if_neg (by simp),Bool.false_or];cases ((du E).Kind == 2) with
     | true=>exact⟨T,rfl,h⟩
     | false =>
      unfold tS qU;rw[if_neg (by simp)];exact ap { (⟨1,c+1,r,false,b⟩:aw)with Soft:=true,Char:=32 } _ ⟨rfl,rfl,rfl,rfl,fun _=>rfl⟩ rfl rfl
theorem OM(b:ByteArray)(hb:b.size≤1000000):∀(m p:Nat) (cs os:List Int),b.size-p<m→cs.length+(b.size-p)≤1000000→os.length+(b.size-p)≤1000000→∃o,sI K n b m p cs os=some (cs++ff b p,o):=by
 intro m
 induction m with
 | zero=>intro p cs os h;omega
 | succ m ih =>
  intro p cs os h1 h2 h3;show ∃o,sd K n b (sI K n b m) p cs os=some (_,o);unfold sd;by_cases hp:p<b.size
  ·have hw:=CM b p;rw[if_pos (by simpa using hp),cO (by simp;omega) (by omega),aZ,cO (by simp;omega) (by omega),aZ,El hp];obtain⟨o,ho⟩:=ih (p+(Utf8.decode b p).2) (cs++[((Utf8.decode b p).1:Int)]) (os++[((p:Nat):Int)]) (by omega) (by rw[List.length_append];show _+1+_≤_;omega) (by rw[List.length_append];show _+1+_≤_;omega);exact⟨o,by rw[ho,List.append_assoc];rfl⟩
  ·rw[if_neg (by simpa using hp),cO (by simp;omega) (by omega),aZ,BM hp,List.append_nil];exact⟨_,rfl⟩
end
end
end Go.Proofs.YtnpmlepplfaijaaGreat
namespace Go.Proofs.YtnpmlepplfaijaaGreat
set_option linter.all false
open Go.RowKit
noncomputable section
theorem Fh(d:Nat)(ih:∀L (s:Int×List aw),0≤s.1→s.1+bL d L≤1000000→s.1≤(vM d L s).1∧(vM d L s).1≤s.1+bL d L)(s:Int×List aw)(b:ai)(h0:0≤s.1)(h1:s.1+((1+b.Text.size+bL d b.Kids:Nat):Int)≤1000000):s.1≤(cV d s b).1∧(cV d s b).1≤s.1+((1+b.Text.size+bL d b.Kids:Nat):Int):=by
 have hw:aa (s.1+1)=s.1+1:=bj (by omega) (by omega);unfold cV;rw[hw];cases gh b with
 | false=>simp only[cond_false];omega
 | true =>
  simp only[cond_true];cases (b.Kind == 2) with
  | true =>
   have:=ih b.Kids (s.1+1,s.2) (by show 0≤s.1+1;omega) (by show s.1+1+_≤_;omega);simp only[cond_true];simp only[]at this;omega
  | false =>
   simp only[cond_false];cases (b.Kind == 4) with
   | true=>simp only[cond_true];omega
   | false =>
    simp only[cond_false];cases (b.Kind == 5) with
    | true=>simp only[cond_true];omega
    | false =>
     simp only[cond_false];cases (b.Kind == 3) with
     | true=>simp only[cond_true];omega
     | false=>simp only[cond_false];omega
theorem IU:∀(d:Nat) (L:List ai) (s:Int×List aw),0≤s.1→s.1+bL d L≤1000000→s.1≤(vM d L s).1∧(vM d L s).1≤s.1+bL d L:=by
 intro d
 induction d with
 | zero=>intro L s _ _;simp[vM,bL]
 | succ d ih =>
  intro L
  induction L with
  | nil=>intro s _ _;simp[vM,bL]
  | cons b r ihL =>
   intro s h0 h1;have e:bL (d+1) (b::r)=(1+b.Text.size+bL d b.Kids)+bL (d+1) r:=by simp[bL]
   rw[e]at h1⊢;have q1:=Fh d ih s b h0 (by omega);have q2:=ihL (cV d s b) (by omega) (by omega);rw[fF,List.foldl_cons,← fF];omega
section
variable{K:Kn}{n:Nat}
theorem X5{L:List ai}{i:Int}{T0:List aM}{cs os:List Int}(hcs:cs.length≤900000)(C:Int→List aM→Option (List aM))(c:Int)(b:ai)(hb:L.getD i.toNat default=b):∀(m k:Nat) (E:List aw) (T:List aM),k≤cs.length→cs.length<m+k→fU c (T0.length:Int) E T→T.length+(cs.length-k)≤900000 →
  ∃T',sB K n L i T0 (cs,os) C m (k:Int) T=C (aa (i+1)) T'∧fU c (T0.length:Int) (gI b (c+1) E (cs.drop k)) T':=by
 intro m
 induction m with
 | zero=>intro k E T h1 h2;omega
 | succ m ih =>
  intro k E T h1 h2 h3 h4;show ∃T',rT K n L i T0 (cs,os) C (sB K n L i T0 (cs,os) C m) (k:Int) T=_∧_;unfold rT;by_cases hk:k<cs.length
  ·have hd:cs.drop k=cs.getD k default::cs.drop (k+1):=by rw[List.drop_eq_getElem_cons hk,bV hk]
   rw[if_pos (by simpa using hk),bT (by omega) (by simpa using hk),aZ,hb,hd];simp only[Int.toNat_natCast];obtain⟨T1,t1,t2⟩:=acX (K:=K) (n:=n) h3 (by omega) b (cs.getD k default);rw[t1];simp only[Option.bind_some];rw[bj (by omega) (by omega),show(k:Int)+1=((k+1:Nat):Int) by omega];have hl:=t2.len;have hl0:=h3.len;have hp:=A6 E ⟨1,c+1,cs.getD k default,false,b⟩;obtain⟨T',q1,q2⟩:=ih (k+1) _ T1 (by omega) (by omega) t2 (by omega);refine⟨T',q1,?_⟩;unfold gI at q2⊢;rw[List.foldl_cons];exact q2
  ·rw[if_neg (by simpa using hk),List.drop_eq_nil_of_le (by omega)];unfold iC kV;exact⟨T,rfl,h3⟩
theorem Zr(b:ai):iQ K n b=some (gh b):=by
 have e:iQ K n b=gB K n b:=rfl;rw[e,A7]
end
theorem To:∀(d N:Nat) (L:List ai) (s:Int×List aw) (T:List aM),Dp d L→0≤s.1→s.1+bL d L≤100000→s.2.length+bL d L≤100000→d+1100≤N→fA s.1 s.2 T→∃T',nT (KN N) N L T=some T'∧fA (vM d L s).1 (vM d L s).2 T':=by
 intro d
 induction d with
 | zero=>intro N L s T h;exact h.elim
 | succ d ih =>
  intro N L s T hD g0 g1 g2 hN hS;obtain⟨N,rfl⟩:∃M,N=M+1:=⟨N-1,by omega⟩;unfold Dp at hD;unfold nT;have loop:∀(m i:Nat) (s:Int×List aw) (T:List aM),i≤L.length→L.length<m+i→0≤s.1→s.1+bL (d+1) (L.drop i)≤100000→s.2.length+bL (d+1) (L.drop i)≤100000→fA s.1 s.2 T→∃T',ku (KN (N+1)) (N+1) L m (i:Int) T=some T'∧fA (vM (d+1) (L.drop i) s).1 (vM (d+1) (L.drop i) s).2 T':=by
   intro m
   induction m with
   | zero=>intro i s T h1 h2;omega
   | succ m ihm =>
    intro i s T h1 h2 h0 h3 h4 hS;show ∃T',q8 (KN (N+1)) (N+1) L (ku (KN (N+1)) (N+1) L m) i T=some T'∧_;unfold q8;by_cases hi:i<L.length
    ·have hb:L.getD i default∈L:=by rw[bV hi];exact List.getElem_mem _
     have hdr:L.drop i=L.getD i default::L.drop (i+1):=by rw[List.drop_eq_getElem_cons hi,bV hi]
     have hw:aa ((i:Int)+1)=((i+1:Nat):Int):=by rw[bj (by omega) (by omega)];omega
     have e:bL (d+1) (L.getD i default::L.drop (i+1))=(1+(L.getD i default).Text.size+bL d (L.getD i default).Kids)+bL (d+1) (L.drop (i+1)):=by simp[bL]
     rw[hdr,e]at h3 h4;rw[hdr];rw[fF,List.foldl_cons,← fF];obtain⟨t1,t2⟩:=hD.2 _ hb;have hlen:=hS.len;have hvl:=AR d (B0 d) s (L.getD i default);have hvn:=Fh d (IU d) s (L.getD i default) h0 (by omega);have hws:aa (s.1+1)=s.1+1:=bj (by omega) (by omega);rw[if_pos (by simpa using hi),bT (by omega) (by omega),aZ,Zr];simp only[Option.bind_some,Int.toNat_natCast];have step:∀(T1:List aM) (s':Int×List aw),cV d s (L.getD i default)=s'→fA s'.1 s'.2 T1→∃T',ku (KN (N+1)) (N+1) L m (aa ((i:Int)+1)) T1=some T'∧fA (vM (d+1) (L.drop (i+1)) (cV d s (L.getD i default))).1 (vM (d+1) (L.drop (i+1)) (cV d s (L.getD i default))).2 T':=fun T1 s' he h1=>by
      rw[hw];rw[←he]at h1;exact ihm (i+1) _ T1 (by omega) (by omega) (by omega) (by omega) (by omega) h1
     have one:∀(e1:aw) (t:aM),fN e1 t→e1.Of=s.1+1→t.Number=(T.length:Int)→cV d s (L.getD i default)=(s.1+1,s.2++[e1])→∃T',aC (fits (T.length+([t]:(List aM)).length) 536) (iC (KN (N+1)) (N+1) L (i:Int) (ku (KN (N+1)) (N+1) L m) (T++[t]))=some T'∧fA (vM (d+1) (L.drop (i+1)) (cV d s (L.getD i default))).1 (vM (d+1) (L.drop (i+1)) (cV d s (L.getD i default))).2 T':=fun e1 t q1 q2 q3 q4=>by
      rw[cO (by simp;omega) (by omega),aZ];unfold iC kV;exact step _ _ q4 (hS.open.snoc q1 q2 q3).close
     cases hf:gh (L.getD i default) with
     | false =>
      rw[show(!false)=true from rfl,if_pos rfl];unfold kV;exact step T s (by unfold cV;rw[hf];rfl) hS
     | true =>
      rw[show(!true)=false from rfl,if_neg (by simp)];cases k2:((L.getD i default).Kind == 2) with
      | true =>
       rw[if_pos rfl];have hk:=t2 (by simpa using k2);obtain⟨T1,q1,q2⟩:=ih N (L.getD i default).Kids (s.1+1,s.2) T hk (by show 0≤s.1+1;omega) (by show s.1+1+_≤_;omega) (by show s.2.length+_≤_;omega) (by omega) (hS.up (by show s.1≤s.1+1;omega));show ∃T',((nT (KN N) N (L.getD i default).Kids T).bind _)=some T'∧_;rw[q1];simp only[Option.bind_some];unfold iC kV;exact step T1 _ (by unfold cV;rw[hf,k2,hws];rfl) q2
      | false =>
       rw[if_neg (by simp)];cases k4:((L.getD i default).Kind == 4) with
       | true =>
        rw[if_pos rfl];exact one ⟨2,s.1+1,0,false,L.getD i default⟩ _ ⟨rfl,rfl,rfl,rfl,fun q=>by cases q⟩ rfl rfl (by unfold cV;rw[hf,k2,k4,hws];rfl)
       | false =>
        rw[if_neg (by simp)];cases k5:((L.getD i default).Kind == 5) with
        | true =>
         rw[if_pos rfl];exact one ⟨3,s.1+1,0,false,L.getD i default⟩ _ ⟨rfl,rfl,rfl,rfl,fun q=>by cases q⟩ rfl rfl (by unfold cV;rw[hf,k2,k4,k5,hws];rfl)
        | false =>
         rw[if_neg (by simp)];cases k3:((L.getD i default).Kind == 3) with
         | true =>
          rw[if_pos rfl];obtain⟨o,ho⟩:=OM (K:=KN (N+1)) (n:=N+1) (L.getD i default).Text (by omega) (N+1) 0 [] [] (by omega) (by show 0+_≤_;omega) (by show 0+_≤_;omega);rw[List.nil_append]at ho;rw[show xo (KN (N+1)) (N+1) (L.getD i default).Text=_ from ho];simp only[Option.bind_some];have hrl:=G1 (L.getD i default).Text 0;obtain⟨T1,q1,q2⟩:=X5 (K:=KN (N+1)) (n:=N+1) (L:=L) (i:=(i:Int)) (T0:=T) (cs:=ff (L.getD i default).Text 0) (os:=o) (by omega) (ku (KN (N+1)) (N+1) L m) s.1 (L.getD i default) (by rw[Int.toNat_natCast]) (N+1) 0 s.2 T (by omega) (by omega) hS.open (by omega);rw[show(0:Int)=((0:Nat):Int) from rfl,q1];rw[List.drop_zero]at q2;exact step T1 (s.1+1,gI (L.getD i default) (s.1+1) s.2 (ff (L.getD i default).Text 0)) (by unfold cV;rw[hf,k2,k4,k5,k3,hws];rfl) q2.close
         | false =>
          rw[if_neg (by simp)];unfold iC kV;exact step T (s.1+1,s.2) (by unfold cV;rw[hf,k2,k4,k5,k3,hws];rfl) (hS.up (by show s.1≤s.1+1;omega))
    ·rw[if_neg (by simpa using hi),List.drop_eq_nil_of_le (by omega)];exact⟨T,rfl,hS⟩
  have:=loop (N+1) 0 s T (by omega) (by omega) g0 (by rw[List.drop_zero];exact g1) (by rw[List.drop_zero];exact g2) hS;rw[List.drop_zero]at this;exact this
theorem Oy{d N:Nat}{L:List ai}(hD:Dp d L)(hc:bL d L≤100000)(hN:d+1100≤N):∃c T,nT (KN N) N L []=some T∧fA c (cd d L) T:=by
 obtain⟨T,q1,q2⟩:=To d N L (0,[]) [] hD (Int.le_refl _) (by show(0:Int)+_≤_;omega) (by show 0+_≤_;omega) hN (Su 0);exact⟨_,T,q1,q2⟩
end
end Go.Proofs.YtnpmlepplfaijaaGreat
namespace Go.Proofs.YtnpmlepplfaijaaGreat
set_option linter.all false
open Go.RowKit
structure R4 where
 w:Int
 s:Int
 g:Bool
 f:Bool
instance:Inhabited R4:=⟨⟨0,0,false,false⟩⟩
def vI(r:ay):R4:=⟨r.Width,r.Space,r.Glued,r.Forced⟩
theorem qR{L:List ay}{k:Nat}(h:k<L.length):(L.map vI)[k]'(by simpa using h)=vI (L.getD k default):=by
 rw[bV h];simp
def gr(l:List R4)(i:Nat):Nat:=i+((l.drop i).takeWhile R4.g).length
theorem jL(l:List R4)(i:Nat):i≤gr l i:=Nat.le_add_right _ _
theorem IT{α:Type}(p:α→Bool):∀l:List α,(l.takeWhile p).length≤l.length
 | []=>Nat.le_refl _
 | x::r=>by
  rw[List.takeWhile_cons];split
  ·simp;exact IT p r
  ·simp
theorem rH{l:List R4}{i:Nat}(h:i≤l.length):gr l i≤l.length:=by
 have:=IT R4.g (l.drop i);simp at this;unfold gr;omega
theorem AZ{l:List R4}{i:Nat}(h:i<l.length)(hg:l[i].g=true):gr l i=gr l (i+1):=by
 unfold gr;rw[List.drop_eq_getElem_cons h,List.takeWhile_cons,if_pos hg];simp;omega
theorem CI{l:List R4}{i:Nat}(h:i<l.length)(hg:l[i].g=false):gr l i=i:=by
 unfold gr;rw[List.drop_eq_getElem_cons h,List.takeWhile_cons,if_neg (by simp[hg])];simp
theorem KZ{l:List R4}{i:Nat}(h:l.length≤i):gr l i=i:=by
 unfold gr;rw[List.drop_eq_nil_of_le h];simp
theorem VT{l:List R4}:∀(k i:Nat),l.length-i=k→∀j,i≤j→j<gr l i→(hj:j<l.length)→l[j].g=true:=by
 intro k
 induction k with
 | zero=>intro i hk j h1 h2 h3;omega
 | succ k ih =>
  intro i hk j h1 h2 h3;have hi:i<l.length:=by omega
  cases hg:l[i].g with
  | true =>
   by_cases e:j=i
   ·subst e;exact hg
   ·exact ih (i+1) (by omega) j (by omega) (by rw[←AZ hi hg];exact h2) h3
  | false=>rw[CI hi hg]at h2;omega
def wS(n last:Int):List R4→Int
 | []=>aa (n-last)
 | r::t=>wS (aa (n+aa (r.w+r.s))) (if r.f then last else r.s) t
def cX(l:List R4):Int:=wS 0 0 l
def lw(n:Int):List R4→Int
 | []=>n
 | r::t=>lw (aa (n+aa (r.w+r.s))) t
def de(x:Int):List R4→Int
 | []=>x
 | r::t=>de (if r.f then x else r.s) t
theorem FV:∀(l:List R4) (n last:Int),wS n last l=aa (lw n l-de last l)
 | [],n,last=>rfl
 | r::t,n,last=>by unfold wS lw de;exact FV t _ _
theorem uN:∀(l m:List R4) (x:Int),de x (l++m)=de (de x l) m
 | [],m,x=>rfl
 | r::t,m,x=>by simp only[List.cons_append,de];exact uN t m _
theorem acS(n:Int):aa (aa n)=aa n:=by
 have : -9223372036854775808≤aa n∧aa n≤9223372036854775807:=by unfold aa;rw[IntKind.wrap_i64];omega
 exact bj this.1 this.2
section
variable{K:Kn}{n:Nat}{L:List ay}
theorem abk:∀(m:Nat) (i:Int),0≤i→i≤L.length→L.length<m+i.toNat→(L.length:Int)<9223372036854775807→sA K n L m i=some ((gr (L.map vI) i.toNat:Nat):Int):=by
 intro m
 induction m with
 | zero=>intro i h0 h1 h2;omega
 | succ m ih =>
  intro i h0 h1 h2 hL;show sW K n L (sA K n L m) i=_;unfold sW;by_cases hi:i<(L.length:Int)
  ·have hk:i.toNat<L.length:=by omega
   rw[if_pos (by simpa using hi),bT h0 hi,aZ];unfold sU;have hv:=qR hk;cases hg:(L.getD i.toNat default).Glued with
   | true =>
    rw[if_pos rfl,bj (by omega) (by omega),ih (i+1) (by omega) (by omega) (by omega) hL];rw[AZ (l:=L.map vI) (i:=i.toNat) (by simpa using hk) (by rw[hv];exact hg),show(i+1).toNat=i.toNat+1 by omega]
   | false =>
    rw[if_neg (by simp)];rw[CI (l:=L.map vI) (i:=i.toNat) (by simpa using hk) (by rw[hv];exact hg)];congr 1;omega
  ·rw[if_neg (by simpa using hi)];unfold sU;rw[if_neg (by simp),KZ (by simp;omega)];congr 1;omega
theorem Fj{i:Int}(h0:0≤i)(h1:i<L.length)(hn:L.length<n)(hL:(L.length:Int)<9223372036854775807):n9 K n L i=some ((gr (L.map vI) (i.toNat+1):Nat):Int):=by
 unfold n9;rw[bj (by omega) (by omega),abk n (i+1) (by omega) (by omega) (by omega) hL,show(i+1).toNat=i.toNat+1 by omega]
theorem aaB:∀(m:Nat) (k:Nat),k≤L.length→k<m→(L.length:Int)<9223372036854775807 →
  ∃j:Int,su K n L m ((k:Int)-1)=some j∧((j = -1∧∀x,de x ((L.map vI).take k)=x)∨(0≤j∧j<k∧∀x,de x ((L.map vI).take k)=(L.getD j.toNat default).Space)):=by
 intro m
 induction m with
 | zero=>intro k _ h;omega
 | succ m ih =>
  intro k hk hm hL;show ∃j,rX K n L (su K n L m) ((k:Int)-1)=some j∧_;unfold rX;cases k with
  | zero=>rw[if_neg (by simp)];exact⟨-1,rfl,.inl ⟨rfl,fun x=>by simp[de]⟩⟩
  | succ k =>
   have e:(((k+1:Nat):Int)-1)=(k:Int):=by omega
   rw[e,if_pos (by simp),bT (by omega) (by omega),aZ,Int.toNat_natCast];have hkl:k<L.length:=by omega
   have hv:=qR hkl;have ht:(L.map vI).take (k+1)=(L.map vI).take k++[vI (L.getD k default)]:=by
    rw[List.take_add_one,List.getElem?_eq_getElem (by simpa using hkl),hv];rfl
   cases hf:(L.getD k default).Forced with
   | false =>
    rw[show(!false)=true from rfl,if_pos rfl];refine⟨(k:Int),rfl,.inr ⟨by omega,by omega,fun x=>?_⟩⟩;rw[ht,uN,Int.toNat_natCast];simp only[de,vI,hf,Bool.false_eq_true,if_false]
   | true =>
    rw[show(!true)=false from rfl,if_neg (by simp),bj (by omega) (by omega)];obtain⟨j,h1,h2⟩:=ih k (by omega) (by omega) hL;refine⟨j,h1,?_⟩;have hx:∀x,de x ((L.map vI).take (k+1))=de x ((L.map vI).take k):=fun x=>by
     rw[ht,uN];simp only[de,vI,hf,if_true]
    obtain⟨a,b⟩|⟨a,b,c⟩:=h2
    ·exact .inl ⟨a,fun x=>(hx x).trans (b x)⟩
    ·exact .inr ⟨a,by omega,fun x=>(hx x).trans (c x)⟩
theorem Wj(hn:L.length<n)(hL:(L.length:Int)<9223372036854775807):∃j:Int,rO K n L=some j∧((j = -1∧∀x,de x (L.map vI)=x)∨(0≤j∧j<L.length∧∀x,de x (L.map vI)=(L.getD j.toNat default).Space)):=by
 unfold rO;rw[bj (by omega) (by omega)];obtain⟨j,h1,h2⟩:=aaB (K:=K) (n:=n) (L:=L) n L.length (Nat.le_refl _) hn hL;refine⟨j,h1,?_⟩;rw[List.take_of_length_le (by simp)]at h2;exact h2
theorem ac8(hn:L.length<n)(hL:(L.length:Int)<9223372036854775807):∀(m:Nat) (x i:Int),0≤i→i≤L.length→L.length<m+i.toNat→aa x=x →
  lw 0 (L.map vI)=lw x ((L.map vI).drop i.toNat)→rM K n L m x i=some (cX (L.map vI)):=by
 intro m
 induction m with
 | zero=>intro x i h0 h1 h2;omega
 | succ m ih =>
  intro x i h0 h1 h2 hx hs;show rL K n L (rM K n L m) x i=_;unfold rL;by_cases hi:i<(L.length:Int)
  ·have hk:i.toNat<L.length:=by omega
   rw[if_pos (by simpa using hi),bT h0 hi,aZ,bj (n:=i+1) (by omega) (by omega)];refine ih _ (i+1) (by omega) (by omega) (by omega) (acS _) ?_;rw[hs,List.drop_eq_getElem_cons (by simpa using hk),qR hk,show(i+1).toNat=i.toNat+1 by omega];rfl
  ·rw[if_neg (by simpa using hi)];rw[List.drop_eq_nil_of_le (by simp;omega)]at hs;simp only[lw]at hs;obtain⟨j,h3,h4⟩:=Wj (K:=K) (L:=L) hn hL;rw[h3];simp only[Option.bind_some,w7];unfold cX;rw[FV,hs];obtain⟨rfl,h5⟩|⟨h5,h6,h7⟩:=h4
   ·rw[if_neg (by simp),h5];simp[hx]
   ·rw[if_pos (by simpa using h5),bT h5 h6,aZ,h7]
theorem B3(hn:L.length<n)(hL:(L.length:Int)<9223372036854775807):mG K n L=some (cX (L.map vI)):=by
 unfold mG;exact ac8 hn hL n 0 0 (by omega) (by omega) (by simpa using hn) (by unfold aa;rw[IntKind.wrap_i64];omega) rfl
end
def sl{α:Type}(l:List α)(a b:Nat):List α:=List.drop a (List.take b l)
theorem wx{α β:Type}(f:α→β)(l:List α)(a b:Nat):(sl l a b).map f=sl (l.map f) a b:=by unfold sl;rw[List.map_drop,List.map_take]
theorem tQ{α:Type}(l:List α)(a b:Nat):(sl l a b).length≤l.length:=by unfold sl;simp;omega
def lE(l:List R4)(w:Int)(a:Nat):Nat→Nat→Nat
 | 0,e=>e
 | m+1,e=>if e<l.length∧(l.getD (e-1) default).f=false∧¬ cX (sl l a (gr l (e+1)))>w then lE l w a m (gr l (e+1)) else e
def bM(l:List R4)(w:Int):Nat→Nat→List Nat
 | 0,_=>[]
 | m+1,a=>if a<l.length then a::bM l w m (lE l w a l.length (gr l (a+1))) else []
theorem Dg(l:List R4)(w:Int)(a:Nat):∀m e,e≤lE l w a m e
 | 0,e=>Nat.le_refl _
 | m+1,e=>by
  unfold lE;split
  ·have:=Dg l w a m (gr l (e+1));have:=jL l (e+1);omega
  ·exact Nat.le_refl _
theorem MR(l:List R4)(w:Int)(a:Nat):∀m e,e≤l.length→lE l w a m e≤l.length
 | 0,e,h=>h
 | m+1,e,h=>by
  unfold lE;split
  ·rename_i h1;exact MR l w a m _ (rH (by omega))
  ·exact h
theorem XE(l:List R4)(w:Int)(a:Nat):∀(m m' e:Nat),l.length≤m+e→l.length≤m'+e→lE l w a m e=lE l w a m' e:=by
 intro m
 induction m with
 | zero =>
  intro m' e h h';cases m' with
  | zero=>rfl
  | succ m'=>unfold lE;rw[if_neg (by omega)]
 | succ m ih =>
  intro m' e h h';cases m' with
  | zero=>unfold lE;rw[if_neg (by omega)]
  | succ m' =>
   unfold lE;split
   ·have:=jL l (e+1);exact ih m' _ (by omega) (by omega)
   ·rfl
end Go.Proofs.YtnpmlepplfaijaaGreat
namespace Go.Proofs.YtnpmlepplfaijaaGreat
set_option linter.all false
open Go.RowKit
theorem PU(l:List R4)(w:Int):∀(m m' a:Nat),l.length<m+a→l.length<m'+a→bM l w m a=bM l w m' a:=by
 intro m
 induction m with
 | zero =>
  intro m' a h h';cases m' with
  | zero=>rfl
  | succ m'=>unfold bM;rw[if_neg (by omega)]
 | succ m ih =>
  intro m' a h h';cases m' with
  | zero=>unfold bM;rw[if_neg (by omega)]
  | succ m' =>
   unfold bM;split
   ·have:=Dg l w a l.length (gr l (a+1));have:=jL l (a+1);rw[ih m' _ (by omega) (by omega)]
   ·rfl
section
variable{K:Kn}{n:Nat}{L:List ay}{w:Int}
theorem Qt(hn:L.length<n)(hL:(L.length:Int)<9223372036854775807)(a:Nat)(out:List Int)(C:Int→List Int→Option (List Int)):∀(m e:Nat),1≤e→a≤e→e≤L.length→L.length<m+e →
  rp K n L w a out C m e=C ((lE (L.map vI) w a m e:Nat):Int) (out++[(a:Int)]):=by
 intro m
 induction m with
 | zero=>intro e h0 h1 h2 h3;omega
 | succ m ih =>
  intro e h0 h1 h2 h3;show rz K n L w a out C (rp K n L w a out C m) e=_;unfold rz lE;by_cases he:e<L.length
  ·rw[if_pos (by simpa using he),bj (by omega) (by omega),bT (by omega) (by omega),aZ];unfold q7;have e1:((e:Int)-1).toNat=e-1:=by omega
   have hv:=qR (L:=L) (k:=e-1) (by omega);have hf:((L.map vI).getD (e-1) default).f=(L.getD ((e:Int)-1).toNat default).Forced:=by
    rw[bV (by simp;omega),hv,e1];rfl
   cases hb:(L.getD ((e:Int)-1).toNat default).Forced with
   | true =>
    rw[show(!true)=false from rfl,if_neg (by simp),if_neg (by rw[hf,hb];simp)];rfl
   | false =>
    have hg:=rH (l:=L.map vI) (i:=e+1) (by simp;omega);have hge:=jL (L.map vI) (e+1);simp only[List.length_map]at hg;rw[show(!false)=true from rfl,if_pos rfl,Fj (by omega) (by omega) hn hL];simp only[Option.bind_some,Int.toNat_natCast];rw[show cL (a:Int) ((gr (L.map vI) (e+1):Nat):Int) L.length=true by simp only[cL,Bool.and_eq_true,decide_eq_true_eq];omega,aZ];have hs:List.drop a (List.take (gr (L.map vI) (e+1)) L)=sl L a (gr (L.map vI) (e+1)):=rfl;rw[hs,B3 (by have:=tQ L a (gr (L.map vI) (e+1));omega) (by have:=tQ L a (gr (L.map vI) (e+1));omega),wx];simp only[Option.bind_some];by_cases hw:cX (sl (L.map vI) a (gr (L.map vI) (e+1)))>w
    ·rw[if_pos (by simpa using hw),if_neg (by simp[hw])];rfl
    ·rw[if_neg (by simpa using hw),if_pos ⟨by simpa using he,by rw[hf,hb],hw⟩];exact ih _ (by omega) (by omega) (by omega) (by omega)
  ·rw[if_neg (by simpa using he),if_neg (by simp;omega)];unfold q7;rw[if_neg (by simp)];rfl
theorem acv(hn:L.length<n)(hL:(L.length:Int)≤1000000):∀(m a:Nat) (out:List Int),a≤L.length→out.length≤a→L.length<m+a→sP K n L w m a out=some (out++(bM (L.map vI) w m a).map fun (k:Nat)=>(k:Int)):=by
 intro m
 induction m with
 | zero=>intro a out h1 h2 h3;omega
 | succ m ih =>
  intro a out h1 h2 h3;show sQ K n L w (sP K n L w m) a out=_;unfold sQ bM;by_cases ha:a<L.length
  ·rw[if_pos (by simpa using ha),if_pos (by simpa using ha),cO (by simp;omega) (by omega),aZ,Fj (by omega) (by omega) hn (by omega)];simp only[Option.bind_some,Int.toNat_natCast];have hg:=rH (l:=L.map vI) (i:=a+1) (by simp;omega);have hge:=jL (L.map vI) (a+1);simp only[List.length_map]at hg;rw[Qt hn (by omega) a out _ n _ (by omega) (by omega) hg (by omega)];rw[XE (L.map vI) w a n (L.map vI).length _ (by simp;omega) (by simp)];have h5:=MR (L.map vI) w a (L.map vI).length (gr (L.map vI) (a+1)) (by simpa using hg);have h6:=Dg (L.map vI) w a (L.map vI).length (gr (L.map vI) (a+1));simp only[List.length_map]at h5 h6⊢;rw[ih _ _ h5 (by simp;omega) (by omega)];simp[List.append_assoc]
  ·rw[if_neg (by simpa using ha),if_neg (by simpa using ha)];simp
theorem Uc(hn:L.length<n)(hL:(L.length:Int)≤1000000):ou K n L w=some ((bM (L.map vI) w (L.length+1) 0).map fun (k:Nat)=>(k:Int)):=by
 unfold ou;rw[show(0:Int)=((0:Nat):Int) from rfl,acv hn hL n 0 [] (by omega) (by simp) (by omega),PU (L.map vI) w n (L.length+1) 0 (by simp;omega) (by simp)];simp
end
end Go.Proofs.YtnpmlepplfaijaaGreat
namespace Go.Proofs.YtnpmlepplfaijaaGreat
set_option linter.all false
open Go.RowKit
noncomputable section
def jl(o:Int):aw→List aw→Nat
 | _,[]=>0
 | a,b::r=>bif b.Kind == 1&&(b.Of == o&&!dn a b) then jl o b r+1 else 0
theorem pm(o:Int):∀(l:List aw) (a:aw),jl o a l≤l.length
 | [],_=>Nat.le_refl _
 | b::r,a=>by
  unfold jl;cases (b.Kind == 1&&(b.Of == o&&!dn a b)) with
  | true=>have:=pm o r b;simp;omega
  | false=>simp
def fw(p:Option aw)(e:aw):Bool:=match p with
 | none=>false
 | some q=>q.Kind != 2&&!dn q e
def runM(x:ay)(e:aw)(g:Bool):ay:={ x with Node:=e.Box.Node,Style:=e.Box.Style,Glued:=g }
def cM(pl:ai→ay):Nat→Option aw→List aw→List ay
 | 0,_,_=>[]
 | _+1,_,[]=>[]
 | m+1,p,e::r =>
  bif e.Kind == 2 then runM { cq with Forced:=true } e (fw p e)::cM pl m (some e) r
  else bif e.Kind == 3 then runM (pl e.Box) e (fw p e)::cM pl m (some e) r
  else runM (dm (e::r.take (jl e.Of e r))) e (fw p e)::cM pl m (some (du (e::r.take (jl e.Of e r)))) (r.drop (jl e.Of e r))
def cm(L:List aw)(i:Nat):Option aw:=if i=0 then none else some (L.getD (i-1) default)
theorem Ap{α:Type}[Inhabited α]{L:List α}{i k:Nat}(h:i<L.length):sl L i (i+1+k)=L.getD i default::(L.drop (i+1)).take k:=by
 unfold sl;rw[List.drop_take,show i+1+k-i=k+1 by omega,List.drop_eq_getElem_cons h,List.take_succ_cons,bV h]
theorem DE{α:Type}{L:List α}{a b:Nat}{x:α}(h:x∈sl L a b):x∈L:=by
 unfold sl at h;exact List.mem_of_mem_take (List.mem_of_mem_drop h)
theorem yy{α:Type}{L:List α}{a b:Nat}(h:b≤L.length):(sl L a b).length=b-a:=by unfold sl;simp;omega
theorem ES{L:List aw}{i k:Nat}(h:i+k<L.length):du (L.getD i default::(L.drop (i+1)).take k)=L.getD (i+k) default:=by
 rw[←Ap (by omega)];unfold du;have hl:=yy (L:=L) (a:=i) (b:=i+1+k) (by omega);rw[hl,bV (by rw[hl];omega),bV h];unfold sl;rw[List.getElem_drop,List.getElem_take];congr 1;omega
section
variable{K:Kn}{n:Nat}{v2:Fv}{L:List aw}{pl:ai→ay}
theorem Q1(ho:∀e∈L,fp e)(hl:L.length≤2000)(hn:8010≤n)(i:Nat)(acc:List ay)(g:Bool)(C:Int→List ay→Option (List ay))(hi:i<L.length):∀(m x:Nat),i<x→x≤L.length→L.length<m+x →
  pE K n v2 L (i:Int) acc g C m (x:Int)=jZ K n v2 L i acc g C ((x+jl (L.getD i default).Of (L.getD (x-1) default) (L.drop x):Nat):Int) (dm (sl L i (x+jl (L.getD i default).Of (L.getD (x-1) default) (L.drop x)))):=by
 have fin:∀y:Nat,i<y→y≤L.length→∀(D:Int→Option (List ay)),jY K n v2 L (i:Int) acc g (y:Int) C D false=jZ K n v2 L i acc g C (y:Int) (dm (sl L i y)):=fun y h1 h2 D=>by
  unfold jY;have hsl:List.drop i (List.take y L)=sl L i y:=rfl;have hlen:=yy (L:=L) (a:=i) (b:=y) h2;rw[if_neg (by simp),show cL (i:Int) (y:Int) L.length=true by simp only[cL,Bool.and_eq_true,decide_eq_true_eq];omega,aZ];simp only[Int.toNat_natCast];rw[hsl,Ef (by intro e;rw[e]at hlen;simp at hlen;omega) (by omega) (fun e he=>ho e (DE he)) hn];rfl
 intro m
 induction m with
 | zero=>intro x h1 h2 h3;omega
 | succ m ih =>
  intro x h1 h2 h3;show qK K n v2 L i acc g C (pE K n v2 L i acc g C m) x=_;unfold qK;by_cases hx:x<L.length
  ·have hdr:L.drop x=L.getD x default::L.drop (x+1):=by rw[List.drop_eq_getElem_cons hx,bV hx]
   have hb:L.getD x default∈L:=by rw[bV hx];exact List.getElem_mem _
   have ha:L.getD (x-1) default∈L:=by rw[bV (by omega)];exact List.getElem_mem _
   have e1:aa ((x:Int)-1)=((x-1:Nat):Int):=by rw[bj (by omega) (by omega)];omega
   rw[if_pos (by simpa using hx),bT (by omega) (by omega)];simp only[aZ,Int.toNat_natCast,e1];rw[hdr];unfold jl;have nog:∀{b:Bool},b=false→jY K n v2 L (i:Int) acc g (x:Int) C (pE K n v2 L i acc g C m) false=jZ K n v2 L i acc g C ((x+(bif b then jl (L.getD i default).Of (L.getD x default) (L.drop (x+1))+1 else 0):Nat):Int) (dm (sl L i (x+(bif b then jl (L.getD i default).Of (L.getD x default) (L.drop (x+1))+1 else 0)))):=fun {b} hb=>by
    subst hb;exact fin x h1 h2 _
   cases hk:((L.getD x default).Kind == 1) with
   | false=>rw[if_neg (by simp)];exact nog rfl
   | true =>
    rw[if_pos rfl];cases hof:((L.getD x default).Of == (L.getD i default).Of) with
    | false=>rw[if_neg (by simp)];exact nog rfl
    | true =>
     rw[if_pos rfl,bT (by omega) (by omega),aZ,sT K (by omega) (ho _ ha).ch (ho _ hb).ch];simp only[Option.bind_some];cases hbr:dn (L.getD (x-1) default) (L.getD x default) with
     | true=>exact nog rfl
     | false =>
      unfold jY;rw[show(!false)=true from rfl,if_pos rfl,bj (by omega) (by omega),show(x:Int)+1=((x+1:Nat):Int) by omega,ih (x+1) (by omega) (by omega) (by omega)];simp only[Nat.add_sub_cancel,Bool.and_self,cond_true];rw[show x+1+jl (L.getD i default).Of (L.getD x default) (L.drop (x+1))=x+(jl (L.getD i default).Of (L.getD x default) (L.drop (x+1))+1) by omega]
  ·rw[if_neg (by simpa using hx),List.drop_eq_nil_of_le (by omega)];unfold jl;exact fin x h1 h2 _
theorem Eg(i:Nat)(acc:List ay)(g:Bool)(C:Int→List ay→Option (List ay))(hacc:acc.length≤1000000)(y:Int)(x:ay):jZ K n v2 L (i:Int) acc g C y x=C y (acc++[runM x (L.getD i default) g]):=by
 unfold jZ;simp only[Option.bind_some,Int.toNat_natCast];rw[cO (by simp;omega) (by omega),aZ];rfl
theorem Pu(ho:∀e∈L,fp e)(hl:L.length≤2000)(hn:8010≤n)(hpl:∀e∈L,e.Kind=3→K.rP v2 e.Box=some (pl e.Box)):∀(m i:Nat) (acc:List ay),i≤L.length→L.length<m+i→acc.length≤i →
  ph K n v2 L m (i:Int) acc=some (acc++cM pl m (cm L i) (L.drop i)):=by
 intro m
 induction m with
 | zero=>intro i acc h1 h2;omega
 | succ m ih =>
  intro i acc h1 h2 h3;show s6 K n v2 L (ph K n v2 L m) i acc=_;unfold s6;by_cases hi:i<L.length
  ·have hdr:L.drop i=L.getD i default::L.drop (i+1):=by rw[List.drop_eq_getElem_cons hi,bV hi]
   have hb:L.getD i default∈L:=by rw[bV hi];exact List.getElem_mem _
   rw[if_pos (by simpa using hi),bT (by omega) (by omega)];simp only[aZ,Int.toNat_natCast];rw[hdr];have hw:aa ((i:Int)+1)=((i+1:Nat):Int):=by rw[bj (by omega) (by omega)];omega
   have hprev:cm L (i+1)=some (L.getD i default):=by unfold cm;rw[if_neg (by omega),Nat.add_sub_cancel]
   have key:∀g,g=fw (cm L i) (L.getD i default)→pD K n v2 L (i:Int) acc (ph K n v2 L m) g=some (acc++cM pl (m+1) (cm L i) (L.getD i default::L.drop (i+1))):=by
    intro g hg;unfold pD cM;simp only[Option.bind_some,Int.toNat_natCast];rw[←hg];cases k2:((L.getD i default).Kind == 2) with
    | true =>
     rw[if_pos rfl,Eg i acc g _ (by omega),hw,ih (i+1) _ (by omega) (by omega) (by simp;omega),hprev];simp[List.append_assoc]
    | false =>
     rw[if_neg (by simp)];cases k3:((L.getD i default).Kind == 3) with
     | true =>
      rw[if_pos rfl,hpl _ hb (by simpa using k3)];simp only[Option.bind_some];rw[Eg i acc g _ (by omega),hw,ih (i+1) _ (by omega) (by omega) (by simp;omega),hprev];simp[List.append_assoc]
     | false =>
      rw[if_neg (by simp),hw,Q1 ho hl hn i acc g _ hi n (i+1) (by omega) (by omega) (by omega),Nat.add_sub_cancel];simp only[cond_false];have hj:=pm (L.getD i default).Of (L.drop (i+1)) (L.getD i default);rw[List.length_drop]at hj;generalize jl (L.getD i default).Of (L.getD i default) (L.drop (i+1))=k at *;rw[Eg i acc g _ (by omega),ih (i+1+k) _ (by omega) (by omega) (by simp;omega),Ap hi,ES (by omega),List.drop_drop];have hp:cm L (i+1+k)=some (L.getD (i+k) default):=by unfold cm;rw[if_neg (by omega)];congr 2;omega
      rw[hp];simp[List.append_assoc]
   by_cases h0:i=0
   ·rw[if_neg (by simp;omega)];exact key false (by unfold cm;rw[if_pos h0];rfl)
   ·have ha:L.getD (i-1) default∈L:=by rw[bV (by omega)];exact List.getElem_mem _
    have e1:aa ((i:Int)-1)=((i-1:Nat):Int):=by rw[bj (by omega) (by omega)];omega
    have hp:cm L i=some (L.getD (i-1) default):=by unfold cm;rw[if_neg h0]
    rw[if_pos (by simp;omega),e1,bT (by omega) (by omega)];simp only[aZ,Int.toNat_natCast];by_cases hk:((L.getD (i-1) default).Kind != 2)=true
    ·rw[if_pos hk,sT K (by omega) (ho _ ha).ch (ho _ hb).ch];simp only[Option.bind_some];exact key _ (by rw[hp];show _=((L.getD (i-1) default).Kind != 2&&!dn (L.getD (i-1) default) (L.getD i default));rw[hk];rfl)
    ·rw[if_neg hk];have hk':((L.getD (i-1) default).Kind != 2)=false:=by simpa using hk
     exact key false (by rw[hp];show _=((L.getD (i-1) default).Kind != 2&&!dn (L.getD (i-1) default) (L.getD i default));rw[hk'];rfl)
  ·rw[if_neg (by simpa using hi),List.drop_eq_nil_of_le (by omega)];simp[cM]
theorem Oj(pl:ai→ay):∀(m m':Nat) (p:Option aw) (l:List aw),l.length<m→l.length<m'→cM pl m p l=cM pl m' p l:=by
 intro m
 induction m with
 | zero=>intro m' p l h;omega
 | succ m ih =>
  intro m' p l h h';cases m' with
  | zero=>omega
  | succ m' =>
   cases l with
   | nil=>rfl
   | cons e r =>
    simp only[List.length_cons]at h h';unfold cM;rw[ih m' (some e) r (by omega) (by omega),ih m' _ (r.drop (jl e.Of e r)) (by simp;omega) (by simp;omega)]
theorem CX(pl:ai→ay):∀(m:Nat) (p:Option aw) (l:List aw),(cM pl m p l).length≤l.length:=by
 intro m
 induction m with
 | zero=>intro p l;simp[cM]
 | succ m ih =>
  intro p l;cases l with
  | nil=>simp[cM]
  | cons e r =>
   unfold cM;have h1:=ih (some e) r;have h2:=ih (some (du (e::r.take (jl e.Of e r)))) (r.drop (jl e.Of e r));rw[List.length_drop]at h2;cases (e.Kind == 2) with
   | true=>simp;omega
   | false =>
    cases (e.Kind == 3) with
    | true=>simp;omega
    | false=>simp;omega
def d8(pl:ai→ay)(L:List aw):List ay:=cM pl (L.length+1) none L
end
theorem RO{N d:Nat}{B:List ai}{v2:Fv}{pl:ai→ay}(hD:Dp d B)(hc:bL d B≤2000)(hN:d+9000≤N)(hpl:∀e∈cd d B,e.Kind=3→(KN N).rP v2 e.Box=some (pl e.Box)):
  tB (KN N) N B v2=some (d8 pl (cd d B)):=by
 have hlen:=zW d B;unfold tB;rw[D2 hD (by omega) (by omega)];simp only[Option.bind_some];rw[show(0:Int)=((0:Nat):Int) from rfl,Pu (pl:=pl) (yc d B) (by omega) (by omega) hpl N 0 [] (by omega) (by omega) (by simp),List.drop_zero,List.nil_append];unfold d8;rw[Oj pl N ((cd d B).length+1) _ _ (by omega) (by omega)];rfl
end
end Go.Proofs.YtnpmlepplfaijaaGreat
namespace Go.Proofs.YtnpmlepplfaijaaGreat
set_option linter.all false
open Go.RowKit
noncomputable section
structure EK(e:aw):Prop where
 kind:e.Kind=1∨e.Kind=2∨e.Kind=3
 sp:e.Kind=1→dd e.Char=(e.Char == 32)
theorem Mu(d:Nat)(bx:List ai):∀e∈cd d bx,EK e :=
 A4 (P:=EK) (fun b num r _ hs=>⟨.inl rfl,fun _=>by
   show dd r=(r == 32);rw[hs];cases h:(r == 32) with
   | false=>rfl
   | true =>
    have e : r=32:=by simpa using h
    subst e;cases hs⟩) (fun _ _=>⟨.inr (.inl rfl),fun h=>by cases h⟩) (fun _ _ _=>⟨.inl rfl,fun _=>rfl⟩) (fun _ _ _=>⟨.inl rfl,fun _=>rfl⟩) (fun _ _=>⟨.inr (.inl rfl),fun h=>by cases h⟩) (fun _ _=>⟨.inr (.inr rfl),fun h=>by cases h⟩) d bx (0,[]) (fun x hx=>by cases hx)
def kj(e:aw):Bool:=e.Box.Style.WhiteSpace != 1&&e.Box.Style.WhiteSpace != 2
section
variable{K:Kn}{n:Nat}
theorem yQ{e:aw}{t:aM}(h:fN e t):lc K n t=some (kj e):=by
 unfold lc wd kj;rw[h.box];cases h1:(e.Box.Style.WhiteSpace != 1)<;>cases h2:(e.Box.Style.WhiteSpace != 2)<;>simp
theorem Y6(hn:101≤n){a b:aw}{ta tb:aM}(ha:fN a ta)(hb:fN b tb)(ka:EK a)(kb:EK b):w9 K n ta tb=some (dn a b):=by
 have j1t:lB K n ta tb true=some false:=rfl;have nb:fR b=(b.Kind == 1&&kj b):=rfl;have na:fR a=(a.Kind == 1&&kj a):=rfl;have j4:∀c:Bool,qf K n ta tb c=bif c then some false else ov K n ta.Char tb.Char:=fun c=>by
  unfold qf;cases c
  ·cases ov K n ta.Char tb.Char<;>rfl
  ·rfl
 have j2t:pG K n ta tb true=some ((ta.Block||kj a)&&(tb.Block||kj b)):=by
  unfold pG mY;simp only[yQ ha,yQ hb,Option.bind_some];cases ta.Block<;>cases tb.Block<;>cases kj a<;>cases kj b<;>rfl
 unfold w9;rw[ha.forced,hb.forced];unfold dn;rcases ka.kind with k|k|k
 ·rw[show(a.Kind == 2)=false by rw[k];rfl,if_neg (by simp)];rcases kb.kind with q|q|q
  ·rw[show(b.Kind == 2)=false by rw[q];rfl,show(a.Kind == 3)=false by rw[k];rfl,show(b.Kind == 3)=false by rw[q];rfl];unfold lB;rw[if_neg (by simp),ha.block,hb.block,show(a.Kind == 3)=false by rw[k];rfl,show(b.Kind == 3)=false by rw[q];rfl,if_neg (by simp)];unfold pG;rw[if_neg (by simp),yQ ha,yQ hb,yp];simp only[Option.bind_some,j4];rw[ha.char k,hb.char q,aco hn,ka.sp k,na,nb,show(a.Kind == 1)=true by rw[k];rfl,show(b.Kind == 1)=true by rw[q];rfl,show(a.Kind != 1)=false by rw[k];rfl,show(b.Kind != 1)=false by rw[q];rfl];cases kj a<;>cases kj b<;>cases h:(a.Char == 32)<;>simp[bne,h]
  ·rw[show(b.Kind == 2)=true by rw[q];rfl,j1t,show(a.Kind == 3)=false by rw[k];rfl,show(b.Kind == 3)=false by rw[q];rfl,show(b.Kind != 1)=true by rw[q];rfl,show(a.Kind != 1)=false by rw[k];rfl];rfl
  ·rw[show(b.Kind == 2)=false by rw[q];rfl,show(a.Kind == 3)=false by rw[k];rfl,show(b.Kind == 3)=true by rw[q];rfl];unfold lB;rw[if_neg (by simp),ha.block,hb.block,show(a.Kind == 3)=false by rw[k];rfl,show(b.Kind == 3)=true by rw[q];rfl,if_neg (by simp),j2t,ha.block,hb.block,na,show(a.Kind == 3)=false by rw[k];rfl,show(b.Kind == 3)=true by rw[q];rfl,show(a.Kind == 1)=true by rw[k];rfl];rfl
 ·rw[show(a.Kind == 2)=true by rw[k];rfl,if_pos rfl,j1t,show(a.Kind == 3)=false by rw[k];rfl,na,show(a.Kind == 1)=false by rw[k];rfl,show(a.Kind != 1)=true by rw[k];rfl];cases (b.Kind == 3)<;>rfl
 ·rw[show(a.Kind == 2)=false by rw[k];rfl,if_neg (by simp),show(a.Kind == 3)=true by rw[k];rfl];rcases kb.kind with q|q|q
  ·rw[show(b.Kind == 2)=false by rw[q];rfl,show(b.Kind == 3)=false by rw[q];rfl];unfold lB;rw[if_neg (by simp),ha.block,show(a.Kind == 3)=true by rw[k];rfl,if_pos rfl,j2t,ha.block,hb.block,nb,show(a.Kind == 3)=true by rw[k];rfl,show(b.Kind == 3)=false by rw[q];rfl,show(b.Kind == 1)=true by rw[q];rfl];rfl
  ·rw[show(b.Kind == 2)=true by rw[q];rfl,j1t,nb,show(b.Kind == 3)=false by rw[q];rfl,show(b.Kind == 1)=false by rw[q];rfl];rfl
  ·rw[show(b.Kind == 2)=false by rw[q];rfl,show(b.Kind == 3)=true by rw[q];rfl];unfold lB;rw[if_neg (by simp),ha.block,show(a.Kind == 3)=true by rw[k];rfl,if_pos rfl,j2t,ha.block,hb.block,show(a.Kind == 3)=true by rw[k];rfl,show(b.Kind == 3)=true by rw[q];rfl];rfl
end
def ik(p:Option aw)(e:aw):Bool:=match p with
 | none=>false
 | some q=>q.Kind == 1&&(e.Kind == 1&&(e.Of == q.Of&&!dn q e))
abbrev RT:=aP×Option (List aM)
def gW(acc:List RT)(t:aM):List RT:=acc.set (acc.length-1) ((acc.getD (acc.length-1) default).1,some ((((acc.getD (acc.length-1) default).2).getD [])++[t]))
def qq(p:Option aw)(e:aw)(t:aM):RT:=({ dW with Glued:=fw p e,Forced:=t.Forced },some [t])
def gM:Option aw→List aw→List aM→List RT→List RT
 | p,e::r,t::s,acc=>gM (some e) r s (bif ik p e then gW acc t else acc++[qq p e t])
 | _,_,_,acc=>acc
end
end Go.Proofs.YtnpmlepplfaijaaGreat
namespace Go.Proofs.YtnpmlepplfaijaaGreat
set_option linter.all false
open Go.RowKit
noncomputable section
def db:List aw→List ai
 | []=>[]
 | e::r=>bif e.Kind == 3 then e.Box::db r else db r
theorem Nq{e:aw}(h:(e.Kind == 3)=true)(r:List aw):db (e::r)=e.Box::db r:=by
 show(bif e.Kind == 3 then e.Box::db r else db r)=_;rw[h];rfl
theorem uB{e:aw}(h:(e.Kind == 3)=false)(r:List aw):db (e::r)=db r:=by
 show(bif e.Kind == 3 then e.Box::db r else db r)=_;rw[h];rfl
theorem Em(o:Int):∀(l:List aw) (a:aw),db (l.drop (jl o a l))=db l
 | [],_=>rfl
 | b::r,a=>by
  unfold jl;cases hc:(b.Kind == 1&&(b.Of == o&&!dn a b)) with
  | false=>rfl
  | true =>
   simp only[cond_true,List.drop_succ_cons];rw[Em o r b];simp only[Bool.and_eq_true,beq_iff_eq]at hc;exact(uB (by rw[hc.1];rfl) r).symm
def dF(w:Int):ay:={ cq with Width:=w }
section
variable{K:Kn}{n:Nat}{v2:cg}{L:List aw}{W:ai→Int×Int}
theorem abe(ho:∀e∈L,fp e)(hl:L.length≤2000)(hn:8010≤n)(i:Nat)(mo:List Int)(acc:List ay)(g:Bool)(C:Int→List Int→List ay→Option (List ay×List Int))(hi:i<L.length):∀(m x:Nat),i<x→x≤L.length→L.length<m+x →
  qj K n v2 L (i:Int) mo acc g C m (x:Int)=kg K n v2 L i acc g C ((x+jl (L.getD i default).Of (L.getD (x-1) default) (L.drop x):Nat):Int) mo (dm (sl L i (x+jl (L.getD i default).Of (L.getD (x-1) default) (L.drop x)))):=by
 have fin:∀y:Nat,i<y→y≤L.length→∀(D:Int→Option (List ay×List Int)),jP K n v2 L (i:Int) mo acc g (y:Int) C D false=kg K n v2 L i acc g C (y:Int) mo (dm (sl L i y)):=fun y h1 h2 D=>by
  unfold jP;have hsl:List.drop i (List.take y L)=sl L i y:=rfl;have hlen:=yy (L:=L) (a:=i) (b:=y) h2;rw[if_neg (by simp),show cL (i:Int) (y:Int) L.length=true by simp only[cL,Bool.and_eq_true,decide_eq_true_eq];omega,aZ];simp only[Int.toNat_natCast];rw[hsl,Ef (by intro e;rw[e]at hlen;simp at hlen;omega) (by omega) (fun e he=>ho e (DE he)) hn];rfl
 intro m
 induction m with
 | zero=>intro x h1 h2 h3;omega
 | succ m ih =>
  intro x h1 h2 h3;show sE K n v2 L i mo acc g C (qj K n v2 L i mo acc g C m) x=_;unfold sE;by_cases hx:x<L.length
  ·have hdr:L.drop x=L.getD x default::L.drop (x+1):=by rw[List.drop_eq_getElem_cons hx,bV hx]
   have hb:L.getD x default∈L:=by rw[bV hx];exact List.getElem_mem _
   have ha:L.getD (x-1) default∈L:=by rw[bV (by omega)];exact List.getElem_mem _
   have e1:aa ((x:Int)-1)=((x-1:Nat):Int):=by rw[bj (by omega) (by omega)];omega
   rw[if_pos (by simpa using hx),bT (by omega) (by omega)];simp only[aZ,Int.toNat_natCast,e1];rw[hdr];unfold jl;have nog:∀{b:Bool},b=false→jP K n v2 L (i:Int) mo acc g (x:Int) C (qj K n v2 L i mo acc g C m) false=kg K n v2 L i acc g C ((x+(bif b then jl (L.getD i default).Of (L.getD x default) (L.drop (x+1))+1 else 0):Nat):Int) mo (dm (sl L i (x+(bif b then jl (L.getD i default).Of (L.getD x default) (L.drop (x+1))+1 else 0)))):=fun {b} hb=>by
    subst hb;exact fin x h1 h2 _
   cases hk:((L.getD x default).Kind == 1) with
   | false=>rw[if_neg (by simp)];exact nog rfl
   | true =>
    rw[if_pos rfl];cases hof:((L.getD x default).Of == (L.getD i default).Of) with
    | false=>rw[if_neg (by simp)];exact nog rfl
    | true =>
     rw[if_pos rfl,bT (by omega) (by omega),aZ,sT K (by omega) (ho _ ha).ch (ho _ hb).ch];simp only[Option.bind_some];cases hbr:dn (L.getD (x-1) default) (L.getD x default) with
     | true=>exact nog rfl
     | false =>
      unfold jP;rw[show(!false)=true from rfl,if_pos rfl,bj (by omega) (by omega),show(x:Int)+1=((x+1:Nat):Int) by omega,ih (x+1) (by omega) (by omega) (by omega)];simp only[Nat.add_sub_cancel,Bool.and_self,cond_true];rw[show x+1+jl (L.getD i default).Of (L.getD x default) (L.drop (x+1))=x+(jl (L.getD i default).Of (L.getD x default) (L.drop (x+1))+1) by omega]
  ·rw[if_neg (by simpa using hx),List.drop_eq_nil_of_le (by omega)];unfold jl;exact fin x h1 h2 _
theorem Ct(i:Nat)(mo:List Int)(acc:List ay)(g:Bool)(C:Int→List Int→List ay→Option (List ay×List Int))(hacc:acc.length≤1000000)(y:Int)(x:ay):kg K n v2 L (i:Int) acc g C y mo x=C y mo (acc++[runM x (L.getD i default) g]):=by
 unfold kg;simp only[Option.bind_some,Int.toNat_natCast];rw[cO (by simp;omega) (by omega),aZ];rfl
theorem Re(ho:∀e∈L,fp e)(hk:∀e∈L,e.Kind=1∨e.Kind=2∨e.Kind=3)(hl:L.length≤2000)(hn:8010≤n)(hpl:∀e∈L,e.Kind=3→K.lJ v2.Widths e.Box=some (W e.Box)):∀(m i:Nat) (mo:List Int) (acc:List ay),i≤L.length→L.length<m+i→acc.length≤i→mo.length≤i →
  qm K n v2 L m (i:Int) mo acc=some (acc++cM (fun b=>dF (W b).1) m (cm L i) (L.drop i),mo++(db (L.drop i)).map fun b=>(W b).2):=by
 intro m
 induction m with
 | zero=>intro i mo acc h1 h2;omega
 | succ m ih =>
  intro i mo acc h1 h2 h3 h4;show tE K n v2 L (qm K n v2 L m) i mo acc=_;unfold tE;by_cases hi:i<L.length
  ·have hdr:L.drop i=L.getD i default::L.drop (i+1):=by rw[List.drop_eq_getElem_cons hi,bV hi]
   have hb:L.getD i default∈L:=by rw[bV hi];exact List.getElem_mem _
   rw[if_pos (by simpa using hi),bT (by omega) (by omega)];simp only[aZ,Int.toNat_natCast];rw[hdr];(try rw[hdr]at h4);have hw:aa ((i:Int)+1)=((i+1:Nat):Int):=by rw[bj (by omega) (by omega)];omega
   have hprev:cm L (i+1)=some (L.getD i default):=by unfold cm;rw[if_neg (by omega),Nat.add_sub_cancel]
   have key:∀g,g=fw (cm L i) (L.getD i default)→qu K n v2 L (i:Int) mo acc (qm K n v2 L m) g=some (acc++cM (fun b=>dF (W b).1) (m+1) (cm L i) (L.getD i default::L.drop (i+1)),mo++(db (L.getD i default::L.drop (i+1))).map fun b=>(W b).2):=by
    intro g hg;unfold qu cM;simp only[Option.bind_some,Int.toNat_natCast];rw[←hg];cases k2:((L.getD i default).Kind == 2) with
    | true =>
     have ho3:db (L.getD i default::L.drop (i+1))=db (L.drop (i+1)):=uB (by rw[show(L.getD i default).Kind=2 by simpa using k2];rfl) _
     (try rw[ho3]);(try rw[ho3]at h4)
     rw[if_pos rfl,Ct i mo acc g _ (by omega),hw,← hprev];simp only[cond_true];have:=ih (i+1) mo (acc++[runM { cq with Forced:=true } (L.getD i default) g]) (by omega) (by omega) (by simp;omega) (by omega);exact this.trans (by simp[List.append_assoc])
    | false =>
     rw[if_neg (by simp)];cases k3:((L.getD i default).Kind == 3) with
     | true =>
      have ho3:db (L.getD i default::L.drop (i+1))=(L.getD i default).Box::db (L.drop (i+1)):=Nq k3 _
      (try rw[ho3]);(try rw[ho3]at h4)
      rw[if_pos rfl,← hprev];simp only[cond_true,cond_false];unfold yH;rw[hpl _ hb (by simpa using k3)];simp only[Option.bind_some];rw[cO (by simp;omega) (by omega),aZ];simp only[Option.bind_some];rw[hw,Ct i _ acc g _ (by omega)];have:=ih (i+1) (mo++[(W (L.getD i default).Box).2]) (acc++[runM (dF (W (L.getD i default).Box).1) (L.getD i default) g]) (by omega) (by omega) (by simp;omega) (by simp;omega);refine this.trans ?_;simp[List.append_assoc]
     | false =>
      have k1:(L.getD i default).Kind=1:=by
       have:=hk _ hb;have e2:(L.getD i default).Kind≠2:=by simpa using k2
       have e3:(L.getD i default).Kind≠3:=by simpa using k3
       omega
      have ho3:db (L.getD i default::L.drop (i+1))=db ((L.drop (i+1)).drop (jl (L.getD i default).Of (L.getD i default) (L.drop (i+1)))):=by
       rw[Em];exact uB k3 _
      (try rw[ho3]);(try rw[ho3]at h4)
      rw[if_neg (by simp),hw,abe ho hl hn i mo acc g _ hi n (i+1) (by omega) (by omega) (by omega),Nat.add_sub_cancel];simp only[cond_false];have hj:=pm (L.getD i default).Of (L.drop (i+1)) (L.getD i default);rw[List.length_drop]at hj;generalize jl (L.getD i default).Of (L.getD i default) (L.drop (i+1))=k at *;rw[Ct i mo acc g _ (by omega),Ap hi];have hp:cm L (i+1+k)=some (L.getD (i+k) default):=by unfold cm;rw[if_neg (by omega)];congr 2;omega
      (try rw[List.drop_drop]at h4)
      rw[ES (by omega),← hp,List.drop_drop];have:=ih (i+1+k) mo (acc++[runM (dm (L.getD i default::(L.drop (i+1)).take k)) (L.getD i default) g]) (by omega) (by omega) (by simp;omega) (by omega);exact this.trans (by simp[List.append_assoc])
   by_cases h0:i=0
   ·rw[if_neg (by simp;omega)];exact key false (by unfold cm;rw[if_pos h0];rfl)
   ·have ha:L.getD (i-1) default∈L:=by rw[bV (by omega)];exact List.getElem_mem _
    have e1:aa ((i:Int)-1)=((i-1:Nat):Int):=by rw[bj (by omega) (by omega)];omega
    have hp:cm L i=some (L.getD (i-1) default):=by unfold cm;rw[if_neg h0]
    rw[if_pos (by simp;omega),e1,bT (by omega) (by omega)];simp only[aZ,Int.toNat_natCast];by_cases hk:((L.getD (i-1) default).Kind != 2)=true
    ·rw[if_pos hk,sT K (by omega) (ho _ ha).ch (ho _ hb).ch];simp only[Option.bind_some];exact key _ (by rw[hp];show _=((L.getD (i-1) default).Kind != 2&&!dn (L.getD (i-1) default) (L.getD i default));rw[hk];rfl)
    ·rw[if_neg hk];have hk':((L.getD (i-1) default).Kind != 2)=false:=by simpa using hk
     exact key false (by rw[hp];show _=((L.getD (i-1) default).Kind != 2&&!dn (L.getD (i-1) default) (L.getD i default));rw[hk'];rfl)
  ·rw[if_neg (by simpa using hi),List.drop_eq_nil_of_le (by omega)];simp[cM,db]
theorem aaA(ho:∀e∈L,fp e)(hl:L.length≤2000)(hn:8010≤n)(i:Nat)(at_:Int)(MO:List Int)(acc:List ay)(g:Bool)(C:Int→Int→List Int→List ay→Option (List ay×Int×List Int))(hi:i<L.length):∀(m x:Nat),i<x→x≤L.length→L.length<m+x →
  pb K n L (i:Int) at_ MO acc g C m (x:Int)=jD K n L i acc g C ((x+jl (L.getD i default).Of (L.getD (x-1) default) (L.drop x):Nat):Int) at_ MO (dm (sl L i (x+jl (L.getD i default).Of (L.getD (x-1) default) (L.drop x)))):=by
 have fin:∀y:Nat,i<y→y≤L.length→∀(D:Int→Option (List ay×Int×List Int)),jR K n L (i:Int) at_ MO acc g (y:Int) C D false=jD K n L i acc g C (y:Int) at_ MO (dm (sl L i y)):=fun y h1 h2 D=>by
  unfold jR;have hsl:List.drop i (List.take y L)=sl L i y:=rfl;have hlen:=yy (L:=L) (a:=i) (b:=y) h2;rw[if_neg (by simp),show cL (i:Int) (y:Int) L.length=true by simp only[cL,Bool.and_eq_true,decide_eq_true_eq];omega,aZ];simp only[Int.toNat_natCast];rw[hsl,Ef (by intro e;rw[e]at hlen;simp at hlen;omega) (by omega) (fun e he=>ho e (DE he)) hn];rfl
 intro m
 induction m with
 | zero=>intro x h1 h2 h3;omega
 | succ m ih =>
  intro x h1 h2 h3;show rZ K n L i at_ MO acc g C (pb K n L i at_ MO acc g C m) x=_;unfold rZ;by_cases hx:x<L.length
  ·have hdr:L.drop x=L.getD x default::L.drop (x+1):=by rw[List.drop_eq_getElem_cons hx,bV hx]
   have hb:L.getD x default∈L:=by rw[bV hx];exact List.getElem_mem _
   have ha:L.getD (x-1) default∈L:=by rw[bV (by omega)];exact List.getElem_mem _
   have e1:aa ((x:Int)-1)=((x-1:Nat):Int):=by rw[bj (by omega) (by omega)];omega
   rw[if_pos (by simpa using hx),bT (by omega) (by omega)];simp only[aZ,Int.toNat_natCast,e1];rw[hdr];unfold jl;have nog:∀{b:Bool},b=false→jR K n L (i:Int) at_ MO acc g (x:Int) C (pb K n L i at_ MO acc g C m) false=jD K n L i acc g C ((x+(bif b then jl (L.getD i default).Of (L.getD x default) (L.drop (x+1))+1 else 0):Nat):Int) at_ MO (dm (sl L i (x+(bif b then jl (L.getD i default).Of (L.getD x default) (L.drop (x+1))+1 else 0)))):=fun {b} hb=>by
    subst hb;exact fin x h1 h2 _
   cases hk:((L.getD x default).Kind == 1) with
   | false=>rw[if_neg (by simp)];exact nog rfl
   | true =>
    rw[if_pos rfl];cases hof:((L.getD x default).Of == (L.getD i default).Of) with
    | false=>rw[if_neg (by simp)];exact nog rfl
    | true =>
     rw[if_pos rfl,bT (by omega) (by omega),aZ,sT K (by omega) (ho _ ha).ch (ho _ hb).ch];simp only[Option.bind_some];cases hbr:dn (L.getD (x-1) default) (L.getD x default) with
     | true=>exact nog rfl
     | false =>
      unfold jR;rw[show(!false)=true from rfl,if_pos rfl,bj (by omega) (by omega),show(x:Int)+1=((x+1:Nat):Int) by omega,ih (x+1) (by omega) (by omega) (by omega)];simp only[Nat.add_sub_cancel,Bool.and_self,cond_true];rw[show x+1+jl (L.getD i default).Of (L.getD x default) (L.drop (x+1))=x+(jl (L.getD i default).Of (L.getD x default) (L.drop (x+1))+1) by omega]
  ·rw[if_neg (by simpa using hx),List.drop_eq_nil_of_le (by omega)];unfold jl;exact fin x h1 h2 _
theorem FL(i:Nat)(at_:Int)(MO:List Int)(acc:List ay)(g:Bool)(C:Int→Int→List Int→List ay→Option (List ay×Int×List Int))(hacc:acc.length≤1000000)(y:Int)(x:ay):jD K n L (i:Int) acc g C y at_ MO x=C y at_ MO (acc++[runM x (L.getD i default) g]):=by
 unfold jD;simp only[Option.bind_some,Int.toNat_natCast];rw[cO (by simp;omega) (by omega),aZ];rfl
theorem YY(ho:∀e∈L,fp e)(hk:∀e∈L,e.Kind=1∨e.Kind=2∨e.Kind=3)(hl:L.length≤2000)(hn:8010≤n): ∀(m i:Nat) (at_:Int) (MO:List Int) (acc:List ay),i≤L.length→L.length<m+i→acc.length≤i→(0≤at_∧at_≤i∧MO.drop at_.toNat=(db (L.drop i)).map fun b=>(W b).2) →
  ∃z,oH K n L m (i:Int) at_ MO acc=some (acc++cM (fun b=>dF (W b).2) m (cm L i) (L.drop i),z):=by
 intro m
 induction m with
 | zero=>intro i at_ MO acc h1 h2;omega
 | succ m ih =>
  intro i at_ MO acc h1 h2 h3 h4;show ∃z,rR K n L (oH K n L m) i at_ MO acc=some (acc++cM (fun b=>dF (W b).2) (m+1) (cm L i) (L.drop i),z);unfold rR;by_cases hi:i<L.length
  ·have hdr:L.drop i=L.getD i default::L.drop (i+1):=by rw[List.drop_eq_getElem_cons hi,bV hi]
   have hb:L.getD i default∈L:=by rw[bV hi];exact List.getElem_mem _
   rw[if_pos (by simpa using hi),bT (by omega) (by omega)];simp only[aZ,Int.toNat_natCast];rw[hdr];(try rw[hdr]at h4);have hw:aa ((i:Int)+1)=((i+1:Nat):Int):=by rw[bj (by omega) (by omega)];omega
   have hprev:cm L (i+1)=some (L.getD i default):=by unfold cm;rw[if_neg (by omega),Nat.add_sub_cancel]
   have key:∀g,g=fw (cm L i) (L.getD i default)→∃z,oA K n L (i:Int) at_ MO acc (oH K n L m) g=some (acc++cM (fun b=>dF (W b).2) (m+1) (cm L i) (L.getD i default::L.drop (i+1)),z):=by
    intro g hg;unfold oA cM;simp only[Option.bind_some,Int.toNat_natCast];rw[←hg];cases k2:((L.getD i default).Kind == 2) with
    | true =>
     have ho3:db (L.getD i default::L.drop (i+1))=db (L.drop (i+1)):=uB (by rw[show(L.getD i default).Kind=2 by simpa using k2];rfl) _
     (try rw[ho3]);(try rw[ho3]at h4)
     rw[if_pos rfl,FL i at_ MO acc g _ (by omega),hw,← hprev];simp only[cond_true];have:=ih (i+1) at_ MO (acc++[runM { cq with Forced:=true } (L.getD i default) g]) (by omega) (by omega) (by simp;omega) ⟨h4.1,by omega,h4.2.2⟩;obtain⟨z,hz⟩:=this;exact⟨z,hz.trans (by simp[List.append_assoc])⟩
    | false =>
     rw[if_neg (by simp)];cases k3:((L.getD i default).Kind == 3) with
     | true =>
      have ho3:db (L.getD i default::L.drop (i+1))=(L.getD i default).Box::db (L.drop (i+1)):=Nq k3 _
      (try rw[ho3]);(try rw[ho3]at h4)
      rw[if_pos rfl,← hprev];simp only[cond_true,cond_false];obtain⟨a1,a2,a3⟩:=h4;have hat:at_.toNat<MO.length:=by
       have:=congrArg List.length a3;rw[List.length_drop]at this;simp at this;omega
      have hd:MO.drop at_.toNat=MO.getD at_.toNat default::MO.drop (at_.toNat+1):=by rw[List.drop_eq_getElem_cons hat,bV hat]
      rw[hd,List.map_cons]at a3;injection a3 with b1 b2
      have ew:aa (at_+1)=at_+1:=bj (by omega) (by omega);unfold yT;rw[ew,show aa (at_+1-1)=at_ by rw[bj (by omega) (by omega)];omega,bT (by omega) (by omega),aZ];simp only[Option.bind_some];rw[hw,FL i _ _ acc g _ (by omega),b1];obtain⟨z,hz⟩:=ih (i+1) (at_+1) MO (acc++[runM (dF (W (L.getD i default).Box).2) (L.getD i default) g]) (by omega) (by omega) (by simp;omega) ⟨by omega,by omega,by rw[show(at_+1).toNat=at_.toNat+1 by omega];exact b2⟩;exact⟨z,hz.trans (by simp[List.append_assoc])⟩
     | false =>
      have k1:(L.getD i default).Kind=1:=by
       have:=hk _ hb;have e2:(L.getD i default).Kind≠2:=by simpa using k2
       have e3:(L.getD i default).Kind≠3:=by simpa using k3
       omega
      have ho3:db (L.getD i default::L.drop (i+1))=db ((L.drop (i+1)).drop (jl (L.getD i default).Of (L.getD i default) (L.drop (i+1)))):=by
       rw[Em];exact uB k3 _
      (try rw[ho3]);(try rw[ho3]at h4)
      rw[if_neg (by simp),hw,aaA ho hl hn i at_ MO acc g _ hi n (i+1) (by omega) (by omega) (by omega),Nat.add_sub_cancel];simp only[cond_false];have hj:=pm (L.getD i default).Of (L.drop (i+1)) (L.getD i default);rw[List.length_drop]at hj;generalize jl (L.getD i default).Of (L.getD i default) (L.drop (i+1))=k at *;rw[FL i at_ MO acc g _ (by omega),Ap hi];have hp:cm L (i+1+k)=some (L.getD (i+k) default):=by unfold cm;rw[if_neg (by omega)];congr 2;omega
      (try rw[List.drop_drop]at h4)
      rw[ES (by omega),← hp,List.drop_drop];have:=ih (i+1+k) at_ MO (acc++[runM (dm (L.getD i default::(L.drop (i+1)).take k)) (L.getD i default) g]) (by omega) (by omega) (by simp;omega) ⟨h4.1,by omega,h4.2.2⟩;obtain⟨z,hz⟩:=this;exact⟨z,hz.trans (by simp[List.append_assoc])⟩
   by_cases h0:i=0
   ·rw[if_neg (by simp;omega)];exact key false (by unfold cm;rw[if_pos h0];rfl)
   ·have ha:L.getD (i-1) default∈L:=by rw[bV (by omega)];exact List.getElem_mem _
    have e1:aa ((i:Int)-1)=((i-1:Nat):Int):=by rw[bj (by omega) (by omega)];omega
    have hp:cm L i=some (L.getD (i-1) default):=by unfold cm;rw[if_neg h0]
    rw[if_pos (by simp;omega),e1,bT (by omega) (by omega)];simp only[aZ,Int.toNat_natCast];by_cases hk:((L.getD (i-1) default).Kind != 2)=true
    ·rw[if_pos hk,sT K (by omega) (ho _ ha).ch (ho _ hb).ch];simp only[Option.bind_some];exact key _ (by rw[hp];show _=((L.getD (i-1) default).Kind != 2&&!dn (L.getD (i-1) default) (L.getD i default));rw[hk];rfl)
    ·rw[if_neg hk];have hk':((L.getD (i-1) default).Kind != 2)=false:=by simpa using hk
     exact key false (by rw[hp];show _=((L.getD (i-1) default).Kind != 2&&!dn (L.getD (i-1) default) (L.getD i default));rw[hk'];rfl)
  ·rw[if_neg (by simpa using hi),List.drop_eq_nil_of_le (by omega)];exact⟨(at_,MO),by simp[cM]⟩
end
theorem XU{N d:Nat}{B:List ai}{env:cg}{W:ai→Int×Int}(hD:Dp d B)(hc:bL d B≤2000)(hN:d+9000≤N)(hpl:∀e∈cd d B,e.Kind=3→(KN N).lJ env.Widths e.Box=some (W e.Box)):
  ∃mo z,vC (KN N) N B env []=some (d8 (fun b=>dF (W b).1) (cd d B),mo)∧wT (KN N) N B 0 mo=some (d8 (fun b=>dF (W b).2) (cd d B),z):=by
 have hlen:=zW d B;have hek:=Mu d B;have h1:=Re (K:=KN N) (n:=N) (v2:=env) (W:=W) (yc d B) (fun e he=>(hek e he).kind) (by omega) (by omega) hpl N 0 [] [] (by omega) (by omega) (by simp) (by simp);obtain⟨z,h2⟩:=YY (K:=KN N) (n:=N) (W:=W) (yc d B) (fun e he=>(hek e he).kind) (by omega) (by omega) N 0 0 ((db (cd d B)).map fun b=>(W b).2) [] (by omega) (by omega) (by simp) ⟨by omega,by omega,by simp⟩;rw[List.drop_zero,show cm (cd d B) 0=none from rfl,List.nil_append]at h1 h2;rw[List.nil_append]at h1;rw[Oj _ N ((cd d B).length+1) _ _ (by omega) (by omega)]at h1 h2;refine⟨(db (cd d B)).map fun b=>(W b).2,z,?_,?_⟩
 ·unfold vC;rw[D2 hD (by omega) (by omega)];simp only[Option.bind_some];exact h1
 ·unfold wT;rw[D2 hD (by omega) (by omega)];simp only[Option.bind_some];exact h2
end
end Go.Proofs.YtnpmlepplfaijaaGreat
namespace Go.Proofs.YtnpmlepplfaijaaGreat
set_option linter.all false
open Go.RowKit
noncomputable section
theorem E0(p:Option aw)(e:aw)(r:List aw)(t:aM)(s:List aM)(acc:List RT):gM p (e::r) (t::s) acc=gM (some e) r s (bif ik p e then gW acc t else acc++[qq p e t]):=by
 conv=>lhs;unfold gM
def sm(i:Nat)(acc:List RT):Prop:=∀p∈acc,∃l,p.2=some l∧l.length≤i
theorem O6{i:Nat}{acc:List RT}(h:sm i acc)(p:Option aw)(e:aw)(t:aM):sm (i+1) (acc++[qq p e t]):=by
 intro x hx;rcases List.mem_append.1 hx with hx|hx
 ·obtain⟨l,h1,h2⟩:=h x hx;exact⟨l,h1,by omega⟩
 ·rw[List.mem_singleton.1 hx];exact⟨[t],rfl,by simp⟩
theorem Pz{i:Nat}{acc:List RT}(h:sm i acc)(h0:0<acc.length)(t:aM):sm (i+1) (gW acc t):=by
 intro x hx;unfold gW at hx;rcases List.mem_or_eq_of_mem_set hx with hx|hx
 ·obtain⟨l,h1,h2⟩:=h x hx;exact⟨l,h1,by omega⟩
 ·have hm:acc.getD (acc.length-1) default∈acc:=by rw[bV (by omega)];exact List.getElem_mem _
  obtain⟨l,h1,h2⟩:=h _ hm;rw[hx,h1];exact⟨_,rfl,by simp;omega⟩
theorem VM{i:Nat}{acc:List RT}(h:sm i acc):acc.all (fun p=>p.2.isSome)=true:=by
 rw[List.all_eq_true];intro p hp;obtain⟨l,h1,_⟩:=h p hp;rw[h1];rfl
section
variable{K:Kn}{n:Nat}{w:Int}{E:List aw}{T:List aM}{c:Int}
theorem P8(hS:fA c E T)(hk:∀e∈E,EK e)(hl:E.length≤100000)(hn:101≤n):∀(m i:Nat) (acc:List RT),i≤E.length→E.length<m+i→(0<i→0<acc.length)→acc.length≤i→sm i acc →
  kz K n w T m (i:Int) acc=kF K n w n 0 ((gM (cm E i) (E.drop i) (T.drop i) acc).map da):=by
 have hlen:=hS.len;intro m
 induction m with
 | zero=>intro i acc h1 h2;omega
 | succ m ih =>
  intro i acc h1 h2 h3 h4 h5;show tv K n w T (kz K n w T m) i acc=_;unfold tv;by_cases hi:i<E.length
  ·have hiT:i<T.length:=by omega
   have hdE:E.drop i=E.getD i default::E.drop (i+1):=by rw[List.drop_eq_getElem_cons hi,bV hi]
   have dz:T.drop i=T.getD i default::T.drop (i+1):=by rw[List.drop_eq_getElem_cons hiT,bV hiT]
   have hme:E.getD i default∈E:=by rw[bV hi];exact List.getElem_mem _
   have hel:=hS.el i hi;have hke:=hk _ hme;have hprev:cm E (i+1)=some (E.getD i default):=by unfold cm;rw[if_neg (by omega),Nat.add_sub_cancel]
   have hw:aa ((i:Int)+1)=((i+1:Nat):Int):=by rw[bj (by omega) (by omega)];omega
   rw[if_pos (by simpa using hiT),bT (by omega) (by omega),aZ,hdE,dz,E0];have new:∀(v8 g:Bool),ik (cm E i) (E.getD i default)=false→g=fw (cm E i) (E.getD i default)→nV K n w T (i:Int) acc v8 (kz K n w T m) g=kF K n w n 0 ((gM (some (E.getD i default)) (E.drop (i+1)) (T.drop (i+1)) (bif ik (cm E i) (E.getD i default) then gW acc (T.getD i default) else acc++[qq (cm E i) (E.getD i default) (T.getD i default)])).map da):=fun v8 g hg1 hg2=>by
    unfold nV qB;rw[Int.toNat_natCast,cO (by simp) (by omega),aZ,cO (by omega) (by omega),aZ,hw,hg1,hg2];have:=ih (i+1) (acc++[qq (cm E i) (E.getD i default) (T.getD i default)]) (by omega) (by omega) (fun _=>by simp) (by simp;omega) (O6 h5 _ _ _);rw[hprev]at this;exact this
   by_cases h0:i=0
   ·subst h0;have hp:cm E 0=none:=rfl;rw[if_neg (by simp)];unfold rd g7;rw[if_neg (by simp),if_neg (by simp),if_neg (by simp)];exact new false false (by rw[hp];rfl) (by rw[hp];rfl)
   ·have hi1:i-1<E.length:=by omega
    have e1:aa ((i:Int)-1)=((i-1:Nat):Int):=by rw[bj (by omega) (by omega)];omega
    have hmq:E.getD (i-1) default∈E:=by rw[bV hi1];exact List.getElem_mem _
    have hq:=hS.el (i-1) hi1;have hkq:=hk _ hmq;have hp:cm E i=some (E.getD (i-1) default):=by unfold cm;rw[if_neg h0]
    have hpos:decide ((i:Int)>0)=true:=by simp;omega
    have hpair:=hS.pair (i-1) i hi1 hi;rw[if_pos hpos,e1,bT (by omega) (by omega),aZ,Int.toNat_natCast,Int.toNat_natCast,Y6 hn hq hel hkq hke];simp only[Option.bind_some];have no:∀v8,v8=dn (E.getD (i-1) default) (E.getD i default)→ik (cm E i) (E.getD i default)=false→g7 K n w T (i:Int) acc v8 (kz K n w T m) false=kF K n w n 0 ((gM (some (E.getD i default)) (E.drop (i+1)) (T.drop (i+1)) (bif ik (cm E i) (E.getD i default) then gW acc (T.getD i default) else acc++[qq (cm E i) (E.getD i default) (T.getD i default)])).map da):=fun v8 hv hg=>by
     unfold g7;rw[if_neg (by simp),if_pos hpos,e1,bT (by omega) (by omega),aZ,Int.toNat_natCast,hq.forced];have hgl:fw (cm E i) (E.getD i default)=((E.getD (i-1) default).Kind != 2&&!v8):=by rw[hp,hv];rfl
     cases hf:((E.getD (i-1) default).Kind == 2) with
     | true=>rw[if_neg (by simp)];exact new v8 false hg (by rw[hgl,show((E.getD (i-1) default).Kind != 2)=!((E.getD (i-1) default).Kind == 2) from rfl,hf];rfl)
     | false=>rw[if_pos (by simp)];exact new v8 (!v8) hg (by rw[hgl,show((E.getD (i-1) default).Kind != 2)=!((E.getD (i-1) default).Kind == 2) from rfl,hf];cases v8<;>rfl)
    unfold rd;rw[if_pos hpos,e1,bT (i:=((i-1:Nat):Int)) (n:=T.length) (by omega) (by omega),Int.toNat_natCast,Int.toNat_natCast];simp only[aZ];rw[hel.block,hel.forced,hq.block,hq.forced];have hgo:ik (cm E i) (E.getD i default)=((E.getD (i-1) default).Kind == 1&&((E.getD i default).Kind == 1&&((E.getD i default).Of == (E.getD (i-1) default).Of&&!dn (E.getD (i-1) default) (E.getD i default)))):=by rw[hp];rfl
    cases hb:dn (E.getD (i-1) default) (E.getD i default) with
    | true=>rw[if_neg (by simp)];exact no true hb.symm (by rw[hgo,hb];simp)
    | false =>
     rw[if_pos (by simp)];rcases hke.kind with k|k|k
     ·rw[show((E.getD i default).Kind == 3)=false by rw[k];rfl,if_pos (by simp),show((E.getD i default).Kind == 2)=false by rw[k];rfl,if_pos (by simp)];rcases hkq.kind with q|q|q
      ·rw[show((E.getD (i-1) default).Kind == 3)=false by rw[q];rfl,if_pos (by simp),show((E.getD (i-1) default).Kind == 2)=false by rw[q];rfl,if_pos (by simp)];by_cases hof:(E.getD (i-1) default).Of=(E.getD i default).Of
       ·have hnum:=hpair.1 hof;rw[show((T.getD (i-1) default).Number == (T.getD i default).Number)=true by simpa using hnum];have hg:ik (cm E i) (E.getD i default)=true:=by rw[hgo,hb,k,q,hof];simp
        have ha:=h3 (by omega);have hm:acc.getD (acc.length-1) default∈acc:=by rw[bV (by omega)];exact List.getElem_mem _
        obtain⟨l,l1,l2⟩:=h5 _ hm;have e2:aa ((acc.length:Int)-1)=((acc.length-1:Nat):Int):=by rw[bj (by omega) (by omega)];omega
        unfold g7 qB;rw[if_pos rfl,e2,bT (i:=((acc.length-1:Nat):Int)) (n:=acc.length) (by omega) (by omega)];simp only[aZ,Int.toNat_natCast];rw[l1];simp only[Option.bind_some];rw[cO (by simp;omega) (by omega),aZ,hw,hg];have:=ih (i+1) (gW acc (T.getD i default)) (by omega) (by omega) (fun _=>by unfold gW;simp only[List.length_set];exact ha) (by unfold gW;simp only[List.length_set];omega) (Pz h5 ha _);rw[hprev]at this;rw[show gW acc (T.getD i default)=acc.set (acc.length-1) ((acc.getD (acc.length-1) default).1,some (l++[T.getD i default])) by unfold gW;rw[l1];rfl]at this⊢;exact this
       ·have hnum:¬ (T.getD (i-1) default).Number=(T.getD i default).Number:=fun x=>hof (hpair.2 x);rw[show((T.getD (i-1) default).Number == (T.getD i default).Number)=false by simpa using hnum];exact no false hb.symm (by
         rw[hgo];have:((E.getD i default).Of == (E.getD (i-1) default).Of)=false:=by rw[beq_eq_false_iff_ne];exact fun x=>hof x.symm
         rw[this];simp)
      ·rw[show((E.getD (i-1) default).Kind == 3)=false by rw[q];rfl,if_pos (by simp),show((E.getD (i-1) default).Kind == 2)=true by rw[q];rfl,if_neg (by simp)];exact no false hb.symm (by rw[hgo,q];rfl)
      ·rw[show((E.getD (i-1) default).Kind == 3)=true by rw[q];rfl,if_neg (by simp)];exact no false hb.symm (by rw[hgo,q];rfl)
     ·rw[show((E.getD i default).Kind == 3)=false by rw[k];rfl,if_pos (by simp),show((E.getD i default).Kind == 2)=true by rw[k];rfl,if_neg (by simp)];exact no false hb.symm (by rw[hgo,k];simp)
     ·rw[show((E.getD i default).Kind == 3)=true by rw[k];rfl,if_neg (by simp)];exact no false hb.symm (by rw[hgo,k];simp)
  ·rw[if_neg (by simp;omega),List.drop_eq_nil_of_le (by omega)];have e:gM (cm E i) [] (T.drop i) acc=acc:=by unfold gM;rfl
   rw[e,VM h5,aZ]
end
end
end Go.Proofs.YtnpmlepplfaijaaGreat
namespace Go.Proofs.YtnpmlepplfaijaaGreat
set_option linter.all false
open Go.RowKit
noncomputable section
def dz(p:Option aw)(e:aw)(t:aM):aP:={ dW with Glued:=fw p e,Forced:=t.Forced }
def eI:Nat→Option aw→List aw→List aM→List RT
 | m+1,p,e::r,t::s =>
  bif e.Kind == 2 then (dz p e t,some [t])::eI m (some e) r s
  else bif e.Kind == 3 then (dz p e t,some [t])::eI m (some e) r s
  else (dz p e t,some (t::s.take (jl e.Of e r)))::eI m (some (du (e::r.take (jl e.Of e r)))) (r.drop (jl e.Of e r)) (s.drop (jl e.Of e r))
 | _,_,_,_=>[]
theorem WL(acc:List RT)(h:aP)(cur:List aM)(t:aM):gW (acc++[(h,some cur)]) t=acc++[(h,some (cur++[t]))]:=by
 unfold gW;have e1:(acc++[(h,some cur)]).length-1=acc.length:=by simp
 have e2:(acc++[(h,some cur)]).getD acc.length default=(h,some cur):=BA acc _ rfl;rw[e1,e2];simp
theorem Qs(a b:aw)(x:List aw):du (a::b::x)=du (b::x):=by
 unfold du;simp
theorem N4:∀(r:List aw) (s:List aM) (a:aw) (o:Int) (h:aP) (cur:List aM) (acc:List RT),a.Kind=1→a.Of=o→r.length=s.length →
  gM (some a) r s (acc++[(h,some cur)])=gM (some (du (a::r.take (jl o a r)))) (r.drop (jl o a r)) (s.drop (jl o a r)) (acc++[(h,some (cur++s.take (jl o a r)))])∧∀b r',r.drop (jl o a r)=b::r'→ik (some (du (a::r.take (jl o a r)))) b=false
 | [],s,a,o,h,cur,acc,_,_,hl=>by
  have:s=[]:=List.eq_nil_of_length_eq_zero hl.symm;subst this;refine⟨?_,fun b r' e=>by simp at e⟩;simp[jl,du]
 | b::r,[],_,_,_,_,_,_,_,hl=>by simp at hl
 | b::r,t::s,a,o,h,cur,acc,ka,ho,hl=>by
  have hg:ik (some a) b=(b.Kind == 1&&(b.Of == o&&!dn a b)):=by
   show(a.Kind == 1&&(b.Kind == 1&&(b.Of == a.Of&&!dn a b)))=_;rw[ka,ho];rfl
  cases hc:(b.Kind == 1&&(b.Of == o&&!dn a b)) with
  | false =>
   have hj:jl o a (b::r)=0:=by unfold jl;rw[hc];rfl
   rw[hj];refine⟨by simp[du],fun b' r' e=>?_⟩;simp only[List.drop_zero,List.cons.injEq]at e;rw[←e.1];have:du (a::List.take 0 (b::r))=a:=by simp[du]
   rw[this,hg,hc]
  | true =>
   have hj : jl o a (b :: r)=jl o b r + 1:=by
    conv=>lhs;unfold jl
    rw[hc];rfl
   have hc2:=hc;simp only[Bool.and_eq_true,beq_iff_eq]at hc2;obtain⟨q1,q2⟩:=N4 r s b o h (cur++[t]) acc hc2.1 hc2.2.1 (by simpa using hl);rw[hj,List.take_succ_cons,List.drop_succ_cons,List.take_succ_cons,List.drop_succ_cons,Qs];refine⟨?_,q2⟩;rw[E0,hg,hc];simp only[cond_true];rw[WL,q1,List.append_assoc];rfl
theorem PE:∀(m:Nat) (p:Option aw) (E:List aw) (T:List aM) (acc:List RT),E.length=T.length→E.length<m→(∀e∈E,e.Kind=1∨e.Kind=2∨e.Kind=3)→(∀e r,E=e::r→ik p e=false)→gM p E T acc=acc++eI m p E T:=by
 intro m
 induction m with
 | zero=>intro p E T acc h1 h2;omega
 | succ m ih =>
  intro p E T acc h1 h2 hk hg;cases E with
  | nil =>
   unfold gM eI;simp
  | cons e r =>
   cases T with
   | nil=>simp at h1
   | cons t s =>
    simp only[List.length_cons]at h1 h2;have hk':∀x∈r,x.Kind=1∨x.Kind=2∨x.Kind=3:=fun x hx=>hk x (by simp[hx]);rw[E0,hg e r rfl];simp only[cond_false];have stop:e.Kind≠1→∀x r',r=x::r'→ik (some e) x=false:=fun q x r' _=>by
     show(e.Kind == 1&&_)=false;rw[show(e.Kind == 1)=false by simpa using q];rfl
    have hn:qq p e t=(dz p e t,some [t]):=rfl;unfold eI;rcases hk e (by simp)with k|k|k
    ·rw[show(e.Kind == 2)=false by rw[k];rfl,show(e.Kind == 3)=false by rw[k];rfl];simp only[cond_false];obtain⟨q1,q2⟩:=N4 r s e e.Of (dz p e t) [t] acc k rfl (by omega);rw[hn,q1,ih _ _ _ _ (by simp;omega) (by simp;omega) (fun x hx=>hk' x (List.mem_of_mem_drop hx)) q2,List.append_assoc];rfl
    ·rw[show(e.Kind == 2)=true by rw[k];rfl];simp only[cond_true];rw[hn,ih _ _ _ _ (by omega) (by omega) hk' (stop (by omega)),List.append_assoc];rfl
    ·rw[show(e.Kind == 2)=false by rw[k];rfl,show(e.Kind == 3)=true by rw[k];rfl];simp only[cond_true,cond_false];rw[hn,ih _ _ _ _ (by omega) (by omega) hk' (stop (by omega)),List.append_assoc];rfl
def f0:List aw→List aM→Prop
 | [],[]=>True
 | e::r,t::s=>fN e t∧f0 r s
 | _,_=>False
theorem Md:∀(E:List aw) (T:List aM),E.length=T.length→(∀i,i<E.length→fN (E.getD i default) (T.getD i default))→f0 E T
 | [],[],_,_=>trivial
 | [],t::s,h,_=>by simp at h
 | e::r,[],h,_=>by simp at h
 | e::r,t::s,h,H=>⟨H 0 (by simp),Md r s (by simpa using h) (fun i hi=>by have:=H (i+1) (by simp;omega);simpa using this)⟩
theorem EE:∀(k:Nat) (E:List aw) (T:List aM),f0 E T→f0 (E.take k) (T.take k)
 | 0,_,_,_=>by simp[f0]
 | k+1,[],[],_=>by simp[f0]
 | k+1,[],t::s,h=>h.elim
 | k+1,e::r,[],h=>h.elim
 | k+1,e::r,t::s,h=>⟨h.1,EE k r s h.2⟩
theorem xI:∀(k:Nat) (E:List aw) (T:List aM),f0 E T→f0 (E.drop k) (T.drop k)
 | 0,_,_,h=>by simpa using h
 | k+1,[],[],_=>by simp[f0]
 | k+1,[],t::s,h=>h.elim
 | k+1,e::r,[],h=>h.elim
 | k+1,e::r,t::s,h=>xI k r s h.2
theorem Ar:∀(E:List aw) (T:List aM),f0 E T→E.length=T.length
 | [],[],_=>rfl
 | [],t::s,h=>h.elim
 | e::r,[],h=>h.elim
 | e::r,t::s,h=>by simp[Ar r s h.2]
end
end Go.Proofs.YtnpmlepplfaijaaGreat
namespace Go.Proofs.YtnpmlepplfaijaaGreat
set_option linter.all false
open Go.RowKit
def pf(l:List ci)(R:List ai→Prop)(b:ai):Prop:=∃s∈l,b.Style=s.Style ∧
  ((b.Kind=3∧b.Text=s.Text∧b.Kids=[])∨(b.Kind=4∧b.Text=⟨#[]⟩∧b.Kids=[]) ∨
   (b.Kind=5∧b.Text=⟨#[]⟩∧Int.tmod s.Kind 8=6∧∃k,b.Kids=[k]∧k.Kind=3∧k.Kids=[]∧k.Style=s.Style∧k.Text=s.Text)∨(b.Kind=2∧b.Text=⟨#[]⟩∧R b.Kids))
def Bx(l:List ci):Nat→List ai→Prop
 | 0,L=>L=[]
 | d+1,L=>L.length≤16∧∀b∈L,pf l (Bx l d) b
theorem CC{l:List ci}(ht:∀s∈l,s.Text.size≤60):∀(d:Nat) (L:List ai),Bx l d L→Dp (d+1) L
 | 0,L,h=>by
  unfold Bx at h;subst h;unfold Dp;exact⟨by simp,fun b hb=>by cases hb⟩
 | d+1,L,h=>by
  unfold Bx at h;unfold Dp;refine⟨by omega,fun b hb=>?_⟩;obtain⟨s,hs,_,h3|h4|h5|h2⟩:=h.2 b hb
  ·exact⟨by rw[h3.2.1];have:=ht s hs;omega,fun e=>by rw[h3.1]at e;cases e⟩
  ·exact⟨by rw[h4.2.1];decide,fun e=>by rw[h4.1]at e;cases e⟩
  ·exact⟨by rw[h5.2.1];decide,fun e=>by rw[h5.1]at e;cases e⟩
  ·exact⟨by rw[h2.2.1];decide,fun _=>CC ht d _ h2.2.2⟩
theorem Wg:∀(d:Nat) (a b:List ai),bL d (a++b)=bL d a+bL d b
 | 0,a,b=>rfl
 | d+1,a,b=>by simp[bL]
theorem MI(d:Nat)(b:ai):bL (d+1) [b]=1+b.Text.size+bL d b.Kids:=by simp[bL]
theorem Wy{l:List ci}(hl:l.length≤16)(ht:∀s∈l,s.Text.size≤60):∀(k N i0:Nat) (dep:Int),l.length-i0≤k→i0≤l.length→k+50≤N →
  ∃(bx:List ai) (nx:Nat),lG (KN N) N l (i0:Int) dep=some (bx,(nx:Int))∧i0≤nx∧nx≤l.length∧Bx l k bx∧bx.length≤nx-i0∧bL (k+1) bx≤62*(nx-i0):=by
 intro k
 induction k with
 | zero =>
  intro N i0 dep h1 h2 hN;obtain⟨N,rfl⟩:∃M,N=M+1:=⟨N-1,by omega⟩;refine⟨[],i0,?_,Nat.le_refl _,h2,rfl,by simp,by simp[bL]⟩;unfold lG;show mE (KN (N+1)) (N+1) l dep (ld (KN (N+1)) (N+1) l dep N) i0 []=_;unfold mE;rw[if_neg (by simp;omega)];unfold mH;rw[if_neg (by simp)]
 | succ k ih =>
  intro N i0 dep h1 h2 hN;obtain⟨N,rfl⟩:∃M,N=M+1:=⟨N-1,by omega⟩;unfold lG;have loop:∀(m i:Nat) (acc:List ai),i0≤i→i≤l.length→l.length<m+i→(∀b∈acc,pf l (Bx l k) b)→acc.length≤i-i0→bL (k+2) acc≤62*(i-i0) →
    ∃(bx:List ai) (nx:Nat),ld (KN (N+1)) (N+1) l dep m (i:Int) acc=some (bx,(nx:Int))∧i0≤nx∧nx≤l.length∧(∀b∈bx,pf l (Bx l k) b)∧bx.length≤nx-i0∧bL (k+2) bx≤62*(nx-i0):=by
   intro m
   induction m with
   | zero=>intro i acc h0 h1 h2;omega
   | succ m ihm =>
    intro i acc g0 g1 g2 g3 g4 g5;show ∃(bx:List ai) (nx:Nat),mE (KN (N+1)) (N+1) l dep (ld (KN (N+1)) (N+1) l dep m) i acc=some (bx,(nx:Int))∧_;unfold mE;have stop:∃(bx:List ai) (nx:Nat),mH (KN (N+1)) (N+1) l dep i acc (ld (KN (N+1)) (N+1) l dep m) false=some (bx,(nx:Int))∧i0≤nx∧nx≤l.length∧(∀b∈bx,pf l (Bx l k) b)∧bx.length≤nx-i0∧bL (k+2) bx≤62*(nx-i0):=by
     unfold mH;rw[if_neg (by simp)];exact⟨acc,i,rfl,g0,g1,g3,g4,g5⟩
    by_cases hi:i<l.length
    ·rw[if_pos (by simpa using hi),bT (by omega) (by omega),aZ];cases hd:decide ((List.getD l ((i:Int)).toNat default).Depth≥dep) with
     | false=>exact stop
     | true =>
      have hs:l.getD i default∈l:=by rw[bV hi];exact List.getElem_mem _
      have hw:aa ((i:Int)+1)=((i+1:Nat):Int):=by rw[bj (by omega) (by omega)];omega
      unfold mH;rw[if_pos rfl,bT (by omega) (by omega)];simp only[aZ,Option.bind_some,Int.toNat_natCast];have go:∀(kd:Int) (tx:ByteArray) (kids:List ai) (j:Nat),i+1≤j→j≤l.length→pf l (Bx l k) ⟨kd,aa (10+(i:Int)),(l.getD i default).Style,tx,0,0,kids⟩→1+tx.size+bL (k+1) kids≤62*(j-i) →
        ∃(bx:List ai) (nx:Nat),m6 (KN (N+1)) (N+1) l dep i acc (ld (KN (N+1)) (N+1) l dep m) (j:Int) kd tx kids=some (bx,(nx:Int))∧i0≤nx∧nx≤l.length∧(∀b∈bx,pf l (Bx l k) b)∧bx.length≤nx-i0∧bL (k+2) bx≤62*(nx-i0):=by
       intro kd tx kids j q1 q2 q3 q4;unfold m6;simp only[Int.toNat_natCast];rw[cO (by simp;omega) (by omega),aZ];refine ihm j _ (by omega) q2 (by omega) (fun b hb=>?_) (by simp;omega) ?_
       ·rcases List.mem_append.1 hb with hb|hb
        ·exact g3 b hb
        ·rw[List.mem_singleton.1 hb];exact q3
       ·rw[Wg,MI];simp only[];omega
      by_cases h5:Int.tmod (l.getD i default).Kind 8=5
      ·rw[if_pos (by simpa using h5),hw];exact go 4 ⟨#[]⟩ [] (i+1) (by omega) (by omega) ⟨_,hs,rfl,.inr (.inl ⟨rfl,rfl,rfl⟩)⟩ (by
        have:(⟨#[]⟩:ByteArray).size=0:=rfl;rw[this];simp[bL])
      ·rw[if_neg (by simpa using h5)];by_cases h6:Int.tmod (l.getD i default).Kind 8=6
       ·rw[if_pos (by simpa using h6),cO (by simp) (by omega),aZ,hw];refine go 5 ⟨#[]⟩ [{ gw with Kind:=3,Style:=(l.getD i default).Style,Text:=(l.getD i default).Text }] (i+1) (by omega) (by omega) ⟨_,hs,rfl,.inr (.inr (.inl ⟨rfl,rfl,h6,_,rfl,rfl,rfl,rfl,rfl⟩))⟩ ?_;have h0:(⟨#[]⟩:ByteArray).size=0:=rfl;have hz:bL k (gw).Kids=0:=by
         cases k<;>simp[bL,gw]
        have:=ht _ hs;rw[h0,MI];simp only[];rw[hz];omega
       ·rw[if_neg (by simpa using h6)];by_cases h7:Int.tmod (l.getD i default).Kind 8=7
        ·rw[if_pos (by simpa using h7),hw];obtain⟨bx,nx,e1,e2,e3,e4,e5,e6⟩:=ih N (i+1) (IntKind.wrap .u8 ((l.getD i default).Depth+1)) (by omega) (by omega) (by omega);show ∃(bx:List ai) (nx:Nat),((lG (KN N) N l ((i+1:Nat):Int) (IntKind.wrap .u8 ((l.getD i default).Depth+1))).bind _)=some (bx,(nx:Int))∧_;rw[e1];simp only[Option.bind_some];refine go 2 ⟨#[]⟩ bx nx (by omega) e3 ⟨_,hs,rfl,.inr (.inr (.inr ⟨rfl,rfl,e4⟩))⟩ ?_;have h0:(⟨#[]⟩:ByteArray).size=0:=rfl;rw[h0];omega
        ·rw[if_neg (by simpa using h7),hw];refine go 3 (l.getD i default).Text [] (i+1) (by omega) (by omega) ⟨_,hs,rfl,.inl ⟨rfl,rfl,rfl⟩⟩ ?_;have:=ht _ hs;have hz:bL (k+1) []=0:=by simp[bL]
         rw[hz];omega
    ·rw[if_neg (by simpa using hi)];exact stop
  obtain⟨bx,nx,e1,e2,e3,e4,e5,e6⟩:=loop (N+1) i0 [] (Nat.le_refl _) h2 (by omega) (fun b hb=>by cases hb) (by simp) (by simp[bL]);exact⟨bx,nx,e1,e2,e3,⟨by omega,e4⟩,e5,e6⟩
theorem Z1{l:List ci}(hl:l.length≤16)(ht:∀s∈l,s.Text.size≤60){N:Nat}(hN:70≤N):∃bx,tD (KN N) N l=some bx∧Bx l 16 bx∧Dp 17 bx∧bL 17 bx≤992:=by
 obtain⟨bx,nx,e1,e2,e3,e4,e5,e6⟩:=Wy hl ht 16 N 0 0 (by omega) (by omega) (by omega);have e6':bL 17 bx≤62*(nx-0):=e6;refine⟨bx,?_,e4,CC ht 16 bx e4,by omega⟩;unfold tD;rw[show lG (KN N) N l 0 0=_ from e1];rfl
theorem DM{l:List ci}:∀(d:Nat) (L:List ai) (s:Int×List aw) (Q:ai→Prop),Bx l d L→(∀b R,pf l R b→Q b)→(∀x∈s.2,Q x.Box)→∀x∈(vM (d+1) L s).2,Q x.Box:=by
 intro d
 induction d with
 | zero=>intro L s Q h hQ hs;unfold Bx at h;subst h;exact hs
 | succ d ih =>
  intro L s Q h hQ;unfold Bx at h;obtain⟨hz,h⟩:=h;clear hz
  induction L generalizing s with
  | nil=>intro hs;exact hs
  | cons b r ihL =>
   intro hs;rw[fF,List.foldl_cons,← fF];refine ihL _ (fun b hb=>h b (by simp[hb])) ?_;have hb:=h b (by simp);have ap:∀(y:aw),y.Box=b→∀x∈s.2++[y],Q x.Box:=fun y hy x hx=>by
    rcases List.mem_append.1 hx with hx|hx
    ·exact hs x hx
    ·rw[List.mem_singleton.1 hx,hy];exact hQ b _ hb
   unfold cV;cases gh b with
   | false=>exact hs
   | true =>
    simp only[cond_true];cases h2:(b.Kind == 2) with
    | true =>
     simp only[cond_true];obtain⟨_,_,_,h3|h4|h5|h2'⟩:=hb
     ·rw[h3.1]at h2;simp at h2
     ·rw[h4.1]at h2;simp at h2
     ·rw[h5.1]at h2;simp at h2
     ·exact ih b.Kids _ Q h2'.2.2 hQ hs
    | false =>
     simp only[cond_false];cases (b.Kind == 4) with
     | true=>exact ap _ rfl
     | false =>
      simp only[cond_false];cases (b.Kind == 5) with
      | true=>exact ap _ rfl
      | false =>
       simp only[cond_false];cases (b.Kind == 3) with
       | true=>exact ya (P:=fun x=>Q x.Box) b _ (fun _ _ _=>hQ b _ hb) (hQ b _ hb) (fun _=>hQ b _ hb) (fun _=>hQ b _ hb) _ _ AW hs
       | false=>exact hs
theorem Nu:∀(d:Nat) (L:List ai) (s:Int×List aw),(∀x∈s.2,x.Kind=3→x.Box.Kind=5)→∀x∈(vM d L s).2,x.Kind=3→x.Box.Kind=5:=by
 intro d
 induction d with
 | zero=>intro L s hs;exact hs
 | succ d ih =>
  intro L
  induction L with
  | nil=>intro s hs;exact hs
  | cons b r ihL =>
   intro s hs;rw[fF,List.foldl_cons,← fF];refine ihL _ ?_;have ap:∀(y:aw),(y.Kind=3→y.Box.Kind=5)→∀x∈s.2++[y],x.Kind=3→x.Box.Kind=5:=fun y hy x hx=>by
    rcases List.mem_append.1 hx with hx|hx
    ·exact hs x hx
    ·rw[List.mem_singleton.1 hx];exact hy
   unfold cV;cases gh b with
   | false=>exact hs
   | true =>
    simp only[cond_true];cases (b.Kind == 2) with
    | true=>exact ih b.Kids _ hs
    | false =>
     simp only[cond_false];cases (b.Kind == 4) with
     | true=>exact ap _ (fun e=>by cases e)
     | false =>
      simp only[cond_false];cases h5:(b.Kind == 5) with
      | true=>exact ap _ (fun _=>by simpa using h5)
      | false =>
       simp only[cond_false];cases (b.Kind == 3) with
       | true=>exact ya (P:=fun x=>x.Kind=3→x.Box.Kind=5) b _ (fun _ _ _ e=>by cases e) (fun e=>by cases e) (fun _ e=>by cases e) (fun _ e=>by cases e) _ _ AW hs
       | false=>exact hs
end Go.Proofs.YtnpmlepplfaijaaGreat
namespace Go.Proofs.YtnpmlepplfaijaaGreat
set_option linter.all false
open Go.RowKit
def bP(l:cr)(b:Int):Int×Bool :=
 if l.Kind=1 then (min (max l.Value (-1048576)) 1048576,true)
 else if l.Kind=2 then (min (max (aa (Int.tdiv (aa ((min (max b 0) 1048576)*(min (max l.Value (-1000000)) 1000000))) 10000)) (-1048576)) 1048576,true)
 else (0,false)
def cn(x:Int):Int:=min (max x 0) 1048576
section
variable(K:Kn)(n:Nat)
theorem yd(x:Int):fL K n x=some (cn x):=rfl
theorem CJ(x:Int):d9 K n x=some (cn x):=rfl
theorem iV(l:cr)(b:Int):dX K n l b=some (bP l b):=by
 unfold dX bP;by_cases h1:l.Kind=1
 ·simp[h1,tF]
 ·by_cases h2:l.Kind=2
  ·simp[h2,tF,fL]
  ·simp[h1,h2]
theorem yB(l:cr)(b:Int):dH K n l b=some (bP l b):=by
 unfold dH bP;by_cases h1:l.Kind=1
 ·simp[h1,iT]
 ·by_cases h2:l.Kind=2
  ·simp[h2,iT,d9]
  ·simp[h1,h2]
def eJ(s:aI)(w c:Int):Int :=
 let m:=if (bP s.MaxWidth w).2=true then min (max c 0) (max (bP s.MaxWidth w).1 0) else max c 0
 if (bP s.MinWidth w).2=true then max m (bP s.MinWidth w).1 else m
theorem yE(s:aI)(w c:Int):mQ K n s w c=some (eJ s w c):=by
 unfold mQ eJ;simp only[iV,Option.bind_some,uC,vA]
 repeat (first|rfl|split)
theorem yR(s:aI)(w c:Int):iU K n s w c=some (eJ s w c):=by
 unfold iU eJ;simp only[yB,Option.bind_some,mu,mf]
 repeat (first|rfl|split)
def ec(s:aI)(w c:Int):aV :=
 ⟨⟨(bP s.Margin.a0 w).1,(bP s.Margin.a1 w).1,(bP s.Margin.a2 w).1,(bP s.Margin.a3 w).1⟩,⟨cn s.Border.a0,cn s.Border.a1,cn s.Border.a2,cn s.Border.a3⟩,
  ⟨max (bP s.Padding.a0 w).1 0,max (bP s.Padding.a1 w).1 0,max (bP s.Padding.a2 w).1 0,max (bP s.Padding.a3 w).1 0⟩,c⟩
theorem wP(s:aI)(w c:Int):lN K n s w c=some (ec s w c):=by
 simp only[lN,iV,yd,Option.bind_some,ec]
theorem uy(s:aI)(w c:Int):jo K n s w c=some (ec s w c):=by
 simp only[jo,yB,CJ,Option.bind_some,ec]
def jj(z:aV):Int:=aa ((aa ((aa ((aa ((aa ((aa (z.Content+z.Margin.a1))+z.Margin.a3))+z.Border.a1))+z.Border.a3))+z.Padding.a1))+z.Padding.a3)
theorem wB(z:aV):kL K n z=some (jj z):=rfl
theorem tW(z:aV):jq K n z=some (jj z):=rfl
def fI(l:cr):Prop := -16777216≤l.Value∧l.Value≤16777216
theorem gc(l:cr):∃b,eE K n l=some b∧(b=true→fI l):=by
 unfold eE vx;by_cases h:l.Value ≥ -16777216
 ·simp only[h,decide_true,if_true];exact⟨_,rfl,fun e=>⟨h,of_decide_eq_true e⟩⟩
 ·simp only[h,decide_false,Bool.false_eq_true,if_false];exact⟨_,rfl,fun e=>by cases e⟩
structure Ez(x:ci):Prop where
 text:(x.Text.size:Int)≤60
 left:fI x.Style.Left
 top:fI x.Style.Top
 width:fI x.Style.Width
 height:fI x.Style.Height
 minw:fI x.Style.MinWidth
 maxw:fI x.Style.MaxWidth
 basis:fI x.Style.Basis
 lh:0≤x.Style.LineHeight∧x.Style.LineHeight≤65536
 fs:0≤x.Style.FontSize∧x.Style.FontSize≤65536
 grow:0≤x.Style.Grow∧x.Style.Grow≤1048576
 shrink:0≤x.Style.Shrink∧x.Style.Shrink≤1048576
 m0:fI x.Style.Margin.a0
 m1:fI x.Style.Margin.a1
 m2:fI x.Style.Margin.a2
 m3:fI x.Style.Margin.a3
 p0:fI x.Style.Padding.a0
 p1:fI x.Style.Padding.a1
 p2:fI x.Style.Padding.a2
 p3:fI x.Style.Padding.a3
theorem Zw(L:List ci)(m:Int)(L1:Int→Option Bool)(i:Int)(h0:0≤i)(hi:i<L.length):kP K n L m L1 i=some false∨(Ez (L.getD i.toNat default)∧kP K n L m L1 i=L1 (aa (i+1))):=by
 unfold kP;simp only[hi,decide_true,if_true,bT h0 hi,aZ];generalize hx:L.getD i.toNat default=x;have j5:∀b,rS K n L m i L1 b=if b=true then some false else L1 (aa (i+1)):=fun b=>rfl;obtain⟨b1,e1,f1⟩:=gc K n x.Style.Left;obtain⟨b2,e2,f2⟩:=gc K n x.Style.Top;obtain⟨b3,e3,f3⟩:=gc K n x.Style.Width;obtain⟨b4,e4,f4⟩:=gc K n x.Style.Height;obtain⟨b5,e5,f5⟩:=gc K n x.Style.MinWidth;obtain⟨b6,e6,f6⟩:=gc K n x.Style.MaxWidth;obtain⟨b7,e7,f7⟩:=gc K n x.Style.Basis;obtain⟨c0,g0,k0⟩:=gc K n x.Style.Margin.a0;obtain⟨c1,g1,k1⟩:=gc K n x.Style.Margin.a1;obtain⟨c2,g2,k2⟩:=gc K n x.Style.Margin.a2;obtain⟨c3,g3,k3⟩:=gc K n x.Style.Margin.a3;obtain⟨d0,q0,r0⟩:=gc K n x.Style.Padding.a0;obtain⟨d1,q1,r1⟩:=gc K n x.Style.Padding.a1;obtain⟨d2,q2,r2⟩:=gc K n x.Style.Padding.a2;obtain⟨d3,q3,r3⟩:=gc K n x.Style.Padding.a3;have jt:dY K n L m i L1 true=some false:=rfl;have j1:dY K n L m i L1 false=some false∨((c0=true∧c1=true∧c2=true∧c3=true∧d0=true∧d1=true∧d2=true∧d3=true)∧dY K n L m i L1 false=L1 (aa (i+1))):=by
  simp only[dY,uZ,xc,uM,rS,hx,g0,g1,g2,g3,q0,q1,q2,q3,Option.bind_some];cases c0<;>cases d0<;>cases c1<;>cases d1<;>cases c2<;>cases d2<;>cases c3<;>cases d3<;>simp
 simp only[e1,e2,e3,e4,e5,e6,e7,Option.bind_some,jt];by_cases t0:(x.Text.size:Int)>60
 ·left;simp[t0]
 simp only[t0,decide_false,Bool.false_eq_true,if_false];cases b1
 ·left;simp
 simp only[Bool.not_true,Bool.false_eq_true,if_false];cases b2
 ·left;simp
 simp only[Bool.not_true,Bool.false_eq_true,if_false];cases b3
 ·left;simp
 simp only[Bool.not_true,Bool.false_eq_true,if_false];cases b4
 ·left;simp
 simp only[Bool.not_true,Bool.false_eq_true,if_false];cases b5
 ·left;simp
 simp only[Bool.not_true,Bool.false_eq_true,if_false];cases b6
 ·left;simp
 simp only[Bool.not_true,Bool.false_eq_true,if_false];cases b7
 ·left;simp
 simp only[Bool.not_true,Bool.false_eq_true,if_false];by_cases u1:x.Style.LineHeight<0
 ·left;simp[u1]
 simp only[u1,decide_false,Bool.false_eq_true,if_false];by_cases u2:x.Style.LineHeight>65536
 ·left;simp[u2]
 simp only[u2,decide_false,Bool.false_eq_true,if_false];by_cases u3:x.Style.FontSize<0
 ·left;simp[u3]
 simp only[u3,decide_false,Bool.false_eq_true,if_false];by_cases u4:x.Style.FontSize>65536
 ·left;simp[u4]
 simp only[u4,decide_false,Bool.false_eq_true,if_false];by_cases u5:x.Style.Grow<0
 ·left;simp[u5]
 simp only[u5,decide_false,Bool.false_eq_true,if_false];by_cases u6:x.Style.Grow>1048576
 ·left;simp[u6]
 simp only[u6,decide_false,Bool.false_eq_true,if_false];by_cases u7:x.Style.Shrink<0
 ·left;simp[u7]
 simp only[u7,decide_false,Bool.false_eq_true,if_false];by_cases u8:x.Style.Shrink>1048576
 ·left;simp only[u8,decide_true];exact jt
 simp only[u8,decide_false];rcases j1 with h|⟨⟨a0,a1,a2,a3,p0,p1,p2,p3⟩,h⟩
 ·exact .inl h
 ·refine .inr ⟨⟨by omega,f1 rfl,f2 rfl,f3 rfl,f4 rfl,f5 rfl,f6 rfl,f7 rfl,⟨by omega,by omega⟩,⟨by omega,by omega⟩,⟨by omega,by omega⟩,⟨by omega,by omega⟩,k0 a0,k1 a1,k2 a2,k3 a3,r0 p0,r1 p1,r2 p2,r3 p3⟩,h⟩
theorem acF(L:List ci)(mx:Int)(hL:(L.length:Int)≤9223372036854775807):∀(m:Nat) (i:Int),0≤i→i≤L.length→(L.length:Int)<m+i →
  ∃b,qo K n L mx m i=some b∧(b=true→(L.length:Int)≤mx∧∀k,i.toNat≤k→k<L.length→Ez (L.getD k default)):=by
 intro m
 induction m with
 | zero=>intro i h0 h1 h2;omega
 | succ m ih =>
  intro i h0 h1 h2;show ∃b,kP K n L mx (qo K n L mx m) i=some b∧_;by_cases hi:i<(L.length:Int)
  ·rcases Zw K n L mx (qo K n L mx m) i h0 hi with h|⟨h,h'⟩
   ·exact⟨false,h,fun e=>by cases e⟩
   ·obtain⟨b,hb,hk⟩:=ih (i+1) (by omega) (by omega) (by omega);rw[h',bj (by omega) (by omega)];refine⟨b,hb,fun e=>⟨(hk e).1,fun k h3 h4=>?_⟩⟩;by_cases e2:k=i.toNat
    ·subst e2;exact h
    ·exact(hk e).2 k (by omega) h4
  ·have hd:decide (i<(L.length:Int))=false:=by simpa using hi
   unfold kP;simp only[hd,Bool.false_eq_true,if_false];exact⟨_,rfl,fun e=>⟨of_decide_eq_true e,fun k h3 h4=>by omega⟩⟩
theorem abO(L:List ci)(mx:Int)(hL:(L.length:Int)≤9223372036854775807)(hn:L.length<n):∃b,zF K n L mx=some b∧(b=true→(L.length:Int)≤mx∧∀x∈L,Ez x):=by
 obtain⟨b,h1,h2⟩:=acF K n L mx hL n 0 (by omega) (by omega) (by omega);refine⟨b,h1,fun e=>⟨(h2 e).1,fun x hx=>?_⟩⟩;obtain⟨k,hk,rfl⟩:=List.mem_iff_getElem.1 hx;have:=(h2 e).2 k (by simp) hk;rwa[bV hk]at this
end
end Go.Proofs.YtnpmlepplfaijaaGreat
namespace Go.Proofs.YtnpmlepplfaijaaGreat
set_option linter.all false
open Go.RowKit
theorem EM{α β:Type}{x:Option α}{f:α→Option β}(h:gb x)(hf:∀a,gb (f a)):gb (x.bind f):=by
 obtain⟨a,rfl⟩:=h;exact hf a
theorem O8(K:Kn)(n:Nat)(s:aI):gb (mg K n s):=by
 unfold mg nU oI oW qb pc oo pT oh pM qi s5
 repeat first|exact m8 _|apply ua
structure dZ(b:ai)(k:ai):Prop where
 kids:b.Kids=[k]
 kind:k.Kind=3
 text:k.Text.size≤60
section
variable{N:Nat}{b k:ai}
theorem GH(h:dZ b k):jw (KN (N+9)) (N+9) b=some ([k],false):=by
 have hf:gh k=true:=by unfold gh gB;rw[if_pos (by simp[h.kind])];rfl
 unfold jw;show kC (KN (N+9)) (N+9) b (nS (KN (N+9)) (N+9) b (N+8)) 0 []=_;unfold kC;rw[if_pos (by simp[h.kids]),bT (by omega) (by rw[h.kids];simp),aZ,A7];simp only[Option.bind_some,h.kids];have e0:([k].getD (Int.toNat 0) default)=k:=rfl;rw[e0,hf,if_pos rfl,cO (by simp) (by omega),aZ];unfold tV;rw[bj (by omega) (by omega)];show kC (KN (N+9)) (N+9) b (nS (KN (N+9)) (N+9) b (N+7)) (0+1) ([]++[k])=_;unfold kC;rw[if_neg (by simp[h.kids])];have hc:mO (KN (N+9)) (N+9) ([]++[k]) (Fv.fn 102)=some false:=by
  unfold mO uW;show(Option.bind (lQ (KN (N+9)) (N+9) [k] (Fv.fn 102) (k7 (KN (N+9)) (N+9) [k] (Fv.fn 102) (N+8)) 0) _)=_;unfold lQ;rw[if_pos (by simp),bT (by omega) (by simp),aZ];have ho:(KN (N+9)).jn (Fv.fn 102) ([k].getD (Int.toNat 0) default)=some false:=by
   show mS (KN (N+8)) (N+8) k=some false;unfold mS pi;rw[if_neg (by simp[h.kind]),if_neg (by simp[h.kind])];simp[h.kind]
  rw[ho];simp only[Option.bind_some,Bool.false_eq_true,if_false];rw[bj (by omega) (by omega)];show(Option.bind (lQ (KN (N+9)) (N+9) [k] (Fv.fn 102) (k7 (KN (N+9)) (N+9) [k] (Fv.fn 102) (N+7)) (0+1)) _)=_;unfold lQ;rw[if_neg (by simp)];rfl
 rw[hc];rfl
theorem abo(h:dZ b k)(s:aI):gb (j0 (KN (N+9)) (N+9) [k] s):=by
 unfold j0;show gb (hJ (KN (N+9)) (N+9) [k] (jx (KN (N+9)) (N+9) [k] (N+8)) 0 0 0);unfold hJ;rw[if_pos (by simp),bT (by omega) (by simp),aZ,bj (n:=0+1) (by omega) (by omega)];generalize max (0:Int) _=x;generalize aa (0+_)=y;show gb (hJ (KN (N+9)) (N+9) [k] (jx (KN (N+9)) (N+9) [k] (N+7)) x y (0+1));unfold hJ;rw[if_neg (by simp)];exact m8 _
theorem Ve(h:dZ b k)(s:aI)(w:Int):∃l y,jr (KN (N+9)) (N+9) [k] s w=some (l,y)∧l.length≤1:=by
 unfold jr;show ∃l y,iw (KN (N+9)) (N+9) [k] s w (i8 (KN (N+9)) (N+9) [k] s w (N+8)) 0 0 []=some (l,y)∧_;unfold iw;rw[if_pos (by simp),bT (by omega) (by simp)];simp only[aZ,Option.bind_some];have fin:∀(y:Int) (l:List ah),l.length≤1→∃l' y',jv (KN (N+9)) (N+9) [k] s w 0 (i8 (KN (N+9)) (N+9) [k] s w (N+8)) y l=some (l',y')∧l'.length≤1:=fun y l hl=>by
  unfold jv;rw[bj (by omega) (by omega)];show ∃l' y',iw (KN (N+9)) (N+9) [k] s w (i8 (KN (N+9)) (N+9) [k] s w (N+7)) y (0+1) l=some (l',y')∧_;unfold iw;rw[if_neg (by simp)];exact⟨l,y,rfl,hl⟩
 split
 ·rw[cO (by simp) (by omega),aZ];exact fin _ _ (by simp)
 ·exact fin _ _ (by simp)
def Tk(x:Option ah):Prop:=∃f,x=some f∧f.Kind=1
theorem ib{c:Prop}[Decidable c]{x y:Option ah}(h1:Tk x)(h2:Tk y):Tk (if c then x else y):=by split;exact h1;exact h2
theorem Vn(K:Kn)(n:Nat)(b:ai)(z:aV)(F:List ai)(v19:List ah)(v25:Int)(v33 v34:ax)(v35:Bool)(v39 v40:Int)(hl:v19.length≤1000):∀(m i:Nat) (v48:List ah),i≤v19.length→v19.length<m+i→v48.length=v19.length→Tk (l7 K n b z (F,false) v19 v25 v33 v34 v35 v39 v40 m i v48):=by
 intro m
 induction m with
 | zero=>intro i v48 h1 h2;omega
 | succ m ih =>
  intro i v48 h1 h2 h3;show Tk (qz K n b z (F,false) v19 v25 v33 v34 v35 v39 v40 (l7 K n b z (F,false) v19 v25 v33 v34 v35 v39 v40 m) i v48);unfold qz;by_cases hi:i<v19.length
  ·rw[if_pos (by simpa using hi),bT (by omega) (by omega)];simp only[aZ,Option.bind_some,List.length_set];rw[bT (by omega) (by omega)];simp only[aZ,Option.bind_some,Bool.false_eq_true,if_false];unfold qE rW;rw[if_neg (by simp),bj (by omega) (by omega)];exact ih (i+1) _ (by omega) (by omega) (by simp[h3])
  ·rw[if_neg (by simpa using hi)];exact⟨_,rfl,rfl⟩
theorem R3(K:Kn)(n:Nat)(b:ai)(z:aV)(F:List ai)(v19:List ah)(v25 v32:Int)(v33 v34:ax)(v35:Bool)(hl:v19.length≤1000)(hn:1001≤n):Tk (ij K n b z (F,false) v19 v25 v32 v33 v34 v35):=by
 have h8:∀x,Tk (oX K n b z (F,false) v19 v25 v33 v34 v35 x):=fun x=>Vn K n b z F v19 v25 v33 v34 v35 _ _ hl n 0 v19 (by omega) (by omega) rfl;unfold ij;rw[iV];simp only[Option.bind_some];unfold qV;exact ib (ib (h8 _) (h8 _)) (ib (h8 _) (h8 _))
theorem P9(h:dZ b k)(hN:1100≤N)(z:aV)(env:cg)(he:env.Lines=(Fv.fn 33)):Tk (m5 (KN (N+10)) (N+10) b z false false env):=by
 unfold m5;rw[show jw (KN (N+10)) (N+10) b=_ from GH (N:=N+1) h];simp only[Option.bind_some,Bool.false_eq_true,if_false];rw[he];obtain⟨l,y,e,hl⟩:=Ve (N:=N) h b.Style z.Content;rw[show(KN (N+10)).rC ((Fv.fn 33)) [k] b.Style z.Content=some (l,y) from e];simp only[Option.bind_some];have hcl:∃l',nK (KN (N+10)) (N+10) l=some l'∧l'.length≤1000:=by
  unfold nK both;rw[cO (by simp;omega) (by omega)];cases l with
  | nil=>exact⟨[],by simp[aZ],by simp⟩
  | cons x r=>exact⟨x::r,by simp[aZ],by omega⟩
 obtain⟨l',e2,hl2⟩:=hcl;rw[e2];simp only[Option.bind_some];have j6:∀a b' c d e',Tk (ij (KN (N+10)) (N+10) b z ([k],false) l' a b' c d e'):=fun a b' c d e'=>R3 _ _ b z [k] l' a b' c d e' hl2 (by omega);have j5:∀v15 v16 v17 v18 v21 v25 v26 v27,Tk (lY (KN (N+10)) (N+10) b z false ([k],false) v15 v16 v17 v18 l' v21 v25 v26 v27):=fun v15 v16 v17 v18 v21 v25 v26 v27=>by
  unfold lY;refine ib (j6 _ _ _ _ _) (ib (ib (j6 _ _ _ _ _) (j6 _ _ _ _ _)) (ib (j6 _ _ _ _ _) (j6 _ _ _ _ _)))
 have j4:∀v15 v16 v17 v18 v21 v25 v26,Tk (nq (KN (N+10)) (N+10) b z false false ([k],false) v15 v16 v17 v18 l' v21 v25 v26):=fun v15 v16 v17 v18 v21 v25 v26=>by
  unfold nq;exact ib (ib (j5 _ _ _ _ _ _ _ _) (j5 _ _ _ _ _ _ _ _)) (j5 _ _ _ _ _ _ _ _)
 have j3:∀v15 v16 v17 v18 v20 v21 v23,Tk (ot (KN (N+10)) (N+10) b z false false ([k],false) v15 v16 v17 v18 l' v20 v21 v23):=fun v15 v16 v17 v18 v20 v21 v23=>by
  unfold ot;exact ib (j4 _ _ _ _ _ _ _) (j4 _ _ _ _ _ _ _)
 unfold lF;simp only[sV,Option.bind_some];exact ib (by obtain⟨v,hv⟩:∃v,ix (KN (N+10)) (N+10) ⟨max z.Margin.a0 0,min z.Margin.a0 0⟩ cI=some v:=⟨_,rfl⟩;rw[hv];exact j4 _ _ _ _ _ _ _) (ib (j3 _ _ _ _ _ _ _) (j3 _ _ _ _ _ _ _))
theorem Y5(K:Kn)(n:Nat)(f:ah)(w:Int):∃g,nj K n f w=some g∧g.Kind=f.Kind:=by
 unfold nj tu;simp only[iV,Option.bind_some]
 repeat' split
 all_goals exact⟨_,rfl,rfl⟩
theorem VP(h:dZ b k)(hN:1100≤N)(w:Int):∃r,kE (KN (N+10)) (N+10) b w ⟨(Fv.fn 31),(Fv.fn 32),(Fv.fn 33),(Fv.fn 34)⟩=some r∧r.Text=⟨#[]⟩∧(∃f,r.Box=[f]∧f.Kind=1)∧r.Forced=false:=by
 have hin:gb (jQ (KN (N+10)) (N+10) b ⟨(Fv.fn 31),(Fv.fn 32),(Fv.fn 33),(Fv.fn 34)⟩):=by
  unfold jQ;refine EM (O8 _ _ _) fun s=>?_;rw[iV];simp only[Option.bind_some];refine ua (m8 _) ?_;rw[show jw (KN (N+10)) (N+10) b=_ from GH (N:=N+1) h];simp only[Option.bind_some,Bool.not_false,if_true];exact EM (abo (N:=N) h b.Style) fun x=>m8 _
 have hs:gb (mB (KN (N+10)) (N+10) b w ⟨(Fv.fn 31),(Fv.fn 32),(Fv.fn 33),(Fv.fn 34)⟩):=by
  unfold mB pI;rw[iV];simp only[Option.bind_some,yE];refine ua ?_ (m8 _);refine EM hin fun x=>?_;simp only[yd,wP,wB,Option.bind_some];exact m8 _
 obtain⟨c,hc⟩:=hs;unfold kE;rw[hc];simp only[Option.bind_some,wP];obtain⟨f,hf,hk⟩:=P9 h hN (ec b.Style w c) ⟨(Fv.fn 31),(Fv.fn 32),(Fv.fn 33),(Fv.fn 34)⟩ rfl;unfold n4;rw[hf];simp only[Option.bind_some];obtain⟨g,hg,hgk⟩:=Y5 (KN (N+10)) (N+10) f w;rw[hg];simp only[Option.bind_some,wB,gk];exact⟨_,rfl,rfl,⟨g,rfl,by rw[hgk,hk]⟩,rfl⟩
end
end Go.Proofs.YtnpmlepplfaijaaGreat
namespace Go.Proofs.YtnpmlepplfaijaaGreat
set_option linter.all false
open Go.RowKit
noncomputable section
def gP:cg:=⟨(Fv.fn 31),(Fv.fn 32),(Fv.fn 33),(Fv.fn 34)⟩
def ge(M:Nat)(w:Int)(b:ai):ay:=(kE (KN (M+10)) (M+10) b w gP).getD default
theorem M8{l:List ci}(ht:∀s∈l,s.Text.size≤60){d:Nat}{bx:List ai}(hb:Bx l d bx):∀e∈cd (d+1) bx,e.Kind=3→∃k,dZ e.Box k:=by
 intro e he h3;have h5:=Nu (d+1) bx (0,[]) (fun x hx=>by cases hx) e he h3;have hQ:=DM (l:=l) d bx (0,[]) (fun b=>b.Kind=5→∃k,dZ b k) hb (fun b R hk h5=>by
  obtain⟨s,hs,_,q|q|q|q⟩:=hk
  ·rw[q.1]at h5;cases h5
  ·rw[q.1]at h5;cases h5
  ·obtain⟨k,k1,k2,_,_,k5⟩:=q.2.2.2;exact⟨k,k1,k2,by rw[k5];exact ht s hs⟩
  ·rw[q.1]at h5;cases h5) (fun x hx=>by cases hx) e he
 exact hQ h5
theorem Zj{l:List ci}(ht:∀s∈l,s.Text.size≤60){d:Nat}{bx:List ai}(hb:Bx l d bx)(hc:bL (d+1) bx≤2000){M:Nat}(hM:d+9100≤M)(w:Int):qy (KN (M+11)) (M+11) bx w gP=some (d8 (ge M w) (cd (d+1) bx)):=by
 unfold qy;rw[show tB (KN (M+11)) (M+11) bx _=_ from RO (pl:=ge M w) (CC ht d bx hb) hc (by omega) (fun e he h3=>by
  obtain⟨k,hk⟩:=M8 ht hb e he h3;obtain⟨r,hr,_⟩:=VP hk (N:=M) (by omega) w;show kE (KN (M+10)) (M+10) e.Box w gP=_;unfold ge;rw[show kE (KN (M+10)) (M+10) e.Box w gP=_ from hr];rfl)]
 rfl
end
end Go.Proofs.YtnpmlepplfaijaaGreat
namespace Go.Proofs.YtnpmlepplfaijaaGreat
set_option linter.all false
open Go.RowKit
set_option linter.unusedSimpArgs false
def yM(r:(List ah)×Int×ax×ax×Bool):cC:=⟨r.1,r.2.1,r.2.2.1,r.2.2.2.1,r.2.2.2.2⟩
theorem HT(K:Kn)(n:Nat)(L:List ah):∀(m:Nat) (i h:Int) (b:ax) (t:Bool) (mm:ax) (l:List ah),
  mA K n L m i h b t mm l=(iR K n L m h t i b mm l).map yM
 | 0,_,_,_,_,_,_=>rfl
 | m+1,i,h,b,t,mm,l=>by
  simp only[mA,mX,iR,qd,ix,ip,gA,gk,Option.bind_some,lU,l4,nn,l6,o9,pe,oB,oU,HT K n L m,VK,acu,Option.map_some,yM]
theorem Uf(K:Kn)(n:Nat)(L:List ah):mR K n L=(nZ K n L).map yM:=HT K n L n _ _ _ _ _ _
theorem XS(K:Kn)(n:Nat)(L:List ah)(hL:(L.length:Int)≤9223372036854775807):∀(m:Nat) (i h:Int) (b:ax) (t:Bool) (mm:ax) (l:List ah),0≤i→i≤L.length→(L.length:Int)<m+i→((l.length:Int)+L.length)*584≤140737488355328+i*584 →
  ∃r,iR K n L m h t i b mm l=some r∧(r.1.length:Int)=l.length+L.length-i∧(∀f∈r.1,f∈l∨∃g∈L,f.Kids=g.Kids):=by
 intro m
 induction m with
 | zero=>intro i _ _ _ _ _ h0 h1 h2 _;omega
 | succ m ih =>
  intro i h b t mm l h0 h1 h2 h3;simp only[iR,qd];by_cases hi:i<(L.length:Int)
  ·have hin:=bT h0 hi;have hw:aa (i+1)=i+1:=bj (by omega) (by omega);have hf:fits (l.length+1) 584=true:=cO (by omega) (by omega);have key:∀(h':Int) (t':Bool) (b' mm':ax) (y:Int),∃r,iR K n L m h' t' (i+1) b' mm' (l++[{ L.getD i.toNat default with Y:=y }])=some r∧(r.1.length:Int)=l.length+L.length-i∧(∀f∈r.1,f∈l∨∃g∈L,f.Kids=g.Kids):=by
    intro h' t' b' mm' y;obtain⟨r,hr,hlen,hk⟩:=ih (i+1) h' b' t' mm' (l++[{ L.getD i.toNat default with Y:=y }]) (by omega) (by omega) (by omega) (by simp only[List.length_append,List.length_cons,List.length_nil];omega);refine⟨r,hr,by rw[hlen];simp only[List.length_append,List.length_cons,List.length_nil];omega,fun f hf=>?_⟩;rcases hk f hf with hm|hm
    ·rcases List.mem_append.1 hm with hm|hm
     ·exact .inl hm
     ·right;have hlt:i.toNat<L.length:=by omega
      refine⟨L[i.toNat],List.getElem_mem _,?_⟩;simp only[List.mem_cons,List.not_mem_nil,or_false]at hm;rw[hm,bV hlt]
    ·exact .inr hm
   simp only[hi,decide_true,if_true,hin,aZ,ix,gk,Option.bind_some,o9,pe,oB,List.length_cons,List.length_nil,Nat.zero_add,hf,hw]
   repeat (first|exact key _ _ _ _ _|split)
  ·have:decide (i<(L.length:Int))=false:=by simpa using hi
   simp only[this,Bool.false_eq_true,if_false,oU];split<;>exact⟨_,rfl,by show(l.length:Int)=_;omega,fun f hf=>.inl hf⟩
theorem OX(K:Kn)(n:Nat)(L:List ah)(hn:L.length<n)(hL:L.length*584≤140737488355328):∃r,nZ K n L=some r∧r.1.length=L.length∧∀f∈r.1,∃g∈L,f.Kids=g.Kids:=by
 obtain⟨r,h1,hlen,h2⟩:=XS K n L (by omega) n 0 0 cI true cI [] (by omega) (by omega) (by omega) (by simp;omega);exact⟨r,h1,by simp only[List.length_nil]at hlen;omega,fun f hf=>(h2 f hf).elim (fun h=>by cases h) (fun h=>h)⟩
end Go.Proofs.YtnpmlepplfaijaaGreat
namespace Go.Proofs.YtnpmlepplfaijaaGreat
set_option linter.all false
open Go.RowKit
theorem kn{i:Nat}(h:i<1000000):aa ((i:Int)+1)=((i+1:Nat):Int):=by rw[bj (by omega) (by omega)];omega
theorem jz{i n:Nat}(h:i<n):decide ((i:Int)<(n:Int))=true:=by simpa using h
theorem kk{i n:Nat}(h:n≤i):decide ((i:Int)<(n:Int))=false:=by simpa using h
theorem ic{i n:Nat}(h:i<n):aY (i:Int) n=true:=bT (by omega) (by omega)
theorem drop_at'{α:Type}[Inhabited α]{L:List α}{i:Nat}(h:i<L.length):L.drop i=L.getD i default::L.drop (i+1):=by
 rw[bV h];exact List.drop_eq_getElem_cons h
theorem yY{α:Type}[Inhabited α]{L:List α}{i:Nat}(h:i<L.length):L.getD i default∈L:=by
 rw[bV h];exact List.getElem_mem h
def hZ(k:ai):Bool:=k.Kind == 3||k.Style.Position != 2
def dj(k:ai):Bool:=k.Kind == 1||(k.Kind == 6||k.Kind == 7)
theorem OP(K:Kn)(n:Nat)(k:ai):gB K n k=some (hZ k):=by
 unfold gB hZ wa;cases h:k.Kind == 3<;>simp
theorem W7(K:Kn)(n:Nat)(k:ai):iQ K n k=some (hZ k):=by
 unfold iQ hZ mV;cases h:k.Kind == 3<;>simp
theorem Ae(K:Kn)(n:Nat)(k:ai):mS K n k=some (dj k):=by
 unfold mS dj pi;cases h:k.Kind == 1<;>cases h2:k.Kind == 6<;>simp
theorem PM(K:Kn)(n:Nat)(hO:∀x,K.jn (Fv.fn 102) x=some (dj x))(L:List ai)(hL:L.length≤20):∀(m i:Nat),i≤L.length→L.length<m+i →
  ∃r,k7 K n L (Fv.fn 102) m i=some r∧decide (r≥0)=(L.drop i).any dj:=by
 intro m
 induction m with
 | zero=>intro i h1 h2;omega
 | succ m ih =>
  intro i h1 h2;simp only[k7,lQ];by_cases hi:i<L.length
  ·rw[drop_at' hi];simp only[jz hi,if_true,ic hi,aZ,hO,Option.bind_some,Int.toNat_natCast,List.any_cons,kn (show i<1000000 by omega)];cases hq:dj (L.getD i default)
   ·simp only[Bool.false_eq_true,if_false,Bool.false_or];exact ih (i+1) (by omega) (by omega)
   ·exact⟨_,rfl,by simp⟩
  ·have e:i=L.length:=by omega
   subst e;simp only[kk (Nat.le_refl _),Bool.false_eq_true,if_false,List.drop_length];exact⟨_,rfl,by simp⟩
theorem Ri(K:Kn)(n:Nat)(hO:∀x,K.jn (Fv.fn 102) x=some (dj x))(L:List ai)(hL:L.length≤20)(hn:20<n):mO K n L (Fv.fn 102)=some (L.any dj):=by
 obtain⟨r,h1,h2⟩:=PM K n hO L hL n 0 (by omega) (by omega);unfold mO uW;rw[show k7 K n L (Fv.fn 102) n 0=some r from h1];simp only[Option.bind_some,h2,List.drop_zero]
theorem V9(K:Kn)(n:Nat)(b:ai)(hb:b.Kids.length≤20):∀(m i:Nat) (acc:List ai),i≤b.Kids.length→b.Kids.length<m+i→acc.length≤i →
  nS K n b m i acc=(mO K n (acc++(b.Kids.drop i).filter hZ) (Fv.fn 102)).bind fun v=>some (acc++(b.Kids.drop i).filter hZ,v):=by
 intro m
 induction m with
 | zero=>intro i acc h1 h2;omega
 | succ m ih =>
  intro i acc h1 h2 h3;simp only[nS,kC];by_cases hi:i<b.Kids.length
  ·rw[drop_at' hi];simp only[jz hi,if_true,ic hi,aZ,OP,Option.bind_some,tV,Int.toNat_natCast,List.length_cons,List.length_nil,kn (show i<1000000 by omega),List.filter_cons];cases hq:hZ (b.Kids.getD i default)
   ·simp only[Bool.false_eq_true,if_false];exact ih (i+1) acc (by omega) (by omega) (by omega)
   ·simp only[if_true];rw[cO (by omega) (by omega),aZ,ih (i+1) _ (by omega) (by omega) (by simp;omega)];simp only[List.append_assoc,List.singleton_append]
  ·have e:i=b.Kids.length:=by omega
   subst e;simp only[kk (Nat.le_refl _),Bool.false_eq_true,if_false,List.drop_length,List.filter_nil,List.append_nil]
def ca(b:ai):List ai:=b.Kids.filter hZ
theorem sL{b:ai}:(ca b).length≤b.Kids.length:=List.length_filter_le _ _
theorem B9(K:Kn)(n:Nat)(hO:∀x,K.jn (Fv.fn 102) x=some (dj x))(b:ai)(hb:b.Kids.length≤20)(hn:20<n):jw K n b=some (ca b,(ca b).any dj):=by
 have h:=V9 K n b hb n 0 [] (by omega) (by omega) (by simp);unfold jw;refine (show _=_ from h).trans ?_;simp only[List.nil_append,List.drop_zero];rw[show b.Kids.filter hZ=ca b from rfl,Ri K n hO _ (Nat.le_trans sL hb) hn];rfl
theorem Q0(K:Kn)(n:Nat)(b:ai)(hb:b.Kids.length≤20):∀(m i:Nat) (acc:List ai),i≤b.Kids.length→b.Kids.length<m+i→acc.length≤i →
  lV K n b m i acc=some (acc++(b.Kids.drop i).filter hZ):=by
 intro m
 induction m with
 | zero=>intro i acc h1 h2;omega
 | succ m ih =>
  intro i acc h1 h2 h3;simp only[lV,mn];by_cases hi:i<b.Kids.length
  ·rw[drop_at' hi];simp only[jz hi,if_true,ic hi,aZ,W7,Option.bind_some,l8,Int.toNat_natCast,List.length_cons,List.length_nil,kn (show i<1000000 by omega),List.filter_cons];cases hq:hZ (b.Kids.getD i default)
   ·simp only[Bool.false_eq_true,if_false];exact ih (i+1) acc (by omega) (by omega) (by omega)
   ·simp only[if_true];rw[cO (by omega) (by omega),aZ,ih (i+1) _ (by omega) (by omega) (by simp;omega)];simp only[List.append_assoc,List.singleton_append]
  ·have e:i=b.Kids.length:=by omega
   subst e;simp only[kk (Nat.le_refl _),Bool.false_eq_true,if_false,List.drop_length,List.filter_nil,List.append_nil]
theorem z7(K:Kn)(n:Nat)(b:ai)(hb:b.Kids.length≤20)(hn:20<n):kW K n b=some (ca b):=by
 have h:=Q0 K n b hb n 0 [] (by omega) (by omega) (by simp);exact(show _=_ from h).trans (by simp only[List.nil_append,List.drop_zero];rfl)
theorem Yf(K:Kn)(n:Nat)(L:List ai)(hL:L.length≤20):∀(m i:Nat),i≤L.length→L.length<m+i→nI K n L m i=some ((L.drop i).any fun k=>k.Kind == 1):=by
 intro m
 induction m with
 | zero=>intro i h1 h2;omega
 | succ m ih =>
  intro i h1 h2;simp only[nI,mL];by_cases hi:i<L.length
  ·rw[drop_at' hi];simp only[jz hi,if_true,ic hi,aZ,Int.toNat_natCast,List.any_cons,kn (show i<1000000 by omega)];cases hq:(L.getD i default).Kind == 1
   ·simp only[Bool.false_eq_true,if_false,Bool.false_or];exact ih (i+1) (by omega) (by omega)
   ·simp
  ·have e:i=L.length:=by omega
   subst e;simp[kk (Nat.le_refl _)]
theorem DJ(K:Kn)(n:Nat)(b:ai)(hb:b.Kids.length≤20)(hn:20<n):k9 K n b=some ((ca b).any fun k=>k.Kind == 1):=by
 unfold k9;rw[z7 K n b hb hn,Option.bind_some];have:=@sL b;exact(Yf K n (ca b) (by omega) n 0 (by omega) (by omega)).trans (by simp only[List.drop_zero])
def fE(s:aI)(w:Int):List ai→Int→List ah→List ah×Int
 | [],y,acc=>(acc,y)
 | k::r,y,acc=>if k.Text.toList == (⟨#[]⟩:ByteArray).toList then fE s w r y acc else fE s w r (aa (y+s.LineHeight)) (acc++[{ bA with Kind:=2,Y:=y,W:=w,H:=s.LineHeight,Text:=k.Text }])
theorem ZU(K:Kn)(n:Nat)(L:List ai)(s:aI)(w:Int)(hL:L.length≤20):∀(m i:Nat) (y:Int) (acc:List ah),i≤L.length→L.length<m+i→acc.length≤i →
  i8 K n L s w m y i acc=some (fE s w (L.drop i) y acc):=by
 intro m
 induction m with
 | zero=>intro i y acc h1 h2;omega
 | succ m ih =>
  intro i y acc h1 h2 h3;simp only[i8,iw];by_cases hi:i<L.length
  ·rw[drop_at' hi];simp only[jz hi,if_true,ic hi,aZ,Option.bind_some,jv,Int.toNat_natCast,List.length_cons,List.length_nil,kn (show i<1000000 by omega),fE];cases hq:(L.getD i default).Text.toList == (⟨#[]⟩:ByteArray).toList
   ·simp only[Bool.not_false,Bool.false_eq_true,if_false,if_true];rw[cO (by omega) (by omega),aZ,ih (i+1) _ _ (by omega) (by omega) (by simp;omega)]
   ·simp only[Bool.not_true,Bool.false_eq_true,if_false,if_true];exact ih (i+1) _ acc (by omega) (by omega) (by omega)
  ·have e:i=L.length:=by omega
   subst e;simp only[kk (Nat.le_refl _),Bool.false_eq_true,if_false,List.drop_length,fE]
theorem NK(K:Kn)(n:Nat)(L:List ai)(s:aI)(w:Int)(hL:L.length≤20)(hn:20<n):jr K n L s w=some (fE s w L 0 []) :=
 (ZU K n L s w hL n 0 0 [] (by omega) (by omega) (by simp)).trans (by simp only[List.drop_zero])
theorem CY(s:aI)(w:Int):∀(L:List ai) (y:Int) (acc:List ah),(∀f∈acc,f.Kids=[])→(fE s w L y acc).1.length≤acc.length+L.length∧∀f∈(fE s w L y acc).1,f.Kids=[]
 | [],y,acc,h=>⟨by simp[fE],h⟩
 | k::r,y,acc,h=>by
  unfold fE;split
  ·have:=CY s w r y acc h;exact⟨by simp only[List.length_cons];omega,this.2⟩
  ·have:=CY s w r (aa (y+s.LineHeight)) (acc++[{ bA with Kind:=2,Y:=y,W:=w,H:=s.LineHeight,Text:=k.Text }]) (fun f hf=>by
    rcases List.mem_append.1 hf with hf|hf
    ·exact h f hf
    ·simp only[List.mem_cons,List.not_mem_nil,or_false]at hf;subst hf;rfl)
   refine⟨?_,this.2⟩;have h1:=this.1;simp only[List.length_append,List.length_cons,List.length_nil]at h1⊢;omega
def gy(f:ah)(w:Int):ah :=
 if f.Style.Position=1 then { f with X:=aa (f.X+(bP f.Style.Left w).1),Y:=if f.Style.Top.Kind=1 then aa (f.Y+(bP f.Style.Top 0).1) else f.Y } else f
theorem G8(K:Kn)(n:Nat)(f:ah)(w:Int):nj K n f w=some (gy f w):=by
 unfold nj gy;simp only[iV,Option.bind_some,tu];by_cases h:f.Style.Position=1
 ·by_cases h2:f.Style.Top.Kind=1<;>simp[h,h2]
 ·simp[h]
theorem E9(K:Kn)(n:Nat)(f:ah)(w:Int):lP K n f w=some (gy f w):=by
 unfold lP gy;simp only[yB,Option.bind_some,mU];by_cases h:f.Style.Position=1
 ·by_cases h2:f.Style.Top.Kind=1<;>simp[h,h2]
 ·simp[h]
theorem Hw(f:ah)(w:Int):(gy f w).Kids=f.Kids:=by unfold gy;split<;>rfl
def Fd:Nat→ah→Prop
 | 0,_=>False
 | d+1,f=>f.Kids.length≤20∧∀k∈f.Kids,Fd d k
end Go.Proofs.YtnpmlepplfaijaaGreat
namespace Go.Proofs.YtnpmlepplfaijaaGreat
set_option linter.all false
open Go.RowKit
theorem z1{a b:Int}(h:a % 18446744073709551616=b % 18446744073709551616):aa a=aa b:=by
 unfold aa;rw[IntKind.wrap_i64,IntKind.wrap_i64];omega
theorem gL(a:Int):aa a % 18446744073709551616=a % 18446744073709551616:=by
 unfold aa;rw[IntKind.wrap_i64];omega
def jT(bl:Bool)(z:aV)(down:Int)(f:ah):ah :=
 if bl=true then gy { f with X:=aa (f.X+aa (z.Border.a3+z.Padding.a3)),Y:=aa (f.Y+aa (aa (z.Border.a0+z.Padding.a0)+down)) } z.Content
 else { f with X:=aa (f.X+aa (z.Border.a3+z.Padding.a3)),Y:=aa (f.Y+aa (aa (z.Border.a0+z.Padding.a0)+down)) }
theorem VG(bl:Bool)(z:aV)(down:Int)(f:ah):(jT bl z down f).Kids=f.Kids:=by
 unfold jT;split
 ·rw[Hw]
 ·rfl
def nt(b:ai)(z:aV)(bl:Bool)(L:List ah)(d:Int)(bf af:ax)(em:Bool)(h:Int):ah :=
 ⟨1,b.Node,z.Margin.a3,0,aa (z.Content+aa (aa (aa (z.Border.a3+z.Padding.a3)+z.Border.a1)+z.Padding.a1)),aa (aa (aa (aa (h+z.Border.a0)+z.Padding.a0)+z.Border.a2)+z.Padding.a2),0,⟨#[]⟩,b.Style,bf,af,em,L.map (jT bl z d)⟩
theorem Gg{α:Type}(A R:List α)(x y:α):(A++x::R).set A.length y=A++y::R:=by
 rw[List.set_append_right _ _ (Nat.le_refl _)];simp
theorem xi{α:Type}(A R:List α)(x d:α):(A++x::R).getD A.length d=x:=by simp[List.getD_eq_getElem?_getD]
theorem VH(K:Kn)(n:Nat)(b:ai)(z:aV)(v6:(List ai)×Bool)(L:List ah)(d:Int)(bf af:ax)(em:Bool)(v39 H:Int)(hl:L.length≤20)(ho:v6.2=true→v6.1.length=L.length∧∀k∈v6.1,dj k=true):
  ∀(m:Nat) (A R:List ah),A.length+R.length=L.length→R.length<m→l7 K n b z v6 L d bf af em v39 H m (A.length:Int) (A++R) =
   some ⟨1,b.Node,z.Margin.a3,0,aa (z.Content+v39),H,0,⟨#[]⟩,b.Style,bf,af,em,A++R.map (jT v6.2 z d)⟩:=by
 intro m
 induction m with
 | zero=>intro A R _ h2;omega
 | succ m ih =>
  intro A R h1 h2;simp only[l7,qz];cases R with
  | nil =>
   have e:A.length=L.length:=by simpa using h1
   simp only[kk (show L.length≤A.length by omega),Bool.false_eq_true,if_false,List.map_nil]
  | cons x R =>
   simp only[List.length_cons]at h1 h2;have hA:A.length<L.length:=by omega
   have nx:=ih (A++[jT v6.2 z d x]) R (by simp;omega) (by omega);simp only[List.append_assoc,List.singleton_append,List.length_append,List.length_cons,List.length_nil,Nat.zero_add]at nx;simp only[jz hA,if_true,Int.toNat_natCast,Gg,xi,ic (show A.length<(A++x::R).length by simp),List.length_append,List.length_cons,ic (show A.length<A.length+(R.length+1) by omega),aZ,Ae,Option.bind_some,qE,rW,G8,kn (show A.length<1000000 by omega),List.map_cons];cases hv:v6.2 with
   | false =>
    rw[hv]at nx;simp only[Bool.false_eq_true,if_false];simp only[jT,Bool.false_eq_true,if_false]at nx⊢;exact nx
   | true =>
    rw[hv]at nx;obtain⟨g1,g2⟩:=ho hv;have hin:A.length<v6.1.length:=by omega
    simp only[if_true,ic hin,aZ,g2 _ (yY hin)];simp only[jT,if_true]at nx⊢;exact nx
theorem PQ(K:Kn)(n:Nat)(b:ai)(z:aV)(W:Int)(bl:Bool)(v13:Int)(v14 v15:ax)(v16:Bool)(L:List ah)(d:Int)(bf af:ax)(em:Bool)(H:Int)(hl:L.length≤20):
  ∀(m i:Nat) (acc:List ah),i≤L.length→L.length<m+i→acc.length≤i→nh K n b z W bl v13 v14 v15 v16 L d bf af em m i H acc =
   some ⟨1,b.Node,z.Margin.a3,0,W,H,0,⟨#[]⟩,b.Style,bf,af,em,acc++(L.drop i).map (jT bl z d)⟩:=by
 intro m
 induction m with
 | zero=>intro i acc _ h2;omega
 | succ m ih =>
  intro i acc h1 h2 h3;simp only[nh,nB];by_cases hi:i<L.length
  ·rw[drop_at' hi];simp only[jz hi,if_true,ic hi,aZ,E9,Option.bind_some,nN,Int.toNat_natCast,List.length_cons,List.length_nil,kn (show i<1000000 by omega),List.map_cons];rw[cO (by omega) (by omega)];cases bl with
   | false =>
    simp only[Bool.false_eq_true,if_false,aZ];rw[ih (i+1) _ (by omega) (by omega) (by simp;omega)];simp only[List.append_assoc,List.singleton_append,jT,Bool.false_eq_true,if_false]
   | true =>
    simp only[if_true,aZ];rw[ih (i+1) _ (by omega) (by omega) (by simp;omega)];simp only[List.append_assoc,List.singleton_append,jT,if_true]
  ·have e:i=L.length:=by omega
   subst e;simp only[kk (Nat.le_refl _),Bool.false_eq_true,if_false,List.drop_length,List.map_nil,List.append_nil]
def iA(z:aV):Int:=aa (aa (aa (aa (z.Content+z.Border.a1)+z.Border.a3)+z.Padding.a1)+z.Padding.a3)
section
variable(K:Kn)(n:Nat)(hn:20<n)(b:ai)(z:aV)(L:List ah)(hl:L.length≤20)
include hn hl
theorem bj8(v6:(List ai)×Bool)(ho:v6.2=true→v6.1.length=L.length∧∀k∈v6.1,dj k=true)(d:Int)(bf af:ax)(em:Bool)(h:Int):oX K n b z v6 L d bf af em h=some (nt b z v6.2 L d bf af em h):=by
 unfold oX;simp only[zp,Option.bind_some];exact VH K n b z v6 L d bf af em _ _ hl ho n [] L (by simp) (by omega)
theorem UN(bl:Bool)(v13:Int)(v14 v15:ax)(v16:Bool)(d:Int)(bf af:ax)(em:Bool)(h:Int):kA K n b z (iA z) bl v13 v14 v15 v16 L d bf af em h=some (nt b z bl L d bf af em h):=by
 unfold kA;refine (PQ K n b z (iA z) bl v13 v14 v15 v16 L d bf af em _ hl n 0 [] (by omega) (by omega) (by simp)).trans ?_;simp only[List.nil_append,List.drop_zero,nt,iA];have e1:aa (aa (aa (aa (z.Content+z.Border.a1)+z.Border.a3)+z.Padding.a1)+z.Padding.a3)=aa (z.Content+aa (aa (aa (z.Border.a3+z.Padding.a3)+z.Border.a1)+z.Padding.a1)):=by
  apply z1;have:=gL (aa (aa (z.Content+z.Border.a1)+z.Border.a3)+z.Padding.a1);have:=gL (aa (z.Content+z.Border.a1)+z.Border.a3);have:=gL (z.Content+z.Border.a1);have:=gL (aa (aa (z.Border.a3+z.Padding.a3)+z.Border.a1)+z.Padding.a1);have:=gL (aa (z.Border.a3+z.Padding.a3)+z.Border.a1);have:=gL (z.Border.a3+z.Padding.a3);omega
 have e2:aa (aa (aa (aa (h+z.Border.a0)+z.Border.a2)+z.Padding.a0)+z.Padding.a2)=aa (aa (aa (aa (h+z.Border.a0)+z.Padding.a0)+z.Border.a2)+z.Padding.a2):=by
  apply z1;have:=gL (aa (aa (h+z.Border.a0)+z.Border.a2)+z.Padding.a0);have:=gL (aa (h+z.Border.a0)+z.Border.a2);have:=gL (aa (aa (h+z.Border.a0)+z.Padding.a0)+z.Border.a2);have:=gL (aa (h+z.Border.a0)+z.Padding.a0);omega
 rw[e1,e2]
def w4(s:aI)(h:Int):Int:=if s.Height.Kind=1 then max (min (max s.Height.Value (-1048576)) 1048576) 0 else max h 0
theorem Vc(v6:(List ai)×Bool)(ho:v6.2=true→v6.1.length=L.length∧∀k∈v6.1,dj k=true)(d h:Int)(bf af:ax)(em:Bool):ij K n b z v6 L d h bf af em=some (nt b z v6.2 L d bf af em (w4 b.Style h)):=by
 unfold ij;simp only[iV,Option.bind_some,qV,bj8 K n hn b z L hl v6 ho];by_cases hk:b.Style.Height.Kind=1
 ·simp[hk,w4,bP]
 ·simp only[w4,hk,if_false,beq_iff_eq,Bool.false_eq_true];split<;>rfl
def gx(l:cr):Int×Bool:=if l.Kind=1 then (max (min (max l.Value (-1048576)) 1048576) 0,true) else (0,false)
omit hn hl in
theorem KV(l:cr):lz K n l=some (gx l):=by
 unfold lz gx;by_cases h:l.Kind=1<;>simp[h,iT]
theorem acM(bl:Bool)(v13:Int)(v14 v15:ax)(v16:Bool)(d h:Int)(bf af:ax)(em:Bool):gY K n b z (iA z) bl v13 v14 v15 v16 L (gx b.Style.Height) d h bf af em=some (nt b z bl L d bf af em (w4 b.Style h)):=by
 unfold gY;simp only[UN K n hn b z L hl];by_cases hk:b.Style.Height.Kind=1<;>simp[hk,gx,w4]
def ofM(x:Int):ax:=⟨max x 0,min x 0⟩
def eG(m:ax):Prop:=0≤m.Pos∧m.Pos≤16777216 ∧ -16777216≤m.Neg∧m.Neg≤0
instance(m:ax):Decidable (eG m):=by unfold eG;infer_instance
def z0(z:aV):Prop:=(-16777216≤z.Margin.a0∧z.Margin.a0≤16777216)∧(-16777216≤z.Margin.a2∧z.Margin.a2≤16777216)
def MB(f:ah):Prop:=eG f.Before∧eG f.After
theorem PJ(v6:(List ai)×Bool)(ho:v6.2=true→v6.1.length=L.length∧∀k∈v6.1,dj k=true)(above below:Bool)(h:Int)(through:Bool)(bf af:ax):
  ∃d e f g x,lF K n b z above below v6 h through bf af L=some (nt b z v6.2 L d e f g x)∧jp K n b z (iA z) v6.2 h bf af through L (gx b.Style.Height) above below=some (nt b z v6.2 L d e f g x) ∧
   (above=false→below=false→g=false∧e=ofM z.Margin.a0∧f=ofM z.Margin.a2)∧(eG bf→eG af→z0 z→eG e∧eG f):=by
 have c1:∀x y:Int,aa (x+y)=aa (y+x):=fun x y=>by rw[Int.add_comm]
 have c3:∀y u:Int,aa (h+aa (y+u))=aa (aa (y+h)+u):=fun y u=>by
  apply z1;have:=gL (y+u);have:=gL (y+h);omega
 cases above<;>cases below<;>cases through <;>
  simp only[lF,ot,nq,lY,jp,nd,kT,lW,nM,sV,nQ,ix,ip,gk,gA,Option.bind_some,Bool.not_true,Bool.not_false,Bool.false_eq_true,if_true,if_false,
   Vc K n hn b z L hl v6 ho,acM K n hn b z L hl] <;>
  refine⟨_,_,_,_,_,rfl,?_,?_,?_⟩<;>first|(intro hb ha hz;unfold eG at *;unfold z0 at hz;dsimp only;refine⟨?_,?_⟩<;>omega)|exact fun _ _=>⟨rfl,rfl,rfl⟩|(intro h1 h2;contradiction)|rfl|(rw[c1 h];done)|(rw[c3];done)
end
def uR:Nat→ai→Prop
 | 0,_=>False
 | d+1,b=>b.Kids.length≤20∧((∀k∈b.Kids,k.Kind=1∧uR d k)∨∀k∈b.Kids,k.Kind=3)
theorem Fc:∀{d:Nat} {f g:ah},f.Kids=g.Kids→Fd d g→Fd d f
 | 0,_,_,_,h=>h.elim
 | d+1,f,g,e,h=>by unfold Fd at h⊢;rw[e];exact h
theorem X9{d:Nat}{f:ah}(h:f.Kids=[]):Fd (d+1) f:=by unfold Fd;rw[h];simp
section
variable(K:Kn)(n:Nat)
theorem Xx(b:ai)(z:aV)(v3 v4:Bool)(env:cg)(v6:(List ai)×Bool)(F:ai→ah)(hl:v6.1.length≤20)(hF:∀k∈v6.1,K.o7 env.Layout k z.Content=some (F k)):
  ∀(m i:Nat) (acc:List ah),i≤v6.1.length→v6.1.length<m+i→acc.length≤i→pk K n b z v3 v4 env v6 m i acc =
   (nZ K n (acc++(v6.1.drop i).map F)).bind fun v12=>lF K n b z v3 v4 v6 v12.2.1 v12.2.2.2.2 v12.2.2.1 v12.2.2.2.1 v12.1:=by
 intro m
 induction m with
 | zero=>intro i acc _ h2;omega
 | succ m ih =>
  intro i acc h1 h2 h3;simp only[pk,wb];by_cases hi:i<v6.1.length
  ·rw[drop_at' hi];simp only[jz hi,if_true,ic hi,aZ,hF _ (yY hi),Option.bind_some,Int.toNat_natCast,List.length_cons,List.length_nil,kn (show i<1000000 by omega),List.map_cons];rw[cO (by omega) (by omega),aZ,ih (i+1) _ (by omega) (by omega) (by simp;omega)];simp only[List.append_assoc,List.singleton_append]
  ·have e:i=v6.1.length:=by omega
   subst e;simp only[kk (Nat.le_refl _),Bool.false_eq_true,if_false,List.drop_length,List.map_nil,List.append_nil]
theorem Uy(b:ai)(z:aV)(v3 v4:Bool)(L:List ai)(F:ai→ah)(hl:L.length≤20)(hF:∀k∈L,fM K n k z.Content=some (F k)):
  ∀(m i:Nat) (acc:List ah),i≤L.length→L.length<m+i→acc.length≤i→kp K n b z v3 (iA z) v4 L m i acc =
   (mR K n (acc++(L.drop i).map F)).bind fun v11=>jc K n b z v3 (iA z) v4 v11.Height v11.Before v11.After v11.Through v11.List:=by
 intro m
 induction m with
 | zero=>intro i acc _ h2;omega
 | succ m ih =>
  intro i acc h1 h2 h3;simp only[kp,me];by_cases hi:i<L.length
  ·rw[drop_at' hi];simp only[jz hi,if_true,ic hi,aZ,hF _ (yY hi),Option.bind_some,Int.toNat_natCast,List.length_cons,List.length_nil,kn (show i<1000000 by omega),List.map_cons];rw[cO (by omega) (by omega),aZ,ih (i+1) _ (by omega) (by omega) (by simp;omega)];simp only[List.append_assoc,List.singleton_append]
  ·have e:i=L.length:=by omega
   subst e;simp only[kk (Nat.le_refl _),Bool.false_eq_true,if_false,List.drop_length,List.map_nil,List.append_nil]
end
def m7(b:ai)(z:aV)(share:Bool):Bool:=share&&(b.Style.Overflow == 0&&aa (z.Border.a0+z.Padding.a0) == 0)
def mj(b:ai)(z:aV)(share:Bool):Bool:=share&&(b.Style.Overflow == 0&&(aa (z.Border.a2+z.Padding.a2) == 0&&b.Style.Height.Kind != 1))
theorem QZ(K:Kn)(n:Nat)(b:ai)(z:aV)(share bl:Bool)(h:Int)(bf af:ax)(th:Bool)(L:List ah):
  jc K n b z share (iA z) bl h bf af th L=jp K n b z (iA z) bl h bf af th L (gx b.Style.Height) (m7 b z share) (mj b z share):=by
 unfold jc m7 mj;simp only[KV,Option.bind_some,nF,nr];have e:(!(gx b.Style.Height).2)=(b.Style.Height.Kind != 1):=by
  unfold gx;by_cases hk:b.Style.Height.Kind=1<;>simp[hk]
 rw[e];cases share
 ·simp
 ·cases ho:b.Style.Overflow == 0
  ·simp
  ·cases hq:aa (z.Border.a2+z.Padding.a2) == 0<;>simp
theorem Xn(K:Kn)(n:Nat)(l:List ah)(hl:l.length≤20):nK K n l=some l:=by
 unfold nK both;have hf:fits (([]:List ah).length+l.length) 584=true:=by rw[List.length_nil,Nat.zero_add];exact cO (by omega) (by omega)
 rw[hf];cases l<;>simp[aZ]
theorem Wi(K:Kn)(n:Nat)(L:List ah)(hL:∀f∈L,MB f):∀(m:Nat) (i h:Int) (b:ax) (t:Bool) (mm:ax) (l:List ah) {r:(List ah)×Int×ax×ax×Bool},eG b→eG mm→iR K n L m h t i b mm l=some r→eG r.2.2.1∧eG r.2.2.2.1:=by
 intro m
 induction m with
 | zero=>intro i h b t mm l r hb hm e;cases e
 | succ m ih =>
  intro i h b t mm l r hb hm e;simp only[iR,qd]at e;by_cases hi:i<(L.length:Int)
  ·simp only[hi,decide_true,if_true]at e;obtain⟨hin,e⟩:=aK e;obtain⟨h0,h1⟩:=cj hin;have hf:=hL _ (yY h1);have hj:eG ⟨max mm.Pos (L.getD i.toNat default).Before.Pos,min mm.Neg (L.getD i.toNat default).Before.Neg⟩:=by
    have:=hf.1;unfold eG at *
    dsimp only;omega
   simp only[ix,gk,Option.bind_some,o9,pe,oB]at e;generalize hx:L.getD i.toNat default=x at *;cases he:x.Empty<;>cases t<;>simp only[he,Bool.not_true,Bool.not_false,Bool.false_eq_true,if_true,if_false]at e<;>have e:=(aK e).2
   ·exact ih _ _ _ _ _ _ hb hf.2 e
   ·exact ih _ _ _ _ _ _ hj hf.2 e
   ·exact ih _ _ _ _ _ _ hb hj e
   ·exact ih _ _ _ _ _ _ hb hj e
  ·simp only[hi,decide_false,Bool.false_eq_true,if_false,oU]at e;split at e<;>(injection e with e;subst e)<;>first|exact⟨hm,hm⟩|exact⟨hb,hm⟩
theorem KT(K:Kn)(n:Nat)(L:List ah)(hL:∀f∈L,MB f){r:(List ah)×Int×ax×ax×Bool}(h:nZ K n L=some r):eG r.2.2.1∧eG r.2.2.2.1 :=
 Wi K n L hL n _ _ _ _ _ _ (by decide) (by decide) h
theorem core(d N:Nat)(b:ai)(z:aV)(share:Bool)(hg:uR (d+1) b)(hN:20<N)(env:cg)(he:env.Layout=(Fv.fn 31)∧env.Lines=(Fv.fn 33))
  (ih:∀k,uR d k→∃f,(KN (N+1)).o7 (Fv.fn 31) k z.Content=some f∧fM (KN (N+1)) (N+1) k z.Content=some f∧Fd (d+1) f∧MB f) :
  ∃f,m5 (KN (N+1)) (N+1) b z (m7 b z share) (mj b z share) env=some f∧li (KN (N+1)) (N+1) b z share=some f∧Fd (d+2) f∧(share=false→f.Empty=false∧f.Before=ofM z.Margin.a0∧f.After=ofM z.Margin.a2)∧(z0 z→MB f):=by
 have hO:∀x,(KN (N+1)).jn (Fv.fn 102) x=some (dj x):=fun x=>Ae (KN N) N x;have hlen:b.Kids.length≤20:=hg.1;have hfl:(ca b).length≤20:=Nat.le_trans sL hlen;have hsub:∀k∈ca b,k∈b.Kids:=fun k hk=>(List.mem_filter.1 hk).1;have hany:((ca b).any fun k=>k.Kind == 1)=(ca b).any dj:=by
  apply Bool.eq_iff_iff.2;simp only[List.any_eq_true];constructor
  ·rintro ⟨k,hk,e⟩;exact⟨k,hk,by simp[dj,e]⟩
  ·rintro ⟨k,hk,e⟩
   refine⟨k,hk,?_⟩;rcases hg.2 with h|h
   ·simp[(h k (hsub k hk)).1]
   ·have:=h k (hsub k hk);simp[dj,this]at e
 unfold m5 li;rw[B9 _ _ hO b hlen (by omega),DJ _ _ b hlen (by omega),z7 _ _ b hlen (by omega),hany];simp only[Option.bind_some];rw[show aa (aa (aa (aa (z.Content+z.Border.a1)+z.Border.a3)+z.Padding.a1)+z.Padding.a3)=iA z from rfl];have fin:∀(L:List ah) (bl:Bool) (h:Int) (th:Bool) (bf af:ax),bl=(ca b).any dj→L.length≤20→(bl=true→(ca b).length=L.length∧∀k∈ca b,dj k=true)→(∀f∈L,Fd (d+1) f)→eG bf→eG af →
   ∃f,lF (KN (N+1)) (N+1) b z (m7 b z share) (mj b z share) (ca b,(ca b).any dj) h th bf af L=some f∧jc (KN (N+1)) (N+1) b z share (iA z) bl h bf af th L=some f∧Fd (d+2) f∧(share=false→f.Empty=false∧f.Before=ofM z.Margin.a0∧f.After=ofM z.Margin.a2)∧(z0 z→MB f):=by
  intro L bl h th bf af hbl hL ho hk hmb hma;subst hbl;obtain⟨d',e,f,g,x,h1,h2,h3,h5⟩:=PJ (KN (N+1)) (N+1) (by omega) b z L hL (ca b,(ca b).any dj) ho (m7 b z share) (mj b z share) h th bf af;refine⟨_,h1,(QZ _ _ _ _ _ _ _ _ _ _ _).trans h2,⟨?_,?_⟩,fun hs=>?_,fun hz=>h5 hmb hma hz⟩
  ·simpa[nt]using hL
  ·intro k hkk;obtain⟨y,hy,rfl⟩:=List.mem_map.1 hkk;exact Fc (VG _ _ _ _) (hk y hy)
  ·subst hs;exact h3 rfl rfl
 cases hb:(ca b).any dj with
 | true =>
  have hall:∀k∈b.Kids,k.Kind=1∧uR d k:=by
   rcases hg.2 with h|h
   ·exact h
   ·obtain⟨k,hk,e⟩:=List.any_eq_true.1 hb;have:=h k (hsub k hk);simp[dj,this]at e
  have hF:∀k∈ca b,(KN (N+1)).o7 env.Layout k z.Content=some ((fM (KN (N+1)) (N+1) k z.Content).getD default)∧fM (KN (N+1)) (N+1) k z.Content=some ((fM (KN (N+1)) (N+1) k z.Content).getD default)∧Fd (d+1) ((fM (KN (N+1)) (N+1) k z.Content).getD default)∧MB ((fM (KN (N+1)) (N+1) k z.Content).getD default):=fun k hk=>by
   obtain⟨f,h1,h2,h3⟩:=ih k (hall k (hsub k hk)).2;rw[he.1,h1,h2];exact⟨rfl,rfl,h3⟩
  simp only[if_true];have e1:=Xx (KN (N+1)) (N+1) b z (m7 b z share) (mj b z share) env (ca b,true) (fun k=>(fM (KN (N+1)) (N+1) k z.Content).getD default) hfl (fun k hk=>(hF k hk).1) (N+1) 0 [] (by omega) (by simp only[];omega) (by simp);have e2:=Uy (KN (N+1)) (N+1) b z share true (ca b) (fun k=>(fM (KN (N+1)) (N+1) k z.Content).getD default) hfl (fun k hk=>(hF k hk).2.1) (N+1) 0 [] (by omega) (by omega) (by simp);simp only[List.nil_append,List.drop_zero]at e1 e2;obtain⟨r,hr,hrl,hrk⟩:=OX (KN (N+1)) (N+1) ((ca b).map fun k=>(fM (KN (N+1)) (N+1) k z.Content).getD default) (by simp;omega) (by simp;omega);rw[show pk (KN (N+1)) (N+1) b z (m7 b z share) (mj b z share) env (ca b,true) (N+1) 0 []=_ from e1,show kp (KN (N+1)) (N+1) b z share (iA z) true (ca b) (N+1) 0 []=_ from e2,Uf,hr];simp only[Option.bind_some,Option.map_some,yM];rw[List.length_map]at hrl;have:=fin r.1 true r.2.1 r.2.2.2.2 r.2.2.1 r.2.2.2.1 hb.symm (by omega) (fun _=>⟨by omega,fun k hk=>by simp[dj,(hall k (hsub k hk)).1]⟩) (fun f hf=>by
   obtain⟨g,hg',e⟩:=hrk f hf;obtain⟨k,hk,rfl⟩:=List.mem_map.1 hg';exact Fc e (hF k hk).2.2.1) (KT _ _ _ (fun f hf=>by
   obtain⟨k,hk,rfl⟩:=List.mem_map.1 hf;exact(hF k hk).2.2.2) hr).1 (KT _ _ _ (fun f hf=>by
   obtain⟨k,hk,rfl⟩:=List.mem_map.1 hf;exact(hF k hk).2.2.2) hr).2
  rw[hb]at this;exact this
 | false =>
  simp only[Bool.false_eq_true,if_false];have hLn:(KN (N+1)).rC env.Lines (ca b) b.Style z.Content=some (fE b.Style z.Content (ca b) 0 []):=by
   rw[he.2];exact NK (KN N) N (ca b) b.Style z.Content hfl hN
  obtain⟨l1,l2⟩:=CY b.Style z.Content (ca b) 0 [] (by simp);simp only[List.length_nil,Nat.zero_add]at l1;have hcl:nK (KN (N+1)) (N+1) (fE b.Style z.Content (ca b) 0 []).1=some (fE b.Style z.Content (ca b) 0 []).1:=by
   exact Xn _ _ _ (by omega)
  rw[hLn,NK _ _ (ca b) b.Style z.Content hfl (by omega)];simp only[Option.bind_some,hcl];have:=fin (fE b.Style z.Content (ca b) 0 []).1 false (fE b.Style z.Content (ca b) 0 []).2 (((fE b.Style z.Content (ca b) 0 []).1.length:Int) == 0) cI cI hb.symm (by omega) (fun h=>by cases h) (fun f hf=>X9 (l2 f hf)) (by decide) (by decide);rw[hb]at this;exact this
theorem kf(l:cr)(b:Int): -1048576≤(bP l b).1∧(bP l b).1≤1048576:=by
 unfold bP;split
 ·simp only[];omega
 ·split<;>simp only[]<;>omega
end Go.Proofs.YtnpmlepplfaijaaGreat
namespace Go.Proofs.YtnpmlepplfaijaaGreat
set_option linter.all false
open Go.RowKit
theorem Fg(l:cr)(w:Int):bP l (cn w)=bP l w:=by
 unfold bP cn;have e:min (max (min (max w 0) 1048576) 0) 1048576=min (max w 0) 1048576:=by omega
 rw[e]
theorem aa6(s:aI)(w c:Int):ec s (cn w) c=ec s w c:=by unfold ec;simp only[Fg]
theorem Gz(s:aI)(w c:Int):eJ s (cn w) c=eJ s w c:=by unfold eJ;simp only[Fg]
def bE(l:cr):cr:=if l.Kind=2 then ga else l
def dC(s:aI):aI:={ s with Width:=bE s.Width,MinWidth:=bE s.MinWidth,MaxWidth:=bE s.MaxWidth,Margin:=⟨bE s.Margin.a0,bE s.Margin.a1,bE s.Margin.a2,bE s.Margin.a3⟩,Padding:=⟨bE s.Padding.a0,bE s.Padding.a1,bE s.Padding.a2,bE s.Padding.a3⟩ }
section
variable(K:Kn)(n:Nat)
theorem Pd(l:cr):eW K n l=some (bE l):=by
 unfold eW bE;by_cases h:l.Kind=2<;>simp[h]
theorem acK(s:aI):mD K n s=some (dC s):=by
 simp only[mD,Pd,Option.bind_some,dC]
theorem iW{α:Type}(l:cr)(f:cr→α)(y:α)(hy:y=f l):(if (l.Kind == 2)=true then f ga else y)=f (bE l):=by
 unfold bE;by_cases h:l.Kind=2
 ·simp[h]
 ·simp[h,hy]
theorem FT(s:aI):mg K n s=some (dC s):=by
 unfold mg;refine (iW s.Width (fun l=>nU K n { s with Width:=l }) _ rfl).trans ?_;unfold nU;refine (iW s.MinWidth (fun l=>oI K n { s with Width:=bE s.Width,MinWidth:=l }) _ rfl).trans ?_;unfold oI;refine (iW s.MaxWidth (fun l=>oW K n { s with Width:=bE s.Width,MinWidth:=bE s.MinWidth,MaxWidth:=l }) _ rfl).trans ?_;unfold oW;refine (iW s.Margin.a0 (fun l=>qb K n { s with Width:=bE s.Width,MinWidth:=bE s.MinWidth,MaxWidth:=bE s.MaxWidth,Margin:=⟨l,s.Margin.a1,s.Margin.a2,s.Margin.a3⟩ }) _ rfl).trans ?_;unfold qb;refine (iW s.Padding.a0 (fun l=>pc K n { s with Width:=bE s.Width,MinWidth:=bE s.MinWidth,MaxWidth:=bE s.MaxWidth,Margin:=⟨bE s.Margin.a0,s.Margin.a1,s.Margin.a2,s.Margin.a3⟩,Padding:=⟨l,s.Padding.a1,s.Padding.a2,s.Padding.a3⟩ }) _ rfl).trans ?_;unfold pc;refine (iW s.Margin.a1 (fun l=>oo K n { s with Width:=bE s.Width,MinWidth:=bE s.MinWidth,MaxWidth:=bE s.MaxWidth,Margin:=⟨bE s.Margin.a0,l,s.Margin.a2,s.Margin.a3⟩,Padding:=⟨bE s.Padding.a0,s.Padding.a1,s.Padding.a2,s.Padding.a3⟩ }) _ rfl).trans ?_
 unfold oo;refine (iW s.Padding.a1 (fun l=>pT K n { s with Width:=bE s.Width,MinWidth:=bE s.MinWidth,MaxWidth:=bE s.MaxWidth,Margin:=⟨bE s.Margin.a0,bE s.Margin.a1,s.Margin.a2,s.Margin.a3⟩,Padding:=⟨bE s.Padding.a0,l,s.Padding.a2,s.Padding.a3⟩ }) _ rfl).trans ?_;unfold pT;refine (iW s.Margin.a2 (fun l=>oh K n { s with Width:=bE s.Width,MinWidth:=bE s.MinWidth,MaxWidth:=bE s.MaxWidth,Margin:=⟨bE s.Margin.a0,bE s.Margin.a1,l,s.Margin.a3⟩,Padding:=⟨bE s.Padding.a0,bE s.Padding.a1,s.Padding.a2,s.Padding.a3⟩ }) _ rfl).trans ?_;unfold oh;refine (iW s.Padding.a2 (fun l=>pM K n { s with Width:=bE s.Width,MinWidth:=bE s.MinWidth,MaxWidth:=bE s.MaxWidth,Margin:=⟨bE s.Margin.a0,bE s.Margin.a1,bE s.Margin.a2,s.Margin.a3⟩,Padding:=⟨bE s.Padding.a0,bE s.Padding.a1,l,s.Padding.a3⟩ }) _ rfl).trans ?_;unfold pM;refine (iW s.Margin.a3 (fun l=>qi K n { s with Width:=bE s.Width,MinWidth:=bE s.MinWidth,MaxWidth:=bE s.MaxWidth,Margin:=⟨bE s.Margin.a0,bE s.Margin.a1,bE s.Margin.a2,l⟩,Padding:=⟨bE s.Padding.a0,bE s.Padding.a1,bE s.Padding.a2,s.Padding.a3⟩ }) _ rfl).trans ?_
 unfold qi;refine (iW s.Padding.a3 (fun l=>s5 K n { s with Width:=bE s.Width,MinWidth:=bE s.MinWidth,MaxWidth:=bE s.MaxWidth,Margin:=⟨bE s.Margin.a0,bE s.Margin.a1,bE s.Margin.a2,bE s.Margin.a3⟩,Padding:=⟨bE s.Padding.a0,bE s.Padding.a1,bE s.Padding.a2,l⟩ }) _ rfl).trans ?_;rfl
def gp:List ai→Int→Int→Int×Int
 | [],a,b=>(a,b)
 | k::r,a,b=>gp r (max a (aa (8*(k.Text.size:Int)))) (aa (b+aa (8*(k.Text.size:Int))))
theorem TS(L:List ai)(hL:L.length≤20):∀(m i:Nat) (a b:Int),i≤L.length→L.length<m+i→jx K n L m a b i=some (gp (L.drop i) a b):=by
 intro m
 induction m with
 | zero=>intro i a b h1 h2;omega
 | succ m ih =>
  intro i a b h1 h2;simp only[jx,hJ];by_cases hi:i<L.length
  ·rw[drop_at' hi];simp only[jz hi,if_true,ic hi,aZ,Int.toNat_natCast,kn (show i<1000000 by omega),gp];exact ih (i+1) _ _ (by omega) (by omega)
  ·have e:i=L.length:=by omega
   subst e;simp only[kk (Nat.le_refl _),Bool.false_eq_true,if_false,List.drop_length,gp]
theorem zg(L:List ai)(s:aI)(hL:L.length≤20)(hn:20<n):j0 K n L s=some (gp L 0 0) :=
 (TS K n L hL n 0 0 0 (by omega) (by omega)).trans (by simp only[List.drop_zero])
theorem Nc:∀(L:List ai) (a b:Int),(∀k∈L,(k.Text.size:Int)≤60)→0≤a→a≤b→b+480*L.length≤1099511627776→(gp L a b).1≤(gp L a b).2
 | [],a,b,_,_,h,_=>h
 | k::r,a,b,hk,h0,h1,h2=>by
  have h3:=hk k (List.mem_cons_self ..);simp only[List.length_cons]at h2;unfold gp;rw[bj (n:=8*(k.Text.size:Int)) (by omega) (by omega),bj (n:=b+8*(k.Text.size:Int)) (by omega) (by omega)];exact Nc r _ _ (fun k h=>hk k (List.mem_cons_of_mem _ h)) (by omega) (by omega) (by omega)
def o1(s:aI)(c:Int):Int:=jj (ec (dC s) 0 (eJ (dC s) 0 c))
theorem Tu(s:aI)(c:Int):jj (ec s 0 c)=aa (c+jj (ec s 0 0)):=by
 unfold jj ec;simp only[];apply z1;have w:=gL;generalize (bP s.Margin.a1 0).1=m1;generalize (bP s.Margin.a3 0).1=m3;generalize cn s.Border.a1=b1;generalize cn s.Border.a3=b3;generalize max (bP s.Padding.a1 0).1 0=p1;generalize max (bP s.Padding.a3 0).1 0=p3;have h1:=w (c+m1);have h2:=w (aa (c+m1)+m3);have h3:=w (aa (aa (c+m1)+m3)+b1);have h4:=w (aa (aa (aa (c+m1)+m3)+b1)+b3);have h5:=w (aa (aa (aa (aa (c+m1)+m3)+b1)+b3)+p1);have g1:=w (0+m1);have g2:=w (aa (0+m1)+m3);have g3:=w (aa (aa (0+m1)+m3)+b1);have g4:=w (aa (aa (aa (0+m1)+m3)+b1)+b3);have g5:=w (aa (aa (aa (aa (0+m1)+m3)+b1)+b3)+p1);have g6:=w (aa (aa (aa (aa (aa (0+m1)+m3)+b1)+b3)+p1)+p3);omega
theorem abN(s:aI){c c':Int}(h:c≤c')(hc:c'≤1048576):o1 s c≤o1 s c':=by
 unfold o1;generalize dC s=t;have hm:eJ t 0 c≤eJ t 0 c'∧0≤eJ t 0 c:=by
  unfold eJ;simp only[];split<;>split<;>omega
 have hbd:∀x,eJ t 0 x≤max (max x 0) 1048576:=fun x=>by
  have:=kf t.MinWidth 0;unfold eJ;simp only[];split<;>split<;>omega
 have b2:=hbd c';have e1:=kf t.Margin.a1 0;have e2:=kf t.Margin.a3 0;have e3:=kf t.Padding.a1 0;have e4:=kf t.Padding.a3 0;have q1:0≤cn t.Border.a1∧cn t.Border.a1≤1048576:=by unfold cn;omega
 have q3:0≤cn t.Border.a3∧cn t.Border.a3≤1048576:=by unfold cn;omega
 have ex:∀x,0≤x→x≤1048576→jj (ec t 0 x)=x+(bP t.Margin.a1 0).1+(bP t.Margin.a3 0).1+cn t.Border.a1+cn t.Border.a3+max (bP t.Padding.a1 0).1 0+max (bP t.Padding.a3 0).1 0:=fun x h0 h1=>by
  unfold jj ec;simp only[];rw[bj (n:=x+(bP t.Margin.a1 0).1) (by omega) (by omega),bj (n:=x+(bP t.Margin.a1 0).1+(bP t.Margin.a3 0).1) (by omega) (by omega),bj (n:=x+(bP t.Margin.a1 0).1+(bP t.Margin.a3 0).1+cn t.Border.a1) (by omega) (by omega),bj (n:=x+(bP t.Margin.a1 0).1+(bP t.Margin.a3 0).1+cn t.Border.a1+cn t.Border.a3) (by omega) (by omega),bj (n:=x+(bP t.Margin.a1 0).1+(bP t.Margin.a3 0).1+cn t.Border.a1+cn t.Border.a3+max (bP t.Padding.a1 0).1 0) (by omega) (by omega),bj (by omega) (by omega)]
 rw[ex _ hm.2 (by omega),ex _ (by omega) (by omega)];omega
end
end Go.Proofs.YtnpmlepplfaijaaGreat
