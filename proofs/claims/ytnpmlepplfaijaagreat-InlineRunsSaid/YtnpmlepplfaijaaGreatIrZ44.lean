/- Plain laws about the plain functions: words for all of them. No program in sight. -/
import Derived.Test.YtnpmlepplfaijaaGreatIrGf
import Derived.Lib.TrimUEq
import Derived.Laws.BitsLemmas
namespace Go.Proofs.YtnpmlepplfaijaaGreat
set_option linter.all false
open Go.RowKit
theorem cf{n:Int}(h1 : -9223372036854775808≤n)(h2:n≤9223372036854775807):ab n=n:=by
 unfold ab;rw[IntKind.wrap_i64];omega
theorem bm{α:Type}(x:Option α):az true x=x:=rfl
theorem QW{α β:Type}(f:α→β)(c:Bool)(x:Option α):(az c x).map f=az c (x.map f):=by cases c<;>rfl
theorem LC{α β:Type}(f:α→β)(c:Prop)[Decidable c](x y:Option α):(if c then x else y).map f=if c then x.map f else y.map f:=by split<;>rfl
theorem cq{i:Int}{n:Nat}(h0:0≤i)(h1:i<n):bi i n=true:=by simp[bi,h0,h1]
theorem cw{α:Type}[Inhabited α]{L:List α}{k:Nat}(h:k<L.length):L.getD k default=L[k]:=by simp[List.getD_eq_getElem?_getD,List.getElem?_eq_getElem h]
theorem cH{n b:Nat}(h:n*b≤140737488355328)(hb:0<b):fits n b=true:=by
 have h1:n≤n*b:=Nat.le_mul_of_pos_right n hb;have h2:n≤9223372036854775807:=by omega
 simp only[fits,Bool.and_eq_true,decide_eq_true_eq];exact⟨h2,h⟩
end Go.Proofs.YtnpmlepplfaijaaGreat
namespace Go.Proofs.YtnpmlepplfaijaaGreat
set_option linter.all false
open Go.RowKit
def cT(r:Int):List UInt8:=(Utf8.encode r).data.toList
def cv(r:Int):Prop:=(0≤r∧r<55296)∨(57344≤r∧r≤1114111)
theorem Se{r:Int}(h:cv r):Utf8.valid r=true:=by
 unfold cv at h;unfold Utf8.valid;simp only[Bool.or_eq_true,Bool.and_eq_true,decide_eq_true_eq];omega
theorem dR{n:Nat}(h:n<256):(UInt8.ofNat n).toNat=n:=by rw[UInt8.toNat_ofNat',Nat.mod_eq_of_lt h]
theorem Ap {r:Int} (h:cv r):∃ c:Nat,r=(c:Int) ∧
    ((c<128∧cT r=[UInt8.ofNat c])∨(128≤c∧c<2048∧cT r=[UInt8.ofNat (192+c / 64),UInt8.ofNat (128+c % 64)]) ∨
     (2048≤c∧c<65536∧(c<55296∨57344≤c)∧cT r=[UInt8.ofNat (224+c / 4096),UInt8.ofNat (128+c / 64 % 64),UInt8.ofNat (128+c % 64)]) ∨
     (65536≤c∧c≤1114111∧cT r=[UInt8.ofNat (240+c / 262144),UInt8.ofNat (128+c / 4096 % 64),UInt8.ofNat (128+c / 64 % 64),UInt8.ofNat (128+c % 64)])):=by
  refine⟨r.toNat,by unfold cv at h;omega,?_⟩;unfold cT Utf8.encode;simp only[Se h,if_true];unfold cv at h;generalize hc:r.toNat=c at *;by_cases h1:c<128
  · left;simp[h1]
  · by_cases h2:c<2048
    · right;left;simp[h1,h2];omega
    · by_cases h3:c<65536
      · right;right;left;simp[h1,h2,h3];omega
      · right;right;right;simp[h1,h2,h3];omega
theorem xS{r:Int}(h:cv r)(t:List UInt8):Lib.decodeL (cT r++t)=(r.toNat,(cT r).length):=by
 obtain⟨c,rfl,h|h|h|h⟩:=Ap h
 ·rw[h.2,Lib.decodeL_N];simp only[List.cons_append,List.nil_append,List.getD_cons_zero,dR (show c<256 by omega),Int.toNat_natCast,List.length_cons,List.length_nil];unfold Lib.decodeN;rw[if_pos h.1]
 ·rw[h.2.2,Lib.decodeL_N];simp only[List.cons_append,List.nil_append,List.getD_cons_zero,List.getD_cons_succ,dR (show 192+c / 64<256 by omega),dR (show 128+c % 64<256 by omega),Int.toNat_natCast,List.length_cons,List.length_nil];unfold Lib.decodeN;rw[if_neg (by omega),if_pos (by omega),if_pos (by omega)];congr 1;omega
 ·rw[h.2.2.2,Lib.decodeL_N];simp only[List.cons_append,List.nil_append,List.getD_cons_zero,List.getD_cons_succ,dR (show 224+c / 4096<256 by omega),dR (show 128+c / 64 % 64<256 by omega),dR (show 128+c % 64<256 by omega),Int.toNat_natCast,List.length_cons,List.length_nil];unfold Lib.decodeN;rw[if_neg (by omega),if_neg (by omega),if_pos (by omega),if_pos (by omega)];congr 1;omega
 ·rw[h.2.2,Lib.decodeL_N];simp only[List.cons_append,List.nil_append,List.getD_cons_zero,List.getD_cons_succ,dR (show 240+c / 262144<256 by omega),dR (show 128+c / 4096 % 64<256 by omega),dR (show 128+c / 64 % 64<256 by omega),dR (show 128+c % 64<256 by omega),Int.toNat_natCast,List.length_cons,List.length_nil];unfold Lib.decodeN;rw[if_neg (by omega),if_neg (by omega),if_neg (by omega),if_pos (by omega),if_pos (by omega)];congr 1;omega
theorem rj{r:Int}(h:cv r):1≤(cT r).length∧(cT r).length≤4:=by
 obtain⟨c,_,h|h|h|h⟩:=Ap h
 ·rw[h.2];simp
 ·rw[h.2.2];simp
 ·rw[h.2.2.2];simp
 ·rw[h.2.2];simp
theorem KO(n b0 b1 b2 b3:Nat):cv ((Lib.decodeN n b0 b1 b2 b3).1:Int):=by
 unfold Lib.decodeN cv
 repeat' split
 all_goals simp only[]
 all_goals omega
theorem Rk(l:List UInt8):cv ((Lib.decodeL l).1:Int):=by rw[Lib.decodeL_N];exact KO _ _ _ _ _
def fK:Nat→List UInt8→List Int
 | 0,_=>[]
 | n+1,l=>if l.isEmpty=true then [] else ((Lib.decodeL l).1:Int)::fK n (l.drop (Lib.decodeL l).2)
theorem Ml:∀(n m:Nat) (l:List UInt8),l.length≤n→l.length≤m→fK n l=fK m l:=by
 intro n
 induction n with
 | zero =>
  intro m l h1 h2;have:l=[]:=List.eq_nil_of_length_eq_zero (by omega);subst this;cases m<;>simp[fK]
 | succ n ih =>
  intro m l h1 h2;cases m with
  | zero =>
   have:l=[]:=List.eq_nil_of_length_eq_zero (by omega);subst this;simp[fK]
  | succ m =>
   unfold fK;split
   ·rfl
   ·have:=Lib.decodeL_width l;rw[ih m _ (by simp;omega) (by simp;omega)]
def fW(l:List UInt8):List Int:=fK l.length l
theorem T9:fW []=[]:=rfl
theorem CU{l:List UInt8}(h:l≠[]):fW l=((Lib.decodeL l).1:Int)::fW (l.drop (Lib.decodeL l).2):=by
 unfold fW;cases l with
 | nil=>exact absurd rfl h
 | cons x r =>
  have:=Lib.decodeL_width (x::r);rw[show fK (x::r).length (x::r)=((Lib.decodeL (x::r)).1:Int)::fK r.length ((x::r).drop (Lib.decodeL (x::r)).2) from rfl];rw[Ml r.length _ _ (by simp;omega) (Nat.le_refl _)]
theorem Uo{r:Int}(h:cv r)(t:List UInt8):fW (cT r++t)=r::fW t:=by
 have hl:=rj h;rw[CU (by intro e;rw[List.append_eq_nil_iff]at e;rw[e.1]at hl;simp at hl),xS h t];simp only[List.drop_left];congr 1;unfold cv at h;omega
def cz(rs:List Int):List UInt8:=rs.flatMap cT
theorem Gl(r:Int)(rs:List Int):cz (r::rs)=cT r++cz rs:=by simp[cz]
theorem zp(a b:List Int):cz (a++b)=cz a++cz b:=by simp[cz]
theorem Hc:∀{rs:List Int} (t:List UInt8),(∀r∈rs,cv r)→fW (cz rs++t)=rs++fW t
 | [],t,_=>rfl
 | r::rs,t,h=>by
  rw[Gl,List.append_assoc,Uo (h r (by simp)),Hc t (fun x hx=>h x (by simp[hx]))];rfl
theorem QC{rs:List Int}(h:∀r∈rs,cv r):fW (cz rs)=rs:=by
 have:=Hc [] h;simpa[T9]using this
theorem H0:∀(n:Nat) (l:List UInt8),∀r∈fK n l,cv r
 | 0,_,r,h=>by cases h
 | n+1,l,r,h=>by
  unfold fK at h;split at h
  ·cases h
  ·rcases List.mem_cons.1 h with rfl|h
   ·exact Rk l
   ·exact H0 n _ r h
theorem y5{l:List UInt8}:∀r∈fW l,cv r:=H0 _ _
theorem H3:∀(n:Nat) (l:List UInt8),(fK n l).length≤n
 | 0,_=>by simp[fK]
 | n+1,l=>by
  unfold fK;split
  ·simp
  ·have:=H3 n (l.drop (Lib.decodeL l).2);simp;omega
theorem K9(l:List UInt8):(fW l).length≤l.length:=H3 _ _
def d9(b:ByteArray)(p:Nat):List Int:=fW (b.data.toList.drop p)
theorem pr(b:ByteArray):b.data.toList.length=b.size:=rfl
theorem Az{b:ByteArray}{p:Nat}(h:¬ p<b.size):d9 b p=[]:=by
 unfold d9;rw[List.drop_eq_nil_of_le (by rw[pr];omega)];rfl
theorem yz{b:ByteArray}{p:Nat}(h:p<b.size):d9 b p=((Utf8.decode b p).1:Int)::d9 b (p+(Utf8.decode b p).2):=by
 unfold d9;rw[CU (by intro e;have:=congrArg List.length e;simp at this;have h2:=pr b;simp at h2;omega),Lib.decodeL_drop,List.drop_drop]
theorem ya(b:ByteArray)(p:Nat):1≤(Utf8.decode b p).2:=by rw[←Lib.decodeL_drop];exact Lib.decodeL_width _
end Go.Proofs.YtnpmlepplfaijaaGreat
namespace Go.Proofs.YtnpmlepplfaijaaGreat
set_option linter.all false
open Go.RowKit
def ints(l:List UInt8):List Int:=l.map fun b=>(b.toNat:Int)
theorem Wr(a b:List UInt8):ints (a++b)=ints a++ints b:=by simp[ints]
theorem R1(a:List UInt8):(ints a).length=a.length:=by simp[ints]
theorem Oo(x y:Int):eY .u8 x y=bits .and .u8 x y:=rfl
theorem uS(x y:Int):dG .u8 x y=bits .or .u8 x y:=rfl
theorem w8{n:Int}(h:0≤n∧n<256):IntKind.wrap .u8 n=n:=by rw[IntKind.wrap_u8];omega
theorem qn(y:Int):dG .u8 128 (eY .u8 (IntKind.wrap .u8 y) 63)=128+y % 64:=by
 have h:0≤IntKind.wrap .u8 y∧IntKind.wrap .u8 y<256:=by rw[IntKind.wrap_u8];omega
 rw[Oo,u8_and63 _ h.1 h.2,uS,u8_or128 _ (by omega) (by omega),IntKind.wrap_u8];omega
section
variable{K:Kn}{n:Nat}
theorem UG{r:Int}(h:cv r){L:List Int}(hL:L.length≤1000000):qE K n r L=some (L++ints (cT r)):=by
 have h32:IntKind.wrap .u32 r=r:=by rw[IntKind.wrap_u32];unfold cv at h;omega
 unfold qE;rw[h32];obtain⟨c,rfl,hc|hc|hc|hc⟩:=Ap h
 ·rw[if_pos (by simp;omega),cH (by simp;omega) (by omega),bm,hc.2,w8 (by omega)];simp only[ints,List.map_cons,List.map_nil,dR (show c<256 by omega)]
 ·rw[if_neg (by simp;omega)];unfold qq;rw[h32,if_pos (by simp;omega),cH (by simp;omega) (by omega),bm,hc.2.2];simp only[Option.bind_some,ints,List.map_cons,List.map_nil,dR (show 192+c / 64<256 by omega),dR (show 128+c % 64<256 by omega)];rw[w8 (n:=(c:Int) / 64) (by omega),uS 192,u8_or192 _ (by omega) (by omega),qn];congr 3<;>omega
 ·rw[if_neg (by simp;omega)];unfold qq;rw[h32,if_neg (by simp;omega)];have hj:kW K n (c:Int) L true=some (L++ints (cT (c:Int))):=by
   unfold kW;rw[if_pos rfl,cH (by simp;omega) (by omega),bm,hc.2.2.2];simp only[ints,List.map_cons,List.map_nil,dR (show 224+c / 4096<256 by omega),dR (show 128+c / 64 % 64<256 by omega),dR (show 128+c % 64<256 by omega)];rw[w8 (n:=(c:Int) / 4096) (by omega),uS 224,u8_or224 _ (by omega) (by omega),qn,qn];congr 3<;>omega
  by_cases h1:(c:Int)<55296
  ·rw[if_pos (by simpa using h1),hj];rfl
  ·rw[if_neg (by simpa using h1),if_pos (by simp;omega),show decide ((c:Int)≤65535)=true by simp;omega,hj];rfl
 ·rw[if_neg (by simp;omega)];unfold qq;rw[h32,if_neg (by simp;omega),if_neg (by simp;omega),if_pos (by simp;omega),show decide ((c:Int)≤65535)=false by simp;omega];unfold kW;rw[h32,if_neg (by simp),if_pos (by simp;omega),show decide ((c:Int)≤1114111)=true by simp;omega];unfold sU;rw[if_pos rfl,cH (by simp;omega) (by omega),bm,hc.2.2];simp only[Option.bind_some,ints,List.map_cons,List.map_nil,dR (show 240+c / 262144<256 by omega),dR (show 128+c / 4096 % 64<256 by omega),dR (show 128+c / 64 % 64<256 by omega),dR (show 128+c % 64<256 by omega)];rw[w8 (n:=(c:Int) / 262144) (by omega),uS 240,u8_or240 _ (by omega) (by omega),qn,qn,qn];congr 3<;>omega
theorem QB{r:Int}(h:cv r){L:List Int}(hL:L.length≤1000000)(b:Bool):∃x,nI K n r b L=some (x,(),L++ints (cT r)):=by
 unfold nI;rw[UG h hL];cases b
 ·exact⟨_,rfl⟩
 ·exact⟨_,rfl⟩
end
theorem Ta{l:List UInt8}(h:l≠[]):oo (ints l)=true:=by
 unfold oo ints;rw[Bool.and_eq_true];refine⟨?_,by cases l;exact absurd rfl h;rfl⟩;rw[List.all_eq_true];intro n hn;obtain⟨b,_,rfl⟩:=List.mem_map.1 hn;have:=UInt8.toNat_lt b;simp;omega
theorem Ux(l:List UInt8):bytesOf (ints l)=⟨l.toArray⟩:=by
 unfold bytesOf ints;rw[List.map_map];congr 2
 conv=>rhs;rw[←List.map_id l]
 refine List.map_congr_left fun b _=>?_;simp
end Go.Proofs.YtnpmlepplfaijaaGreat
namespace Go.Proofs.YtnpmlepplfaijaaGreat
set_option linter.all false
open Go.RowKit
noncomputable section
def cX(r:Int):Bool:=r == 9||(r == 10||(r == 13||r == 32))
def fU(r:Int):Int:=(gn (KN 0) 0 r).getD 0
def l7(s:Int):Int:=min (max s 0) 1048576
def jA(r s:Int):Int:=ab (Int.tdiv (ab ((ab (fU r*l7 s))+15)) 16)
def jV(a b:Int):Bool:=bif cX b||fU b == 0 then false else bif cX a then true else bif a == 45&&b != 45 then true else decide (a≥11904)||decide (b≥11904)
def eW(e:ax):Bool:=e.Kind == 1&&(e.Box.Style.WhiteSpace != 1&&e.Box.Style.WhiteSpace != 2)
def eu(a b:ax):Bool :=
 bif a.Kind == 3||b.Kind == 3 then (a.Kind == 3||eW a)&&(b.Kind == 3||eW b)
 else bif a.Kind != 1||(b.Kind != 1||(!eW a||(a.Char != 32&&!eW b))) then false else jV a.Char b.Char
def fq{α:Type}(x:Option α):Prop:=∃u,x=some u
theorem lS{α:Type}(u:α):fq (some u):=⟨u,rfl⟩
theorem ru{α:Type}{c:Prop}[Decidable c]{x y:Option α}(h1:fq x)(h2:fq y):fq (if c then x else y):=by split;exact h1;exact h2
section
variable(K:Kn)(n:Nat)
theorem Cm(r:Int):oU K n r=some (cX r):=by
 unfold oU cX;cases h1:(r == 9)<;>cases h2:(r == 10)<;>cases h3:(r == 13)<;>cases h4:(r == 32)<;>simp[m6]
theorem TV(r:Int):fq (gn K n r):=by
 unfold gn gg;simp only[dz,dm,fx,qO]
 repeat first|exact lS _|apply ru
theorem Bw(r:Int):gn K n r=some (fU r):=by
 obtain⟨u,hu⟩:=TV K n r;have e:gn (KN 0) 0 r=gn K n r:=rfl;unfold fU;rw[e,hu];rfl
theorem FL(r s:Int):lR K n r s=some (jA r s):=by
 unfold lR;rw[Bw];rfl
theorem Pt(a b:Int):rN K n a b=some (jV a b):=by
 unfold rN jV;rw[Cm,Bw];simp only[Option.bind_some];have h1:ou K n a b true=some false:=rfl;have h2:ou K n a b false=some (bif cX a then true else bif a == 45&&b != 45 then true else decide (a≥11904)||decide (b≥11904)):=by
  unfold ou;rw[if_neg (by simp),Cm];simp only[Option.bind_some];cases cX a with
  | true=>simp
  | false =>
   simp only[Bool.false_eq_true,if_false,cond_false];unfold rF sO;cases h3:(a == 45)<;>cases h4:(b != 45)<;>cases h5:decide (a≥11904)<;>simp
 cases cX b with
 | true=>rw[if_pos rfl,h1];rfl
 | false =>
  rw[if_neg (by simp)];cases (fU b == 0) with
  | true=>rw[h1];rfl
  | false=>rw[h2];rfl
theorem CH(e:ax):jI K n e=some (eW e):=by
 unfold jI eW qj;cases h1:(e.Kind == 1)<;>cases h2:(e.Box.Style.WhiteSpace != 1)<;>simp
end
theorem tW(a b:ByteArray):(a++b).data.toList=a.data.toList++b.data.toList:=by
 rw[ByteArray.data_append,Array.toList_append]
theorem Om(a b:Int):(runesBytes [a,b]).data.toList=cT a++cT b:=by
 unfold runesBytes;simp only[List.foldl_cons,List.foldl_nil];rw[tW,tW];rfl
theorem P2(K:Kn){n:Nat}(hn:3≤n){a b:Int}(ha:cv a)(hb:cv b):∃l,rD K n (runesBytes [a,b])=some l∧decide ((l.length:Int)>0)=jV a b:=by
 generalize hB:runesBytes [a,b]=B;have hl:B.data.toList=cT a++cT b:=by rw[←hB];exact Om a b
 have la:=rj ha;have lb:=rj hb;have hs:B.size=(cT a).length+(cT b).length:=by rw[←pr,hl,List.length_append]
 have d0:Utf8.decode B 0=(a.toNat,(cT a).length):=by
  rw[←Lib.decodeL_drop,List.drop_zero,hl,xS ha]
 have d1:Utf8.decode B (cT a).length=(b.toNat,(cT b).length):=by
  rw[←Lib.decodeL_drop,hl,List.drop_left];have:=xS hb [];rwa[List.append_nil]at this
 have ea:((a.toNat:Nat):Int)=a:=by unfold cv at ha;omega
 have eb:((b.toNat:Nat):Int)=b:=by unfold cv at hb;omega
 obtain⟨m,rfl⟩:∃m,n=m+3:=⟨n-3,by omega⟩;unfold rD;show ∃l,iZ K (m+3) B (lT K (m+3) B (m+2)) 0 0 []=some l∧_;unfold iZ;rw[if_pos (by simp;omega),if_neg (by simp)];unfold mO;rw[if_neg (by simp)];unfold mY;rw[d0];simp only[Nat.zero_add,ea];show ∃l,iZ K (m+3) B (lT K (m+3) B (m+1)) a (cT a).length []=some l∧_;unfold iZ;rw[if_pos (by simp;omega),if_pos (by simp;omega),d1];simp only[eb];rw[Pt];simp only[Option.bind_some];have fin:∀(x:Int) (l:List Int),lT K (m+3) B (m+1) x ((cT a).length+(cT b).length) l=some l:=fun x l=>by
  show iZ K (m+3) B (lT K (m+3) B m) x _ l=some l;unfold iZ;rw[if_neg (by simp;omega)]
 cases hbt:jV a b with
 | true =>
  unfold mO;rw[if_pos rfl,cH (by simp) (by omega),bm];unfold mY;rw[d1];simp only[];rw[fin];exact⟨_,rfl,by simp⟩
 | false =>
  unfold mO;rw[if_neg (by simp)];unfold mY;rw[d1];simp only[];rw[fin];exact⟨_,rfl,by simp⟩
theorem Ft(K:Kn){n:Nat}(hn:3≤n){a b:ax}(ha:cv a.Char)(hb:cv b.Char):px K n a b=some (eu a b):=by
 obtain⟨l,h1,h2⟩:=P2 K hn ha hb;have jt:iE K n a b true=some false:=rfl;have jf:iE K n a b false=some (jV a.Char b.Char):=by
  unfold iE;rw[if_neg (by simp),h1];simp only[Option.bind_some];rw[h2]
 unfold px eu;have k1:k7 K n a b true=some ((a.Kind == 3||eW a)&&(b.Kind == 3||eW b)):=by
  unfold k7 lf;simp only[CH,Option.bind_some];cases h3:(a.Kind == 3)<;>cases h4:(b.Kind == 3)<;>cases h5:eW a<;>cases h6:eW b<;>simp
 have k2:k7 K n a b false=some (bif a.Kind != 1||(b.Kind != 1||(!eW a||(a.Char != 32&&!eW b))) then false else jV a.Char b.Char):=by
  unfold k7;simp only[CH,Option.bind_some,jt];cases h3:(a.Kind != 1)<;>cases h4:(b.Kind != 1)<;>cases h5:eW a<;>cases h6:(a.Char != 32)<;>cases h7:eW b<;>simp[jt,jf]
 cases h3:(a.Kind == 3) with
 | true=>rw[if_pos rfl,k1,h3];rfl
 | false =>
  rw[if_neg (by simp)];cases h4:(b.Kind == 3) with
  | true=>rw[k1,h3,h4];rfl
  | false=>rw[k2];rfl
def gJ(s acc:Int):List Int→Int
 | []=>acc
 | r::t=>gJ s (ab (acc+jA r s)) t
theorem QO(K:Kn)(n:Nat)(b:ByteArray)(s:Int):∀(m:Nat) (acc:Int) (p:Nat),b.size-p<m→qR K n b s m acc p=some (gJ s acc (d9 b p)):=by
 intro m
 induction m with
 | zero=>intro acc p h;omega
 | succ m ih =>
  intro acc p h;show pM K n b s (qR K n b s m) acc p=_;unfold pM;by_cases hp:p<b.size
  ·have:=ya b p;rw[if_pos (by simpa using hp),FL,yz hp];simp only[Option.bind_some,gJ];exact ih _ _ (by omega)
  ·rw[if_neg (by simpa using hp),Az hp];rfl
theorem G7(K:Kn){n:Nat}(b:ByteArray)(s:Int)(hn:b.size<n):nH K n b s=some (gJ s 0 (d9 b 0)):=by
 unfold nH;exact QO K n b s n 0 0 (by omega)
def s7(s:aJ):Int×Int:=(iM (KN 0) 0 s).getD default
theorem Aj(K:Kn)(n:Nat)(s:aJ):iM K n s=some (s7 s):=rfl
def bH(x:List ax):List Int:=x.map fun e=>e.Char
def jC(x:List ax):Bool:=(x.getD (x.length-1) default).Soft
def nZ(x:List ax):List Int:=bif jC x then (bH x).dropLast else bH x
def c8(rs:List Int):ByteArray:=⟨(cz rs).toArray⟩
def pm(x:List ax):aJ:=(x.getD 0 default).Box.Style
def gw(x:List ax):aM :=
 { cO with Text:=c8 (bH x),Width:=gJ (pm x).FontSize 0 (nZ x),Space:=bif jC x then jA 32 (pm x).FontSize else 0,Above:=(s7 (pm x)).1,Below:=(s7 (pm x)).2 }
theorem uc{rs:List Int}(h:∀r∈rs,cv r):rs.length≤(cz rs).length∧(cz rs).length≤4*rs.length:=by
 induction rs with
 | nil=>simp[cz]
 | cons r t ih =>
  have:=rj (h r (by simp));have:=ih (fun x hx=>h x (by simp[hx]));rw[Gl,List.length_append,List.length_cons];omega
theorem vK(rs:List Int):(c8 rs).size=(cz rs).length:=by unfold c8;rfl
theorem td(rs:List Int):(c8 rs).data.toList=cz rs:=by unfold c8;simp
theorem Ii{rs:List Int}(h:∀r∈rs,cv r):d9 (c8 rs) 0=rs:=by
 unfold d9;rw[List.drop_zero,td,QC h]
theorem Us{rs:List Int}(h0:rs≠[])(h:rs.getLast h0=32):cz rs=cz rs.dropLast++[32]:=by
 conv=>lhs;rw[←List.dropLast_concat_getLast h0]
 rw[zp,h];rfl
theorem RL{rs:List Int}(h0:rs≠[])(h:rs.getLast h0=32):(c8 rs).extract 0 ((c8 rs).size-1)=c8 rs.dropLast:=by
 have e:=Us h0 h;have hs:(c8 rs).size=(cz rs.dropLast).length+1:=by rw[vK,e];simp
 apply ByteArray.ext;apply Array.ext';rw[ByteArray.data_extract,Array.toList_extract,td,td,hs,e];simp
structure iX(e:ax):Prop where
 ch:cv e.Char
 soft:e.Soft=true→e.Char=32
theorem Ca{x:List ax}(h:∀e∈x,iX e):∀r∈bH x,cv r:=by
 intro r hr;obtain⟨e,he,rfl⟩:=List.mem_map.1 hr;exact(h e he).ch
section
variable{K:Kn}{n:Nat}{x:List ax}
theorem ER(hx:x≠[])(hl:x.length≤2000)(ho:∀e∈x,iX e)(hn:8010≤n)(b:Bool):po K n x (ints (cz (bH x))) b=some (gw x):=by
 have h0:0<x.length:=List.length_pos_iff.2 hx;have hc:bH x≠[]:=by unfold bH;simp[hx]
 have hcl:(bH x).length=x.length:=by unfold bH;simp
 have hok:=Ca ho;have hle:=uc hok;have hne:cz (bH x)≠[]:=by intro e;rw[e]at hle;have:=hle.1;simp only[List.length_nil]at this;omega
 have e1:ab ((x.length:Int)-1)=((x.length-1:Nat):Int):=by rw[cf (by omega) (by omega)];omega
 have hb:bytesOf (ints (cz (bH x)))=c8 (bH x):=Ux _;have hsz:(c8 (bH x)).size=(cz (bH x)).length:=vK _;have e2:ab (((c8 (bH x)).size:Int)-1)=(((c8 (bH x)).size-1:Nat):Int):=by rw[cf (by omega) (by omega)];omega
 have key:∀(v10:aJ) (Y:ByteArray→Int→Option aM),(∀v14 v15,Y v14 v15=(nH K n v14 v10.FontSize).bind fun v16=>(iM K n v10).bind fun v17=>some ({ cO with Text:=bytesOf (ints (cz (bH x))),Width:=v16,Space:=v15,Above:=v17.1,Below:=v17.2 }:aM))→v10=pm x →
   az (oo (ints (cz (bH x)))) (az (bi (ab ((x.length:Int)-1)) x.length) ((some ((List.getD x ((ab ((x.length:Int)-1))).toNat default).Soft)).bind fun v11 =>
    if v11=true then az (eS (0:Int) (ab (((bytesOf (ints (cz (bH x)))).size:Int)-1)) (bytesOf (ints (cz (bH x)))).size) ((some (ByteArray.extract (bytesOf (ints (cz (bH x)))) (0:Int).toNat ((ab (((bytesOf (ints (cz (bH x)))).size:Int)-1))).toNat)).bind fun v12=>(lR K n 32 v10.FontSize).bind fun v13=>Y v12 v13)
    else Y (bytesOf (ints (cz (bH x)))) 0))=some (gw x):=by
  intro v10 Y hY hv;subst hv;rw[Ta hne,bm,e1,cq (by omega) (by omega),bm];simp only[Option.bind_some,Int.toNat_natCast];have hs:(List.getD x (x.length-1) default).Soft=jC x:=rfl;rw[hs,hb,e2];cases hso:jC x with
  | true =>
   have hlast:(bH x).getLast hc=32:=by
    have hm:x.getD (x.length-1) default∈x:=by rw[cw (by omega)];exact List.getElem_mem _
    have:=(ho _ hm).soft (by rw[hs];exact hso);rw[List.getLast_eq_getElem];unfold bH;rw[List.getElem_map];rw[cw (by omega)]at this;simpa using this
   rw[if_pos rfl,show eS (0:Int) (((c8 (bH x)).size-1:Nat):Int) (c8 (bH x)).size=true by simp only[eS,Bool.and_eq_true,decide_eq_true_eq];omega,bm];simp only[Int.toNat_zero,Int.toNat_natCast];rw[RL hc hlast,FL];simp only[Option.bind_some];rw[hY,G7 K (c8 (bH x).dropLast) _ (by
    have h9:=uc (rs:=(bH x).dropLast) (fun r hr=>hok r ((List.dropLast_sublist _).subset hr));rw[vK];simp at h9;omega),Ii (fun r hr=>hok r ((List.dropLast_sublist _).subset hr)),Aj,hb]
   simp only[Option.bind_some];unfold gw nZ;rw[hso];rfl
  | false =>
   rw[if_neg (by simp),hY,G7 K (c8 (bH x)) _ (by omega),Ii hok,Aj,hb];simp only[Option.bind_some];unfold gw nZ;rw[hso];rfl
 unfold po;rw[cq (i:=(0:Int)) (by omega) (by omega)];simp only[bm,Option.bind_some];cases b with
 | true=>rw[if_pos rfl];exact key _ (fun v12 v13=>tJ K n _ _ v12 v13) (fun _ _=>rfl) rfl
 | false=>rw[if_neg (by simp)];exact key _ (fun v12 v13=>sW K n _ _ v12 v13) (fun _ _=>rfl) rfl
theorem Ob(hx:x≠[])(hl:x.length≤2000)(ho:∀e∈x,iX e)(hn:8010≤n):∀(m i:Nat) (b:Bool),i≤x.length→x.length<m+i→nd K n x m (i:Int) b (ints (cz ((bH x).take i)))=some (gw x):=by
 intro m
 induction m with
 | zero=>intro i b h1 h2;omega
 | succ m ih =>
  intro i b h1 h2;show pS K n x (nd K n x m) i b _=_;unfold pS;have hcl:(bH x).length=x.length:=by unfold bH;simp
  by_cases hi:i<x.length
  ·have hm:x.getD i default∈x:=by rw[cw hi];exact List.getElem_mem _
   have hlen:=uc (rs:=(bH x).take i) (fun r hr=>Ca ho r (List.mem_of_mem_take hr));have ht:(bH x).take (i+1)=(bH x).take i++[(x.getD i default).Char]:=by
    rw[List.take_add_one,List.getElem?_eq_getElem (by rw[hcl];exact hi),cw hi];simp[bH]
   have hr:∀b,(nI K n ((List.getD x ((i:Int)).toNat default).Char) b (ints (cz ((bH x).take i)))).bind (fun v7=>nd K n x m (ab ((i:Int)+1)) true v7.2.2)=some (gw x):=fun b=>by
    rw[Int.toNat_natCast];obtain⟨y,hy⟩:=QB (K:=K) (n:=n) (ho _ hm).ch (L:=ints (cz ((bH x).take i))) (by rw[R1];simp at hlen;omega) b;rw[hy];simp only[Option.bind_some];rw[cf (by omega) (by omega),show(i:Int)+1=((i+1:Nat):Int) by omega,← Wr];have e:cz ((bH x).take i)++cT (x.getD i default).Char=cz ((bH x).take (i+1)):=by
     rw[ht,zp];simp[cz]
    rw[e];exact ih (i+1) true (by omega) (by omega)
   cases b with
   | true=>rw[if_pos rfl,if_pos (by simpa using hi),cq (by omega) (by omega),bm];exact hr true
   | false=>rw[if_neg (by simp),if_pos (by simpa using hi),cq (by omega) (by omega),bm];exact hr false
  ·have ht:(bH x).take i=bH x:=List.take_of_length_le (by omega);rw[ht];cases b with
   | true=>rw[if_pos rfl,if_neg (by simpa using hi)];exact ER hx hl ho hn true
   | false=>rw[if_neg (by simp),if_neg (by simpa using hi)];exact ER hx hl ho hn false
theorem Wh(hx:x≠[])(hl:x.length≤2000)(ho:∀e∈x,iX e)(hn:8010≤n):tw K n x=some (gw x):=by
 unfold tw;exact Ob hx hl ho hn n 0 false (by omega) (by omega)
end
end
end Go.Proofs.YtnpmlepplfaijaaGreat
namespace Go.Proofs.YtnpmlepplfaijaaGreat
set_option linter.all false
open Go.RowKit
theorem Kz{b:ByteArray}{L:List Int}(hL:b.data.toList.map (fun x=>(x.toNat:Int))=L){i:Nat}(h:i<L.length):m9 b i=L.getD i default∧0≤L.getD i default∧L.getD i default<256:=by
 have hl:b.data.toList.length=L.length:=by rw[←hL];simp
 have hi:i<b.data.size:=by rw[←hl]at h;simpa using h
 have e:L.getD i default=((b.data[i]).toNat:Int):=by
  subst hL;rw[cw h];simp
 have e2:m9 b i=((b.data[i]).toNat:Int):=by
  unfold m9;rw[show b.data.getD i 0=b.data[i] from dif_pos hi]
 have:=UInt8.toNat_lt (b.data[i]);rw[e2,e];exact⟨rfl,by omega,by omega⟩
section
variable{K:Kn}{n:Nat}
theorem Vi{b:ByteArray}{L:List Int}{r:Int}(hL:b.data.toList.map (fun x=>(x.toNat:Int))=L)(hs:L.length≤100):∀(m i:Nat),i≤L.length→L.length<m+i→pf K n b r m (i:Int)=some ((L.drop i).any fun x=>r == x):=by
 have hl:b.size=L.length:=by rw[←hL,List.length_map,pr]
 intro m
 induction m with
 | zero=>intro i h1 h2;omega
 | succ m ih =>
  intro i h1 h2;show py K n b r (pf K n b r m) i=_;unfold py;by_cases hi:i<L.length
  ·obtain⟨q1,q2,q3⟩:=Kz hL hi;have hd:L.drop i=L.getD i default::L.drop (i+1):=by rw[List.drop_eq_getElem_cons hi,cw hi]
   rw[if_pos (by simp;omega),cq (by omega) (by omega)];simp only[bm,Option.bind_some,Int.toNat_natCast];rw[q1,show IntKind.wrap .i32 (L.getD i default)=L.getD i default by rw[IntKind.wrap_i32];omega,hd,List.any_cons];cases he:(L.getD i default == r) with
   | true =>
    have:(r == L.getD i default)=true:=by rw[beq_iff_eq]at he⊢;exact he.symm
    rw[this];rfl
   | false =>
    have:(r == L.getD i default)=false:=by rw[beq_eq_false_iff_ne]at he⊢;exact fun e=>he e.symm
    rw[this,if_neg (by simp),cf (by omega) (by omega),show(i:Int)+1=((i+1:Nat):Int) by omega,ih (i+1) (by omega) (by omega)];rfl
  ·rw[if_neg (by simp;omega),List.drop_eq_nil_of_le (by omega)];rfl
theorem z0{b:ByteArray}{L:List Int}{r:Int}(hL:b.data.toList.map (fun x=>(x.toNat:Int))=L)(hs:L.length≤100)(hn:101≤n):nY K n b r=some (L.any fun x=>r == x):=by
 unfold nY;have:=Vi (K:=K) (n:=n) (r:=r) hL hs n 0 (by omega) (by omega);rwa[List.drop_zero]at this
theorem vV(r:Int):k8 K n r=some (cX r):=by
 unfold k8 cX;cases h1:(r == 9)<;>cases h2:(r == 10)<;>cases h3:(r == 13)<;>cases h4:(r == 32)<;>simp[n6]
theorem Ge(hn:101≤n)(r:Int):qH K n r=some (fU r):=by
 have j4:∀a:Bool,fx K n r a=if a=true then some 14 else if decide (r≥65)=true then oQ K n (decide (r≤90)) else oQ K n false:=fun a=>rfl;have o4:∀a c:Bool,(if a=true then fx K n r true else fx K n r c)=fx K n r (a||c):=fun a c=>by cases a<;>rfl
 have o3:∀a c:Bool,(if a=true then dm K n r true else dm K n r c)=dm K n r (a||c):=fun a c=>by cases a<;>rfl
 have o2:∀a c:Bool,(if a=true then dz K n r true else dz K n r c)=dz K n r (a||c):=fun a c=>by cases a<;>rfl
 have p2:∀a c:Bool,(if a=true then kD K n r true else kD K n r c)=kD K n r (a||c):=fun a c=>by cases a<;>rfl
 have j2:∀a:Bool,kD K n r a=dz K n r a:=fun a=>by
  unfold kD dz;rw[z0 (L:=[34,40,41,42,45,47,91,92,93,94,102,114,116,123,125]) rfl (by decide) hn,z0 (L:=[37,64,77,87,109,119]) rfl (by decide) hn];simp only[Option.bind_some,o3,List.any_cons,List.any_nil,Bool.or_false];unfold dm;simp only[o4];rw[j4]
 have j1:∀a:Bool,ir K n r a=gg K n r a:=fun a=>by
  unfold ir gg;rw[z0 (L:=[32,33,39,44,46,58,59,73,105,106,108,124]) rfl (by decide) hn];simp only[Option.bind_some,o2,p2,List.any_cons,List.any_nil,Bool.or_false];rw[j2,Bool.or_left_comm]
 rw[←Bw K n];unfold qH gn;simp only[j1]
theorem RE{x:Int}(h:0≤x)(h2:x≤1000000000000):ab (ab (Int.tdiv (ab x) 16)+min (Int.tmod (ab x) 16) 1)=ab (Int.tdiv (ab (ab x+15)) 16):=by
 rw[cf (n:=x) (by omega) (by omega),cf (n:=x+15) (by omega) (by omega),Int.tdiv_eq_ediv_of_nonneg h,Int.tmod_eq_emod_of_nonneg h,Int.tdiv_eq_ediv_of_nonneg (by omega),cf (n:=x / 16) (by omega) (by omega)];congr 1;omega
theorem Pq(r:Int):0≤fU r∧fU r≤16:=by
 have:∀o:Option Int,(∃v,o=some v∧0≤v∧v≤16)→0≤o.getD 0∧o.getD 0≤16:=fun o ⟨v,h,h1,h2⟩=>by rw[h];exact⟨h1,h2⟩
 refine this _ ?_;have si:∀{c:Prop} [Decidable c] {x y:Option Int},(∃v,x=some v∧0≤v∧v≤16)→(∃v,y=some v∧0≤v∧v≤16)→∃v,(if c then x else y)=some v∧0≤v∧v≤16:=by
  intro c _ x y h1 h2;split;exact h1;exact h2
 have sv:∀v:Int,0≤v∧v≤16→∃u,some v=some u∧0≤u∧u≤16:=fun v h=>⟨v,rfl,h⟩;unfold gn gg;simp only[dz,dm,fx,qO]
 repeat first|exact sv _ (by decide)|apply si
theorem Ry(hn:101≤n)(r s:Int):rh K n r s=some (jA r s):=by
 unfold rh mD jA;rw[Ge hn];simp only[Option.bind_some];have h1:=Pq r;have h2:0≤l7 s∧l7 s≤1048576:=by unfold l7;omega
 have h3:0≤fU r*l7 s:=Int.mul_nonneg h1.1 h2.1;have h4:fU r*l7 s≤16*1048576:=Int.mul_le_mul h1.2 h2.2 h2.1 (by omega);show some (ab (ab (Int.tdiv (ab (fU r*l7 s)) 16)+min (Int.tmod (ab (fU r*l7 s)) 16) 1))=_;rw[RE h3 (by omega)]
theorem OQ(hn:101≤n)(a b:Int):oy K n a b=some (jV a b):=by
 unfold oy jV;rw[vV,Ge hn];simp only[Option.bind_some];have h1:mF K n a b true=some false:=rfl;have h2:mF K n a b false=some (bif cX a then true else bif a == 45&&b != 45 then true else decide (a≥11904)||decide (b≥11904)):=by
  unfold mF;rw[if_neg (by simp),vV];simp only[Option.bind_some];unfold pD s5;cases cX a<;>cases h3:(a == 45)<;>cases h4:(b != 45)<;>cases h5:decide (a≥11904)<;>simp
 cases cX b with
 | true=>rw[if_pos rfl,h1];rfl
 | false =>
  rw[if_neg (by simp)];cases (fU b == 0) with
  | true=>rw[h1];rfl
  | false=>rw[h2];rfl
end
end Go.Proofs.YtnpmlepplfaijaaGreat
namespace Go.Proofs.YtnpmlepplfaijaaGreat
set_option linter.all false
open Go.RowKit
noncomputable section
def fw(e:ax):Bool:=e.Box.Style.WhiteSpace == 2
def dg(out:List ax):ax:=out.getD (out.length-1) default
def ip(out:List ax):Bool:=out.isEmpty||((dg out).Soft||(dg out).Kind == 2)
def iR(out:List ax)(e:ax):List ax :=
  bif cX e.Char then
    (bif fw e then (bif e.Char == 10 then out++[{ e with Kind:=2,Char:=32 }] else bif e.Char == 13 then out else out++[{ e with Char:=32 }])
     else bif ip out then out else out++[{ e with Soft:=true,Char:=32 }])
  else out++[e]
theorem ye(out:List ax)(e:ax):(iR out e).length≤out.length+1:=by
 unfold iR;cases cX e.Char<;>cases fw e<;>cases (e.Char == 10)<;>cases (e.Char == 13)<;>cases ip out<;>simp
section
variable(K:Kn)(n:Nat)
theorem Bf{out:List ax}(hl:out.length≤1000000)(e:ax):oJ K n out e=some (out++[{ e with Char:=32 }]):=by
 unfold oJ;rw[cH (by simp;omega) (by omega),bm]
theorem Li{out:List ax}(hl:out.length≤1000000)(e:ax):qW K n e out=some (iR out e):=by
 have h4:∀b,jB K n e out b=some (bif b then out else out++[{ e with Soft:=true,Char:=32 }]):=fun b=>by
  unfold jB;cases b with
  | true=>rfl
  | false=>rw[if_neg (by simp),Bf K n hl];rfl
 have h3:∀b,fw e=b→∀c,pR K n e out c=some (bif c then out else bif b then out++[{ e with Char:=32 }] else bif ip out then out else out++[{ e with Soft:=true,Char:=32 }]):=fun b hb c=>by
  unfold pR;cases c with
  | true=>rfl
  | false =>
   have hp:(e.Box.Style.WhiteSpace == 2)=b:=hb;rw[if_neg (by simp),hp];cases b with
   | true=>rw[show(!true)=false from rfl,if_neg (by simp),Bf K n hl];rfl
   | false =>
    rw[show(!false)=true from rfl,if_pos rfl];by_cases h0:out=[]
    ·subst h0;rw[if_pos (by simp),h4];rfl
    ·have hlen:0<out.length:=List.length_pos_iff.2 h0;have e1:ab ((out.length:Int)-1)=((out.length-1:Nat):Int):=by rw[cf (by omega) (by omega)];omega
     have hem:out.isEmpty=false:=by cases out;exact absurd rfl h0;rfl
     rw[if_neg (by simp;exact h0),e1,cq (by omega) (by omega)];simp only[bm,Int.toNat_natCast]
     change (if (dg out).Soft=true then jB K n e out true else jB K n e out ((dg out).Kind == 2))=_
     cases hs:(dg out).Soft with
     | true=>rw[if_pos rfl,h4];unfold ip;rw[hem,hs];rfl
     | false=>rw[if_neg (by simp),h4];unfold ip;rw[hem,hs];rfl
 have h2:∀c,pU K n e out c=some (bif c then out++[{ e with Kind:=2,Char:=32 }] else bif fw e then (bif e.Char == 13 then out else out++[{ e with Char:=32 }]) else bif ip out then out else out++[{ e with Soft:=true,Char:=32 }]):=fun c=>by
  unfold pU;cases c with
  | true=>rw[if_pos rfl,Bf K n hl];rfl
  | false =>
   have hp:(e.Box.Style.WhiteSpace == 2)=fw e:=rfl;rw[if_neg (by simp),hp];cases hpe:fw e with
   | true=>rw[if_pos rfl,h3 true hpe];rfl
   | false=>rw[if_neg (by simp),h3 false hpe];rfl
 have h1:iJ K n e out true=some (bif fw e then (bif e.Char == 10 then out++[{ e with Kind:=2,Char:=32 }] else bif e.Char == 13 then out else out++[{ e with Char:=32 }]) else bif ip out then out else out++[{ e with Soft:=true,Char:=32 }]):=by
  unfold iJ;have hp:(e.Box.Style.WhiteSpace == 2)=fw e:=rfl;rw[if_pos rfl,hp];cases hpe:fw e with
  | true=>rw[if_pos rfl,h2,hpe];rfl
  | false=>rw[if_neg (by simp),h2,hpe];rfl
 have h0:iJ K n e out false=some (out++[e]):=by
  unfold iJ;rw[if_neg (by simp),cH (by simp;omega) (by omega),bm]
 unfold qW iR cX;cases q1:(e.Char == 9) with
 | true=>rw[if_pos rfl,h1];rfl
 | false =>
  rw[if_neg (by simp)];cases q2:(e.Char == 10) with
  | true=>rw[if_pos rfl,h1,q2];rfl
  | false =>
   rw[if_neg (by simp)];cases q3:(e.Char == 13) with
   | true=>rw[if_pos rfl,h1,q2,q3];rfl
   | false =>
    rw[if_neg (by simp)];cases q4:(e.Char == 32) with
    | true=>rw[h1,q2,q3];rfl
    | false=>rw[h0];rfl
end
def fI(b:aj):Bool:=(fz (KN 0) 0 b).getD false
def ii(b:aj)(num:Int)(out:List ax)(rs:List Int):List ax:=rs.foldl (fun o r=>iR o ⟨1,num,r,false,b⟩) out
def vM:Nat→List aj→Int×List ax→Int×List ax
  | 0,_,s=>s
  | d+1,L,s=>L.foldl (fun s b=>bif fI b then
      (bif b.Kind == 2 then vM d b.Kids (ab (s.1+1),s.2)
       else bif b.Kind == 4 then (ab (s.1+1),s.2++[⟨2,ab (s.1+1),0,false,b⟩])
       else bif b.Kind == 5 then (ab (s.1+1),s.2++[⟨3,ab (s.1+1),0,false,b⟩])
       else bif b.Kind == 3 then (ab (s.1+1),ii b (ab (s.1+1)) s.2 (d9 b.Text 0))
       else (ab (s.1+1),s.2)) else s) s
def cI (d : Nat) (s : Int × List ax) (b : aj) : Int × List ax := bif fI b then
      (bif b.Kind == 2 then vM d b.Kids (ab (s.1+1),s.2)
       else bif b.Kind == 4 then (ab (s.1+1),s.2++[⟨2,ab (s.1+1),0,false,b⟩])
       else bif b.Kind == 5 then (ab (s.1+1),s.2++[⟨3,ab (s.1+1),0,false,b⟩])
       else bif b.Kind == 3 then (ab (s.1+1),ii b (ab (s.1+1)) s.2 (d9 b.Text 0))
       else (ab (s.1+1),s.2)) else s
theorem fQ(d:Nat)(L:List aj)(s:Int×List ax):vM (d+1) L s=L.foldl (cI d) s:=rfl
def bK:Nat→List aj→Nat
 | 0,_=>0
 | d+1,L=>(L.map fun b=>1+b.Text.size+bK d b.Kids).sum
def Dp:Nat→List aj→Prop
 | 0,_=>False
 | d+1,L=>L.length≤1000∧∀b∈L,b.Text.size≤1000∧(b.Kind=2→Dp d b.Kids)
theorem EN(b:aj)(num:Int):∀(rs:List Int) (out:List ax),(ii b num out rs).length≤out.length+rs.length
 | [],out=>by simp[ii]
 | r::t,out=>by
  have:=EN b num t (iR out ⟨1,num,r,false,b⟩);have:=ye out ⟨1,num,r,false,b⟩;unfold ii at *;simp only[List.foldl_cons,List.length_cons];omega
theorem DP(b:ByteArray)(p:Nat):(d9 b p).length≤b.size:=by
 unfold d9;have:=K9 (b.data.toList.drop p);rw[List.length_drop,pr]at this;omega
theorem yg(d:Nat)(ih:∀L s,(vM d L s).2.length≤s.2.length+bK d L)(s:Int×List ax)(b:aj):(cI d s b).2.length≤s.2.length+(1+b.Text.size+bK d b.Kids):=by
 unfold cI;cases fI b with
 | false=>simp only[cond_false];omega
 | true =>
  simp only[cond_true];cases (b.Kind == 2) with
  | true=>have:=ih b.Kids (ab (s.1+1),s.2);simp only[cond_true];simp only[]at this;omega
  | false =>
   simp only[cond_false];cases (b.Kind == 4) with
   | true=>simp only[cond_true,List.length_append,List.length_cons,List.length_nil];omega
   | false =>
    simp only[cond_false];cases (b.Kind == 5) with
    | true=>simp only[cond_true,List.length_append,List.length_cons,List.length_nil];omega
    | false =>
     simp only[cond_false];cases (b.Kind == 3) with
     | true =>
      have:=EN b (ab (s.1+1)) (d9 b.Text 0) s.2;have:=DP b.Text 0;simp only[cond_true];omega
     | false=>simp only[cond_false];omega
theorem zO:∀(d:Nat) (L:List aj) (s:Int×List ax),(vM d L s).2.length≤s.2.length+bK d L:=by
 intro d
 induction d with
 | zero=>intro L s;simp[vM,bK]
 | succ d ih =>
  intro L
  induction L with
  | nil=>intro s;simp[vM,bK]
  | cons b r ihL =>
   intro s;have h1:=yg d ih s b;have h2:=ihL (cI d s b);rw[fQ,List.foldl_cons];rw[fQ]at h2;simp only[bK,List.map_cons,List.sum_cons]at h2⊢;omega
theorem A3(K:Kn)(n:Nat)(b:aj):fz K n b=some (fI b):=by
 have e:fz (KN 0) 0 b=fz K n b:=rfl;have:fq (fz K n b):=by
  unfold fz
  repeat first|exact lS _|apply ru
 obtain⟨u,hu⟩:=this;unfold fI;rw[e,hu];rfl
theorem UC(K:Kn)(n:Nat)(L:List aj)(i num:Int)(C:Int→Int→List ax→Option (Int×List ax))(hi:i.toNat<L.length):∀(m p:Nat) (out:List ax),(L.getD i.toNat default).Text.size-p<m→out.length+((L.getD i.toNat default).Text.size-p)≤900000 →
  qm K n L i num C m p out=C (ab (i+1)) (ab (num+1)) (ii (L.getD i.toNat default) (ab (num+1)) out (d9 (L.getD i.toNat default).Text p)):=by
 intro m
 induction m with
 | zero=>intro p out h;omega
 | succ m ih =>
  intro p out h1 h2;show oO K n L i num C (qm K n L i num C m) p out=_;unfold oO;by_cases hp:p<(L.getD i.toNat default).Text.size
  ·have hw:=ya (L.getD i.toNat default).Text p;rw[if_pos (by simpa using hp)];simp only[Option.bind_some];rw[Li K n (by omega)];simp only[Option.bind_some];have hpl:=ye out ⟨1,ab (num+1),((Utf8.decode (L.getD i.toNat default).Text p).1:Int),false,L.getD i.toNat default⟩;rw[ih _ _ (by omega) (by omega),yz hp];rfl
  ·rw[if_neg (by simpa using hp),Az hp];rfl
theorem OX:∀(d N:Nat) (L:List aj) (s:Int×List ax),Dp d L→s.2.length+bK d L≤800000→d+1100≤N→ky (KN N) N L s.1 s.2=some (vM d L s):=by
 intro d
 induction d with
 | zero=>intro N L s h;exact h.elim
 | succ d ih =>
  intro N L s hD hs hN;obtain⟨N,rfl⟩:∃M,N=M+1:=⟨N-1,by omega⟩;unfold Dp at hD;unfold ky;have loop:∀(m i:Nat) (s:Int×List ax),i≤L.length→L.length<m+i→s.2.length+bK (d+1) (L.drop i)≤800000→n7 (KN (N+1)) (N+1) L m (i:Int) s.1 s.2=some (vM (d+1) (L.drop i) s):=by
   intro m
   induction m with
   | zero=>intro i s h1 h2;omega
   | succ m ihm =>
    intro i s h1 h2 h3;show qy (KN (N+1)) (N+1) L (n7 (KN (N+1)) (N+1) L m) i s.1 s.2=_;unfold qy;by_cases hi:i<L.length
    ·have hb:L.getD i default∈L:=by rw[cw hi];exact List.getElem_mem _
     have hdr:L.drop i=L.getD i default::L.drop (i+1):=by rw[List.drop_eq_getElem_cons hi,cw hi]
     have hw:ab ((i:Int)+1)=((i+1:Nat):Int):=by rw[cf (by omega) (by omega)];omega
     rw[hdr]at h3⊢;rw[fQ,List.foldl_cons,← fQ];have hvl:=yg d (zO d) s (L.getD i default);have h3':s.2.length+((1+(L.getD i default).Text.size+bK d (L.getD i default).Kids)+bK (d+1) (L.drop (i+1)))≤800000:=by
      simpa only[bK,List.map_cons,List.sum_cons]using h3
     have fin:=ihm (i+1) (cI d s (L.getD i default)) (by omega) (by omega) (by omega);rw[if_pos (by simpa using hi),cq (by omega) (by omega),bm,A3];simp only[Option.bind_some,Int.toNat_natCast];have step:∀s',cI d s (L.getD i default)=s'→n7 (KN (N+1)) (N+1) L m (ab ((i:Int)+1)) s'.1 s'.2=some (vM (d+1) (L.drop (i+1)) (cI d s (L.getD i default))):=fun s' e=>by
      rw[←e,hw];exact fin
     cases hf:fI (L.getD i default) with
     | false =>
      rw[show(!false)=true from rfl,if_pos rfl];unfold kw;exact step s (by unfold cI;rw[hf];rfl)
     | true =>
      rw[show(!true)=false from rfl,if_neg (by simp)];cases h2':((L.getD i default).Kind == 2) with
      | true =>
       have hk:(L.getD i default).Kind=2:=by simpa using h2'
       have:=ih N (L.getD i default).Kids (ab (s.1+1),s.2) ((hD.2 _ hb).2 hk) (by simp only[];omega) (by omega);rw[if_pos rfl];show((ky (KN N) N (L.getD i default).Kids (ab (s.1+1)) s.2).bind _)=_;rw[show ky (KN N) N (L.getD i default).Kids (ab (s.1+1)) s.2=_ from this];simp only[Option.bind_some];unfold iq kw;exact step _ (by unfold cI;rw[hf,h2'];rfl)
      | false =>
       rw[if_neg (by simp)];cases h4':((L.getD i default).Kind == 4) with
       | true =>
        rw[if_pos rfl,cH (by simp;omega) (by omega),bm];unfold iq kw;exact step (_,_) (by unfold cI;rw[hf,h2',h4'];rfl)
       | false =>
        rw[if_neg (by simp)];cases h5':((L.getD i default).Kind == 5) with
        | true =>
         rw[if_pos rfl,cH (by simp;omega) (by omega),bm];unfold iq kw;exact step (_,_) (by unfold cI;rw[hf,h2',h4',h5'];rfl)
        | false =>
         rw[if_neg (by simp)];cases h3'':((L.getD i default).Kind == 3) with
         | true =>
          have ht:=(hD.2 _ hb).1;rw[if_pos rfl,UC (KN (N+1)) (N+1) L i s.1 _ (by simpa using hi) (N+1) 0 s.2 (by rw[Int.toNat_natCast];omega) (by rw[Int.toNat_natCast];omega)];rw[Int.toNat_natCast];exact step (_,_) (by unfold cI;rw[hf,h2',h4',h5',h3''];rfl)
         | false =>
          rw[if_neg (by simp)];unfold iq kw;exact step (_,_) (by unfold cI;rw[hf,h2',h4',h5',h3''];rfl)
    ·rw[if_neg (by simpa using hi),List.drop_eq_nil_of_le (by omega)];rfl
  have:=loop (N+1) 0 s (by omega) (by omega) (by rw[List.drop_zero];exact hs);rw[List.drop_zero]at this;exact this
def ey(d:Nat)(L:List aj):List ax:=(vM d L (0,[])).2
theorem Uq{d N:Nat}{L:List aj}(hD:Dp d L)(hc:bK d L≤800000)(hN:d+1100≤N):rm (KN N) N L=some (ey d L):=by
 unfold rm;rw[show ky (KN N) N L 0 []=_ from OX d N L (0,[]) hD (by simpa using hc) hN];rfl
theorem BT(d:Nat)(L:List aj):(ey d L).length≤bK d L:=by
 have:=zO d L (0,[]);unfold ey;simpa using this
theorem Ko{P:ax→Prop}{out:List ax}{e:ax}(h:∀x∈out,P x)(h1:cX e.Char=false→P e)(h2:fw e=true→P { e with Kind:=2,Char:=32 })(h3:fw e=true→P { e with Char:=32 })(h4:fw e=false→P { e with Soft:=true,Char:=32 }):∀x∈iR out e,P x:=by
 have ap:∀y,P y→∀x∈out++[y],P x:=fun y hy x hx=>by
  rcases List.mem_append.1 hx with hx|hx
  ·exact h x hx
  ·rw[List.mem_singleton.1 hx];exact hy
 unfold iR;cases hs:cX e.Char with
 | false=>exact ap _ (h1 hs)
 | true =>
  simp only[cond_true];cases hp:fw e with
  | true =>
   simp only[cond_true];cases (e.Char == 10) with
   | true=>exact ap _ (h2 hp)
   | false =>
    simp only[cond_false];cases (e.Char == 13) with
    | true=>exact h
    | false=>exact ap _ (h3 hp)
  | false =>
   simp only[cond_false];cases ip out with
   | true=>exact h
   | false=>exact ap _ (h4 hp)
theorem xb{P:ax→Prop}(b:aj)(num:Int)(hP:∀r,cv r→(cX r=false→P ⟨1,num,r,false,b⟩))(h2:P ⟨2,num,32,false,b⟩)(h3:b.Style.WhiteSpace=2→P ⟨1,num,32,false,b⟩)(h4:b.Style.WhiteSpace≠2→P ⟨1,num,32,true,b⟩):∀(rs:List Int) (out:List ax),(∀r∈rs,cv r)→(∀x∈out,P x)→∀x∈ii b num out rs,P x
 | [],out,_,h=>h
 | r::t,out,hr,h=>by
  unfold ii;rw[List.foldl_cons];refine xb b num hP h2 h3 h4 t _ (fun x hx=>hr x (by simp[hx])) (Ko h (fun hs=>hP r (hr r (by simp)) hs) (fun _=>h2) (fun hp=>h3 (by simpa[fw]using hp)) (fun hp=>h4 (by simpa[fw]using hp)))
theorem Cv{P:ax→Prop}(h1:∀(b:aj) (num r:Int),cv r→cX r=false→P ⟨1,num,r,false,b⟩)(h2:∀(b:aj) (num:Int),P ⟨2,num,32,false,b⟩)(h3:∀(b:aj) (num:Int),b.Style.WhiteSpace=2→P ⟨1,num,32,false,b⟩)(h4:∀(b:aj) (num:Int),b.Style.WhiteSpace≠2→P ⟨1,num,32,true,b⟩)
  (h5:∀(b:aj) (num:Int),P ⟨2,num,0,false,b⟩) (h6:∀(b:aj) (num:Int),P ⟨3,num,0,false,b⟩):∀(d:Nat) (L:List aj) (s:Int×List ax),(∀x∈s.2,P x)→∀x∈(vM d L s).2,P x:=by
 have ap:∀{out:List ax} (y:ax),(∀x∈out,P x)→P y→∀x∈out++[y],P x:=fun y h hy x hx=>by
  rcases List.mem_append.1 hx with hx|hx
  ·exact h x hx
  ·rw[List.mem_singleton.1 hx];exact hy
 intro d
 induction d with
 | zero=>intro L s h;exact h
 | succ d ih =>
  intro L
  induction L with
  | nil=>intro s h;exact h
  | cons b r ihL =>
   intro s h;rw[fQ,List.foldl_cons,← fQ];refine ihL _ ?_;unfold cI;cases fI b with
   | false=>exact h
   | true =>
    simp only[cond_true];cases (b.Kind == 2) with
    | true=>exact ih _ _ h
    | false =>
     simp only[cond_false];cases (b.Kind == 4) with
     | true=>exact ap _ h (h5 _ _)
     | false =>
      simp only[cond_false];cases (b.Kind == 5) with
      | true=>exact ap _ h (h6 _ _)
      | false =>
       simp only[cond_false];cases (b.Kind == 3) with
       | true=>exact xb b _ (fun r hr hs=>h1 b _ r hr hs) (h2 b _) (h3 b _) (h4 b _) _ _ y5 h
       | false=>exact h
theorem yU:cv 32:=by unfold cv;omega
theorem E6:cv 0:=by unfold cv;omega
theorem IV(d:Nat)(L:List aj):∀x∈ey d L,iX x :=
 Cv (fun b num r hr _=>⟨hr,fun h=>by cases h⟩) (fun b num=>⟨yU,fun _=>rfl⟩) (fun b num _=>⟨yU,fun _=>rfl⟩) (fun b num _=>⟨yU,fun _=>rfl⟩) (fun b num=>⟨E6,fun h=>by cases h⟩) (fun b num=>⟨E6,fun h=>by cases h⟩) d L (0,[]) (fun x hx=>by cases hx)
end
end Go.Proofs.YtnpmlepplfaijaaGreat
namespace Go.Proofs.YtnpmlepplfaijaaGreat
set_option linter.all false
open Go.RowKit
noncomputable section
structure fN(e:ax)(t:aI):Prop where
 box:t.Box=e.Box
 soft:t.Soft=e.Soft
 forced:t.Forced=(e.Kind == 2)
 block:t.Block=(e.Kind == 3)
 char:e.Kind=1→t.Char=e.Char
structure eT(c:Int)(E:List ax)(T:List aI):Prop where
 len:E.length=T.length
 el:∀i,i<E.length→fN (E.getD i default) (T.getD i default)
 num:∀i,i<E.length→(E.getD i default).Of≤c
 idx:∀i,i<E.length→(T.getD i default).Number≤(i:Int)
 pair:∀i j,i<E.length→j<E.length→((E.getD i default).Of=(E.getD j default).Of↔(T.getD i default).Number=(T.getD j default).Number)
structure fj(c n0:Int)(E:List ax)(T:List aI):Prop where
 len:E.length=T.length
 el:∀i,i<E.length→fN (E.getD i default) (T.getD i default)
 num:∀i,i<E.length→((E.getD i default).Of≤c∧(T.getD i default).Number<n0)∨((E.getD i default).Of=c+1∧(T.getD i default).Number=n0)
 idx:∀i,i<E.length→(T.getD i default).Number≤(i:Int)
 n0le:n0≤(T.length:Int)
 pair:∀i j,i<E.length→j<E.length→((E.getD i default).Of=(E.getD j default).Of↔(T.getD i default).Number=(T.getD j default).Number)
theorem Ig{α:Type}[Inhabited α](a:List α)(y:α){i:Nat}(h:i<a.length):(a++[y]).getD i default=a.getD i default:=by
 rw[cw (by simp;omega),cw h,List.getElem_append_left h]
theorem zi{α:Type}[Inhabited α](a:List α)(y:α){i:Nat}(h:i=a.length):(a++[y]).getD i default=y:=by
 subst h;rw[cw (by simp)];simp
theorem NY(c:Int):eT c [] []:=⟨rfl,fun i h=>by simp at h,fun i h=>by simp at h,fun i h=>by simp at h,fun i j h=>by simp at h⟩
theorem eT.up{c c':Int}{E T}(h:eT c E T)(hc:c≤c'):eT c' E T:=⟨h.len,h.el,fun i hi=>Int.le_trans (h.num i hi) hc,h.idx,h.pair⟩
theorem eT.open{c:Int}{E T}(h:eT c E T):fj c (T.length:Int) E T :=
 ⟨h.len,h.el,fun i hi=>.inl ⟨h.num i hi,by have:=h.idx i hi;have:=h.len;omega⟩,h.idx,Int.le_refl _,h.pair⟩
theorem fj.close{c n0:Int}{E T}(h:fj c n0 E T):eT (c+1) E T :=
 ⟨h.len,h.el,fun i hi=>by rcases h.num i hi with q|q<;>omega,h.idx,h.pair⟩
theorem fj.snoc{c n0:Int}{E T}(h:fj c n0 E T){e:ax}{t:aI}(he:fN e t)(h1:e.Of=c+1)(h2:t.Number=n0):fj c n0 (E++[e]) (T++[t]):=by
 have hl:(E++[e]).length=E.length+1:=by simp
 have hlen:=h.len;have cs:∀i,i<(E++[e]).length→(i<E.length∧(E++[e]).getD i default=E.getD i default∧(T++[t]).getD i default=T.getD i default)∨(i=E.length∧(E++[e]).getD i default=e∧(T++[t]).getD i default=t):=fun i hi=>by
  by_cases q:i<E.length
  ·exact .inl ⟨q,Ig E e q,Ig T t (by omega)⟩
  ·exact .inr ⟨by omega,zi E e (by omega),zi T t (by omega)⟩
 have nw:∀i,i<E.length→((E.getD i default).Of=c+1↔(T.getD i default).Number=n0):=fun i hi=>by
  rcases h.num i hi with q|q
  ·constructor<;>intro _<;>omega
  ·exact⟨fun _=>q.2,fun _=>q.1⟩
 refine⟨by simp[hlen],fun i hi=>?_,fun i hi=>?_,fun i hi=>?_,?_,fun i j hi hj=>?_⟩
 ·obtain⟨q,q1,q2⟩|⟨q,q1,q2⟩:=cs i hi
  ·rw[q1,q2];exact h.el i q
  ·rw[q1,q2];exact he
 ·obtain⟨q,q1,q2⟩|⟨q,q1,q2⟩:=cs i hi
  ·rw[q1,q2];exact h.num i q
  ·rw[q1,q2];exact .inr ⟨h1,h2⟩
 ·obtain⟨q,q1,q2⟩|⟨q,q1,q2⟩:=cs i hi
  ·rw[q2];exact h.idx i q
  ·rw[q2,h2];have:=h.n0le;omega
 ·have:=h.n0le;simp;omega
 ·rcases cs i hi with⟨q,q1,q2⟩|⟨q,q1,q2⟩<;>rcases cs j hj with⟨r,r1,r2⟩|⟨r,r1,r2⟩<;>rw[q1,q2,r1,r2]
  ·exact h.pair i j q r
  ·rw[h1,h2];exact nw i q
  ·rw[h1,h2];have:=nw j r;exact⟨fun a=>(this.1 a.symm).symm,fun a=>(this.2 a.symm).symm⟩
  ·exact⟨fun _=>rfl,fun _=>rfl⟩
theorem Rc{c n0:Int}{E T}(h:fj c n0 E T)(h0:0<E.length):fN (dg E) (T.getD (T.length-1) default):=by
 have:=h.el (E.length-1) (by omega);rw[show T.length-1=E.length-1 by rw[h.len]];exact this
section
variable{K:Kn}{n:Nat}
theorem Wn{c n0:Int}{E:List ax}{T:List aI}(h:fj c n0 E T)(hl:T.length≤1000000)(b:aj)(r:Int):
  ∃T',sw K n ({ ln with Box:=b,Number:=n0,Char:=r }:aI) T=some T'∧fj c n0 (iR E ⟨1,c+1,r,false,b⟩) T':=by
 have ap:∀(e:ax) (t:aI),fN e t→e.Of=c+1→t.Number=n0→∃T',az (fits (T.length+([t]:(List aI)).length) 536) (some (T++[t]))=some T'∧fj c n0 (E++[e]) T':=fun e t h1 h2 h3=>by
  rw[cH (by simp;omega) (by omega),bm];exact⟨_,rfl,h.snoc h1 h2 h3⟩
 unfold sw iR;rw[vV];simp only[Option.bind_some];show ∃T',(if (b.Style.WhiteSpace == 2)=true then _ else _)=some T'∧fj c n0 (bif cX r then (bif (b.Style.WhiteSpace == 2) then _ else _) else _) T';cases hp:(b.Style.WhiteSpace == 2) with
 | true =>
  rw[if_pos rfl];simp only[cond_true];show ∃T',(if (r == 13)=true then some T else if (r == 10)=true then _ else _)=some T'∧fj c n0 (bif cX r then (bif (r == 10) then _ else bif (r == 13) then _ else _) else _) T';unfold tN rS;cases h13:(r == 13) with
  | true =>
   have e:r=13:=by simpa using h13
   subst e;rw[if_pos rfl];exact⟨T,rfl,h⟩
  | false =>
   rw[if_neg (by simp)];cases h10:(r == 10) with
   | true =>
    have e:r=10:=by simpa using h10
    subst e;rw[if_pos rfl,if_neg (by simp)];exact ap { (⟨1,c+1,10,false,b⟩:ax)with Kind:=2,Char:=32 } _ ⟨rfl,rfl,rfl,rfl,fun q=>by cases q⟩ rfl rfl
   | false =>
    rw[if_neg (by simp)];show ∃T',(if (r == 9)=true then _ else _)=some T'∧_;cases h9:(r == 9) with
    | true =>
     have e:r=9:=by simpa using h9
     subst e;rw[if_pos rfl];exact ap { (⟨1,c+1,9,false,b⟩:ax)with Char:=32 } _ ⟨rfl,rfl,rfl,rfl,fun _=>rfl⟩ rfl rfl
    | false =>
     rw[if_neg (by simp)];cases h32:(r == 32) with
     | true =>
      have e:r=32:=by simpa using h32
      subst e;exact ap { (⟨1,c+1,32,false,b⟩:ax)with Char:=32 } _ ⟨rfl,rfl,rfl,rfl,fun _=>rfl⟩ rfl rfl
     | false =>
      rw[show cX r=false by unfold cX;rw[h9,h10,h13,h32];rfl];exact ap (⟨1,c+1,r,false,b⟩:ax) _ ⟨rfl,rfl,rfl,rfl,fun _=>rfl⟩ rfl rfl
 | false =>
  rw[if_neg (by simp)];simp only[cond_false];show ∃T',(if (cX r)=true then _ else _)=some T'∧fj c n0 (bif cX r then _ else _) T';cases hs:cX r with
  | false =>
   rw[if_neg (by simp)];unfold qc;exact ap (⟨1,c+1,r,false,b⟩:ax) _ ⟨rfl,rfl,rfl,rfl,fun _=>rfl⟩ rfl rfl
  | true =>
   rw[if_pos rfl];simp only[cond_true];have hlen:=h.len;by_cases h0:T.length=0
   ·rw[if_pos (by simp;exact List.eq_nil_of_length_eq_zero h0)];have hE:E=[]:=List.eq_nil_of_length_eq_zero (by omega);refine⟨T,rfl,?_⟩;rw[show ip E=true by rw[hE];rfl];exact h
   ·have hE:E.isEmpty=false:=by cases E;exact absurd hlen.symm h0;rfl
    have hl2:=Rc h (by omega);have e1:ab ((T.length:Int)-1)=((T.length-1:Nat):Int):=by rw[cf (by omega) (by omega)];omega
    rw[if_neg (by simp;intro q;rw[q]at h0;exact h0 rfl),e1,cq (by omega) (by omega)];rw[bm,bm,Int.toNat_natCast,hl2.soft,hl2.forced];have hsk:ip E=((dg E).Soft||(dg E).Kind == 2):=by unfold ip;rw[hE];rfl
    rw[hsk];cases (dg E).Soft with
    | true=>exact⟨T,rfl,h⟩
    | false =>
     rw[if_neg (by simp),Bool.false_or];cases ((dg E).Kind == 2) with
     | true=>exact⟨T,rfl,h⟩
     | false =>
      unfold pW qc;rw[if_neg (by simp)];exact ap { (⟨1,c+1,r,false,b⟩:ax)with Soft:=true,Char:=32 } _ ⟨rfl,rfl,rfl,rfl,fun _=>rfl⟩ rfl rfl
theorem TX(b:ByteArray)(hb:b.size≤1000000):∀(m p:Nat) (cs os:List Int),b.size-p<m→cs.length+(b.size-p)≤1000000→os.length+(b.size-p)≤1000000→∃o,qQ K n b m p cs os=some (cs++d9 b p,o):=by
 intro m
 induction m with
 | zero=>intro p cs os h;omega
 | succ m ih =>
  intro p cs os h1 h2 h3;show ∃o,qF K n b (qQ K n b m) p cs os=some (_,o);unfold qF;by_cases hp:p<b.size
  ·have hw:=ya b p;rw[if_pos (by simpa using hp),cH (by simp;omega) (by omega),bm,cH (by simp;omega) (by omega),bm,yz hp];obtain⟨o,ho⟩:=ih (p+(Utf8.decode b p).2) (cs++[((Utf8.decode b p).1:Int)]) (os++[((p:Nat):Int)]) (by omega) (by rw[List.length_append];show _+1+_≤_;omega) (by rw[List.length_append];show _+1+_≤_;omega);exact⟨o,by rw[ho,List.append_assoc];rfl⟩
  ·rw[if_neg (by simpa using hp),cH (by simp;omega) (by omega),bm,Az hp,List.append_nil];exact⟨_,rfl⟩
end
end
end Go.Proofs.YtnpmlepplfaijaaGreat
namespace Go.Proofs.YtnpmlepplfaijaaGreat
set_option linter.all false
open Go.RowKit
noncomputable section
theorem Hf(d:Nat)(ih:∀L (s:Int×List ax),0≤s.1→s.1+bK d L≤1000000→s.1≤(vM d L s).1∧(vM d L s).1≤s.1+bK d L)(s:Int×List ax)(b:aj)(h0:0≤s.1)(h1:s.1+((1+b.Text.size+bK d b.Kids:Nat):Int)≤1000000):s.1≤(cI d s b).1∧(cI d s b).1≤s.1+((1+b.Text.size+bK d b.Kids:Nat):Int):=by
 have hw:ab (s.1+1)=s.1+1:=cf (by omega) (by omega);unfold cI;rw[hw];cases fI b with
 | false=>simp only[cond_false];omega
 | true =>
  simp only[cond_true];cases (b.Kind == 2) with
  | true =>
   have:=ih b.Kids (s.1+1,s.2) (by show 0≤s.1+1;omega) (by show s.1+1+_≤_;omega);simp only[cond_true];simp only[]at this;omega
  | false =>
   simp only[cond_false];cases (b.Kind == 4) with
   | true=>simp only[cond_true];omega
   | false =>
    simp only[cond_false];cases (b.Kind == 5) with
    | true=>simp only[cond_true];omega
    | false =>
     simp only[cond_false];cases (b.Kind == 3) with
     | true=>simp only[cond_true];omega
     | false=>simp only[cond_false];omega
theorem RC:∀(d:Nat) (L:List aj) (s:Int×List ax),0≤s.1→s.1+bK d L≤1000000→s.1≤(vM d L s).1∧(vM d L s).1≤s.1+bK d L:=by
 intro d
 induction d with
 | zero=>intro L s _ _;simp[vM,bK]
 | succ d ih =>
  intro L
  induction L with
  | nil=>intro s _ _;simp[vM,bK]
  | cons b r ihL =>
   intro s h0 h1;have e:bK (d+1) (b::r)=(1+b.Text.size+bK d b.Kids)+bK (d+1) r:=by simp[bK]
   rw[e]at h1⊢;have q1:=Hf d ih s b h0 (by omega);have q2:=ihL (cI d s b) (by omega) (by omega);rw[fQ,List.foldl_cons,← fQ];omega
section
variable{K:Kn}{n:Nat}
theorem Uf{L:List aj}{i:Int}{T0:List aI}{cs os:List Int}(hcs:cs.length≤900000)(C:Int→List aI→Option (List aI))(c:Int)(b:aj)(hb:L.getD i.toNat default=b):∀(m k:Nat) (E:List ax) (T:List aI),k≤cs.length→cs.length<m+k→fj c (T0.length:Int) E T→T.length+(cs.length-k)≤900000 →
  ∃T',pi K n L i T0 (cs,os) C m (k:Int) T=C (ab (i+1)) T'∧fj c (T0.length:Int) (ii b (c+1) E (cs.drop k)) T':=by
 intro m
 induction m with
 | zero=>intro k E T h1 h2;omega
 | succ m ih =>
  intro k E T h1 h2 h3 h4;show ∃T',oT K n L i T0 (cs,os) C (pi K n L i T0 (cs,os) C m) (k:Int) T=_∧_;unfold oT;by_cases hk:k<cs.length
  ·have hd:cs.drop k=cs.getD k default::cs.drop (k+1):=by rw[List.drop_eq_getElem_cons hk,cw hk]
   rw[if_pos (by simpa using hk),cq (by omega) (by simpa using hk),bm,hb,hd];simp only[Int.toNat_natCast];obtain⟨T1,t1,t2⟩:=Wn (K:=K) (n:=n) h3 (by omega) b (cs.getD k default);rw[t1];simp only[Option.bind_some];rw[cf (by omega) (by omega),show(k:Int)+1=((k+1:Nat):Int) by omega];have hl:=t2.len;have hl0:=h3.len;have hp:=ye E ⟨1,c+1,cs.getD k default,false,b⟩;obtain⟨T',q1,q2⟩:=ih (k+1) _ T1 (by omega) (by omega) t2 (by omega);refine⟨T',q1,?_⟩;unfold ii at q2⊢;rw[List.foldl_cons];exact q2
  ·rw[if_neg (by simpa using hk),List.drop_eq_nil_of_le (by omega)];unfold gm jz;exact⟨T,rfl,h3⟩
theorem KL(b:aj):hH K n b=some (fI b):=by
 have e:hH K n b=fz K n b:=rfl;rw[e,A3]
end
theorem Qj:∀(d N:Nat) (L:List aj) (s:Int×List ax) (T:List aI),Dp d L→0≤s.1→s.1+bK d L≤100000→s.2.length+bK d L≤100000→d+1100≤N→eT s.1 s.2 T→∃T',my (KN N) N L T=some T'∧eT (vM d L s).1 (vM d L s).2 T':=by
 intro d
 induction d with
 | zero=>intro N L s T h;exact h.elim
 | succ d ih =>
  intro N L s T hD g0 g1 g2 hN hS;obtain⟨N,rfl⟩:∃M,N=M+1:=⟨N-1,by omega⟩;unfold Dp at hD;unfold my;have loop:∀(m i:Nat) (s:Int×List ax) (T:List aI),i≤L.length→L.length<m+i→0≤s.1→s.1+bK (d+1) (L.drop i)≤100000→s.2.length+bK (d+1) (L.drop i)≤100000→eT s.1 s.2 T→∃T',kk (KN (N+1)) (N+1) L m (i:Int) T=some T'∧eT (vM (d+1) (L.drop i) s).1 (vM (d+1) (L.drop i) s).2 T':=by
   intro m
   induction m with
   | zero=>intro i s T h1 h2;omega
   | succ m ihm =>
    intro i s T h1 h2 h0 h3 h4 hS;show ∃T',oX (KN (N+1)) (N+1) L (kk (KN (N+1)) (N+1) L m) i T=some T'∧_;unfold oX;by_cases hi:i<L.length
    ·have hb:L.getD i default∈L:=by rw[cw hi];exact List.getElem_mem _
     have hdr:L.drop i=L.getD i default::L.drop (i+1):=by rw[List.drop_eq_getElem_cons hi,cw hi]
     have hw:ab ((i:Int)+1)=((i+1:Nat):Int):=by rw[cf (by omega) (by omega)];omega
     have e:bK (d+1) (L.getD i default::L.drop (i+1))=(1+(L.getD i default).Text.size+bK d (L.getD i default).Kids)+bK (d+1) (L.drop (i+1)):=by simp[bK]
     rw[hdr,e]at h3 h4;rw[hdr];rw[fQ,List.foldl_cons,← fQ];obtain⟨t1,t2⟩:=hD.2 _ hb;have hlen:=hS.len;have hvl:=yg d (zO d) s (L.getD i default);have hvn:=Hf d (RC d) s (L.getD i default) h0 (by omega);have hws:ab (s.1+1)=s.1+1:=cf (by omega) (by omega);rw[if_pos (by simpa using hi),cq (by omega) (by omega),bm,KL];simp only[Option.bind_some,Int.toNat_natCast];have step:∀(T1:List aI) (s':Int×List ax),cI d s (L.getD i default)=s'→eT s'.1 s'.2 T1→∃T',kk (KN (N+1)) (N+1) L m (ab ((i:Int)+1)) T1=some T'∧eT (vM (d+1) (L.drop (i+1)) (cI d s (L.getD i default))).1 (vM (d+1) (L.drop (i+1)) (cI d s (L.getD i default))).2 T':=fun T1 s' he h1=>by
      rw[hw];rw[←he]at h1;exact ihm (i+1) _ T1 (by omega) (by omega) (by omega) (by omega) (by omega) h1
     have one:∀(e1:ax) (t:aI),fN e1 t→e1.Of=s.1+1→t.Number=(T.length:Int)→cI d s (L.getD i default)=(s.1+1,s.2++[e1])→∃T',az (fits (T.length+([t]:(List aI)).length) 536) (gm (KN (N+1)) (N+1) L (i:Int) (kk (KN (N+1)) (N+1) L m) (T++[t]))=some T'∧eT (vM (d+1) (L.drop (i+1)) (cI d s (L.getD i default))).1 (vM (d+1) (L.drop (i+1)) (cI d s (L.getD i default))).2 T':=fun e1 t q1 q2 q3 q4=>by
      rw[cH (by simp;omega) (by omega),bm];unfold gm jz;exact step _ _ q4 (hS.open.snoc q1 q2 q3).close
     cases hf:fI (L.getD i default) with
     | false =>
      rw[show(!false)=true from rfl,if_pos rfl];unfold jz;exact step T s (by unfold cI;rw[hf];rfl) hS
     | true =>
      rw[show(!true)=false from rfl,if_neg (by simp)];cases k2:((L.getD i default).Kind == 2) with
      | true =>
       rw[if_pos rfl];have hk:=t2 (by simpa using k2);obtain⟨T1,q1,q2⟩:=ih N (L.getD i default).Kids (s.1+1,s.2) T hk (by show 0≤s.1+1;omega) (by show s.1+1+_≤_;omega) (by show s.2.length+_≤_;omega) (by omega) (hS.up (by show s.1≤s.1+1;omega));show ∃T',((my (KN N) N (L.getD i default).Kids T).bind _)=some T'∧_;rw[q1];simp only[Option.bind_some];unfold gm jz;exact step T1 _ (by unfold cI;rw[hf,k2,hws];rfl) q2
      | false =>
       rw[if_neg (by simp)];cases k4:((L.getD i default).Kind == 4) with
       | true =>
        rw[if_pos rfl];exact one ⟨2,s.1+1,0,false,L.getD i default⟩ _ ⟨rfl,rfl,rfl,rfl,fun q=>by cases q⟩ rfl rfl (by unfold cI;rw[hf,k2,k4,hws];rfl)
       | false =>
        rw[if_neg (by simp)];cases k5:((L.getD i default).Kind == 5) with
        | true =>
         rw[if_pos rfl];exact one ⟨3,s.1+1,0,false,L.getD i default⟩ _ ⟨rfl,rfl,rfl,rfl,fun q=>by cases q⟩ rfl rfl (by unfold cI;rw[hf,k2,k4,k5,hws];rfl)
        | false =>
         rw[if_neg (by simp)];cases k3:((L.getD i default).Kind == 3) with
         | true =>
          rw[if_pos rfl];obtain⟨o,ho⟩:=TX (K:=KN (N+1)) (n:=N+1) (L.getD i default).Text (by omega) (N+1) 0 [] [] (by omega) (by show 0+_≤_;omega) (by show 0+_≤_;omega);rw[List.nil_append]at ho;rw[show vQ (KN (N+1)) (N+1) (L.getD i default).Text=_ from ho];simp only[Option.bind_some];have hrl:=DP (L.getD i default).Text 0;obtain⟨T1,q1,q2⟩:=Uf (K:=KN (N+1)) (n:=N+1) (L:=L) (i:=(i:Int)) (T0:=T) (cs:=d9 (L.getD i default).Text 0) (os:=o) (by omega) (kk (KN (N+1)) (N+1) L m) s.1 (L.getD i default) (by rw[Int.toNat_natCast]) (N+1) 0 s.2 T (by omega) (by omega) hS.open (by omega);rw[show(0:Int)=((0:Nat):Int) from rfl,q1];rw[List.drop_zero]at q2;exact step T1 (s.1+1,ii (L.getD i default) (s.1+1) s.2 (d9 (L.getD i default).Text 0)) (by unfold cI;rw[hf,k2,k4,k5,k3,hws];rfl) q2.close
         | false =>
          rw[if_neg (by simp)];unfold gm jz;exact step T (s.1+1,s.2) (by unfold cI;rw[hf,k2,k4,k5,k3,hws];rfl) (hS.up (by show s.1≤s.1+1;omega))
    ·rw[if_neg (by simpa using hi),List.drop_eq_nil_of_le (by omega)];exact⟨T,rfl,hS⟩
  have:=loop (N+1) 0 s T (by omega) (by omega) g0 (by rw[List.drop_zero];exact g1) (by rw[List.drop_zero];exact g2) hS;rw[List.drop_zero]at this;exact this
theorem OZ{d N:Nat}{L:List aj}(hD:Dp d L)(hc:bK d L≤100000)(hN:d+1100≤N):∃c T,my (KN N) N L []=some T∧eT c (ey d L) T:=by
 obtain⟨T,q1,q2⟩:=Qj d N L (0,[]) [] hD (Int.le_refl _) (by show(0:Int)+_≤_;omega) (by show 0+_≤_;omega) hN (NY 0);exact⟨_,T,q1,q2⟩
end
end Go.Proofs.YtnpmlepplfaijaaGreat
namespace Go.Proofs.YtnpmlepplfaijaaGreat
set_option linter.all false
open Go.RowKit
def sl{α:Type}(l:List α)(a b:Nat):List α:=List.drop a (List.take b l)
end Go.Proofs.YtnpmlepplfaijaaGreat
namespace Go.Proofs.YtnpmlepplfaijaaGreat
set_option linter.all false
open Go.RowKit
noncomputable section
def jl(o:Int):ax→List ax→Nat
 | _,[]=>0
 | a,b::r=>bif b.Kind == 1&&(b.Of == o&&!eu a b) then jl o b r+1 else 0
theorem B1(o:Int):∀(l:List ax) (a:ax),jl o a l≤l.length
 | [],_=>Nat.le_refl _
 | b::r,a=>by
  unfold jl;cases (b.Kind == 1&&(b.Of == o&&!eu a b)) with
  | true=>have:=B1 o r b;simp;omega
  | false=>simp
def ib(p:Option ax)(e:ax):Bool:=match p with
 | none=>false
 | some q=>q.Kind != 2&&!eu q e
def runM(x:aM)(e:ax)(g:Bool):aM:={ x with Node:=e.Box.Node,Style:=e.Box.Style,Glued:=g }
def cM(pl:aj→aM):Nat→Option ax→List ax→List aM
 | 0,_,_=>[]
 | _+1,_,[]=>[]
 | m+1,p,e::r =>
  bif e.Kind == 2 then runM { cO with Forced:=true } e (ib p e)::cM pl m (some e) r
  else bif e.Kind == 3 then runM (pl e.Box) e (ib p e)::cM pl m (some e) r
  else runM (gw (e::r.take (jl e.Of e r))) e (ib p e)::cM pl m (some (dg (e::r.take (jl e.Of e r)))) (r.drop (jl e.Of e r))
def cU(L:List ax)(i:Nat):Option ax:=if i=0 then none else some (L.getD (i-1) default)
theorem Dx{α:Type}[Inhabited α]{L:List α}{i k:Nat}(h:i<L.length):sl L i (i+1+k)=L.getD i default::(L.drop (i+1)).take k:=by
 unfold sl;rw[List.drop_take,show i+1+k-i=k+1 by omega,List.drop_eq_getElem_cons h,List.take_succ_cons,cw h]
theorem Sw{α:Type}{L:List α}{a b:Nat}{x:α}(h:x∈sl L a b):x∈L:=by
 unfold sl at h;exact List.mem_of_mem_take (List.mem_of_mem_drop h)
theorem DM{α:Type}{L:List α}{a b:Nat}(h:b≤L.length):(sl L a b).length=b-a:=by unfold sl;simp;omega
theorem N9{L:List ax}{i k:Nat}(h:i+k<L.length):dg (L.getD i default::(L.drop (i+1)).take k)=L.getD (i+k) default:=by
 rw[←Dx (by omega)];unfold dg;have hl:=DM (L:=L) (a:=i) (b:=i+1+k) (by omega);rw[hl,cw (by rw[hl];omega),cw h];unfold sl;rw[List.getElem_drop,List.getElem_take];congr 1;omega
section
variable{K:Kn}{n:Nat}{v2:Fv}{L:List ax}{pl:aj→aM}
theorem US(ho:∀e∈L,iX e)(hl:L.length≤2000)(hn:8010≤n)(i:Nat)(acc:List aM)(g:Bool)(C:Int→List aM→Option (List aM))(hi:i<L.length):∀(m x:Nat),i<x→x≤L.length→L.length<m+x →
  mV K n v2 L (i:Int) acc g C m (x:Int)=iG K n v2 L i acc g C ((x+jl (L.getD i default).Of (L.getD (x-1) default) (L.drop x):Nat):Int) (gw (sl L i (x+jl (L.getD i default).Of (L.getD (x-1) default) (L.drop x)))):=by
 have fin:∀y:Nat,i<y→y≤L.length→∀(D:Int→Option (List aM)),jm K n v2 L (i:Int) acc g (y:Int) C D false=iG K n v2 L i acc g C (y:Int) (gw (sl L i y)):=fun y h1 h2 D=>by
  unfold jm;have hsl:List.drop i (List.take y L)=sl L i y:=rfl;have hlen:=DM (L:=L) (a:=i) (b:=y) h2;rw[if_neg (by simp),show eS (i:Int) (y:Int) L.length=true by simp only[eS,Bool.and_eq_true,decide_eq_true_eq];omega,bm];simp only[Int.toNat_natCast];rw[hsl,Wh (by intro e;rw[e]at hlen;simp at hlen;omega) (by omega) (fun e he=>ho e (Sw he)) hn];rfl
 intro m
 induction m with
 | zero=>intro x h1 h2 h3;omega
 | succ m ih =>
  intro x h1 h2 h3;show pB K n v2 L i acc g C (mV K n v2 L i acc g C m) x=_;unfold pB;by_cases hx:x<L.length
  ·have hdr:L.drop x=L.getD x default::L.drop (x+1):=by rw[List.drop_eq_getElem_cons hx,cw hx]
   have hb:L.getD x default∈L:=by rw[cw hx];exact List.getElem_mem _
   have ha:L.getD (x-1) default∈L:=by rw[cw (by omega)];exact List.getElem_mem _
   have e1:ab ((x:Int)-1)=((x-1:Nat):Int):=by rw[cf (by omega) (by omega)];omega
   rw[if_pos (by simpa using hx),cq (by omega) (by omega)];simp only[bm,Int.toNat_natCast,e1];rw[hdr];unfold jl;have nog:∀{b:Bool},b=false→jm K n v2 L (i:Int) acc g (x:Int) C (mV K n v2 L i acc g C m) false=iG K n v2 L i acc g C ((x+(bif b then jl (L.getD i default).Of (L.getD x default) (L.drop (x+1))+1 else 0):Nat):Int) (gw (sl L i (x+(bif b then jl (L.getD i default).Of (L.getD x default) (L.drop (x+1))+1 else 0)))):=fun {b} hb=>by
    subst hb;exact fin x h1 h2 _
   cases hk:((L.getD x default).Kind == 1) with
   | false=>rw[if_neg (by simp)];exact nog rfl
   | true =>
    rw[if_pos rfl];cases hof:((L.getD x default).Of == (L.getD i default).Of) with
    | false=>rw[if_neg (by simp)];exact nog rfl
    | true =>
     rw[if_pos rfl,cq (by omega) (by omega),bm,Ft K (by omega) (ho _ ha).ch (ho _ hb).ch];simp only[Option.bind_some];cases hbr:eu (L.getD (x-1) default) (L.getD x default) with
     | true=>exact nog rfl
     | false =>
      unfold jm;rw[show(!false)=true from rfl,if_pos rfl,cf (by omega) (by omega),show(x:Int)+1=((x+1:Nat):Int) by omega,ih (x+1) (by omega) (by omega) (by omega)];simp only[Nat.add_sub_cancel,Bool.and_self,cond_true];rw[show x+1+jl (L.getD i default).Of (L.getD x default) (L.drop (x+1))=x+(jl (L.getD i default).Of (L.getD x default) (L.drop (x+1))+1) by omega]
  ·rw[if_neg (by simpa using hx),List.drop_eq_nil_of_le (by omega)];unfold jl;exact fin x h1 h2 _
theorem Ad(i:Nat)(acc:List aM)(g:Bool)(C:Int→List aM→Option (List aM))(hacc:acc.length≤1000000)(y:Int)(x:aM):iG K n v2 L (i:Int) acc g C y x=C y (acc++[runM x (L.getD i default) g]):=by
 unfold iG;simp only[Option.bind_some,Int.toNat_natCast];rw[cH (by simp;omega) (by omega),bm];rfl
theorem Po(ho:∀e∈L,iX e)(hl:L.length≤2000)(hn:8010≤n)(hpl:∀e∈L,e.Kind=3→K.qg v2 e.Box=some (pl e.Box)):∀(m i:Nat) (acc:List aM),i≤L.length→L.length<m+i→acc.length≤i →
  n9 K n v2 L m (i:Int) acc=some (acc++cM pl m (cU L i) (L.drop i)):=by
 intro m
 induction m with
 | zero=>intro i acc h1 h2;omega
 | succ m ih =>
  intro i acc h1 h2 h3;show pA K n v2 L (n9 K n v2 L m) i acc=_;unfold pA;by_cases hi:i<L.length
  ·have hdr:L.drop i=L.getD i default::L.drop (i+1):=by rw[List.drop_eq_getElem_cons hi,cw hi]
   have hb:L.getD i default∈L:=by rw[cw hi];exact List.getElem_mem _
   rw[if_pos (by simpa using hi),cq (by omega) (by omega)];simp only[bm,Int.toNat_natCast];rw[hdr];have hw:ab ((i:Int)+1)=((i+1:Nat):Int):=by rw[cf (by omega) (by omega)];omega
   have hprev:cU L (i+1)=some (L.getD i default):=by unfold cU;rw[if_neg (by omega),Nat.add_sub_cancel]
   have key:∀g,g=ib (cU L i) (L.getD i default)→mS K n v2 L (i:Int) acc (n9 K n v2 L m) g=some (acc++cM pl (m+1) (cU L i) (L.getD i default::L.drop (i+1))):=by
    intro g hg;unfold mS cM;simp only[Option.bind_some,Int.toNat_natCast];rw[←hg];cases k2:((L.getD i default).Kind == 2) with
    | true =>
     rw[if_pos rfl,Ad i acc g _ (by omega),hw,ih (i+1) _ (by omega) (by omega) (by simp;omega),hprev];simp[List.append_assoc]
    | false =>
     rw[if_neg (by simp)];cases k3:((L.getD i default).Kind == 3) with
     | true =>
      rw[if_pos rfl,hpl _ hb (by simpa using k3)];simp only[Option.bind_some];rw[Ad i acc g _ (by omega),hw,ih (i+1) _ (by omega) (by omega) (by simp;omega),hprev];simp[List.append_assoc]
     | false =>
      rw[if_neg (by simp),hw,US ho hl hn i acc g _ hi n (i+1) (by omega) (by omega) (by omega),Nat.add_sub_cancel];simp only[cond_false];have hj:=B1 (L.getD i default).Of (L.drop (i+1)) (L.getD i default);rw[List.length_drop]at hj;generalize jl (L.getD i default).Of (L.getD i default) (L.drop (i+1))=k at *;rw[Ad i acc g _ (by omega),ih (i+1+k) _ (by omega) (by omega) (by simp;omega),Dx hi,N9 (by omega),List.drop_drop];have hp:cU L (i+1+k)=some (L.getD (i+k) default):=by unfold cU;rw[if_neg (by omega)];congr 2;omega
      rw[hp];simp[List.append_assoc]
   by_cases h0:i=0
   ·rw[if_neg (by simp;omega)];exact key false (by unfold cU;rw[if_pos h0];rfl)
   ·have ha:L.getD (i-1) default∈L:=by rw[cw (by omega)];exact List.getElem_mem _
    have e1:ab ((i:Int)-1)=((i-1:Nat):Int):=by rw[cf (by omega) (by omega)];omega
    have hp:cU L i=some (L.getD (i-1) default):=by unfold cU;rw[if_neg h0]
    rw[if_pos (by simp;omega),e1,cq (by omega) (by omega)];simp only[bm,Int.toNat_natCast];by_cases hk:((L.getD (i-1) default).Kind != 2)=true
    ·rw[if_pos hk,Ft K (by omega) (ho _ ha).ch (ho _ hb).ch];simp only[Option.bind_some];exact key _ (by rw[hp];show _=((L.getD (i-1) default).Kind != 2&&!eu (L.getD (i-1) default) (L.getD i default));rw[hk];rfl)
    ·rw[if_neg hk];have hk':((L.getD (i-1) default).Kind != 2)=false:=by simpa using hk
     exact key false (by rw[hp];show _=((L.getD (i-1) default).Kind != 2&&!eu (L.getD (i-1) default) (L.getD i default));rw[hk'];rfl)
  ·rw[if_neg (by simpa using hi),List.drop_eq_nil_of_le (by omega)];simp[cM]
theorem TR(pl:aj→aM):∀(m m':Nat) (p:Option ax) (l:List ax),l.length<m→l.length<m'→cM pl m p l=cM pl m' p l:=by
 intro m
 induction m with
 | zero=>intro m' p l h;omega
 | succ m ih =>
  intro m' p l h h';cases m' with
  | zero=>omega
  | succ m' =>
   cases l with
   | nil=>rfl
   | cons e r =>
    simp only[List.length_cons]at h h';unfold cM;rw[ih m' (some e) r (by omega) (by omega),ih m' _ (r.drop (jl e.Of e r)) (by simp;omega) (by simp;omega)]
theorem Lb(pl:aj→aM):∀(m:Nat) (p:Option ax) (l:List ax),(cM pl m p l).length≤l.length:=by
 intro m
 induction m with
 | zero=>intro p l;simp[cM]
 | succ m ih =>
  intro p l;cases l with
  | nil=>simp[cM]
  | cons e r =>
   unfold cM;have h1:=ih (some e) r;have h2:=ih (some (dg (e::r.take (jl e.Of e r)))) (r.drop (jl e.Of e r));rw[List.length_drop]at h2;cases (e.Kind == 2) with
   | true=>simp;omega
   | false =>
    cases (e.Kind == 3) with
    | true=>simp;omega
    | false=>simp;omega
def lP(pl:aj→aM)(L:List ax):List aM:=cM pl (L.length+1) none L
end
theorem Rn{N d:Nat}{B:List aj}{v2:Fv}{pl:aj→aM}(hD:Dp d B)(hc:bK d B≤2000)(hN:d+9000≤N)(hpl:∀e∈ey d B,e.Kind=3→(KN N).qg v2 e.Box=some (pl e.Box)):
  qN (KN N) N B v2=some (lP pl (ey d B)):=by
 have hlen:=BT d B;unfold qN;rw[Uq hD (by omega) (by omega)];simp only[Option.bind_some];rw[show(0:Int)=((0:Nat):Int) from rfl,Po (pl:=pl) (IV d B) (by omega) (by omega) hpl N 0 [] (by omega) (by omega) (by simp),List.drop_zero,List.nil_append];unfold lP;rw[TR pl N ((ey d B).length+1) _ _ (by omega) (by omega)];rfl
end
end Go.Proofs.YtnpmlepplfaijaaGreat
namespace Go.Proofs.YtnpmlepplfaijaaGreat
set_option linter.all false
open Go.RowKit
noncomputable section
structure EK(e:ax):Prop where
 kind:e.Kind=1∨e.Kind=2∨e.Kind=3
 sp:e.Kind=1→cX e.Char=(e.Char == 32)
theorem KU(d:Nat)(bx:List aj):∀e∈ey d bx,EK e :=
 Cv (P:=EK) (fun b num r _ hs=>⟨.inl rfl,fun _=>by
   show cX r=(r == 32);rw[hs];cases h:(r == 32) with
   | false=>rfl
   | true =>
    have e : r=32:=by simpa using h
    subst e;cases hs⟩) (fun _ _=>⟨.inr (.inl rfl),fun h=>by cases h⟩) (fun _ _ _=>⟨.inl rfl,fun _=>rfl⟩) (fun _ _ _=>⟨.inl rfl,fun _=>rfl⟩) (fun _ _=>⟨.inr (.inl rfl),fun h=>by cases h⟩) (fun _ _=>⟨.inr (.inr rfl),fun h=>by cases h⟩) d bx (0,[]) (fun x hx=>by cases hx)
def i8(e:ax):Bool:=e.Box.Style.WhiteSpace != 1&&e.Box.Style.WhiteSpace != 2
section
variable{K:Kn}{n:Nat}
theorem uV{e:ax}{t:aI}(h:fN e t):jq K n t=some (i8 e):=by
 unfold jq rI i8;rw[h.box];cases h1:(e.Box.Style.WhiteSpace != 1)<;>cases h2:(e.Box.Style.WhiteSpace != 2)<;>simp
theorem Qt(hn:101≤n){a b:ax}{ta tb:aI}(ha:fN a ta)(hb:fN b tb)(ka:EK a)(kb:EK b):sM K n ta tb=some (eu a b):=by
 have j1t:jH K n ta tb true=some false:=rfl;have nb:eW b=(b.Kind == 1&&i8 b):=rfl;have na:eW a=(a.Kind == 1&&i8 a):=rfl;have j4:∀c:Bool,mJ K n ta tb c=bif c then some false else oy K n ta.Char tb.Char:=fun c=>by
  unfold mJ;cases c
  ·cases oy K n ta.Char tb.Char<;>rfl
  ·rfl
 have j2t:oL K n ta tb true=some ((ta.Block||i8 a)&&(tb.Block||i8 b)):=by
  unfold oL mq;simp only[uV ha,uV hb,Option.bind_some];cases ta.Block<;>cases tb.Block<;>cases i8 a<;>cases i8 b<;>rfl
 unfold sM;rw[ha.forced,hb.forced];unfold eu;rcases ka.kind with k|k|k
 ·rw[show(a.Kind == 2)=false by rw[k];rfl,if_neg (by simp)];rcases kb.kind with q|q|q
  ·rw[show(b.Kind == 2)=false by rw[q];rfl,show(a.Kind == 3)=false by rw[k];rfl,show(b.Kind == 3)=false by rw[q];rfl];unfold jH;rw[if_neg (by simp),ha.block,hb.block,show(a.Kind == 3)=false by rw[k];rfl,show(b.Kind == 3)=false by rw[q];rfl,if_neg (by simp)];unfold oL;rw[if_neg (by simp),uV ha,uV hb,vV];simp only[Option.bind_some,j4];rw[ha.char k,hb.char q,OQ hn,ka.sp k,na,nb,show(a.Kind == 1)=true by rw[k];rfl,show(b.Kind == 1)=true by rw[q];rfl,show(a.Kind != 1)=false by rw[k];rfl,show(b.Kind != 1)=false by rw[q];rfl];cases i8 a<;>cases i8 b<;>cases h:(a.Char == 32)<;>simp[bne,h]
  ·rw[show(b.Kind == 2)=true by rw[q];rfl,j1t,show(a.Kind == 3)=false by rw[k];rfl,show(b.Kind == 3)=false by rw[q];rfl,show(b.Kind != 1)=true by rw[q];rfl,show(a.Kind != 1)=false by rw[k];rfl];rfl
  ·rw[show(b.Kind == 2)=false by rw[q];rfl,show(a.Kind == 3)=false by rw[k];rfl,show(b.Kind == 3)=true by rw[q];rfl];unfold jH;rw[if_neg (by simp),ha.block,hb.block,show(a.Kind == 3)=false by rw[k];rfl,show(b.Kind == 3)=true by rw[q];rfl,if_neg (by simp),j2t,ha.block,hb.block,na,show(a.Kind == 3)=false by rw[k];rfl,show(b.Kind == 3)=true by rw[q];rfl,show(a.Kind == 1)=true by rw[k];rfl];rfl
 ·rw[show(a.Kind == 2)=true by rw[k];rfl,if_pos rfl,j1t,show(a.Kind == 3)=false by rw[k];rfl,na,show(a.Kind == 1)=false by rw[k];rfl,show(a.Kind != 1)=true by rw[k];rfl];cases (b.Kind == 3)<;>rfl
 ·rw[show(a.Kind == 2)=false by rw[k];rfl,if_neg (by simp),show(a.Kind == 3)=true by rw[k];rfl];rcases kb.kind with q|q|q
  ·rw[show(b.Kind == 2)=false by rw[q];rfl,show(b.Kind == 3)=false by rw[q];rfl];unfold jH;rw[if_neg (by simp),ha.block,show(a.Kind == 3)=true by rw[k];rfl,if_pos rfl,j2t,ha.block,hb.block,nb,show(a.Kind == 3)=true by rw[k];rfl,show(b.Kind == 3)=false by rw[q];rfl,show(b.Kind == 1)=true by rw[q];rfl];rfl
  ·rw[show(b.Kind == 2)=true by rw[q];rfl,j1t,nb,show(b.Kind == 3)=false by rw[q];rfl,show(b.Kind == 1)=false by rw[q];rfl];rfl
  ·rw[show(b.Kind == 2)=false by rw[q];rfl,show(b.Kind == 3)=true by rw[q];rfl];unfold jH;rw[if_neg (by simp),ha.block,show(a.Kind == 3)=true by rw[k];rfl,if_pos rfl,j2t,ha.block,hb.block,show(a.Kind == 3)=true by rw[k];rfl,show(b.Kind == 3)=true by rw[q];rfl];rfl
end
def gC(p:Option ax)(e:ax):Bool:=match p with
 | none=>false
 | some q=>q.Kind == 1&&(e.Kind == 1&&(e.Of == q.Of&&!eu q e))
abbrev RT:=ba×Option (List aI)
def ge(acc:List RT)(t:aI):List RT:=acc.set (acc.length-1) ((acc.getD (acc.length-1) default).1,some ((((acc.getD (acc.length-1) default).2).getD [])++[t]))
def mT(p:Option ax)(e:ax)(t:aI):RT:=({ dC with Glued:=ib p e,Forced:=t.Forced },some [t])
def gM:Option ax→List ax→List aI→List RT→List RT
 | p,e::r,t::s,acc=>gM (some e) r s (bif gC p e then ge acc t else acc++[mT p e t])
 | _,_,_,acc=>acc
end
end Go.Proofs.YtnpmlepplfaijaaGreat
namespace Go.Proofs.YtnpmlepplfaijaaGreat
set_option linter.all false
open Go.RowKit
noncomputable section
theorem AU(p:Option ax)(e:ax)(r:List ax)(t:aI)(s:List aI)(acc:List RT):gM p (e::r) (t::s) acc=gM (some e) r s (bif gC p e then ge acc t else acc++[mT p e t]):=by
 conv=>lhs;unfold gM
def sm(i:Nat)(acc:List RT):Prop:=∀p∈acc,∃l,p.2=some l∧l.length≤i
theorem QF{i:Nat}{acc:List RT}(h:sm i acc)(p:Option ax)(e:ax)(t:aI):sm (i+1) (acc++[mT p e t]):=by
 intro x hx;rcases List.mem_append.1 hx with hx|hx
 ·obtain⟨l,h1,h2⟩:=h x hx;exact⟨l,h1,by omega⟩
 ·rw[List.mem_singleton.1 hx];exact⟨[t],rfl,by simp⟩
theorem Oh{i:Nat}{acc:List RT}(h:sm i acc)(h0:0<acc.length)(t:aI):sm (i+1) (ge acc t):=by
 intro x hx;unfold ge at hx;rcases List.mem_or_eq_of_mem_set hx with hx|hx
 ·obtain⟨l,h1,h2⟩:=h x hx;exact⟨l,h1,by omega⟩
 ·have hm:acc.getD (acc.length-1) default∈acc:=by rw[cw (by omega)];exact List.getElem_mem _
  obtain⟨l,h1,h2⟩:=h _ hm;rw[hx,h1];exact⟨_,rfl,by simp;omega⟩
theorem Uv{i:Nat}{acc:List RT}(h:sm i acc):acc.all (fun p=>p.2.isSome)=true:=by
 rw[List.all_eq_true];intro p hp;obtain⟨l,h1,_⟩:=h p hp;rw[h1];rfl
section
variable{K:Kn}{n:Nat}{w:Int}{E:List ax}{T:List aI}{c:Int}
theorem Pl(hS:eT c E T)(hk:∀e∈E,EK e)(hl:E.length≤100000)(hn:101≤n):∀(m i:Nat) (acc:List RT),i≤E.length→E.length<m+i→(0<i→0<acc.length)→acc.length≤i→sm i acc →
  j7 K n w T m (i:Int) acc=jU K n w n 0 ((gM (cU E i) (E.drop i) (T.drop i) acc).map db):=by
 have hlen:=hS.len;intro m
 induction m with
 | zero=>intro i acc h1 h2;omega
 | succ m ih =>
  intro i acc h1 h2 h3 h4 h5;show qu K n w T (j7 K n w T m) i acc=_;unfold qu;by_cases hi:i<E.length
  ·have hiT:i<T.length:=by omega
   have hdE:E.drop i=E.getD i default::E.drop (i+1):=by rw[List.drop_eq_getElem_cons hi,cw hi]
   have dN:T.drop i=T.getD i default::T.drop (i+1):=by rw[List.drop_eq_getElem_cons hiT,cw hiT]
   have hme:E.getD i default∈E:=by rw[cw hi];exact List.getElem_mem _
   have hel:=hS.el i hi;have hke:=hk _ hme;have hprev:cU E (i+1)=some (E.getD i default):=by unfold cU;rw[if_neg (by omega),Nat.add_sub_cancel]
   have hw:ab ((i:Int)+1)=((i+1:Nat):Int):=by rw[cf (by omega) (by omega)];omega
   rw[if_pos (by simpa using hiT),cq (by omega) (by omega),bm,hdE,dN,AU];have new:∀(v8 g:Bool),gC (cU E i) (E.getD i default)=false→g=ib (cU E i) (E.getD i default)→nG K n w T (i:Int) acc v8 (j7 K n w T m) g=jU K n w n 0 ((gM (some (E.getD i default)) (E.drop (i+1)) (T.drop (i+1)) (bif gC (cU E i) (E.getD i default) then ge acc (T.getD i default) else acc++[mT (cU E i) (E.getD i default) (T.getD i default)])).map db):=fun v8 g hg1 hg2=>by
    unfold nG pH;rw[Int.toNat_natCast,cH (by simp) (by omega),bm,cH (by omega) (by omega),bm,hw,hg1,hg2];have:=ih (i+1) (acc++[mT (cU E i) (E.getD i default) (T.getD i default)]) (by omega) (by omega) (fun _=>by simp) (by simp;omega) (QF h5 _ _ _);rw[hprev]at this;exact this
   by_cases h0:i=0
   ·subst h0;have hp:cU E 0=none:=rfl;rw[if_neg (by simp)];unfold qd fZ;rw[if_neg (by simp),if_neg (by simp),if_neg (by simp)];exact new false false (by rw[hp];rfl) (by rw[hp];rfl)
   ·have hi1:i-1<E.length:=by omega
    have e1:ab ((i:Int)-1)=((i-1:Nat):Int):=by rw[cf (by omega) (by omega)];omega
    have hmq:E.getD (i-1) default∈E:=by rw[cw hi1];exact List.getElem_mem _
    have hq:=hS.el (i-1) hi1;have hkq:=hk _ hmq;have hp:cU E i=some (E.getD (i-1) default):=by unfold cU;rw[if_neg h0]
    have hpos:decide ((i:Int)>0)=true:=by simp;omega
    have hpair:=hS.pair (i-1) i hi1 hi;rw[if_pos hpos,e1,cq (by omega) (by omega),bm,Int.toNat_natCast,Int.toNat_natCast,Qt hn hq hel hkq hke];simp only[Option.bind_some];have no:∀v8,v8=eu (E.getD (i-1) default) (E.getD i default)→gC (cU E i) (E.getD i default)=false→fZ K n w T (i:Int) acc v8 (j7 K n w T m) false=jU K n w n 0 ((gM (some (E.getD i default)) (E.drop (i+1)) (T.drop (i+1)) (bif gC (cU E i) (E.getD i default) then ge acc (T.getD i default) else acc++[mT (cU E i) (E.getD i default) (T.getD i default)])).map db):=fun v8 hv hg=>by
     unfold fZ;rw[if_neg (by simp),if_pos hpos,e1,cq (by omega) (by omega),bm,Int.toNat_natCast,hq.forced];have hgl:ib (cU E i) (E.getD i default)=((E.getD (i-1) default).Kind != 2&&!v8):=by rw[hp,hv];rfl
     cases hf:((E.getD (i-1) default).Kind == 2) with
     | true=>rw[if_neg (by simp)];exact new v8 false hg (by rw[hgl,show((E.getD (i-1) default).Kind != 2)=!((E.getD (i-1) default).Kind == 2) from rfl,hf];rfl)
     | false=>rw[if_pos (by simp)];exact new v8 (!v8) hg (by rw[hgl,show((E.getD (i-1) default).Kind != 2)=!((E.getD (i-1) default).Kind == 2) from rfl,hf];cases v8<;>rfl)
    unfold qd;rw[if_pos hpos,e1,cq (i:=((i-1:Nat):Int)) (n:=T.length) (by omega) (by omega),Int.toNat_natCast,Int.toNat_natCast];simp only[bm];rw[hel.block,hel.forced,hq.block,hq.forced];have hgo:gC (cU E i) (E.getD i default)=((E.getD (i-1) default).Kind == 1&&((E.getD i default).Kind == 1&&((E.getD i default).Of == (E.getD (i-1) default).Of&&!eu (E.getD (i-1) default) (E.getD i default)))):=by rw[hp];rfl
    cases hb:eu (E.getD (i-1) default) (E.getD i default) with
    | true=>rw[if_neg (by simp)];exact no true hb.symm (by rw[hgo,hb];simp)
    | false =>
     rw[if_pos (by simp)];rcases hke.kind with k|k|k
     ·rw[show((E.getD i default).Kind == 3)=false by rw[k];rfl,if_pos (by simp),show((E.getD i default).Kind == 2)=false by rw[k];rfl,if_pos (by simp)];rcases hkq.kind with q|q|q
      ·rw[show((E.getD (i-1) default).Kind == 3)=false by rw[q];rfl,if_pos (by simp),show((E.getD (i-1) default).Kind == 2)=false by rw[q];rfl,if_pos (by simp)];by_cases hof:(E.getD (i-1) default).Of=(E.getD i default).Of
       ·have hnum:=hpair.1 hof;rw[show((T.getD (i-1) default).Number == (T.getD i default).Number)=true by simpa using hnum];have hg:gC (cU E i) (E.getD i default)=true:=by rw[hgo,hb,k,q,hof];simp
        have ha:=h3 (by omega);have hm:acc.getD (acc.length-1) default∈acc:=by rw[cw (by omega)];exact List.getElem_mem _
        obtain⟨l,l1,l2⟩:=h5 _ hm;have e2:ab ((acc.length:Int)-1)=((acc.length-1:Nat):Int):=by rw[cf (by omega) (by omega)];omega
        unfold fZ pH;rw[if_pos rfl,e2,cq (i:=((acc.length-1:Nat):Int)) (n:=acc.length) (by omega) (by omega)];simp only[bm,Int.toNat_natCast];rw[l1];simp only[Option.bind_some];rw[cH (by simp;omega) (by omega),bm,hw,hg];have:=ih (i+1) (ge acc (T.getD i default)) (by omega) (by omega) (fun _=>by unfold ge;simp only[List.length_set];exact ha) (by unfold ge;simp only[List.length_set];omega) (Oh h5 ha _);rw[hprev]at this;rw[show ge acc (T.getD i default)=acc.set (acc.length-1) ((acc.getD (acc.length-1) default).1,some (l++[T.getD i default])) by unfold ge;rw[l1];rfl]at this⊢;exact this
       ·have hnum:¬ (T.getD (i-1) default).Number=(T.getD i default).Number:=fun x=>hof (hpair.2 x);rw[show((T.getD (i-1) default).Number == (T.getD i default).Number)=false by simpa using hnum];exact no false hb.symm (by
         rw[hgo];have:((E.getD i default).Of == (E.getD (i-1) default).Of)=false:=by rw[beq_eq_false_iff_ne];exact fun x=>hof x.symm
         rw[this];simp)
      ·rw[show((E.getD (i-1) default).Kind == 3)=false by rw[q];rfl,if_pos (by simp),show((E.getD (i-1) default).Kind == 2)=true by rw[q];rfl,if_neg (by simp)];exact no false hb.symm (by rw[hgo,q];rfl)
      ·rw[show((E.getD (i-1) default).Kind == 3)=true by rw[q];rfl,if_neg (by simp)];exact no false hb.symm (by rw[hgo,q];rfl)
     ·rw[show((E.getD i default).Kind == 3)=false by rw[k];rfl,if_pos (by simp),show((E.getD i default).Kind == 2)=true by rw[k];rfl,if_neg (by simp)];exact no false hb.symm (by rw[hgo,k];simp)
     ·rw[show((E.getD i default).Kind == 3)=true by rw[k];rfl,if_neg (by simp)];exact no false hb.symm (by rw[hgo,k];simp)
  ·rw[if_neg (by simp;omega),List.drop_eq_nil_of_le (by omega)];have e:gM (cU E i) [] (T.drop i) acc=acc:=by unfold gM;rfl
   rw[e,Uv h5,bm]
end
end
end Go.Proofs.YtnpmlepplfaijaaGreat
namespace Go.Proofs.YtnpmlepplfaijaaGreat
set_option linter.all false
open Go.RowKit
noncomputable section
def dN(p:Option ax)(e:ax)(t:aI):ba:={ dC with Glued:=ib p e,Forced:=t.Forced }
def fv:Nat→Option ax→List ax→List aI→List RT
 | m+1,p,e::r,t::s =>
  bif e.Kind == 2 then (dN p e t,some [t])::fv m (some e) r s
  else bif e.Kind == 3 then (dN p e t,some [t])::fv m (some e) r s
  else (dN p e t,some (t::s.take (jl e.Of e r)))::fv m (some (dg (e::r.take (jl e.Of e r)))) (r.drop (jl e.Of e r)) (s.drop (jl e.Of e r))
 | _,_,_,_=>[]
theorem QJ(acc:List RT)(h:ba)(cur:List aI)(t:aI):ge (acc++[(h,some cur)]) t=acc++[(h,some (cur++[t]))]:=by
 unfold ge;have e1:(acc++[(h,some cur)]).length-1=acc.length:=by simp
 have e2:(acc++[(h,some cur)]).getD acc.length default=(h,some cur):=zi acc _ rfl;rw[e1,e2];simp
theorem MS(a b:ax)(x:List ax):dg (a::b::x)=dg (b::x):=by
 unfold dg;simp
theorem I7:∀(r:List ax) (s:List aI) (a:ax) (o:Int) (h:ba) (cur:List aI) (acc:List RT),a.Kind=1→a.Of=o→r.length=s.length →
  gM (some a) r s (acc++[(h,some cur)])=gM (some (dg (a::r.take (jl o a r)))) (r.drop (jl o a r)) (s.drop (jl o a r)) (acc++[(h,some (cur++s.take (jl o a r)))])∧∀b r',r.drop (jl o a r)=b::r'→gC (some (dg (a::r.take (jl o a r)))) b=false
 | [],s,a,o,h,cur,acc,_,_,hl=>by
  have:s=[]:=List.eq_nil_of_length_eq_zero hl.symm;subst this;refine⟨?_,fun b r' e=>by simp at e⟩;simp[jl,dg]
 | b::r,[],_,_,_,_,_,_,_,hl=>by simp at hl
 | b::r,t::s,a,o,h,cur,acc,ka,ho,hl=>by
  have hg:gC (some a) b=(b.Kind == 1&&(b.Of == o&&!eu a b)):=by
   show(a.Kind == 1&&(b.Kind == 1&&(b.Of == a.Of&&!eu a b)))=_;rw[ka,ho];rfl
  cases hc:(b.Kind == 1&&(b.Of == o&&!eu a b)) with
  | false =>
   have hj:jl o a (b::r)=0:=by unfold jl;rw[hc];rfl
   rw[hj];refine⟨by simp[dg],fun b' r' e=>?_⟩;simp only[List.drop_zero,List.cons.injEq]at e;rw[←e.1];have:dg (a::List.take 0 (b::r))=a:=by simp[dg]
   rw[this,hg,hc]
  | true =>
   have hj : jl o a (b :: r)=jl o b r + 1:=by
    conv=>lhs;unfold jl
    rw[hc];rfl
   have hc2:=hc;simp only[Bool.and_eq_true,beq_iff_eq]at hc2;obtain⟨q1,q2⟩:=I7 r s b o h (cur++[t]) acc hc2.1 hc2.2.1 (by simpa using hl);rw[hj,List.take_succ_cons,List.drop_succ_cons,List.take_succ_cons,List.drop_succ_cons,MS];refine⟨?_,q2⟩;rw[AU,hg,hc];simp only[cond_true];rw[QJ,q1,List.append_assoc];rfl
theorem Rj:∀(m:Nat) (p:Option ax) (E:List ax) (T:List aI) (acc:List RT),E.length=T.length→E.length<m→(∀e∈E,e.Kind=1∨e.Kind=2∨e.Kind=3)→(∀e r,E=e::r→gC p e=false)→gM p E T acc=acc++fv m p E T:=by
 intro m
 induction m with
 | zero=>intro p E T acc h1 h2;omega
 | succ m ih =>
  intro p E T acc h1 h2 hk hg;cases E with
  | nil =>
   unfold gM fv;simp
  | cons e r =>
   cases T with
   | nil=>simp at h1
   | cons t s =>
    simp only[List.length_cons]at h1 h2;have hk':∀x∈r,x.Kind=1∨x.Kind=2∨x.Kind=3:=fun x hx=>hk x (by simp[hx]);rw[AU,hg e r rfl];simp only[cond_false];have stop:e.Kind≠1→∀x r',r=x::r'→gC (some e) x=false:=fun q x r' _=>by
     show(e.Kind == 1&&_)=false;rw[show(e.Kind == 1)=false by simpa using q];rfl
    have hn:mT p e t=(dN p e t,some [t]):=rfl;unfold fv;rcases hk e (by simp)with k|k|k
    ·rw[show(e.Kind == 2)=false by rw[k];rfl,show(e.Kind == 3)=false by rw[k];rfl];simp only[cond_false];obtain⟨q1,q2⟩:=I7 r s e e.Of (dN p e t) [t] acc k rfl (by omega);rw[hn,q1,ih _ _ _ _ (by simp;omega) (by simp;omega) (fun x hx=>hk' x (List.mem_of_mem_drop hx)) q2,List.append_assoc];rfl
    ·rw[show(e.Kind == 2)=true by rw[k];rfl];simp only[cond_true];rw[hn,ih _ _ _ _ (by omega) (by omega) hk' (stop (by omega)),List.append_assoc];rfl
    ·rw[show(e.Kind == 2)=false by rw[k];rfl,show(e.Kind == 3)=true by rw[k];rfl];simp only[cond_true,cond_false];rw[hn,ih _ _ _ _ (by omega) (by omega) hk' (stop (by omega)),List.append_assoc];rfl
def gd:List ax→List aI→Prop
 | [],[]=>True
 | e::r,t::s=>fN e t∧gd r s
 | _,_=>False
theorem CG:∀(E:List ax) (T:List aI),E.length=T.length→(∀i,i<E.length→fN (E.getD i default) (T.getD i default))→gd E T
 | [],[],_,_=>trivial
 | [],t::s,h,_=>by simp at h
 | e::r,[],h,_=>by simp at h
 | e::r,t::s,h,H=>⟨H 0 (by simp),CG r s (by simpa using h) (fun i hi=>by have:=H (i+1) (by simp;omega);simpa using this)⟩
theorem Ed:∀(k:Nat) (E:List ax) (T:List aI),gd E T→gd (E.take k) (T.take k)
 | 0,_,_,_=>by simp[gd]
 | k+1,[],[],_=>by simp[gd]
 | k+1,[],t::s,h=>h.elim
 | k+1,e::r,[],h=>h.elim
 | k+1,e::r,t::s,h=>⟨h.1,Ed k r s h.2⟩
theorem zk:∀(k:Nat) (E:List ax) (T:List aI),gd E T→gd (E.drop k) (T.drop k)
 | 0,_,_,h=>by simpa using h
 | k+1,[],[],_=>by simp[gd]
 | k+1,[],t::s,h=>h.elim
 | k+1,e::r,[],h=>h.elim
 | k+1,e::r,t::s,h=>zk k r s h.2
theorem CL:∀(E:List ax) (T:List aI),gd E T→E.length=T.length
 | [],[],_=>rfl
 | [],t::s,h=>h.elim
 | e::r,[],h=>h.elim
 | e::r,t::s,h=>by simp[CL r s h.2]
end
end Go.Proofs.YtnpmlepplfaijaaGreat
namespace Go.Proofs.YtnpmlepplfaijaaGreat
set_option linter.all false
open Go.RowKit
def oB(l:List b9)(R:List aj→Prop)(b:aj):Prop:=∃s∈l,b.Style=s.Style ∧
  ((b.Kind=3∧b.Text=s.Text∧b.Kids=[])∨(b.Kind=4∧b.Text=⟨#[]⟩∧b.Kids=[]) ∨
   (b.Kind=5∧b.Text=⟨#[]⟩∧Int.tmod s.Kind 8=6∧∃k,b.Kids=[k]∧k.Kind=3∧k.Kids=[]∧k.Style=s.Style∧k.Text=s.Text)∨(b.Kind=2∧b.Text=⟨#[]⟩∧R b.Kids))
def Bx(l:List b9):Nat→List aj→Prop
 | 0,L=>L=[]
 | d+1,L=>L.length≤16∧∀b∈L,oB l (Bx l d) b
theorem yA{l:List b9}(ht:∀s∈l,s.Text.size≤60):∀(d:Nat) (L:List aj),Bx l d L→Dp (d+1) L
 | 0,L,h=>by
  unfold Bx at h;subst h;unfold Dp;exact⟨by simp,fun b hb=>by cases hb⟩
 | d+1,L,h=>by
  unfold Bx at h;unfold Dp;refine⟨by omega,fun b hb=>?_⟩;obtain⟨s,hs,_,h3|h4|h5|h2⟩:=h.2 b hb
  ·exact⟨by rw[h3.2.1];have:=ht s hs;omega,fun e=>by rw[h3.1]at e;cases e⟩
  ·exact⟨by rw[h4.2.1];decide,fun e=>by rw[h4.1]at e;cases e⟩
  ·exact⟨by rw[h5.2.1];decide,fun e=>by rw[h5.1]at e;cases e⟩
  ·exact⟨by rw[h2.2.1];decide,fun _=>yA ht d _ h2.2.2⟩
theorem S8:∀(d:Nat) (a b:List aj),bK d (a++b)=bK d a+bK d b
 | 0,a,b=>rfl
 | d+1,a,b=>by simp[bK]
theorem EO(d:Nat)(b:aj):bK (d+1) [b]=1+b.Text.size+bK d b.Kids:=by simp[bK]
theorem UB{l:List b9}(hl:l.length≤16)(ht:∀s∈l,s.Text.size≤60):∀(k N i0:Nat) (dep:Int),l.length-i0≤k→i0≤l.length→k+50≤N →
  ∃(bx:List aj) (nx:Nat),kn (KN N) N l (i0:Int) dep=some (bx,(nx:Int))∧i0≤nx∧nx≤l.length∧Bx l k bx∧bx.length≤nx-i0∧bK (k+1) bx≤62*(nx-i0):=by
 intro k
 induction k with
 | zero =>
  intro N i0 dep h1 h2 hN;obtain⟨N,rfl⟩:∃M,N=M+1:=⟨N-1,by omega⟩;refine⟨[],i0,?_,Nat.le_refl _,h2,rfl,by simp,by simp[bK]⟩;unfold kn;show lO (KN (N+1)) (N+1) l dep (jX (KN (N+1)) (N+1) l dep N) i0 []=_;unfold lO;rw[if_neg (by simp;omega)];unfold kH;rw[if_neg (by simp)]
 | succ k ih =>
  intro N i0 dep h1 h2 hN;obtain⟨N,rfl⟩:∃M,N=M+1:=⟨N-1,by omega⟩;unfold kn;have loop:∀(m i:Nat) (acc:List aj),i0≤i→i≤l.length→l.length<m+i→(∀b∈acc,oB l (Bx l k) b)→acc.length≤i-i0→bK (k+2) acc≤62*(i-i0) →
    ∃(bx:List aj) (nx:Nat),jX (KN (N+1)) (N+1) l dep m (i:Int) acc=some (bx,(nx:Int))∧i0≤nx∧nx≤l.length∧(∀b∈bx,oB l (Bx l k) b)∧bx.length≤nx-i0∧bK (k+2) bx≤62*(nx-i0):=by
   intro m
   induction m with
   | zero=>intro i acc h0 h1 h2;omega
   | succ m ihm =>
    intro i acc g0 g1 g2 g3 g4 g5;show ∃(bx:List aj) (nx:Nat),lO (KN (N+1)) (N+1) l dep (jX (KN (N+1)) (N+1) l dep m) i acc=some (bx,(nx:Int))∧_;unfold lO;have stop:∃(bx:List aj) (nx:Nat),kH (KN (N+1)) (N+1) l dep i acc (jX (KN (N+1)) (N+1) l dep m) false=some (bx,(nx:Int))∧i0≤nx∧nx≤l.length∧(∀b∈bx,oB l (Bx l k) b)∧bx.length≤nx-i0∧bK (k+2) bx≤62*(nx-i0):=by
     unfold kH;rw[if_neg (by simp)];exact⟨acc,i,rfl,g0,g1,g3,g4,g5⟩
    by_cases hi:i<l.length
    ·rw[if_pos (by simpa using hi),cq (by omega) (by omega),bm];cases hd:decide ((List.getD l ((i:Int)).toNat default).Depth≥dep) with
     | false=>exact stop
     | true =>
      have hs:l.getD i default∈l:=by rw[cw hi];exact List.getElem_mem _
      have hw:ab ((i:Int)+1)=((i+1:Nat):Int):=by rw[cf (by omega) (by omega)];omega
      unfold kH;rw[if_pos rfl,cq (by omega) (by omega)];simp only[bm,Option.bind_some,Int.toNat_natCast];have go:∀(kd:Int) (tx:ByteArray) (kids:List aj) (j:Nat),i+1≤j→j≤l.length→oB l (Bx l k) ⟨kd,ab (10+(i:Int)),(l.getD i default).Style,tx,0,0,kids⟩→1+tx.size+bK (k+1) kids≤62*(j-i) →
        ∃(bx:List aj) (nx:Nat),lI (KN (N+1)) (N+1) l dep i acc (jX (KN (N+1)) (N+1) l dep m) (j:Int) kd tx kids=some (bx,(nx:Int))∧i0≤nx∧nx≤l.length∧(∀b∈bx,oB l (Bx l k) b)∧bx.length≤nx-i0∧bK (k+2) bx≤62*(nx-i0):=by
       intro kd tx kids j q1 q2 q3 q4;unfold lI;simp only[Int.toNat_natCast];rw[cH (by simp;omega) (by omega),bm];refine ihm j _ (by omega) q2 (by omega) (fun b hb=>?_) (by simp;omega) ?_
       ·rcases List.mem_append.1 hb with hb|hb
        ·exact g3 b hb
        ·rw[List.mem_singleton.1 hb];exact q3
       ·rw[S8,EO];simp only[];omega
      by_cases h5:Int.tmod (l.getD i default).Kind 8=5
      ·rw[if_pos (by simpa using h5),hw];exact go 4 ⟨#[]⟩ [] (i+1) (by omega) (by omega) ⟨_,hs,rfl,.inr (.inl ⟨rfl,rfl,rfl⟩)⟩ (by
        have:(⟨#[]⟩:ByteArray).size=0:=rfl;rw[this];simp[bK])
      ·rw[if_neg (by simpa using h5)];by_cases h6:Int.tmod (l.getD i default).Kind 8=6
       ·rw[if_pos (by simpa using h6),cH (by simp) (by omega),bm,hw];refine go 5 ⟨#[]⟩ [{ fJ with Kind:=3,Style:=(l.getD i default).Style,Text:=(l.getD i default).Text }] (i+1) (by omega) (by omega) ⟨_,hs,rfl,.inr (.inr (.inl ⟨rfl,rfl,h6,_,rfl,rfl,rfl,rfl,rfl⟩))⟩ ?_;have h0:(⟨#[]⟩:ByteArray).size=0:=rfl;have hz:bK k (fJ).Kids=0:=by
         cases k<;>simp[bK,fJ]
        have:=ht _ hs;rw[h0,EO];simp only[];rw[hz];omega
       ·rw[if_neg (by simpa using h6)];by_cases h7:Int.tmod (l.getD i default).Kind 8=7
        ·rw[if_pos (by simpa using h7),hw];obtain⟨bx,nx,e1,e2,e3,e4,e5,e6⟩:=ih N (i+1) (IntKind.wrap .u8 ((l.getD i default).Depth+1)) (by omega) (by omega) (by omega);show ∃(bx:List aj) (nx:Nat),((kn (KN N) N l ((i+1:Nat):Int) (IntKind.wrap .u8 ((l.getD i default).Depth+1))).bind _)=some (bx,(nx:Int))∧_;rw[e1];simp only[Option.bind_some];refine go 2 ⟨#[]⟩ bx nx (by omega) e3 ⟨_,hs,rfl,.inr (.inr (.inr ⟨rfl,rfl,e4⟩))⟩ ?_;have h0:(⟨#[]⟩:ByteArray).size=0:=rfl;rw[h0];omega
        ·rw[if_neg (by simpa using h7),hw];refine go 3 (l.getD i default).Text [] (i+1) (by omega) (by omega) ⟨_,hs,rfl,.inl ⟨rfl,rfl,rfl⟩⟩ ?_;have:=ht _ hs;have hz:bK (k+1) []=0:=by simp[bK]
         rw[hz];omega
    ·rw[if_neg (by simpa using hi)];exact stop
  obtain⟨bx,nx,e1,e2,e3,e4,e5,e6⟩:=loop (N+1) i0 [] (Nat.le_refl _) h2 (by omega) (fun b hb=>by cases hb) (by simp) (by simp[bK]);exact⟨bx,nx,e1,e2,e3,⟨by omega,e4⟩,e5,e6⟩
theorem L7{l:List b9}(hl:l.length≤16)(ht:∀s∈l,s.Text.size≤60){N:Nat}(hN:70≤N):∃bx,oV (KN N) N l=some bx∧Bx l 16 bx∧Dp 17 bx∧bK 17 bx≤992:=by
 obtain⟨bx,nx,e1,e2,e3,e4,e5,e6⟩:=UB hl ht 16 N 0 0 (by omega) (by omega) (by omega);have e6':bK 17 bx≤62*(nx-0):=e6;refine⟨bx,?_,e4,yA ht 16 bx e4,by omega⟩;unfold oV;rw[show kn (KN N) N l 0 0=_ from e1];rfl
theorem IK{l:List b9}:∀(d:Nat) (L:List aj) (s:Int×List ax) (Q:aj→Prop),Bx l d L→(∀b R,oB l R b→Q b)→(∀x∈s.2,Q x.Box)→∀x∈(vM (d+1) L s).2,Q x.Box:=by
 intro d
 induction d with
 | zero=>intro L s Q h hQ hs;unfold Bx at h;subst h;exact hs
 | succ d ih =>
  intro L s Q h hQ;unfold Bx at h;obtain⟨hz,h⟩:=h;clear hz
  induction L generalizing s with
  | nil=>intro hs;exact hs
  | cons b r ihL =>
   intro hs;rw[fQ,List.foldl_cons,← fQ];refine ihL _ (fun b hb=>h b (by simp[hb])) ?_;have hb:=h b (by simp);have ap:∀(y:ax),y.Box=b→∀x∈s.2++[y],Q x.Box:=fun y hy x hx=>by
    rcases List.mem_append.1 hx with hx|hx
    ·exact hs x hx
    ·rw[List.mem_singleton.1 hx,hy];exact hQ b _ hb
   unfold cI;cases fI b with
   | false=>exact hs
   | true =>
    simp only[cond_true];cases h2:(b.Kind == 2) with
    | true =>
     simp only[cond_true];obtain⟨_,_,_,h3|h4|h5|h2'⟩:=hb
     ·rw[h3.1]at h2;simp at h2
     ·rw[h4.1]at h2;simp at h2
     ·rw[h5.1]at h2;simp at h2
     ·exact ih b.Kids _ Q h2'.2.2 hQ hs
    | false =>
     simp only[cond_false];cases (b.Kind == 4) with
     | true=>exact ap _ rfl
     | false =>
      simp only[cond_false];cases (b.Kind == 5) with
      | true=>exact ap _ rfl
      | false =>
       simp only[cond_false];cases (b.Kind == 3) with
       | true=>exact xb (P:=fun x=>Q x.Box) b _ (fun _ _ _=>hQ b _ hb) (hQ b _ hb) (fun _=>hQ b _ hb) (fun _=>hQ b _ hb) _ _ y5 hs
       | false=>exact hs
theorem RZ:∀(d:Nat) (L:List aj) (s:Int×List ax),(∀x∈s.2,x.Kind=3→x.Box.Kind=5)→∀x∈(vM d L s).2,x.Kind=3→x.Box.Kind=5:=by
 intro d
 induction d with
 | zero=>intro L s hs;exact hs
 | succ d ih =>
  intro L
  induction L with
  | nil=>intro s hs;exact hs
  | cons b r ihL =>
   intro s hs;rw[fQ,List.foldl_cons,← fQ];refine ihL _ ?_;have ap:∀(y:ax),(y.Kind=3→y.Box.Kind=5)→∀x∈s.2++[y],x.Kind=3→x.Box.Kind=5:=fun y hy x hx=>by
    rcases List.mem_append.1 hx with hx|hx
    ·exact hs x hx
    ·rw[List.mem_singleton.1 hx];exact hy
   unfold cI;cases fI b with
   | false=>exact hs
   | true =>
    simp only[cond_true];cases (b.Kind == 2) with
    | true=>exact ih b.Kids _ hs
    | false =>
     simp only[cond_false];cases (b.Kind == 4) with
     | true=>exact ap _ (fun e=>by cases e)
     | false =>
      simp only[cond_false];cases h5:(b.Kind == 5) with
      | true=>exact ap _ (fun _=>by simpa using h5)
      | false =>
       simp only[cond_false];cases (b.Kind == 3) with
       | true=>exact xb (P:=fun x=>x.Kind=3→x.Box.Kind=5) b _ (fun _ _ _ e=>by cases e) (fun e=>by cases e) (fun _ e=>by cases e) (fun _ e=>by cases e) _ _ y5 hs
       | false=>exact hs
end Go.Proofs.YtnpmlepplfaijaaGreat
namespace Go.Proofs.YtnpmlepplfaijaaGreat
set_option linter.all false
open Go.RowKit
def c6(l:cj)(b:Int):Int×Bool :=
 if l.Kind=1 then (min (max l.Value (-1048576)) 1048576,true)
 else if l.Kind=2 then (min (max (ab (Int.tdiv (ab ((min (max b 0) 1048576)*(min (max l.Value (-1000000)) 1000000))) 10000)) (-1048576)) 1048576,true)
 else (0,false)
def gK(x:Int):Int:=min (max x 0) 1048576
section
variable(K:Kn)(n:Nat)
theorem Br(x:Int):eQ K n x=some (gK x):=rfl
theorem CF(x:Int):dS K n x=some (gK x):=rfl
theorem iV(l:cj)(b:Int):dD K n l b=some (c6 l b):=by
 unfold dD c6;by_cases h1:l.Kind=1
 ·simp[h1,pI]
 ·by_cases h2:l.Kind=2
  ·simp[h2,pI,eQ]
  ·simp[h1,h2]
theorem uC(l:cj)(b:Int):dq K n l b=some (c6 l b):=by
 unfold dq c6;by_cases h1:l.Kind=1
 ·simp[h1,g8]
 ·by_cases h2:l.Kind=2
  ·simp[h2,g8,dS]
  ·simp[h1,h2]
def nM(s:aJ)(w c:Int):Int :=
 let m:=if (c6 s.MaxWidth w).2=true then min (max c 0) (max (c6 s.MaxWidth w).1 0) else max c 0
 if (c6 s.MinWidth w).2=true then max m (c6 s.MinWidth w).1 else m
theorem z6(s:aJ)(w c:Int):mc K n s w c=some (nM s w c):=by
 unfold mc nM;simp only[iV,Option.bind_some,ri,sG]
 repeat (first|rfl|split)
theorem Iw(s:aJ)(w c:Int):gR K n s w c=some (nM s w c):=by
 unfold gR nM;simp only[uC,Option.bind_some,lg,kP]
 repeat (first|rfl|split)
def gE(s:aJ)(w c:Int):aP :=
 ⟨⟨(c6 s.Margin.a0 w).1,(c6 s.Margin.a1 w).1,(c6 s.Margin.a2 w).1,(c6 s.Margin.a3 w).1⟩,⟨gK s.Border.a0,gK s.Border.a1,gK s.Border.a2,gK s.Border.a3⟩,
  ⟨max (c6 s.Padding.a0 w).1 0,max (c6 s.Padding.a1 w).1 0,max (c6 s.Padding.a2 w).1 0,max (c6 s.Padding.a3 w).1 0⟩,c⟩
theorem vR(s:aJ)(w c:Int):jS K n s w c=some (gE s w c):=by
 simp only[jS,iV,Br,Option.bind_some,gE]
theorem HW(s:aJ)(w c:Int):iw K n s w c=some (gE s w c):=by
 simp only[iw,uC,CF,Option.bind_some,gE]
def B2(z:aP):Int:=ab ((ab ((ab ((ab ((ab ((ab (z.Content+z.Margin.a1))+z.Margin.a3))+z.Border.a1))+z.Border.a3))+z.Padding.a1))+z.Padding.a3)
theorem xn(z:aP):j9 K n z=some (B2 z):=rfl
theorem DC(z:aP):g9 K n z=some (B2 z):=rfl
def fa(l:cj):Prop := -16777216≤l.Value∧l.Value≤16777216
theorem fh(l:cj):∃b,dW K n l=some b∧(b=true→fa l):=by
 unfold dW rg;by_cases h:l.Value ≥ -16777216
 ·simp only[h,decide_true,if_true];exact⟨_,rfl,fun e=>⟨h,of_decide_eq_true e⟩⟩
 ·simp only[h,decide_false,Bool.false_eq_true,if_false];exact⟨_,rfl,fun e=>by cases e⟩
structure Av(x:b9):Prop where
 text:(x.Text.size:Int)≤60
 left:fa x.Style.Left
 top:fa x.Style.Top
 width:fa x.Style.Width
 height:fa x.Style.Height
 minw:fa x.Style.MinWidth
 maxw:fa x.Style.MaxWidth
 basis:fa x.Style.Basis
 lh:0≤x.Style.LineHeight∧x.Style.LineHeight≤65536
 fs:0≤x.Style.FontSize∧x.Style.FontSize≤65536
 grow:0≤x.Style.Grow∧x.Style.Grow≤1048576
 shrink:0≤x.Style.Shrink∧x.Style.Shrink≤1048576
 m0:fa x.Style.Margin.a0
 m1:fa x.Style.Margin.a1
 m2:fa x.Style.Margin.a2
 m3:fa x.Style.Margin.a3
 p0:fa x.Style.Padding.a0
 p1:fa x.Style.Padding.a1
 p2:fa x.Style.Padding.a2
 p3:fa x.Style.Padding.a3
theorem KW(L:List b9)(m:Int)(L1:Int→Option Bool)(i:Int)(h0:0≤i)(hi:i<L.length):j8 K n L m L1 i=some false∨(Av (L.getD i.toNat default)∧j8 K n L m L1 i=L1 (ab (i+1))):=by
 unfold j8;simp only[hi,decide_true,if_true,cq h0 hi,bm];generalize hx:L.getD i.toNat default=x;have j5:∀b,pO K n L m i L1 b=if b=true then some false else L1 (ab (i+1)):=fun b=>rfl;obtain⟨b1,e1,f1⟩:=fh K n x.Style.Left;obtain⟨b2,e2,f2⟩:=fh K n x.Style.Top;obtain⟨b3,e3,f3⟩:=fh K n x.Style.Width;obtain⟨b4,e4,f4⟩:=fh K n x.Style.Height;obtain⟨b5,e5,f5⟩:=fh K n x.Style.MinWidth;obtain⟨b6,e6,f6⟩:=fh K n x.Style.MaxWidth;obtain⟨b7,e7,f7⟩:=fh K n x.Style.Basis;obtain⟨c0,g0,k0⟩:=fh K n x.Style.Margin.a0;obtain⟨c1,g1,k1⟩:=fh K n x.Style.Margin.a1;obtain⟨c2,g2,k2⟩:=fh K n x.Style.Margin.a2;obtain⟨c3,g3,k3⟩:=fh K n x.Style.Margin.a3;obtain⟨d0,q0,r0⟩:=fh K n x.Style.Padding.a0;obtain⟨d1,q1,r1⟩:=fh K n x.Style.Padding.a1;obtain⟨d2,q2,r2⟩:=fh K n x.Style.Padding.a2;obtain⟨d3,q3,r3⟩:=fh K n x.Style.Padding.a3;have jt:dw K n L m i L1 true=some false:=rfl;have j1:dw K n L m i L1 false=some false∨((c0=true∧c1=true∧c2=true∧c3=true∧d0=true∧d1=true∧d2=true∧d3=true)∧dw K n L m i L1 false=L1 (ab (i+1))):=by
  simp only[dw,sD,rk,rH,pO,hx,g0,g1,g2,g3,q0,q1,q2,q3,Option.bind_some];cases c0<;>cases d0<;>cases c1<;>cases d1<;>cases c2<;>cases d2<;>cases c3<;>cases d3<;>simp
 simp only[e1,e2,e3,e4,e5,e6,e7,Option.bind_some,jt];by_cases t0:(x.Text.size:Int)>60
 ·left;simp[t0]
 simp only[t0,decide_false,Bool.false_eq_true,if_false];cases b1
 ·left;simp
 simp only[Bool.not_true,Bool.false_eq_true,if_false];cases b2
 ·left;simp
 simp only[Bool.not_true,Bool.false_eq_true,if_false];cases b3
 ·left;simp
 simp only[Bool.not_true,Bool.false_eq_true,if_false];cases b4
 ·left;simp
 simp only[Bool.not_true,Bool.false_eq_true,if_false];cases b5
 ·left;simp
 simp only[Bool.not_true,Bool.false_eq_true,if_false];cases b6
 ·left;simp
 simp only[Bool.not_true,Bool.false_eq_true,if_false];cases b7
 ·left;simp
 simp only[Bool.not_true,Bool.false_eq_true,if_false];by_cases u1:x.Style.LineHeight<0
 ·left;simp[u1]
 simp only[u1,decide_false,Bool.false_eq_true,if_false];by_cases u2:x.Style.LineHeight>65536
 ·left;simp[u2]
 simp only[u2,decide_false,Bool.false_eq_true,if_false];by_cases u3:x.Style.FontSize<0
 ·left;simp[u3]
 simp only[u3,decide_false,Bool.false_eq_true,if_false];by_cases u4:x.Style.FontSize>65536
 ·left;simp[u4]
 simp only[u4,decide_false,Bool.false_eq_true,if_false];by_cases u5:x.Style.Grow<0
 ·left;simp[u5]
 simp only[u5,decide_false,Bool.false_eq_true,if_false];by_cases u6:x.Style.Grow>1048576
 ·left;simp[u6]
 simp only[u6,decide_false,Bool.false_eq_true,if_false];by_cases u7:x.Style.Shrink<0
 ·left;simp[u7]
 simp only[u7,decide_false,Bool.false_eq_true,if_false];by_cases u8:x.Style.Shrink>1048576
 ·left;simp only[u8,decide_true];exact jt
 simp only[u8,decide_false];rcases j1 with h|⟨⟨a0,a1,a2,a3,p0,p1,p2,p3⟩,h⟩
 ·exact .inl h
 ·refine .inr ⟨⟨by omega,f1 rfl,f2 rfl,f3 rfl,f4 rfl,f5 rfl,f6 rfl,f7 rfl,⟨by omega,by omega⟩,⟨by omega,by omega⟩,⟨by omega,by omega⟩,⟨by omega,by omega⟩,k0 a0,k1 a1,k2 a2,k3 a3,r0 p0,r1 p1,r2 p2,r3 p3⟩,h⟩
theorem Lx(L:List b9)(mx:Int)(hL:(L.length:Int)≤9223372036854775807):∀(m:Nat) (i:Int),0≤i→i≤L.length→(L.length:Int)<m+i →
  ∃b,oD K n L mx m i=some b∧(b=true→(L.length:Int)≤mx∧∀k,i.toNat≤k→k<L.length→Av (L.getD k default)):=by
 intro m
 induction m with
 | zero=>intro i h0 h1 h2;omega
 | succ m ih =>
  intro i h0 h1 h2;show ∃b,j8 K n L mx (oD K n L mx m) i=some b∧_;by_cases hi:i<(L.length:Int)
  ·rcases KW K n L mx (oD K n L mx m) i h0 hi with h|⟨h,h'⟩
   ·exact⟨false,h,fun e=>by cases e⟩
   ·obtain⟨b,hb,hk⟩:=ih (i+1) (by omega) (by omega) (by omega);rw[h',cf (by omega) (by omega)];refine⟨b,hb,fun e=>⟨(hk e).1,fun k h3 h4=>?_⟩⟩;by_cases e2:k=i.toNat
    ·subst e2;exact h
    ·exact(hk e).2 k (by omega) h4
  ·have hd:decide (i<(L.length:Int))=false:=by simpa using hi
   unfold j8;simp only[hd,Bool.false_eq_true,if_false];exact⟨_,rfl,fun e=>⟨of_decide_eq_true e,fun k h3 h4=>by omega⟩⟩
theorem Tj(L:List b9)(mx:Int)(hL:(L.length:Int)≤9223372036854775807)(hn:L.length<n):∃b,vo K n L mx=some b∧(b=true→(L.length:Int)≤mx∧∀x∈L,Av x):=by
 obtain⟨b,h1,h2⟩:=Lx K n L mx hL n 0 (by omega) (by omega) (by omega);refine⟨b,h1,fun e=>⟨(h2 e).1,fun x hx=>?_⟩⟩;obtain⟨k,hk,rfl⟩:=List.mem_iff_getElem.1 hx;have:=(h2 e).2 k (by simp) hk;rwa[cw hk]at this
end
end Go.Proofs.YtnpmlepplfaijaaGreat
namespace Go.Proofs.YtnpmlepplfaijaaGreat
set_option linter.all false
open Go.RowKit
theorem AP{α β:Type}{x:Option α}{f:α→Option β}(h:fq x)(hf:∀a,fq (f a)):fq (x.bind f):=by
 obtain⟨a,rfl⟩:=h;exact hf a
theorem MU(K:Kn)(n:Nat)(s:aJ):fq (mr K n s):=by
 unfold mr oi ni n8 nl nD oc oF ow nk oa qe
 repeat first|exact lS _|apply ru
structure eN(b:aj)(k:aj):Prop where
 kids:b.Kids=[k]
 kind:k.Kind=3
 text:k.Text.size≤60
section
variable{N:Nat}{b k:aj}
theorem HJ(h:eN b k):i7 (KN (N+9)) (N+9) b=some ([k],false):=by
 have hf:fI k=true:=by unfold fI fz;rw[if_pos (by simp[h.kind])];rfl
 unfold i7;show ke (KN (N+9)) (N+9) b (lw (KN (N+9)) (N+9) b (N+8)) 0 []=_;unfold ke;rw[if_pos (by simp[h.kids]),cq (by omega) (by rw[h.kids];simp),bm,A3];simp only[Option.bind_some,h.kids];have e0:([k].getD (Int.toNat 0) default)=k:=rfl;rw[e0,hf,if_pos rfl,cH (by simp) (by omega),bm];unfold oP;rw[cf (by omega) (by omega)];show ke (KN (N+9)) (N+9) b (lw (KN (N+9)) (N+9) b (N+7)) (0+1) ([]++[k])=_;unfold ke;rw[if_neg (by simp[h.kids])];have hc:lj (KN (N+9)) (N+9) ([]++[k]) (Fv.fn 102)=some false:=by
  unfold lj sN;show(Option.bind (kj (KN (N+9)) (N+9) [k] (Fv.fn 102) (kE (KN (N+9)) (N+9) [k] (Fv.fn 102) (N+8)) 0) _)=_;unfold kj;rw[if_pos (by simp),cq (by omega) (by simp),bm];have ho:(KN (N+9)).jn (Fv.fn 102) ([k].getD (Int.toNat 0) default)=some false:=by
   show mB (KN (N+8)) (N+8) k=some false;unfold mB nt;rw[if_neg (by simp[h.kind]),if_neg (by simp[h.kind])];simp[h.kind]
  rw[ho];simp only[Option.bind_some,Bool.false_eq_true,if_false];rw[cf (by omega) (by omega)];show(Option.bind (kj (KN (N+9)) (N+9) [k] (Fv.fn 102) (kE (KN (N+9)) (N+9) [k] (Fv.fn 102) (N+7)) (0+1)) _)=_;unfold kj;rw[if_neg (by simp)];rfl
 rw[hc];rfl
theorem RA(h:eN b k)(s:aJ):fq (iA (KN (N+9)) (N+9) [k] s):=by
 unfold iA;show fq (gl (KN (N+9)) (N+9) [k] (iL (KN (N+9)) (N+9) [k] (N+8)) 0 0 0);unfold gl;rw[if_pos (by simp),cq (by omega) (by simp),bm,cf (n:=0+1) (by omega) (by omega)];generalize max (0:Int) _=x;generalize ab (0+_)=y;show fq (gl (KN (N+9)) (N+9) [k] (iL (KN (N+9)) (N+9) [k] (N+7)) x y (0+1));unfold gl;rw[if_neg (by simp)];exact lS _
theorem KB(h:eN b k)(s:aJ)(w:Int):∃l y,ja (KN (N+9)) (N+9) [k] s w=some (l,y)∧l.length≤1:=by
 unfold ja;show ∃l y,gB (KN (N+9)) (N+9) [k] s w (gV (KN (N+9)) (N+9) [k] s w (N+8)) 0 0 []=some (l,y)∧_;unfold gB;rw[if_pos (by simp),cq (by omega) (by simp)];simp only[bm,Option.bind_some];have fin:∀(y:Int) (l:List ae),l.length≤1→∃l' y',jg (KN (N+9)) (N+9) [k] s w 0 (gV (KN (N+9)) (N+9) [k] s w (N+8)) y l=some (l',y')∧l'.length≤1:=fun y l hl=>by
  unfold jg;rw[cf (by omega) (by omega)];show ∃l' y',gB (KN (N+9)) (N+9) [k] s w (gV (KN (N+9)) (N+9) [k] s w (N+7)) y (0+1) l=some (l',y')∧_;unfold gB;rw[if_neg (by simp)];exact⟨l,y,rfl,hl⟩
 split
 ·rw[cH (by simp) (by omega),bm];exact fin _ _ (by simp)
 ·exact fin _ _ (by simp)
def Tk(x:Option ae):Prop:=∃f,x=some f∧f.Kind=1
theorem gt{c:Prop}[Decidable c]{x y:Option ae}(h1:Tk x)(h2:Tk y):Tk (if c then x else y):=by split;exact h1;exact h2
theorem UL(K:Kn)(n:Nat)(b:aj)(z:aP)(F:List aj)(v19:List ae)(v25:Int)(v33 v34:au)(v35:Bool)(v39 v40:Int)(hl:v19.length≤1000):∀(m i:Nat) (v48:List ae),i≤v19.length→v19.length<m+i→v48.length=v19.length→Tk (kO K n b z (F,false) v19 v25 v33 v34 v35 v39 v40 m i v48):=by
 intro m
 induction m with
 | zero=>intro i v48 h1 h2;omega
 | succ m ih =>
  intro i v48 h1 h2 h3;show Tk (nP K n b z (F,false) v19 v25 v33 v34 v35 v39 v40 (kO K n b z (F,false) v19 v25 v33 v34 v35 v39 v40 m) i v48);unfold nP;by_cases hi:i<v19.length
  ·rw[if_pos (by simpa using hi),cq (by omega) (by omega)];simp only[bm,Option.bind_some,List.length_set];rw[cq (by omega) (by omega)];simp only[bm,Option.bind_some,Bool.false_eq_true,if_false];unfold pg qS;rw[if_neg (by simp),cf (by omega) (by omega)];exact ih (i+1) _ (by omega) (by omega) (by simp[h3])
  ·rw[if_neg (by simpa using hi)];exact⟨_,rfl,rfl⟩
theorem Te(K:Kn)(n:Nat)(b:aj)(z:aP)(F:List aj)(v19:List ae)(v25 v32:Int)(v33 v34:au)(v35:Bool)(hl:v19.length≤1000)(hn:1001≤n):Tk (gH K n b z (F,false) v19 v25 v32 v33 v34 v35):=by
 have h8:∀x,Tk (mW K n b z (F,false) v19 v25 v33 v34 v35 x):=fun x=>UL K n b z F v19 v25 v33 v34 v35 _ _ hl n 0 v19 (by omega) (by omega) rfl;unfold gH;rw[iV];simp only[Option.bind_some];unfold pE;exact gt (gt (h8 _) (h8 _)) (gt (h8 _) (h8 _))
theorem WH(h:eN b k)(hN:1100≤N)(z:aP)(env:cA)(he:env.Lines=(Fv.fn 33)):Tk (li (KN (N+10)) (N+10) b z false false env):=by
 unfold li;rw[show i7 (KN (N+10)) (N+10) b=_ from HJ (N:=N+1) h];simp only[Option.bind_some,Bool.false_eq_true,if_false];rw[he];obtain⟨l,y,e,hl⟩:=KB (N:=N) h b.Style z.Content;rw[show(KN (N+10)).pL ((Fv.fn 33)) [k] b.Style z.Content=some (l,y) from e];simp only[Option.bind_some];have hcl:∃l',ld (KN (N+10)) (N+10) l=some l'∧l'.length≤1000:=by
  unfold ld both;rw[cH (by simp;omega) (by omega)];cases l with
  | nil=>exact⟨[],by simp[bm],by simp⟩
  | cons x r=>exact⟨x::r,by simp[bm],by omega⟩
 obtain⟨l',e2,hl2⟩:=hcl;rw[e2];simp only[Option.bind_some];have j6:∀a b' c d e',Tk (gH (KN (N+10)) (N+10) b z ([k],false) l' a b' c d e'):=fun a b' c d e'=>Te _ _ b z [k] l' a b' c d e' hl2 (by omega);have j5:∀v15 v16 v17 v18 v21 v25 v26 v27,Tk (kU (KN (N+10)) (N+10) b z false ([k],false) v15 v16 v17 v18 l' v21 v25 v26 v27):=fun v15 v16 v17 v18 v21 v25 v26 v27=>by
  unfold kU;refine gt (j6 _ _ _ _ _) (gt (gt (j6 _ _ _ _ _) (j6 _ _ _ _ _)) (gt (j6 _ _ _ _ _) (j6 _ _ _ _ _)))
 have j4:∀v15 v16 v17 v18 v21 v25 v26,Tk (lB (KN (N+10)) (N+10) b z false false ([k],false) v15 v16 v17 v18 l' v21 v25 v26):=fun v15 v16 v17 v18 v21 v25 v26=>by
  unfold lB;exact gt (gt (j5 _ _ _ _ _ _ _ _) (j5 _ _ _ _ _ _ _ _)) (j5 _ _ _ _ _ _ _ _)
 have j3:∀v15 v16 v17 v18 v20 v21 v23,Tk (nV (KN (N+10)) (N+10) b z false false ([k],false) v15 v16 v17 v18 l' v20 v21 v23):=fun v15 v16 v17 v18 v20 v21 v23=>by
  unfold nV;exact gt (j4 _ _ _ _ _ _ _) (j4 _ _ _ _ _ _ _)
 unfold kh;simp only[qK,Option.bind_some];exact gt (by obtain⟨v,hv⟩:∃v,gx (KN (N+10)) (N+10) ⟨max z.Margin.a0 0,min z.Margin.a0 0⟩ cp=some v:=⟨_,rfl⟩;rw[hv];exact j4 _ _ _ _ _ _ _) (gt (j3 _ _ _ _ _ _ _) (j3 _ _ _ _ _ _ _))
theorem PK(K:Kn)(n:Nat)(f:ae)(w:Int):∃g,mC K n f w=some g∧g.Kind=f.Kind:=by
 unfold mC pC;simp only[iV,Option.bind_some]
 repeat' split
 all_goals exact⟨_,rfl,rfl⟩
theorem NE(h:eN b k)(hN:1100≤N)(w:Int):∃r,km (KN (N+10)) (N+10) b w ⟨(Fv.fn 31),(Fv.fn 32),(Fv.fn 33),(Fv.fn 34)⟩=some r∧r.Text=⟨#[]⟩∧(∃f,r.Box=[f]∧f.Kind=1)∧r.Forced=false:=by
 have hin:fq (mh (KN (N+10)) (N+10) b ⟨(Fv.fn 31),(Fv.fn 32),(Fv.fn 33),(Fv.fn 34)⟩):=by
  unfold mh;refine AP (MU _ _ _) fun s=>?_;rw[iV];simp only[Option.bind_some];refine ru (lS _) ?_;rw[show i7 (KN (N+10)) (N+10) b=_ from HJ (N:=N+1) h];simp only[Option.bind_some,Bool.not_false,if_true];exact AP (RA (N:=N) h b.Style) fun x=>lS _
 have hs:fq (ms (KN (N+10)) (N+10) b w ⟨(Fv.fn 31),(Fv.fn 32),(Fv.fn 33),(Fv.fn 34)⟩):=by
  unfold ms nC;rw[iV];simp only[Option.bind_some,z6];refine ru ?_ (lS _);refine AP hin fun x=>?_;simp only[Br,vR,xn,Option.bind_some];exact lS _
 obtain⟨c,hc⟩:=hs;unfold km;rw[hc];simp only[Option.bind_some,vR];obtain⟨f,hf,hk⟩:=WH h hN (gE b.Style w c) ⟨(Fv.fn 31),(Fv.fn 32),(Fv.fn 33),(Fv.fn 34)⟩ rfl;unfold nS;rw[hf];simp only[Option.bind_some];obtain⟨g,hg,hgk⟩:=PK (KN (N+10)) (N+10) f w;rw[hg];simp only[Option.bind_some,xn,fD];exact⟨_,rfl,rfl,⟨g,rfl,by rw[hgk,hk]⟩,rfl⟩
end
end Go.Proofs.YtnpmlepplfaijaaGreat
namespace Go.Proofs.YtnpmlepplfaijaaGreat
set_option linter.all false
open Go.RowKit
noncomputable section
def gQ:cA:=⟨(Fv.fn 31),(Fv.fn 32),(Fv.fn 33),(Fv.fn 34)⟩
def gZ(M:Nat)(w:Int)(b:aj):aM:=(km (KN (M+10)) (M+10) b w gQ).getD default
theorem Gb{l:List b9}(ht:∀s∈l,s.Text.size≤60){d:Nat}{bx:List aj}(hb:Bx l d bx):∀e∈ey (d+1) bx,e.Kind=3→∃k,eN e.Box k:=by
 intro e he h3;have h5:=RZ (d+1) bx (0,[]) (fun x hx=>by cases hx) e he h3;have hQ:=IK (l:=l) d bx (0,[]) (fun b=>b.Kind=5→∃k,eN b k) hb (fun b R hk h5=>by
  obtain⟨s,hs,_,q|q|q|q⟩:=hk
  ·rw[q.1]at h5;cases h5
  ·rw[q.1]at h5;cases h5
  ·obtain⟨k,k1,k2,_,_,k5⟩:=q.2.2.2;exact⟨k,k1,k2,by rw[k5];exact ht s hs⟩
  ·rw[q.1]at h5;cases h5) (fun x hx=>by cases hx) e he
 exact hQ h5
theorem UU{l:List b9}(ht:∀s∈l,s.Text.size≤60){d:Nat}{bx:List aj}(hb:Bx l d bx)(hc:bK (d+1) bx≤2000){M:Nat}(hM:d+9100≤M)(w:Int):mG (KN (M+11)) (M+11) bx w gQ=some (lP (gZ M w) (ey (d+1) bx)):=by
 unfold mG;rw[show qN (KN (M+11)) (M+11) bx _=_ from Rn (pl:=gZ M w) (yA ht d bx hb) hc (by omega) (fun e he h3=>by
  obtain⟨k,hk⟩:=Gb ht hb e he h3;obtain⟨r,hr,_⟩:=NE hk (N:=M) (by omega) w;show km (KN (M+10)) (M+10) e.Box w gQ=_;unfold gZ;rw[show km (KN (M+10)) (M+10) e.Box w gQ=_ from hr];rfl)]
 rfl
end
end Go.Proofs.YtnpmlepplfaijaaGreat
namespace Go.Proofs.YtnpmlepplfaijaaGreat
set_option linter.all false
open Go.RowKit
set_option linter.unusedSimpArgs false
def uo(r:(List ae)×Int×au×au×Bool):cg:=⟨r.1,r.2.1,r.2.2.1,r.2.2.2.1,r.2.2.2.2⟩
theorem Cg(K:Kn)(n:Nat)(L:List ae):∀(m:Nat) (i h:Int) (b:au) (t:Bool) (mm:au) (l:List ae),
  lU K n L m i h b t mm l=(ik K n L m h t i b mm l).map uo
 | 0,_,_,_,_,_,_=>rfl
 | m+1,i,h,b,t,mm,l=>by
  simp only[lU,mn,ik,mU,gx,gy,fR,fD,Option.bind_some,lx,mg,lN,kV,nO,nc,nf,nB,Cg K n L m,LC,QW,Option.map_some,uo]
theorem Pw(K:Kn)(n:Nat)(L:List ae):kT K n L=(m4 K n L).map uo:=Cg K n L n _ _ _ _ _ _
theorem Mf(K:Kn)(n:Nat)(L:List ae)(hL:(L.length:Int)≤9223372036854775807):∀(m:Nat) (i h:Int) (b:au) (t:Bool) (mm:au) (l:List ae),0≤i→i≤L.length→(L.length:Int)<m+i→((l.length:Int)+L.length)*584≤140737488355328+i*584 →
  ∃r,ik K n L m h t i b mm l=some r∧(r.1.length:Int)=l.length+L.length-i∧(∀f∈r.1,f∈l∨∃g∈L,f.Kids=g.Kids):=by
 intro m
 induction m with
 | zero=>intro i _ _ _ _ _ h0 h1 h2 _;omega
 | succ m ih =>
  intro i h b t mm l h0 h1 h2 h3;simp only[ik,mU];by_cases hi:i<(L.length:Int)
  ·have hin:=cq h0 hi;have hw:ab (i+1)=i+1:=cf (by omega) (by omega);have hf:fits (l.length+1) 584=true:=cH (by omega) (by omega);have key:∀(h':Int) (t':Bool) (b' mm':au) (y:Int),∃r,ik K n L m h' t' (i+1) b' mm' (l++[{ L.getD i.toNat default with Y:=y }])=some r∧(r.1.length:Int)=l.length+L.length-i∧(∀f∈r.1,f∈l∨∃g∈L,f.Kids=g.Kids):=by
    intro h' t' b' mm' y;obtain⟨r,hr,hlen,hk⟩:=ih (i+1) h' b' t' mm' (l++[{ L.getD i.toNat default with Y:=y }]) (by omega) (by omega) (by omega) (by simp only[List.length_append,List.length_cons,List.length_nil];omega);refine⟨r,hr,by rw[hlen];simp only[List.length_append,List.length_cons,List.length_nil];omega,fun f hf=>?_⟩;rcases hk f hf with hm|hm
    ·rcases List.mem_append.1 hm with hm|hm
     ·exact .inl hm
     ·right;have hlt:i.toNat<L.length:=by omega
      refine⟨L[i.toNat],List.getElem_mem _,?_⟩;simp only[List.mem_cons,List.not_mem_nil,or_false]at hm;rw[hm,cw hlt]
    ·exact .inr hm
   simp only[hi,decide_true,if_true,hin,bm,gx,fD,Option.bind_some,nO,nc,nf,List.length_cons,List.length_nil,Nat.zero_add,hf,hw]
   repeat (first|exact key _ _ _ _ _|split)
  ·have:decide (i<(L.length:Int))=false:=by simpa using hi
   simp only[this,Bool.false_eq_true,if_false,nB];split<;>exact⟨_,rfl,by show(l.length:Int)=_;omega,fun f hf=>.inl hf⟩
theorem QZ(K:Kn)(n:Nat)(L:List ae)(hn:L.length<n)(hL:L.length*584≤140737488355328):∃r,m4 K n L=some r∧r.1.length=L.length∧∀f∈r.1,∃g∈L,f.Kids=g.Kids:=by
 obtain⟨r,h1,hlen,h2⟩:=Mf K n L (by omega) n 0 0 cp true cp [] (by omega) (by omega) (by omega) (by simp;omega);exact⟨r,h1,by simp only[List.length_nil]at hlen;omega,fun f hf=>(h2 f hf).elim (fun h=>by cases h) (fun h=>h)⟩
theorem FW(s:aJ):cY s s=true:=by simp[cY,eU]
theorem SV(s:au):xq s s=true:=by simp[xq]
end Go.Proofs.YtnpmlepplfaijaaGreat
namespace Go.Proofs.YtnpmlepplfaijaaGreat
set_option linter.all false
open Go.RowKit
theorem g6{i:Nat}(h:i<1000000):ab ((i:Int)+1)=((i+1:Nat):Int):=by rw[cf (by omega) (by omega)];omega
theorem im{i n:Nat}(h:i<n):decide ((i:Int)<(n:Int))=true:=by simpa using h
theorem gT{i n:Nat}(h:n≤i):decide ((i:Int)<(n:Int))=false:=by simpa using h
theorem gb{i n:Nat}(h:i<n):bi (i:Int) n=true:=cq (by omega) (by omega)
theorem drop_at'{α:Type}[Inhabited α]{L:List α}{i:Nat}(h:i<L.length):L.drop i=L.getD i default::L.drop (i+1):=by
 rw[cw h];exact List.drop_eq_getElem_cons h
theorem tE{α:Type}[Inhabited α]{L:List α}{i:Nat}(h:i<L.length):L.getD i default∈L:=by
 rw[cw h];exact List.getElem_mem h
def gI(k:aj):Bool:=k.Kind == 3||k.Style.Position != 2
def da(k:aj):Bool:=k.Kind == 1||(k.Kind == 6||k.Kind == 7)
theorem Mt(K:Kn)(n:Nat)(k:aj):fz K n k=some (gI k):=by
 unfold fz gI tc;cases h:k.Kind == 3<;>simp
theorem T7(K:Kn)(n:Nat)(k:aj):hH K n k=some (gI k):=by
 unfold hH gI ly;cases h:k.Kind == 3<;>simp
theorem yX(K:Kn)(n:Nat)(k:aj):mB K n k=some (da k):=by
 unfold mB da nt;cases h:k.Kind == 1<;>cases h2:k.Kind == 6<;>simp
theorem To(K:Kn)(n:Nat)(hO:∀x,K.jn (Fv.fn 102) x=some (da x))(L:List aj)(hL:L.length≤20):∀(m i:Nat),i≤L.length→L.length<m+i →
  ∃r,kE K n L (Fv.fn 102) m i=some r∧decide (r≥0)=(L.drop i).any da:=by
 intro m
 induction m with
 | zero=>intro i h1 h2;omega
 | succ m ih =>
  intro i h1 h2;simp only[kE,kj];by_cases hi:i<L.length
  ·rw[drop_at' hi];simp only[im hi,if_true,gb hi,bm,hO,Option.bind_some,Int.toNat_natCast,List.any_cons,g6 (show i<1000000 by omega)];cases hq:da (L.getD i default)
   ·simp only[Bool.false_eq_true,if_false,Bool.false_or];exact ih (i+1) (by omega) (by omega)
   ·exact⟨_,rfl,by simp⟩
  ·have e:i=L.length:=by omega
   subst e;simp only[gT (Nat.le_refl _),Bool.false_eq_true,if_false,List.drop_length];exact⟨_,rfl,by simp⟩
theorem Rd(K:Kn)(n:Nat)(hO:∀x,K.jn (Fv.fn 102) x=some (da x))(L:List aj)(hL:L.length≤20)(hn:20<n):lj K n L (Fv.fn 102)=some (L.any da):=by
 obtain⟨r,h1,h2⟩:=To K n hO L hL n 0 (by omega) (by omega);unfold lj sN;rw[show kE K n L (Fv.fn 102) n 0=some r from h1];simp only[Option.bind_some,h2,List.drop_zero]
theorem Sz(K:Kn)(n:Nat)(b:aj)(hb:b.Kids.length≤20):∀(m i:Nat) (acc:List aj),i≤b.Kids.length→b.Kids.length<m+i→acc.length≤i →
  lw K n b m i acc=(lj K n (acc++(b.Kids.drop i).filter gI) (Fv.fn 102)).bind fun v=>some (acc++(b.Kids.drop i).filter gI,v):=by
 intro m
 induction m with
 | zero=>intro i acc h1 h2;omega
 | succ m ih =>
  intro i acc h1 h2 h3;simp only[lw,ke];by_cases hi:i<b.Kids.length
  ·rw[drop_at' hi];simp only[im hi,if_true,gb hi,bm,Mt,Option.bind_some,oP,Int.toNat_natCast,List.length_cons,List.length_nil,g6 (show i<1000000 by omega),List.filter_cons];cases hq:gI (b.Kids.getD i default)
   ·simp only[Bool.false_eq_true,if_false];exact ih (i+1) acc (by omega) (by omega) (by omega)
   ·simp only[if_true];rw[cH (by omega) (by omega),bm,ih (i+1) _ (by omega) (by omega) (by simp;omega)];simp only[List.append_assoc,List.singleton_append]
  ·have e:i=b.Kids.length:=by omega
   subst e;simp only[gT (Nat.le_refl _),Bool.false_eq_true,if_false,List.drop_length,List.filter_nil,List.append_nil]
def b8(b:aj):List aj:=b.Kids.filter gI
theorem um{b:aj}:(b8 b).length≤b.Kids.length:=List.length_filter_le _ _
theorem EJ(K:Kn)(n:Nat)(hO:∀x,K.jn (Fv.fn 102) x=some (da x))(b:aj)(hb:b.Kids.length≤20)(hn:20<n):i7 K n b=some (b8 b,(b8 b).any da):=by
 have h:=Sz K n b hb n 0 [] (by omega) (by omega) (by simp);unfold i7;refine (show _=_ from h).trans ?_;simp only[List.nil_append,List.drop_zero];rw[show b.Kids.filter gI=b8 b from rfl,Rd K n hO _ (Nat.le_trans um hb) hn];rfl
theorem Ka(K:Kn)(n:Nat)(b:aj)(hb:b.Kids.length≤20):∀(m i:Nat) (acc:List aj),i≤b.Kids.length→b.Kids.length<m+i→acc.length≤i →
  lz K n b m i acc=some (acc++(b.Kids.drop i).filter gI):=by
 intro m
 induction m with
 | zero=>intro i acc h1 h2;omega
 | succ m ih =>
  intro i acc h1 h2 h3;simp only[lz,mi];by_cases hi:i<b.Kids.length
  ·rw[drop_at' hi];simp only[im hi,if_true,gb hi,bm,T7,Option.bind_some,lK,Int.toNat_natCast,List.length_cons,List.length_nil,g6 (show i<1000000 by omega),List.filter_cons];cases hq:gI (b.Kids.getD i default)
   ·simp only[Bool.false_eq_true,if_false];exact ih (i+1) acc (by omega) (by omega) (by omega)
   ·simp only[if_true];rw[cH (by omega) (by omega),bm,ih (i+1) _ (by omega) (by omega) (by simp;omega)];simp only[List.append_assoc,List.singleton_append]
  ·have e:i=b.Kids.length:=by omega
   subst e;simp only[gT (Nat.le_refl _),Bool.false_eq_true,if_false,List.drop_length,List.filter_nil,List.append_nil]
theorem z2(K:Kn)(n:Nat)(b:aj)(hb:b.Kids.length≤20)(hn:20<n):kt K n b=some (b8 b):=by
 have h:=Ka K n b hb n 0 [] (by omega) (by omega) (by simp);exact(show _=_ from h).trans (by simp only[List.nil_append,List.drop_zero];rfl)
theorem NO(K:Kn)(n:Nat)(L:List aj)(hL:L.length≤20):∀(m i:Nat),i≤L.length→L.length<m+i→lF K n L m i=some ((L.drop i).any fun k=>k.Kind == 1):=by
 intro m
 induction m with
 | zero=>intro i h1 h2;omega
 | succ m ih =>
  intro i h1 h2;simp only[lF,ls];by_cases hi:i<L.length
  ·rw[drop_at' hi];simp only[im hi,if_true,gb hi,bm,Int.toNat_natCast,List.any_cons,g6 (show i<1000000 by omega)];cases hq:(L.getD i default).Kind == 1
   ·simp only[Bool.false_eq_true,if_false,Bool.false_or];exact ih (i+1) (by omega) (by omega)
   ·simp
  ·have e:i=L.length:=by omega
   subst e;simp[gT (Nat.le_refl _)]
theorem E9(K:Kn)(n:Nat)(b:aj)(hb:b.Kids.length≤20)(hn:20<n):jv K n b=some ((b8 b).any fun k=>k.Kind == 1):=by
 unfold jv;rw[z2 K n b hb hn,Option.bind_some];have:=@um b;exact(NO K n (b8 b) (by omega) n 0 (by omega) (by omega)).trans (by simp only[List.drop_zero])
def fe(s:aJ)(w:Int):List aj→Int→List ae→List ae×Int
 | [],y,acc=>(acc,y)
 | k::r,y,acc=>if k.Text.toList == (⟨#[]⟩:ByteArray).toList then fe s w r y acc else fe s w r (ab (y+s.LineHeight)) (acc++[{ bp with Kind:=2,Y:=y,W:=w,H:=s.LineHeight,Text:=k.Text }])
theorem LW(K:Kn)(n:Nat)(L:List aj)(s:aJ)(w:Int)(hL:L.length≤20):∀(m i:Nat) (y:Int) (acc:List ae),i≤L.length→L.length<m+i→acc.length≤i →
  gV K n L s w m y i acc=some (fe s w (L.drop i) y acc):=by
 intro m
 induction m with
 | zero=>intro i y acc h1 h2;omega
 | succ m ih =>
  intro i y acc h1 h2 h3;simp only[gV,gB];by_cases hi:i<L.length
  ·rw[drop_at' hi];simp only[im hi,if_true,gb hi,bm,Option.bind_some,jg,Int.toNat_natCast,List.length_cons,List.length_nil,g6 (show i<1000000 by omega),fe];cases hq:(L.getD i default).Text.toList == (⟨#[]⟩:ByteArray).toList
   ·simp only[Bool.not_false,Bool.false_eq_true,if_false,if_true];rw[cH (by omega) (by omega),bm,ih (i+1) _ _ (by omega) (by omega) (by simp;omega)]
   ·simp only[Bool.not_true,Bool.false_eq_true,if_false,if_true];exact ih (i+1) _ acc (by omega) (by omega) (by omega)
  ·have e:i=L.length:=by omega
   subst e;simp only[gT (Nat.le_refl _),Bool.false_eq_true,if_false,List.drop_length,fe]
theorem Cz(K:Kn)(n:Nat)(L:List aj)(s:aJ)(w:Int)(hL:L.length≤20)(hn:20<n):ja K n L s w=some (fe s w L 0 []) :=
 (LW K n L s w hL n 0 0 [] (by omega) (by omega) (by simp)).trans (by simp only[List.drop_zero])
theorem zA(s:aJ)(w:Int):∀(L:List aj) (y:Int) (acc:List ae),(∀f∈acc,f.Kids=[])→(fe s w L y acc).1.length≤acc.length+L.length∧∀f∈(fe s w L y acc).1,f.Kids=[]
 | [],y,acc,h=>⟨by simp[fe],h⟩
 | k::r,y,acc,h=>by
  unfold fe;split
  ·have:=zA s w r y acc h;exact⟨by simp only[List.length_cons];omega,this.2⟩
  ·have:=zA s w r (ab (y+s.LineHeight)) (acc++[{ bp with Kind:=2,Y:=y,W:=w,H:=s.LineHeight,Text:=k.Text }]) (fun f hf=>by
    rcases List.mem_append.1 hf with hf|hf
    ·exact h f hf
    ·simp only[List.mem_cons,List.not_mem_nil,or_false]at hf;subst hf;rfl)
   refine⟨?_,this.2⟩;have h1:=this.1;simp only[List.length_append,List.length_cons,List.length_nil]at h1⊢;omega
def fH(f:ae)(w:Int):ae :=
 if f.Style.Position=1 then { f with X:=ab (f.X+(c6 f.Style.Left w).1),Y:=if f.Style.Top.Kind=1 then ab (f.Y+(c6 f.Style.Top 0).1) else f.Y } else f
theorem Gz(K:Kn)(n:Nat)(f:ae)(w:Int):mC K n f w=some (fH f w):=by
 unfold mC fH;simp only[iV,Option.bind_some,pC];by_cases h:f.Style.Position=1
 ·by_cases h2:f.Style.Top.Kind=1<;>simp[h,h2]
 ·simp[h]
theorem C5(K:Kn)(n:Nat)(f:ae)(w:Int):kz K n f w=some (fH f w):=by
 unfold kz fH;simp only[uC,Option.bind_some,l5];by_cases h:f.Style.Position=1
 ·by_cases h2:f.Style.Top.Kind=1<;>simp[h,h2]
 ·simp[h]
theorem GV(f:ae)(w:Int):(fH f w).Kids=f.Kids:=by unfold fH;split<;>rfl
def Fd:Nat→ae→Prop
 | 0,_=>False
 | d+1,f=>f.Kids.length≤20∧∀k∈f.Kids,Fd d k
theorem Ui(N n:Nat)(f:ae)(hf:f.Kids.length≤20)(hk:∀k∈f.Kids,(KN N).re k k=some true):∀(m i:Nat),i≤f.Kids.length→f.Kids.length<m+i→qi (KN N) n f f m i=some true:=by
 intro m
 induction m with
 | zero=>intro i h1 h2;omega
 | succ m ih =>
  intro i h1 h2;simp only[qi,sx];by_cases hi:i<f.Kids.length
  ·simp only[im hi,if_true,gb hi,bm,Int.toNat_natCast,hk _ (tE hi),Option.bind_some,Bool.not_true,Bool.false_eq_true,if_false,g6 (show i<1000000 by omega)];exact ih (i+1) (by omega) (by omega)
  ·have e:i=f.Kids.length:=by omega
   subst e;simp[gT (Nat.le_refl _)]
theorem II:∀(d N n:Nat) (f:ae),Fd d f→d≤N+1→20<n→d+20≤N→jJ (KN N) n f f=some true
 | 0,_,_,_,h,_,_,_=>h.elim
 | d+1,N,n,f,h,h1,h2,h3=>by
  have hl:=Ui N n f h.1 (fun k hk=>by
   match N,h1,h3 with
   | N+1,h1,h3 =>
    show jJ (KN N) N k k=some true;by_cases hd:d=0
    ·subst hd;exact(h.2 k hk).elim
    ·exact II d N N k (h.2 k hk) (by omega) (by omega) (by omega)) n 0 (by omega) (by have:=h.1;omega)
  unfold jJ;simp only[bne_self_eq_false,beq_self_eq_true,Bool.not_true,Bool.false_eq_true,if_false,FW,SV,eK];exact hl
end Go.Proofs.YtnpmlepplfaijaaGreat
namespace Go.Proofs.YtnpmlepplfaijaaGreat
set_option linter.all false
open Go.RowKit
theorem yZ{a b:Int}(h:a % 18446744073709551616=b % 18446744073709551616):ab a=ab b:=by
 unfold ab;rw[IntKind.wrap_i64,IntKind.wrap_i64];omega
theorem gP(a:Int):ab a % 18446744073709551616=a % 18446744073709551616:=by
 unfold ab;rw[IntKind.wrap_i64];omega
def iC(bl:Bool)(z:aP)(down:Int)(f:ae):ae :=
 if bl=true then fH { f with X:=ab (f.X+ab (z.Border.a3+z.Padding.a3)),Y:=ab (f.Y+ab (ab (z.Border.a0+z.Padding.a0)+down)) } z.Content
 else { f with X:=ab (f.X+ab (z.Border.a3+z.Padding.a3)),Y:=ab (f.Y+ab (ab (z.Border.a0+z.Padding.a0)+down)) }
theorem Rw(bl:Bool)(z:aP)(down:Int)(f:ae):(iC bl z down f).Kids=f.Kids:=by
 unfold iC;split
 ·rw[GV]
 ·rfl
def kN(b:aj)(z:aP)(bl:Bool)(L:List ae)(d:Int)(bf af:au)(em:Bool)(h:Int):ae :=
 ⟨1,b.Node,z.Margin.a3,0,ab (z.Content+ab (ab (ab (z.Border.a3+z.Padding.a3)+z.Border.a1)+z.Padding.a1)),ab (ab (ab (ab (h+z.Border.a0)+z.Padding.a0)+z.Border.a2)+z.Padding.a2),0,⟨#[]⟩,b.Style,bf,af,em,L.map (iC bl z d)⟩
theorem GA{α:Type}(A R:List α)(x y:α):(A++x::R).set A.length y=A++y::R:=by
 rw[List.set_append_right _ _ (Nat.le_refl _)];simp
theorem F7{α:Type}(A R:List α)(x d:α):(A++x::R).getD A.length d=x:=by simp[List.getD_eq_getElem?_getD]
theorem TE(K:Kn)(n:Nat)(b:aj)(z:aP)(v6:(List aj)×Bool)(L:List ae)(d:Int)(bf af:au)(em:Bool)(v39 H:Int)(hl:L.length≤20)(ho:v6.2=true→v6.1.length=L.length∧∀k∈v6.1,da k=true):
  ∀(m:Nat) (A R:List ae),A.length+R.length=L.length→R.length<m→kO K n b z v6 L d bf af em v39 H m (A.length:Int) (A++R) =
   some ⟨1,b.Node,z.Margin.a3,0,ab (z.Content+v39),H,0,⟨#[]⟩,b.Style,bf,af,em,A++R.map (iC v6.2 z d)⟩:=by
 intro m
 induction m with
 | zero=>intro A R _ h2;omega
 | succ m ih =>
  intro A R h1 h2;simp only[kO,nP];cases R with
  | nil =>
   have e:A.length=L.length:=by simpa using h1
   simp only[gT (show L.length≤A.length by omega),Bool.false_eq_true,if_false,List.map_nil]
  | cons x R =>
   simp only[List.length_cons]at h1 h2;have hA:A.length<L.length:=by omega
   have nx:=ih (A++[iC v6.2 z d x]) R (by simp;omega) (by omega);simp only[List.append_assoc,List.singleton_append,List.length_append,List.length_cons,List.length_nil,Nat.zero_add]at nx;simp only[im hA,if_true,Int.toNat_natCast,GA,F7,gb (show A.length<(A++x::R).length by simp),List.length_append,List.length_cons,gb (show A.length<A.length+(R.length+1) by omega),bm,yX,Option.bind_some,pg,qS,Gz,g6 (show A.length<1000000 by omega),List.map_cons];cases hv:v6.2 with
   | false =>
    rw[hv]at nx;simp only[Bool.false_eq_true,if_false];simp only[iC,Bool.false_eq_true,if_false]at nx⊢;exact nx
   | true =>
    rw[hv]at nx;obtain⟨g1,g2⟩:=ho hv;have hin:A.length<v6.1.length:=by omega
    simp only[if_true,gb hin,bm,g2 _ (tE hin)];simp only[iC,if_true]at nx⊢;exact nx
theorem Nd(K:Kn)(n:Nat)(b:aj)(z:aP)(W:Int)(bl:Bool)(v13:Int)(v14 v15:au)(v16:Bool)(L:List ae)(d:Int)(bf af:au)(em:Bool)(H:Int)(hl:L.length≤20):
  ∀(m i:Nat) (acc:List ae),i≤L.length→L.length<m+i→acc.length≤i→l4 K n b z W bl v13 v14 v15 v16 L d bf af em m i H acc =
   some ⟨1,b.Node,z.Margin.a3,0,W,H,0,⟨#[]⟩,b.Style,bf,af,em,acc++(L.drop i).map (iC bl z d)⟩:=by
 intro m
 induction m with
 | zero=>intro i acc _ h2;omega
 | succ m ih =>
  intro i acc h1 h2 h3;simp only[l4,mA];by_cases hi:i<L.length
  ·rw[drop_at' hi];simp only[im hi,if_true,gb hi,bm,C5,Option.bind_some,lA,Int.toNat_natCast,List.length_cons,List.length_nil,g6 (show i<1000000 by omega),List.map_cons];rw[cH (by omega) (by omega)];cases bl with
   | false =>
    simp only[Bool.false_eq_true,if_false,bm];rw[ih (i+1) _ (by omega) (by omega) (by simp;omega)];simp only[List.append_assoc,List.singleton_append,iC,Bool.false_eq_true,if_false]
   | true =>
    simp only[if_true,bm];rw[ih (i+1) _ (by omega) (by omega) (by simp;omega)];simp only[List.append_assoc,List.singleton_append,iC,if_true]
  ·have e:i=L.length:=by omega
   subst e;simp only[gT (Nat.le_refl _),Bool.false_eq_true,if_false,List.drop_length,List.map_nil,List.append_nil]
def gA(z:aP):Int:=ab (ab (ab (ab (z.Content+z.Border.a1)+z.Border.a3)+z.Padding.a1)+z.Padding.a3)
section
variable(K:Kn)(n:Nat)(hn:20<n)(b:aj)(z:aP)(L:List ae)(hl:L.length≤20)
include hn hl
theorem P4(v6:(List aj)×Bool)(ho:v6.2=true→v6.1.length=L.length∧∀k∈v6.1,da k=true)(d:Int)(bf af:au)(em:Bool)(h:Int):mW K n b z v6 L d bf af em h=some (kN b z v6.2 L d bf af em h):=by
 unfold mW;simp only[uf,Option.bind_some];exact TE K n b z v6 L d bf af em _ _ hl ho n [] L (by simp) (by omega)
theorem PR(bl:Bool)(v13:Int)(v14 v15:au)(v16:Bool)(d:Int)(bf af:au)(em:Bool)(h:Int):jx K n b z (gA z) bl v13 v14 v15 v16 L d bf af em h=some (kN b z bl L d bf af em h):=by
 unfold jx;refine (Nd K n b z (gA z) bl v13 v14 v15 v16 L d bf af em _ hl n 0 [] (by omega) (by omega) (by simp)).trans ?_;simp only[List.nil_append,List.drop_zero,kN,gA];have e1:ab (ab (ab (ab (z.Content+z.Border.a1)+z.Border.a3)+z.Padding.a1)+z.Padding.a3)=ab (z.Content+ab (ab (ab (z.Border.a3+z.Padding.a3)+z.Border.a1)+z.Padding.a1)):=by
  apply yZ;have:=gP (ab (ab (z.Content+z.Border.a1)+z.Border.a3)+z.Padding.a1);have:=gP (ab (z.Content+z.Border.a1)+z.Border.a3);have:=gP (z.Content+z.Border.a1);have:=gP (ab (ab (z.Border.a3+z.Padding.a3)+z.Border.a1)+z.Padding.a1);have:=gP (ab (z.Border.a3+z.Padding.a3)+z.Border.a1);have:=gP (z.Border.a3+z.Padding.a3);omega
 have e2:ab (ab (ab (ab (h+z.Border.a0)+z.Border.a2)+z.Padding.a0)+z.Padding.a2)=ab (ab (ab (ab (h+z.Border.a0)+z.Padding.a0)+z.Border.a2)+z.Padding.a2):=by
  apply yZ;have:=gP (ab (ab (h+z.Border.a0)+z.Border.a2)+z.Padding.a0);have:=gP (ab (h+z.Border.a0)+z.Border.a2);have:=gP (ab (ab (h+z.Border.a0)+z.Padding.a0)+z.Border.a2);have:=gP (ab (h+z.Border.a0)+z.Padding.a0);omega
 rw[e1,e2]
def tD(s:aJ)(h:Int):Int:=if s.Height.Kind=1 then max (min (max s.Height.Value (-1048576)) 1048576) 0 else max h 0
theorem Q3(v6:(List aj)×Bool)(ho:v6.2=true→v6.1.length=L.length∧∀k∈v6.1,da k=true)(d h:Int)(bf af:au)(em:Bool):gH K n b z v6 L d h bf af em=some (kN b z v6.2 L d bf af em (tD b.Style h)):=by
 unfold gH;simp only[iV,Option.bind_some,pE,P4 K n hn b z L hl v6 ho];by_cases hk:b.Style.Height.Kind=1
 ·simp[hk,tD,c6]
 ·simp only[tD,hk,if_false,beq_iff_eq,Bool.false_eq_true];split<;>rfl
def kR(l:cj):Int×Bool:=if l.Kind=1 then (max (min (max l.Value (-1048576)) 1048576) 0,true) else (0,false)
omit hn hl in
theorem KC(l:cj):j0 K n l=some (kR l):=by
 unfold j0 kR;by_cases h:l.Kind=1<;>simp[h,g8]
theorem Vg(bl:Bool)(v13:Int)(v14 v15:au)(v16:Bool)(d h:Int)(bf af:au)(em:Bool):fV K n b z (gA z) bl v13 v14 v15 v16 L (kR b.Style.Height) d h bf af em=some (kN b z bl L d bf af em (tD b.Style h)):=by
 unfold fV;simp only[PR K n hn b z L hl];by_cases hk:b.Style.Height.Kind=1<;>simp[hk,kR,tD]
def ofM(x:Int):au:=⟨max x 0,min x 0⟩
def d6(m:au):Prop:=0≤m.Pos∧m.Pos≤16777216 ∧ -16777216≤m.Neg∧m.Neg≤0
instance(m:au):Decidable (d6 m):=by unfold d6;infer_instance
def wB(z:aP):Prop:=(-16777216≤z.Margin.a0∧z.Margin.a0≤16777216)∧(-16777216≤z.Margin.a2∧z.Margin.a2≤16777216)
def MB(f:ae):Prop:=d6 f.Before∧d6 f.After
theorem Rf(v6:(List aj)×Bool)(ho:v6.2=true→v6.1.length=L.length∧∀k∈v6.1,da k=true)(above below:Bool)(h:Int)(through:Bool)(bf af:au):
  ∃d e f g x,kh K n b z above below v6 h through bf af L=some (kN b z v6.2 L d e f g x)∧hJ K n b z (gA z) v6.2 h bf af through L (kR b.Style.Height) above below=some (kN b z v6.2 L d e f g x) ∧
   (above=false→below=false→g=false∧e=ofM z.Margin.a0∧f=ofM z.Margin.a2)∧(d6 bf→d6 af→wB z→d6 e∧d6 f):=by
 have c1:∀x y:Int,ab (x+y)=ab (y+x):=fun x y=>by rw[Int.add_comm]
 have c3:∀y u:Int,ab (h+ab (y+u))=ab (ab (y+h)+u):=fun y u=>by
  apply yZ;have:=gP (y+u);have:=gP (y+h);omega
 cases above<;>cases below<;>cases through <;>
  simp only[kh,nV,lB,kU,hJ,lH,jF,kL,mw,qK,me,gx,gy,fD,fR,Option.bind_some,Bool.not_true,Bool.not_false,Bool.false_eq_true,if_true,if_false,
   Q3 K n hn b z L hl v6 ho,Vg K n hn b z L hl] <;>
  refine⟨_,_,_,_,_,rfl,?_,?_,?_⟩<;>first|(intro hb ha hz;unfold d6 at *;unfold wB at hz;dsimp only;refine⟨?_,?_⟩<;>omega)|exact fun _ _=>⟨rfl,rfl,rfl⟩|(intro h1 h2;contradiction)|rfl|(rw[c1 h];done)|(rw[c3];done)
end
def rr:Nat→aj→Prop
 | 0,_=>False
 | d+1,b=>b.Kids.length≤20∧((∀k∈b.Kids,k.Kind=1∧rr d k)∨∀k∈b.Kids,k.Kind=3)
theorem BW:∀{d:Nat} {f g:ae},f.Kids=g.Kids→Fd d g→Fd d f
 | 0,_,_,_,h=>h.elim
 | d+1,f,g,e,h=>by unfold Fd at h⊢;rw[e];exact h
theorem Uw{d:Nat}{f:ae}(h:f.Kids=[]):Fd (d+1) f:=by unfold Fd;rw[h];simp
section
variable(K:Kn)(n:Nat)
theorem Qs(b:aj)(z:aP)(v3 v4:Bool)(env:cA)(v6:(List aj)×Bool)(F:aj→ae)(hl:v6.1.length≤20)(hF:∀k∈v6.1,K.mM env.Layout k z.Content=some (F k)):
  ∀(m i:Nat) (acc:List ae),i≤v6.1.length→v6.1.length<m+i→acc.length≤i→n4 K n b z v3 v4 env v6 m i acc =
   (m4 K n (acc++(v6.1.drop i).map F)).bind fun v12=>kh K n b z v3 v4 v6 v12.2.1 v12.2.2.2.2 v12.2.2.1 v12.2.2.2.1 v12.1:=by
 intro m
 induction m with
 | zero=>intro i acc _ h2;omega
 | succ m ih =>
  intro i acc h1 h2 h3;simp only[n4,tK];by_cases hi:i<v6.1.length
  ·rw[drop_at' hi];simp only[im hi,if_true,gb hi,bm,hF _ (tE hi),Option.bind_some,Int.toNat_natCast,List.length_cons,List.length_nil,g6 (show i<1000000 by omega),List.map_cons];rw[cH (by omega) (by omega),bm,ih (i+1) _ (by omega) (by omega) (by simp;omega)];simp only[List.append_assoc,List.singleton_append]
  ·have e:i=v6.1.length:=by omega
   subst e;simp only[gT (Nat.le_refl _),Bool.false_eq_true,if_false,List.drop_length,List.map_nil,List.append_nil]
theorem NM(b:aj)(z:aP)(v3 v4:Bool)(L:List aj)(F:aj→ae)(hl:L.length≤20)(hF:∀k∈L,eP K n k z.Content=some (F k)):
  ∀(m i:Nat) (acc:List ae),i≤L.length→L.length<m+i→acc.length≤i→jE K n b z v3 (gA z) v4 L m i acc =
   (kT K n (acc++(L.drop i).map F)).bind fun v11=>hZ K n b z v3 (gA z) v4 v11.Height v11.Before v11.After v11.Through v11.List:=by
 intro m
 induction m with
 | zero=>intro i acc _ h2;omega
 | succ m ih =>
  intro i acc h1 h2 h3;simp only[jE,lD];by_cases hi:i<L.length
  ·rw[drop_at' hi];simp only[im hi,if_true,gb hi,bm,hF _ (tE hi),Option.bind_some,Int.toNat_natCast,List.length_cons,List.length_nil,g6 (show i<1000000 by omega),List.map_cons];rw[cH (by omega) (by omega),bm,ih (i+1) _ (by omega) (by omega) (by simp;omega)];simp only[List.append_assoc,List.singleton_append]
  ·have e:i=L.length:=by omega
   subst e;simp only[gT (Nat.le_refl _),Bool.false_eq_true,if_false,List.drop_length,List.map_nil,List.append_nil]
end
def lM(b:aj)(z:aP)(share:Bool):Bool:=share&&(b.Style.Overflow == 0&&ab (z.Border.a0+z.Padding.a0) == 0)
def l3(b:aj)(z:aP)(share:Bool):Bool:=share&&(b.Style.Overflow == 0&&(ab (z.Border.a2+z.Padding.a2) == 0&&b.Style.Height.Kind != 1))
theorem MZ(K:Kn)(n:Nat)(b:aj)(z:aP)(share bl:Bool)(h:Int)(bf af:au)(th:Bool)(L:List ae):
  hZ K n b z share (gA z) bl h bf af th L=hJ K n b z (gA z) bl h bf af th L (kR b.Style.Height) (lM b z share) (l3 b z share):=by
 unfold hZ lM l3;simp only[KC,Option.bind_some,mz,mj];have e:(!(kR b.Style.Height).2)=(b.Style.Height.Kind != 1):=by
  unfold kR;by_cases hk:b.Style.Height.Kind=1<;>simp[hk]
 rw[e];cases share
 ·simp
 ·cases ho:b.Style.Overflow == 0
  ·simp
  ·cases hq:ab (z.Border.a2+z.Padding.a2) == 0<;>simp
theorem T8(K:Kn)(n:Nat)(l:List ae)(hl:l.length≤20):ld K n l=some l:=by
 unfold ld both;have hf:fits (([]:List ae).length+l.length) 584=true:=by rw[List.length_nil,Nat.zero_add];exact cH (by omega) (by omega)
 rw[hf];cases l<;>simp[bm]
theorem Pf(K:Kn)(n:Nat)(L:List ae)(hL:∀f∈L,MB f):∀(m:Nat) (i h:Int) (b:au) (t:Bool) (mm:au) (l:List ae) {r:(List ae)×Int×au×au×Bool},d6 b→d6 mm→ik K n L m h t i b mm l=some r→d6 r.2.2.1∧d6 r.2.2.2.1:=by
 intro m
 induction m with
 | zero=>intro i h b t mm l r hb hm e;cases e
 | succ m ih =>
  intro i h b t mm l r hb hm e;simp only[ik,mU]at e;by_cases hi:i<(L.length:Int)
  ·simp only[hi,decide_true,if_true]at e;obtain⟨hin,e⟩:=aS e;obtain⟨h0,h1⟩:=ca hin;have hf:=hL _ (tE h1);have hj:d6 ⟨max mm.Pos (L.getD i.toNat default).Before.Pos,min mm.Neg (L.getD i.toNat default).Before.Neg⟩:=by
    have:=hf.1;unfold d6 at *
    dsimp only;omega
   simp only[gx,fD,Option.bind_some,nO,nc,nf]at e;generalize hx:L.getD i.toNat default=x at *;cases he:x.Empty<;>cases t<;>simp only[he,Bool.not_true,Bool.not_false,Bool.false_eq_true,if_true,if_false]at e<;>have e:=(aS e).2
   ·exact ih _ _ _ _ _ _ hb hf.2 e
   ·exact ih _ _ _ _ _ _ hj hf.2 e
   ·exact ih _ _ _ _ _ _ hb hj e
   ·exact ih _ _ _ _ _ _ hb hj e
  ·simp only[hi,decide_false,Bool.false_eq_true,if_false,nB]at e;split at e<;>(injection e with e;subst e)<;>first|exact⟨hm,hm⟩|exact⟨hb,hm⟩
theorem CW(K:Kn)(n:Nat)(L:List ae)(hL:∀f∈L,MB f){r:(List ae)×Int×au×au×Bool}(h:m4 K n L=some r):d6 r.2.2.1∧d6 r.2.2.2.1 :=
 Pf K n L hL n _ _ _ _ _ _ (by decide) (by decide) h
theorem core(d N:Nat)(b:aj)(z:aP)(share:Bool)(hg:rr (d+1) b)(hN:20<N)(env:cA)(he:env.Layout=(Fv.fn 31)∧env.Lines=(Fv.fn 33))
  (ih:∀k,rr d k→∃f,(KN (N+1)).mM (Fv.fn 31) k z.Content=some f∧eP (KN (N+1)) (N+1) k z.Content=some f∧Fd (d+1) f∧MB f) :
  ∃f,li (KN (N+1)) (N+1) b z (lM b z share) (l3 b z share) env=some f∧jO (KN (N+1)) (N+1) b z share=some f∧Fd (d+2) f∧(share=false→f.Empty=false∧f.Before=ofM z.Margin.a0∧f.After=ofM z.Margin.a2)∧(wB z→MB f):=by
 have hO:∀x,(KN (N+1)).jn (Fv.fn 102) x=some (da x):=fun x=>yX (KN N) N x;have hlen:b.Kids.length≤20:=hg.1;have hfl:(b8 b).length≤20:=Nat.le_trans um hlen;have hsub:∀k∈b8 b,k∈b.Kids:=fun k hk=>(List.mem_filter.1 hk).1;have hany:((b8 b).any fun k=>k.Kind == 1)=(b8 b).any da:=by
  apply Bool.eq_iff_iff.2;simp only[List.any_eq_true];constructor
  ·rintro ⟨k,hk,e⟩;exact⟨k,hk,by simp[da,e]⟩
  ·rintro ⟨k,hk,e⟩
   refine⟨k,hk,?_⟩;rcases hg.2 with h|h
   ·simp[(h k (hsub k hk)).1]
   ·have:=h k (hsub k hk);simp[da,this]at e
 unfold li jO;rw[EJ _ _ hO b hlen (by omega),E9 _ _ b hlen (by omega),z2 _ _ b hlen (by omega),hany];simp only[Option.bind_some];rw[show ab (ab (ab (ab (z.Content+z.Border.a1)+z.Border.a3)+z.Padding.a1)+z.Padding.a3)=gA z from rfl];have fin:∀(L:List ae) (bl:Bool) (h:Int) (th:Bool) (bf af:au),bl=(b8 b).any da→L.length≤20→(bl=true→(b8 b).length=L.length∧∀k∈b8 b,da k=true)→(∀f∈L,Fd (d+1) f)→d6 bf→d6 af →
   ∃f,kh (KN (N+1)) (N+1) b z (lM b z share) (l3 b z share) (b8 b,(b8 b).any da) h th bf af L=some f∧hZ (KN (N+1)) (N+1) b z share (gA z) bl h bf af th L=some f∧Fd (d+2) f∧(share=false→f.Empty=false∧f.Before=ofM z.Margin.a0∧f.After=ofM z.Margin.a2)∧(wB z→MB f):=by
  intro L bl h th bf af hbl hL ho hk hmb hma;subst hbl;obtain⟨d',e,f,g,x,h1,h2,h3,h5⟩:=Rf (KN (N+1)) (N+1) (by omega) b z L hL (b8 b,(b8 b).any da) ho (lM b z share) (l3 b z share) h th bf af;refine⟨_,h1,(MZ _ _ _ _ _ _ _ _ _ _ _).trans h2,⟨?_,?_⟩,fun hs=>?_,fun hz=>h5 hmb hma hz⟩
  ·simpa[kN]using hL
  ·intro k hkk;obtain⟨y,hy,rfl⟩:=List.mem_map.1 hkk;exact BW (Rw _ _ _ _) (hk y hy)
  ·subst hs;exact h3 rfl rfl
 cases hb:(b8 b).any da with
 | true =>
  have hall:∀k∈b.Kids,k.Kind=1∧rr d k:=by
   rcases hg.2 with h|h
   ·exact h
   ·obtain⟨k,hk,e⟩:=List.any_eq_true.1 hb;have:=h k (hsub k hk);simp[da,this]at e
  have hF:∀k∈b8 b,(KN (N+1)).mM env.Layout k z.Content=some ((eP (KN (N+1)) (N+1) k z.Content).getD default)∧eP (KN (N+1)) (N+1) k z.Content=some ((eP (KN (N+1)) (N+1) k z.Content).getD default)∧Fd (d+1) ((eP (KN (N+1)) (N+1) k z.Content).getD default)∧MB ((eP (KN (N+1)) (N+1) k z.Content).getD default):=fun k hk=>by
   obtain⟨f,h1,h2,h3⟩:=ih k (hall k (hsub k hk)).2;rw[he.1,h1,h2];exact⟨rfl,rfl,h3⟩
  simp only[if_true];have e1:=Qs (KN (N+1)) (N+1) b z (lM b z share) (l3 b z share) env (b8 b,true) (fun k=>(eP (KN (N+1)) (N+1) k z.Content).getD default) hfl (fun k hk=>(hF k hk).1) (N+1) 0 [] (by omega) (by simp only[];omega) (by simp);have e2:=NM (KN (N+1)) (N+1) b z share true (b8 b) (fun k=>(eP (KN (N+1)) (N+1) k z.Content).getD default) hfl (fun k hk=>(hF k hk).2.1) (N+1) 0 [] (by omega) (by omega) (by simp);simp only[List.nil_append,List.drop_zero]at e1 e2;obtain⟨r,hr,hrl,hrk⟩:=QZ (KN (N+1)) (N+1) ((b8 b).map fun k=>(eP (KN (N+1)) (N+1) k z.Content).getD default) (by simp;omega) (by simp;omega);rw[show n4 (KN (N+1)) (N+1) b z (lM b z share) (l3 b z share) env (b8 b,true) (N+1) 0 []=_ from e1,show jE (KN (N+1)) (N+1) b z share (gA z) true (b8 b) (N+1) 0 []=_ from e2,Pw,hr];simp only[Option.bind_some,Option.map_some,uo];rw[List.length_map]at hrl;have:=fin r.1 true r.2.1 r.2.2.2.2 r.2.2.1 r.2.2.2.1 hb.symm (by omega) (fun _=>⟨by omega,fun k hk=>by simp[da,(hall k (hsub k hk)).1]⟩) (fun f hf=>by
   obtain⟨g,hg',e⟩:=hrk f hf;obtain⟨k,hk,rfl⟩:=List.mem_map.1 hg';exact BW e (hF k hk).2.2.1) (CW _ _ _ (fun f hf=>by
   obtain⟨k,hk,rfl⟩:=List.mem_map.1 hf;exact(hF k hk).2.2.2) hr).1 (CW _ _ _ (fun f hf=>by
   obtain⟨k,hk,rfl⟩:=List.mem_map.1 hf;exact(hF k hk).2.2.2) hr).2
  rw[hb]at this;exact this
 | false =>
  simp only[Bool.false_eq_true,if_false];have hLn:(KN (N+1)).pL env.Lines (b8 b) b.Style z.Content=some (fe b.Style z.Content (b8 b) 0 []):=by
   rw[he.2];exact Cz (KN N) N (b8 b) b.Style z.Content hfl hN
  obtain⟨l1,l2⟩:=zA b.Style z.Content (b8 b) 0 [] (by simp);simp only[List.length_nil,Nat.zero_add]at l1;have hcl:ld (KN (N+1)) (N+1) (fe b.Style z.Content (b8 b) 0 []).1=some (fe b.Style z.Content (b8 b) 0 []).1:=by
   exact T8 _ _ _ (by omega)
  rw[hLn,Cz _ _ (b8 b) b.Style z.Content hfl (by omega)];simp only[Option.bind_some,hcl];have:=fin (fe b.Style z.Content (b8 b) 0 []).1 false (fe b.Style z.Content (b8 b) 0 []).2 (((fe b.Style z.Content (b8 b) 0 []).1.length:Int) == 0) cp cp hb.symm (by omega) (fun h=>by cases h) (fun f hf=>Uw (l2 f hf)) (by decide) (by decide);rw[hb]at this;exact this
end Go.Proofs.YtnpmlepplfaijaaGreat
namespace Go.Proofs.YtnpmlepplfaijaaGreat
set_option linter.all false
open Go.RowKit
theorem zy(l:cj)(w:Int):c6 l (gK w)=c6 l w:=by
 unfold c6 gK;have e:min (max (min (max w 0) 1048576) 0) 1048576=min (max w 0) 1048576:=by omega
 rw[e]
theorem Rx(s:aJ)(w c:Int):gE s (gK w) c=gE s w c:=by unfold gE;simp only[zy]
theorem HV(s:aJ)(w c:Int):nM s (gK w) c=nM s w c:=by unfold nM;simp only[zy]
def bA(l:cj):cj:=if l.Kind=2 then ff else l
def wd(s:aJ):aJ:={ s with Width:=bA s.Width,MinWidth:=bA s.MinWidth,MaxWidth:=bA s.MaxWidth,Margin:=⟨bA s.Margin.a0,bA s.Margin.a1,bA s.Margin.a2,bA s.Margin.a3⟩,Padding:=⟨bA s.Padding.a0,bA s.Padding.a1,bA s.Padding.a2,bA s.Padding.a3⟩ }
section
variable(K:Kn)(n:Nat)
theorem gU{α:Type}(l:cj)(f:cj→α)(y:α)(hy:y=f l):(if (l.Kind == 2)=true then f ff else y)=f (bA l):=by
 unfold bA;by_cases h:l.Kind=2
 ·simp[h]
 ·simp[h,hy]
theorem V0(s:aJ):mr K n s=some (wd s):=by
 unfold mr;refine (gU s.Width (fun l=>oi K n { s with Width:=l }) _ rfl).trans ?_;unfold oi;refine (gU s.MinWidth (fun l=>ni K n { s with Width:=bA s.Width,MinWidth:=l }) _ rfl).trans ?_;unfold ni;refine (gU s.MaxWidth (fun l=>n8 K n { s with Width:=bA s.Width,MinWidth:=bA s.MinWidth,MaxWidth:=l }) _ rfl).trans ?_;unfold n8;refine (gU s.Margin.a0 (fun l=>nl K n { s with Width:=bA s.Width,MinWidth:=bA s.MinWidth,MaxWidth:=bA s.MaxWidth,Margin:=⟨l,s.Margin.a1,s.Margin.a2,s.Margin.a3⟩ }) _ rfl).trans ?_;unfold nl;refine (gU s.Padding.a0 (fun l=>nD K n { s with Width:=bA s.Width,MinWidth:=bA s.MinWidth,MaxWidth:=bA s.MaxWidth,Margin:=⟨bA s.Margin.a0,s.Margin.a1,s.Margin.a2,s.Margin.a3⟩,Padding:=⟨l,s.Padding.a1,s.Padding.a2,s.Padding.a3⟩ }) _ rfl).trans ?_;unfold nD;refine (gU s.Margin.a1 (fun l=>oc K n { s with Width:=bA s.Width,MinWidth:=bA s.MinWidth,MaxWidth:=bA s.MaxWidth,Margin:=⟨bA s.Margin.a0,l,s.Margin.a2,s.Margin.a3⟩,Padding:=⟨bA s.Padding.a0,s.Padding.a1,s.Padding.a2,s.Padding.a3⟩ }) _ rfl).trans ?_
 unfold oc;refine (gU s.Padding.a1 (fun l=>oF K n { s with Width:=bA s.Width,MinWidth:=bA s.MinWidth,MaxWidth:=bA s.MaxWidth,Margin:=⟨bA s.Margin.a0,bA s.Margin.a1,s.Margin.a2,s.Margin.a3⟩,Padding:=⟨bA s.Padding.a0,l,s.Padding.a2,s.Padding.a3⟩ }) _ rfl).trans ?_;unfold oF;refine (gU s.Margin.a2 (fun l=>ow K n { s with Width:=bA s.Width,MinWidth:=bA s.MinWidth,MaxWidth:=bA s.MaxWidth,Margin:=⟨bA s.Margin.a0,bA s.Margin.a1,l,s.Margin.a3⟩,Padding:=⟨bA s.Padding.a0,bA s.Padding.a1,s.Padding.a2,s.Padding.a3⟩ }) _ rfl).trans ?_;unfold ow;refine (gU s.Padding.a2 (fun l=>nk K n { s with Width:=bA s.Width,MinWidth:=bA s.MinWidth,MaxWidth:=bA s.MaxWidth,Margin:=⟨bA s.Margin.a0,bA s.Margin.a1,bA s.Margin.a2,s.Margin.a3⟩,Padding:=⟨bA s.Padding.a0,bA s.Padding.a1,l,s.Padding.a3⟩ }) _ rfl).trans ?_;unfold nk;refine (gU s.Margin.a3 (fun l=>oa K n { s with Width:=bA s.Width,MinWidth:=bA s.MinWidth,MaxWidth:=bA s.MaxWidth,Margin:=⟨bA s.Margin.a0,bA s.Margin.a1,bA s.Margin.a2,l⟩,Padding:=⟨bA s.Padding.a0,bA s.Padding.a1,bA s.Padding.a2,s.Padding.a3⟩ }) _ rfl).trans ?_
 unfold oa;refine (gU s.Padding.a3 (fun l=>qe K n { s with Width:=bA s.Width,MinWidth:=bA s.MinWidth,MaxWidth:=bA s.MaxWidth,Margin:=⟨bA s.Margin.a0,bA s.Margin.a1,bA s.Margin.a2,bA s.Margin.a3⟩,Padding:=⟨bA s.Padding.a0,bA s.Padding.a1,bA s.Padding.a2,l⟩ }) _ rfl).trans ?_;rfl
def nn:List aj→Int→Int→Int×Int
 | [],a,b=>(a,b)
 | k::r,a,b=>nn r (max a (ab (8*(k.Text.size:Int)))) (ab (b+ab (8*(k.Text.size:Int))))
theorem Sj(L:List aj)(hL:L.length≤20):∀(m i:Nat) (a b:Int),i≤L.length→L.length<m+i→iL K n L m a b i=some (nn (L.drop i) a b):=by
 intro m
 induction m with
 | zero=>intro i a b h1 h2;omega
 | succ m ih =>
  intro i a b h1 h2;simp only[iL,gl];by_cases hi:i<L.length
  ·rw[drop_at' hi];simp only[im hi,if_true,gb hi,bm,Int.toNat_natCast,g6 (show i<1000000 by omega),nn];exact ih (i+1) _ _ (by omega) (by omega)
  ·have e:i=L.length:=by omega
   subst e;simp only[gT (Nat.le_refl _),Bool.false_eq_true,if_false,List.drop_length,nn]
theorem GJ(L:List aj)(s:aJ)(hL:L.length≤20)(hn:20<n):iA K n L s=some (nn L 0 0) :=
 (Sj K n L hL n 0 0 0 (by omega) (by omega)).trans (by simp only[List.drop_zero])
end
end Go.Proofs.YtnpmlepplfaijaaGreat
