/- Plain laws about the plain functions: words for all of them. No program in sight. -/
import Derived.Test.YtnpmlepplfaijaaDoorInGf
import Derived.Lib.TrimUEq
import Derived.Laws.BitsLemmas
import Derived.Lib.ValidLaws
import Derived.Test.YtnpmlepplfaijaaDoorInGop
namespace Go.Proofs.YtnpmlepplfaijaaDoor
set_option linter.all false
open Go.RowKit
theorem cb{n:Int}(h1 : -9223372036854775808≤n)(h2:n≤9223372036854775807):aa n=n:=by
 unfold aa;rw[IntKind.wrap_i64];omega
theorem bA{α:Type}(x:Option α):aR true x=x:=rfl
theorem cI{i:Int}{n:Nat}(h0:0≤i)(h1:i<n):bh i n=true:=by simp[bh,h0,h1]
theorem bR{α:Type}[Inhabited α]{L:List α}{k:Nat}(h:k<L.length):L.getD k default=L[k]:=by simp[List.getD_eq_getElem?_getD,List.getElem?_eq_getElem h]
theorem eC{n b:Nat}(h:n*b≤140737488355328)(hb:0<b):fits n b=true:=by
 have h1:n≤n*b:=Nat.le_mul_of_pos_right n hb;have h2:n≤9223372036854775807:=by omega
 simp only[fits,Bool.and_eq_true,decide_eq_true_eq];exact⟨h2,h⟩
end Go.Proofs.YtnpmlepplfaijaaDoor
namespace Go.Proofs.YtnpmlepplfaijaaDoor
set_option linter.all false
open Go.RowKit
def cz(r:Int):List UInt8:=(Utf8.encode r).data.toList
def b8(r:Int):Prop:=(0≤r∧r<55296)∨(57344≤r∧r≤1114111)
theorem Hc{r:Int}(h:b8 r):Utf8.valid r=true:=by
 unfold b8 at h;unfold Utf8.valid;simp only[Bool.or_eq_true,Bool.and_eq_true,decide_eq_true_eq];omega
theorem dp{n:Nat}(h:n<256):(UInt8.ofNat n).toNat=n:=by rw[UInt8.toNat_ofNat',Nat.mod_eq_of_lt h]
theorem qi {r:Int} (h:b8 r):∃ c:Nat,r=(c:Int) ∧
    ((c<128∧cz r=[UInt8.ofNat c])∨(128≤c∧c<2048∧cz r=[UInt8.ofNat (192+c / 64),UInt8.ofNat (128+c % 64)]) ∨
     (2048≤c∧c<65536∧(c<55296∨57344≤c)∧cz r=[UInt8.ofNat (224+c / 4096),UInt8.ofNat (128+c / 64 % 64),UInt8.ofNat (128+c % 64)]) ∨
     (65536≤c∧c≤1114111∧cz r=[UInt8.ofNat (240+c / 262144),UInt8.ofNat (128+c / 4096 % 64),UInt8.ofNat (128+c / 64 % 64),UInt8.ofNat (128+c % 64)])):=by
  refine⟨r.toNat,by unfold b8 at h;omega,?_⟩;unfold cz Utf8.encode;simp only[Hc h,if_true];unfold b8 at h;generalize hc:r.toNat=c at *;by_cases h1:c<128
  · left;simp[h1]
  · by_cases h2:c<2048
    · right;left;simp[h1,h2];omega
    · by_cases h3:c<65536
      · right;right;left;simp[h1,h2,h3];omega
      · right;right;right;simp[h1,h2,h3];omega
theorem uT{r:Int}(h:b8 r)(t:List UInt8):Lib.decodeL (cz r++t)=(r.toNat,(cz r).length):=by
 obtain⟨c,rfl,h|h|h|h⟩:=qi h
 ·rw[h.2,Lib.decodeL_N];simp only[List.cons_append,List.nil_append,List.getD_cons_zero,dp (show c<256 by omega),Int.toNat_natCast,List.length_cons,List.length_nil];unfold Lib.decodeN;rw[if_pos h.1]
 ·rw[h.2.2,Lib.decodeL_N];simp only[List.cons_append,List.nil_append,List.getD_cons_zero,List.getD_cons_succ,dp (show 192+c / 64<256 by omega),dp (show 128+c % 64<256 by omega),Int.toNat_natCast,List.length_cons,List.length_nil];unfold Lib.decodeN;rw[if_neg (by omega),if_pos (by omega),if_pos (by omega)];congr 1;omega
 ·rw[h.2.2.2,Lib.decodeL_N];simp only[List.cons_append,List.nil_append,List.getD_cons_zero,List.getD_cons_succ,dp (show 224+c / 4096<256 by omega),dp (show 128+c / 64 % 64<256 by omega),dp (show 128+c % 64<256 by omega),Int.toNat_natCast,List.length_cons,List.length_nil];unfold Lib.decodeN;rw[if_neg (by omega),if_neg (by omega),if_pos (by omega),if_pos (by omega)];congr 1;omega
 ·rw[h.2.2,Lib.decodeL_N];simp only[List.cons_append,List.nil_append,List.getD_cons_zero,List.getD_cons_succ,dp (show 240+c / 262144<256 by omega),dp (show 128+c / 4096 % 64<256 by omega),dp (show 128+c / 64 % 64<256 by omega),dp (show 128+c % 64<256 by omega),Int.toNat_natCast,List.length_cons,List.length_nil];unfold Lib.decodeN;rw[if_neg (by omega),if_neg (by omega),if_neg (by omega),if_pos (by omega),if_pos (by omega)];congr 1;omega
theorem pj{r:Int}(h:b8 r):1≤(cz r).length∧(cz r).length≤4:=by
 obtain⟨c,_,h|h|h|h⟩:=qi h
 ·rw[h.2];simp
 ·rw[h.2.2];simp
 ·rw[h.2.2.2];simp
 ·rw[h.2.2];simp
theorem Db(n b0 b1 b2 b3:Nat):b8 ((Lib.decodeN n b0 b1 b2 b3).1:Int):=by
 unfold Lib.decodeN b8
 repeat' split
 all_goals simp only[]
 all_goals omega
theorem Da(l:List UInt8):b8 ((Lib.decodeL l).1:Int):=by rw[Lib.decodeL_N];exact Db _ _ _ _ _
def eV:Nat→List UInt8→List Int
 | 0,_=>[]
 | n+1,l=>if l.isEmpty=true then [] else ((Lib.decodeL l).1:Int)::eV n (l.drop (Lib.decodeL l).2)
theorem FV:∀(n m:Nat) (l:List UInt8),l.length≤n→l.length≤m→eV n l=eV m l:=by
 intro n
 induction n with
 | zero =>
  intro m l h1 h2;have:l=[]:=List.eq_nil_of_length_eq_zero (by omega);subst this;cases m<;>simp[eV]
 | succ n ih =>
  intro m l h1 h2;cases m with
  | zero =>
   have:l=[]:=List.eq_nil_of_length_eq_zero (by omega);subst this;simp[eV]
  | succ m =>
   unfold eV;split
   ·rfl
   ·have:=Lib.decodeL_width l;rw[ih m _ (by simp;omega) (by simp;omega)]
def ew(l:List UInt8):List Int:=eV l.length l
theorem Hu:ew []=[]:=rfl
theorem pb{l:List UInt8}(h:l≠[]):ew l=((Lib.decodeL l).1:Int)::ew (l.drop (Lib.decodeL l).2):=by
 unfold ew;cases l with
 | nil=>exact absurd rfl h
 | cons x r =>
  have:=Lib.decodeL_width (x::r);rw[show eV (x::r).length (x::r)=((Lib.decodeL (x::r)).1:Int)::eV r.length ((x::r).drop (Lib.decodeL (x::r)).2) from rfl];rw[FV r.length _ _ (by simp;omega) (Nat.le_refl _)]
theorem Jl{r:Int}(h:b8 r)(t:List UInt8):ew (cz r++t)=r::ew t:=by
 have hl:=pj h;rw[pb (by intro e;rw[List.append_eq_nil_iff]at e;rw[e.1]at hl;simp at hl),uT h t];simp only[List.drop_left];congr 1;unfold b8 at h;omega
def b9(rs:List Int):List UInt8:=rs.flatMap cz
theorem Bx(r:Int)(rs:List Int):b9 (r::rs)=cz r++b9 rs:=by simp[b9]
theorem qm(a b:List Int):b9 (a++b)=b9 a++b9 b:=by simp[b9]
theorem Ch:∀{rs:List Int} (t:List UInt8),(∀r∈rs,b8 r)→ew (b9 rs++t)=rs++ew t
 | [],t,_=>rfl
 | r::rs,t,h=>by
  rw[Bx,List.append_assoc,Jl (h r (by simp)),Ch t (fun x hx=>h x (by simp[hx]))];rfl
theorem Gn{rs:List Int}(h:∀r∈rs,b8 r):ew (b9 rs)=rs:=by
 have:=Ch [] h;simpa[Hu]using this
theorem zB:∀(n:Nat) (l:List UInt8),∀r∈eV n l,b8 r
 | 0,_,r,h=>by cases h
 | n+1,l,r,h=>by
  unfold eV at h;split at h
  ·cases h
  ·rcases List.mem_cons.1 h with rfl|h
   ·exact Da l
   ·exact zB n _ r h
theorem Fg{l:List UInt8}:∀r∈ew l,b8 r:=zB _ _
theorem xt:∀(n:Nat) (l:List UInt8),(eV n l).length≤n
 | 0,_=>by simp[eV]
 | n+1,l=>by
  unfold eV;split
  ·simp
  ·have:=xt n (l.drop (Lib.decodeL l).2);simp;omega
theorem JO(l:List UInt8):(ew l).length≤l.length:=xt _ _
def cp(b:ByteArray)(p:Nat):List Int:=ew (b.data.toList.drop p)
theorem eI(b:ByteArray):b.data.toList.length=b.size:=rfl
theorem w5{b:ByteArray}{p:Nat}(h:¬ p<b.size):cp b p=[]:=by
 unfold cp;rw[List.drop_eq_nil_of_le (by rw[eI];omega)];rfl
theorem Cp{b:ByteArray}{p:Nat}(h:p<b.size):cp b p=((Utf8.decode b p).1:Int)::cp b (p+(Utf8.decode b p).2):=by
 unfold cp;rw[pb (by intro e;have:=congrArg List.length e;simp at this;have h2:=eI b;simp at h2;omega),Lib.decodeL_drop,List.drop_drop]
theorem zJ(b:ByteArray)(p:Nat):1≤(Utf8.decode b p).2:=by rw[←Lib.decodeL_drop];exact Lib.decodeL_width _
end Go.Proofs.YtnpmlepplfaijaaDoor
namespace Go.Proofs.YtnpmlepplfaijaaDoor
set_option linter.all false
open Go.RowKit
def ints(l:List UInt8):List Int:=l.map fun b=>(b.toNat:Int)
theorem D5(a b:List UInt8):ints (a++b)=ints a++ints b:=by simp[ints]
theorem H2(a:List UInt8):(ints a).length=a.length:=by simp[ints]
theorem Ia(x y:Int):ey .u8 x y=bits .and .u8 x y:=rfl
theorem qw(x y:Int):dn .u8 x y=bits .or .u8 x y:=rfl
theorem w8{n:Int}(h:0≤n∧n<256):IntKind.wrap .u8 n=n:=by rw[IntKind.wrap_u8];omega
theorem kv(y:Int):dn .u8 128 (ey .u8 (IntKind.wrap .u8 y) 63)=128+y % 64:=by
 have h:0≤IntKind.wrap .u8 y∧IntKind.wrap .u8 y<256:=by rw[IntKind.wrap_u8];omega
 rw[Ia,u8_and63 _ h.1 h.2,qw,u8_or128 _ (by omega) (by omega),IntKind.wrap_u8];omega
section
variable{K:Kn}{n:Nat}
theorem Ea{r:Int}(h:b8 r){L:List Int}(hL:L.length≤1000000):lD K n r L=some (L++ints (cz r)):=by
 have h32:IntKind.wrap .u32 r=r:=by rw[IntKind.wrap_u32];unfold b8 at h;omega
 unfold lD;rw[h32];obtain⟨c,rfl,hc|hc|hc|hc⟩:=qi h
 ·rw[if_pos (by simp;omega),eC (by simp;omega) (by omega),bA,hc.2,w8 (by omega)];simp only[ints,List.map_cons,List.map_nil,dp (show c<256 by omega)]
 ·rw[if_neg (by simp;omega)];unfold ly;rw[h32,if_pos (by simp;omega),eC (by simp;omega) (by omega),bA,hc.2.2];simp only[Option.bind_some,ints,List.map_cons,List.map_nil,dp (show 192+c / 64<256 by omega),dp (show 128+c % 64<256 by omega)];rw[w8 (n:=(c:Int) / 64) (by omega),qw 192,u8_or192 _ (by omega) (by omega),kv];congr 3<;>omega
 ·rw[if_neg (by simp;omega)];unfold ly;rw[h32,if_neg (by simp;omega)];have hj:hJ K n (c:Int) L true=some (L++ints (cz (c:Int))):=by
   unfold hJ;rw[if_pos rfl,eC (by simp;omega) (by omega),bA,hc.2.2.2];simp only[ints,List.map_cons,List.map_nil,dp (show 224+c / 4096<256 by omega),dp (show 128+c / 64 % 64<256 by omega),dp (show 128+c % 64<256 by omega)];rw[w8 (n:=(c:Int) / 4096) (by omega),qw 224,u8_or224 _ (by omega) (by omega),kv,kv];congr 3<;>omega
  by_cases h1:(c:Int)<55296
  ·rw[if_pos (by simpa using h1),hj];rfl
  ·rw[if_neg (by simpa using h1),if_pos (by simp;omega),show decide ((c:Int)≤65535)=true by simp;omega,hj];rfl
 ·rw[if_neg (by simp;omega)];unfold ly;rw[h32,if_neg (by simp;omega),if_neg (by simp;omega),if_pos (by simp;omega),show decide ((c:Int)≤65535)=false by simp;omega];unfold hJ;rw[h32,if_neg (by simp),if_pos (by simp;omega),show decide ((c:Int)≤1114111)=true by simp;omega];unfold nT;rw[if_pos rfl,eC (by simp;omega) (by omega),bA,hc.2.2];simp only[Option.bind_some,ints,List.map_cons,List.map_nil,dp (show 240+c / 262144<256 by omega),dp (show 128+c / 4096 % 64<256 by omega),dp (show 128+c / 64 % 64<256 by omega),dp (show 128+c % 64<256 by omega)];rw[w8 (n:=(c:Int) / 262144) (by omega),qw 240,u8_or240 _ (by omega) (by omega),kv,kv,kv];congr 3<;>omega
theorem FR{r:Int}(h:b8 r){L:List Int}(hL:L.length≤1000000)(b:Bool):∃x,js K n r b L=some (x,(),L++ints (cz r)):=by
 unfold js;rw[Ea h hL];cases b
 ·exact⟨_,rfl⟩
 ·exact⟨_,rfl⟩
end
theorem G7{l:List UInt8}(h:l≠[]):jb (ints l)=true:=by
 unfold jb ints;rw[Bool.and_eq_true];refine⟨?_,by cases l;exact absurd rfl h;rfl⟩;rw[List.all_eq_true];intro n hn;obtain⟨b,_,rfl⟩:=List.mem_map.1 hn;have:=UInt8.toNat_lt b;simp;omega
theorem Iy(l:List UInt8):bytesOf (ints l)=⟨l.toArray⟩:=by
 unfold bytesOf ints;rw[List.map_map];congr 2
 conv=>rhs;rw[←List.map_id l]
 refine List.map_congr_left fun b _=>?_;simp
end Go.Proofs.YtnpmlepplfaijaaDoor
namespace Go.Proofs.YtnpmlepplfaijaaDoor
set_option linter.all false
open Go.RowKit
noncomputable section
def er(r:Int):Bool:=r == 9||(r == 10||(r == 13||r == 32))
def gT(r:Int):Int:=(fv (KN 0) 0 r).getD 0
def ma(s:Int):Int:=min (max s 0) 1048576
def eh(r s:Int):Int:=aa (Int.tdiv (aa ((aa (gT r*ma s))+15)) 16)
def jG(a b:Int):Bool:=bif er b||gT b == 0 then false else bif er a then true else bif a == 45&&b != 45 then true else decide (a≥11904)||decide (b≥11904)
def eG(e:ao):Bool:=e.Kind == 1&&(e.Box.Style.WhiteSpace != 1&&e.Box.Style.WhiteSpace != 2)
def db(a b:ao):Bool :=
 bif a.Kind == 3||b.Kind == 3 then (a.Kind == 3||eG a)&&(b.Kind == 3||eG b)
 else bif a.Kind != 1||(b.Kind != 1||(!eG a||(a.Char != 32&&!eG b))) then false else jG a.Char b.Char
def jO{α:Type}(x:Option α):Prop:=∃u,x=some u
theorem wb{α:Type}(u:α):jO (some u):=⟨u,rfl⟩
theorem sT{α:Type}{c:Prop}[Decidable c]{x y:Option α}(h1:jO x)(h2:jO y):jO (if c then x else y):=by split;exact h1;exact h2
section
variable(K:Kn)(n:Nat)
theorem Ci(r:Int):lc K n r=some (er r):=by
 unfold lc er;cases h1:(r == 9)<;>cases h2:(r == 10)<;>cases h3:(r == 13)<;>cases h4:(r == 32)<;>simp[jr]
theorem FY(r:Int):jO (fv K n r):=by
 unfold fv fx;simp only[dW,dL,gn,lG]
 repeat first|exact wb _|apply sT
theorem B3(r:Int):fv K n r=some (gT r):=by
 obtain⟨u,hu⟩:=FY K n r;have e:fv (KN 0) 0 r=fv K n r:=rfl;unfold gT;rw[e,hu];rfl
theorem ym(r s:Int):ia K n r s=some (eh r s):=by
 unfold ia;rw[B3];rfl
theorem HA(a b:Int):n0 K n a b=some (jG a b):=by
 unfold n0 jG;rw[Ci,B3];simp only[Option.bind_some];have h1:iZ K n a b true=some false:=rfl;have h2:iZ K n a b false=some (bif er a then true else bif a == 45&&b != 45 then true else decide (a≥11904)||decide (b≥11904)):=by
  unfold iZ;rw[if_neg (by simp),Ci];simp only[Option.bind_some];cases er a with
  | true=>simp
  | false =>
   simp only[Bool.false_eq_true,if_false,cond_false];unfold n9 mb;cases h3:(a == 45)<;>cases h4:(b != 45)<;>cases h5:decide (a≥11904)<;>simp
 cases er b with
 | true=>rw[if_pos rfl,h1];rfl
 | false =>
  rw[if_neg (by simp)];cases (gT b == 0) with
  | true=>rw[h1];rfl
  | false=>rw[h2];rfl
theorem yC(e:ao):g9 K n e=some (eG e):=by
 unfold g9 eG lL;cases h1:(e.Kind == 1)<;>cases h2:(e.Box.Style.WhiteSpace != 1)<;>simp
end
theorem kC(a b:ByteArray):(a++b).data.toList=a.data.toList++b.data.toList:=by
 rw[ByteArray.data_append,Array.toList_append]
theorem Hz(a b:Int):(runesBytes [a,b]).data.toList=cz a++cz b:=by
 unfold runesBytes;simp only[List.foldl_cons,List.foldl_nil];rw[kC,kC];rfl
theorem GR(K:Kn){n:Nat}(hn:3≤n){a b:Int}(ha:b8 a)(hb:b8 b):∃l,nH K n (runesBytes [a,b])=some l∧decide ((l.length:Int)>0)=jG a b:=by
 generalize hB:runesBytes [a,b]=B;have hl:B.data.toList=cz a++cz b:=by rw[←hB];exact Hz a b
 have la:=pj ha;have lb:=pj hb;have hs:B.size=(cz a).length+(cz b).length:=by rw[←eI,hl,List.length_append]
 have d0:Utf8.decode B 0=(a.toNat,(cz a).length):=by
  rw[←Lib.decodeL_drop,List.drop_zero,hl,uT ha]
 have d1:Utf8.decode B (cz a).length=(b.toNat,(cz b).length):=by
  rw[←Lib.decodeL_drop,hl,List.drop_left];have:=uT hb [];rwa[List.append_nil]at this
 have ea:((a.toNat:Nat):Int)=a:=by unfold b8 at ha;omega
 have eb:((b.toNat:Nat):Int)=b:=by unfold b8 at hb;omega
 obtain⟨m,rfl⟩:∃m,n=m+3:=⟨n-3,by omega⟩;unfold nH;show ∃l,fX K (m+3) B (iR K (m+3) B (m+2)) 0 0 []=some l∧_;unfold fX;rw[if_pos (by simp;omega),if_neg (by simp)];unfold jj;rw[if_neg (by simp)];unfold i8;rw[d0];simp only[Nat.zero_add,ea];show ∃l,fX K (m+3) B (iR K (m+3) B (m+1)) a (cz a).length []=some l∧_;unfold fX;rw[if_pos (by simp;omega),if_pos (by simp;omega),d1];simp only[eb];rw[HA];simp only[Option.bind_some];have fin:∀(x:Int) (l:List Int),iR K (m+3) B (m+1) x ((cz a).length+(cz b).length) l=some l:=fun x l=>by
  show fX K (m+3) B (iR K (m+3) B m) x _ l=some l;unfold fX;rw[if_neg (by simp;omega)]
 cases hbt:jG a b with
 | true =>
  unfold jj;rw[if_pos rfl,eC (by simp) (by omega),bA];unfold i8;rw[d1];simp only[];rw[fin];exact⟨_,rfl,by simp⟩
 | false =>
  unfold jj;rw[if_neg (by simp)];unfold i8;rw[d1];simp only[];rw[fin];exact⟨_,rfl,by simp⟩
theorem xc(K:Kn){n:Nat}(hn:3≤n){a b:ao}(ha:b8 a.Char)(hb:b8 b.Char):li K n a b=some (db a b):=by
 obtain⟨l,h1,h2⟩:=GR K hn ha hb;have jt:fS K n a b true=some false:=rfl;have jf:fS K n a b false=some (jG a.Char b.Char):=by
  unfold fS;rw[if_neg (by simp),h1];simp only[Option.bind_some];rw[h2]
 unfold li db;have k1:ij K n a b true=some ((a.Kind == 3||eG a)&&(b.Kind == 3||eG b)):=by
  unfold ij il;simp only[yC,Option.bind_some];cases h3:(a.Kind == 3)<;>cases h4:(b.Kind == 3)<;>cases h5:eG a<;>cases h6:eG b<;>simp
 have k2:ij K n a b false=some (bif a.Kind != 1||(b.Kind != 1||(!eG a||(a.Char != 32&&!eG b))) then false else jG a.Char b.Char):=by
  unfold ij;simp only[yC,Option.bind_some,jt];cases h3:(a.Kind != 1)<;>cases h4:(b.Kind != 1)<;>cases h5:eG a<;>cases h6:(a.Char != 32)<;>cases h7:eG b<;>simp[jt,jf]
 cases h3:(a.Kind == 3) with
 | true=>rw[if_pos rfl,k1,h3];rfl
 | false =>
  rw[if_neg (by simp)];cases h4:(b.Kind == 3) with
  | true=>rw[k1,h3,h4];rfl
  | false=>rw[k2];rfl
def fM(s acc:Int):List Int→Int
 | []=>acc
 | r::t=>fM s (aa (acc+eh r s)) t
theorem H6(K:Kn)(n:Nat)(b:ByteArray)(s:Int):∀(m:Nat) (acc:Int) (p:Nat),b.size-p<m→lQ K n b s m acc p=some (fM s acc (cp b p)):=by
 intro m
 induction m with
 | zero=>intro acc p h;omega
 | succ m ih =>
  intro acc p h;show lz K n b s (lQ K n b s m) acc p=_;unfold lz;by_cases hp:p<b.size
  ·have:=zJ b p;rw[if_pos (by simpa using hp),ym,Cp hp];simp only[Option.bind_some,fM];exact ih _ _ (by omega)
  ·rw[if_neg (by simpa using hp),w5 hp];rfl
theorem yE(K:Kn){n:Nat}(b:ByteArray)(s:Int)(hn:b.size<n):i7 K n b s=some (fM s 0 (cp b 0)):=by
 unfold i7;exact H6 K n b s n 0 0 (by omega)
def dh(s:aH):Int×Int:=(gQ (KN 0) 0 s).getD default
theorem uc(K:Kn)(n:Nat)(s:aH):gQ K n s=some (dh s):=rfl
def aX(x:List ao):List Int:=x.map fun e=>e.Char
def cR(x:List ao):Bool:=(x.getD (x.length-1) default).Soft
def cS(x:List ao):List Int:=bif cR x then (aX x).dropLast else aX x
def dc(rs:List Int):ByteArray:=⟨(b9 rs).toArray⟩
def dd(x:List ao):aH:=(x.getD 0 default).Box.Style
def ce(x:List ao):aw :=
 { cy with Text:=dc (aX x),Width:=fM (dd x).FontSize 0 (cS x),Space:=bif cR x then eh 32 (dd x).FontSize else 0,Above:=(dh (dd x)).1,Below:=(dh (dd x)).2 }
theorem l4{rs:List Int}(h:∀r∈rs,b8 r):rs.length≤(b9 rs).length∧(b9 rs).length≤4*rs.length:=by
 induction rs with
 | nil=>simp[b9]
 | cons r t ih =>
  have:=pj (h r (by simp));have:=ih (fun x hx=>h x (by simp[hx]));rw[Bx,List.length_append,List.length_cons];omega
theorem qP(rs:List Int):(dc rs).size=(b9 rs).length:=by unfold dc;rfl
theorem le(rs:List Int):(dc rs).data.toList=b9 rs:=by unfold dc;simp
theorem BD{rs:List Int}(h:∀r∈rs,b8 r):cp (dc rs) 0=rs:=by
 unfold cp;rw[List.drop_zero,le,Gn h]
theorem GB{rs:List Int}(h0:rs≠[])(h:rs.getLast h0=32):b9 rs=b9 rs.dropLast++[32]:=by
 conv=>lhs;rw[←List.dropLast_concat_getLast h0]
 rw[qm,h];rfl
theorem xG{rs:List Int}(h0:rs≠[])(h:rs.getLast h0=32):(dc rs).extract 0 ((dc rs).size-1)=dc rs.dropLast:=by
 have e:=GB h0 h;have hs:(dc rs).size=(b9 rs.dropLast).length+1:=by rw[qP,e];simp
 apply ByteArray.ext;apply Array.ext';rw[ByteArray.data_extract,Array.toList_extract,le,le,hs,e];simp
structure fY(e:ao):Prop where
 ch:b8 e.Char
 soft:e.Soft=true→e.Char=32
theorem qX{x:List ao}(h:∀e∈x,fY e):∀r∈aX x,b8 r:=by
 intro r hr;obtain⟨e,he,rfl⟩:=List.mem_map.1 hr;exact(h e he).ch
section
variable{K:Kn}{n:Nat}{x:List ao}
theorem Az(hx:x≠[])(hl:x.length≤2000)(ho:∀e∈x,fY e)(hn:8010≤n)(b:Bool):lf K n x (ints (b9 (aX x))) b=some (ce x):=by
 have h0:0<x.length:=List.length_pos_iff.2 hx;have hc:aX x≠[]:=by unfold aX;simp[hx]
 have hcl:(aX x).length=x.length:=by unfold aX;simp
 have hok:=qX ho;have hle:=l4 hok;have hne:b9 (aX x)≠[]:=by intro e;rw[e]at hle;have:=hle.1;simp only[List.length_nil]at this;omega
 have e1:aa ((x.length:Int)-1)=((x.length-1:Nat):Int):=by rw[cb (by omega) (by omega)];omega
 have hb:bytesOf (ints (b9 (aX x)))=dc (aX x):=Iy _;have hsz:(dc (aX x)).size=(b9 (aX x)).length:=qP _;have e2:aa (((dc (aX x)).size:Int)-1)=(((dc (aX x)).size-1:Nat):Int):=by rw[cb (by omega) (by omega)];omega
 have key:∀(v10:aH) (Y:ByteArray→Int→Option aw),(∀v14 v15,Y v14 v15=(i7 K n v14 v10.FontSize).bind fun v16=>(gQ K n v10).bind fun v17=>some ({ cy with Text:=bytesOf (ints (b9 (aX x))),Width:=v16,Space:=v15,Above:=v17.1,Below:=v17.2 }:aw))→v10=dd x →
   aR (jb (ints (b9 (aX x)))) (aR (bh (aa ((x.length:Int)-1)) x.length) ((some ((List.getD x ((aa ((x.length:Int)-1))).toNat default).Soft)).bind fun v11 =>
    if v11=true then aR (cW (0:Int) (aa (((bytesOf (ints (b9 (aX x)))).size:Int)-1)) (bytesOf (ints (b9 (aX x)))).size) ((some (ByteArray.extract (bytesOf (ints (b9 (aX x)))) (0:Int).toNat ((aa (((bytesOf (ints (b9 (aX x)))).size:Int)-1))).toNat)).bind fun v12=>(ia K n 32 v10.FontSize).bind fun v13=>Y v12 v13)
    else Y (bytesOf (ints (b9 (aX x)))) 0))=some (ce x):=by
  intro v10 Y hY hv;subst hv;rw[G7 hne,bA,e1,cI (by omega) (by omega),bA];simp only[Option.bind_some,Int.toNat_natCast];have hs:(List.getD x (x.length-1) default).Soft=cR x:=rfl;rw[hs,hb,e2];cases hso:cR x with
  | true =>
   have hlast:(aX x).getLast hc=32:=by
    have hm:x.getD (x.length-1) default∈x:=by rw[bR (by omega)];exact List.getElem_mem _
    have:=(ho _ hm).soft (by rw[hs];exact hso);rw[List.getLast_eq_getElem];unfold aX;rw[List.getElem_map];rw[bR (by omega)]at this;simpa using this
   rw[if_pos rfl,show cW (0:Int) (((dc (aX x)).size-1:Nat):Int) (dc (aX x)).size=true by simp only[cW,Bool.and_eq_true,decide_eq_true_eq];omega,bA];simp only[Int.toNat_zero,Int.toNat_natCast];rw[xG hc hlast,ym];simp only[Option.bind_some];rw[hY,yE K (dc (aX x).dropLast) _ (by
    have h9:=l4 (rs:=(aX x).dropLast) (fun r hr=>hok r ((List.dropLast_sublist _).subset hr));rw[qP];simp at h9;omega),BD (fun r hr=>hok r ((List.dropLast_sublist _).subset hr)),uc,hb]
   simp only[Option.bind_some];unfold ce cS;rw[hso];rfl
  | false =>
   rw[if_neg (by simp),hY,yE K (dc (aX x)) _ (by omega),BD hok,uc,hb];simp only[Option.bind_some];unfold ce cS;rw[hso];rfl
 unfold lf;rw[cI (i:=(0:Int)) (by omega) (by omega)];simp only[bA,Option.bind_some];cases b with
 | true=>rw[if_pos rfl];exact key _ (fun v12 v13=>mJ K n _ _ v12 v13) (fun _ _=>rfl) rfl
 | false=>rw[if_neg (by simp)];exact key _ (fun v12 v13=>mE K n _ _ v12 v13) (fun _ _=>rfl) rfl
theorem ES(hx:x≠[])(hl:x.length≤2000)(ho:∀e∈x,fY e)(hn:8010≤n):∀(m i:Nat) (b:Bool),i≤x.length→x.length<m+i→jw K n x m (i:Int) b (ints (b9 ((aX x).take i)))=some (ce x):=by
 intro m
 induction m with
 | zero=>intro i b h1 h2;omega
 | succ m ih =>
  intro i b h1 h2;show lp K n x (jw K n x m) i b _=_;unfold lp;have hcl:(aX x).length=x.length:=by unfold aX;simp
  by_cases hi:i<x.length
  ·have hm:x.getD i default∈x:=by rw[bR hi];exact List.getElem_mem _
   have hlen:=l4 (rs:=(aX x).take i) (fun r hr=>qX ho r (List.mem_of_mem_take hr));have ht:(aX x).take (i+1)=(aX x).take i++[(x.getD i default).Char]:=by
    rw[List.take_add_one,List.getElem?_eq_getElem (by rw[hcl];exact hi),bR hi];simp[aX]
   have hr:∀b,(js K n ((List.getD x ((i:Int)).toNat default).Char) b (ints (b9 ((aX x).take i)))).bind (fun v7=>jw K n x m (aa ((i:Int)+1)) true v7.2.2)=some (ce x):=fun b=>by
    rw[Int.toNat_natCast];obtain⟨y,hy⟩:=FR (K:=K) (n:=n) (ho _ hm).ch (L:=ints (b9 ((aX x).take i))) (by rw[H2];simp at hlen;omega) b;rw[hy];simp only[Option.bind_some];rw[cb (by omega) (by omega),show(i:Int)+1=((i+1:Nat):Int) by omega,← D5];have e:b9 ((aX x).take i)++cz (x.getD i default).Char=b9 ((aX x).take (i+1)):=by
     rw[ht,qm];simp[b9]
    rw[e];exact ih (i+1) true (by omega) (by omega)
   cases b with
   | true=>rw[if_pos rfl,if_pos (by simpa using hi),cI (by omega) (by omega),bA];exact hr true
   | false=>rw[if_neg (by simp),if_pos (by simpa using hi),cI (by omega) (by omega),bA];exact hr false
  ·have ht:(aX x).take i=aX x:=List.take_of_length_le (by omega);rw[ht];cases b with
   | true=>rw[if_pos rfl,if_neg (by simpa using hi)];exact Az hx hl ho hn true
   | false=>rw[if_neg (by simp),if_neg (by simpa using hi)];exact Az hx hl ho hn false
theorem DG(hx:x≠[])(hl:x.length≤2000)(ho:∀e∈x,fY e)(hn:8010≤n):mL K n x=some (ce x):=by
 unfold mL;exact ES hx hl ho hn n 0 false (by omega) (by omega)
end
end
end Go.Proofs.YtnpmlepplfaijaaDoor
namespace Go.Proofs.YtnpmlepplfaijaaDoor
set_option linter.all false
open Go.RowKit
noncomputable section
def dB(e:ao):Bool:=e.Box.Style.WhiteSpace == 2
def cn(out:List ao):ao:=out.getD (out.length-1) default
def fd(out:List ao):Bool:=out.isEmpty||((cn out).Soft||(cn out).Kind == 2)
def eJ(out:List ao)(e:ao):List ao :=
  bif er e.Char then
    (bif dB e then (bif e.Char == 10 then out++[{ e with Kind:=2,Char:=32 }] else bif e.Char == 13 then out else out++[{ e with Char:=32 }])
     else bif fd out then out else out++[{ e with Soft:=true,Char:=32 }])
  else out++[e]
theorem yP(out:List ao)(e:ao):(eJ out e).length≤out.length+1:=by
 unfold eJ;cases er e.Char<;>cases dB e<;>cases (e.Char == 10)<;>cases (e.Char == 13)<;>cases fd out<;>simp
section
variable(K:Kn)(n:Nat)
theorem uS{out:List ao}(hl:out.length≤1000000)(e:ao):ja K n out e=some (out++[{ e with Char:=32 }]):=by
 unfold ja;rw[eC (by simp;omega) (by omega),bA]
theorem G8{out:List ao}(hl:out.length≤1000000)(e:ao):oC K n e out=some (eJ out e):=by
 have h4:∀b,gt K n e out b=some (bif b then out else out++[{ e with Soft:=true,Char:=32 }]):=fun b=>by
  unfold gt;cases b with
  | true=>rfl
  | false=>rw[if_neg (by simp),uS K n hl];rfl
 have h3:∀b,dB e=b→∀c,lX K n e out c=some (bif c then out else bif b then out++[{ e with Char:=32 }] else bif fd out then out else out++[{ e with Soft:=true,Char:=32 }]):=fun b hb c=>by
  unfold lX;cases c with
  | true=>rfl
  | false =>
   have hp:(e.Box.Style.WhiteSpace == 2)=b:=hb;rw[if_neg (by simp),hp];cases b with
   | true=>rw[show(!true)=false from rfl,if_neg (by simp),uS K n hl];rfl
   | false =>
    rw[show(!false)=true from rfl,if_pos rfl];by_cases h0:out=[]
    ·subst h0;rw[if_pos (by simp),h4];rfl
    ·have hlen:0<out.length:=List.length_pos_iff.2 h0;have e1:aa ((out.length:Int)-1)=((out.length-1:Nat):Int):=by rw[cb (by omega) (by omega)];omega
     have hem:out.isEmpty=false:=by cases out;exact absurd rfl h0;rfl
     rw[if_neg (by simp;exact h0),e1,cI (by omega) (by omega)];simp only[bA,Int.toNat_natCast]
     change (if (cn out).Soft=true then gt K n e out true else gt K n e out ((cn out).Kind == 2))=_
     cases hs:(cn out).Soft with
     | true=>rw[if_pos rfl,h4];unfold fd;rw[hem,hs];rfl
     | false=>rw[if_neg (by simp),h4];unfold fd;rw[hem,hs];rfl
 have h2:∀c,lY K n e out c=some (bif c then out++[{ e with Kind:=2,Char:=32 }] else bif dB e then (bif e.Char == 13 then out else out++[{ e with Char:=32 }]) else bif fd out then out else out++[{ e with Soft:=true,Char:=32 }]):=fun c=>by
  unfold lY;cases c with
  | true=>rw[if_pos rfl,uS K n hl];rfl
  | false =>
   have hp:(e.Box.Style.WhiteSpace == 2)=dB e:=rfl;rw[if_neg (by simp),hp];cases hpe:dB e with
   | true=>rw[if_pos rfl,h3 true hpe];rfl
   | false=>rw[if_neg (by simp),h3 false hpe];rfl
 have h1:gp K n e out true=some (bif dB e then (bif e.Char == 10 then out++[{ e with Kind:=2,Char:=32 }] else bif e.Char == 13 then out else out++[{ e with Char:=32 }]) else bif fd out then out else out++[{ e with Soft:=true,Char:=32 }]):=by
  unfold gp;have hp:(e.Box.Style.WhiteSpace == 2)=dB e:=rfl;rw[if_pos rfl,hp];cases hpe:dB e with
  | true=>rw[if_pos rfl,h2,hpe];rfl
  | false=>rw[if_neg (by simp),h2,hpe];rfl
 have h0:gp K n e out false=some (out++[e]):=by
  unfold gp;rw[if_neg (by simp),eC (by simp;omega) (by omega),bA]
 unfold oC eJ er;cases q1:(e.Char == 9) with
 | true=>rw[if_pos rfl,h1];rfl
 | false =>
  rw[if_neg (by simp)];cases q2:(e.Char == 10) with
  | true=>rw[if_pos rfl,h1,q2];rfl
  | false =>
   rw[if_neg (by simp)];cases q3:(e.Char == 13) with
   | true=>rw[if_pos rfl,h1,q2,q3];rfl
   | false =>
    rw[if_neg (by simp)];cases q4:(e.Char == 32) with
    | true=>rw[h1,q2,q3];rfl
    | false=>rw[h0];rfl
end
def fH(b:au):Bool:=(fw (KN 0) 0 b).getD false
def cU(b:au)(num:Int)(out:List ao)(rs:List Int):List ao:=rs.foldl (fun o r=>eJ o ⟨1,num,r,false,b⟩) out
def vM:Nat→List au→Int×List ao→Int×List ao
  | 0,_,s=>s
  | d+1,L,s=>L.foldl (fun s b=>bif fH b then
      (bif b.Kind == 2 then vM d b.Kids (aa (s.1+1),s.2)
       else bif b.Kind == 4 then (aa (s.1+1),s.2++[⟨2,aa (s.1+1),0,false,b⟩])
       else bif b.Kind == 5 then (aa (s.1+1),s.2++[⟨3,aa (s.1+1),0,false,b⟩])
       else bif b.Kind == 3 then (aa (s.1+1),cU b (aa (s.1+1)) s.2 (cp b.Text 0))
       else (aa (s.1+1),s.2)) else s) s
def da (d : Nat) (s : Int × List ao) (b : au) : Int × List ao := bif fH b then
      (bif b.Kind == 2 then vM d b.Kids (aa (s.1+1),s.2)
       else bif b.Kind == 4 then (aa (s.1+1),s.2++[⟨2,aa (s.1+1),0,false,b⟩])
       else bif b.Kind == 5 then (aa (s.1+1),s.2++[⟨3,aa (s.1+1),0,false,b⟩])
       else bif b.Kind == 3 then (aa (s.1+1),cU b (aa (s.1+1)) s.2 (cp b.Text 0))
       else (aa (s.1+1),s.2)) else s
theorem ld(d:Nat)(L:List au)(s:Int×List ao):vM (d+1) L s=L.foldl (da d) s:=rfl
def dS:Nat→List au→Nat
 | 0,_=>0
 | d+1,L=>(L.map fun b=>1+b.Text.size+dS d b.Kids).sum
def Dp:Nat→List au→Prop
 | 0,_=>False
 | d+1,L=>L.length≤1000∧∀b∈L,b.Text.size≤1000∧(b.Kind=2→Dp d b.Kids)
theorem CM(b:au)(num:Int):∀(rs:List Int) (out:List ao),(cU b num out rs).length≤out.length+rs.length
 | [],out=>by simp[cU]
 | r::t,out=>by
  have:=CM b num t (eJ out ⟨1,num,r,false,b⟩);have:=yP out ⟨1,num,r,false,b⟩;unfold cU at *;simp only[List.foldl_cons,List.length_cons];omega
theorem EF(b:ByteArray)(p:Nat):(cp b p).length≤b.size:=by
 unfold cp;have:=JO (b.data.toList.drop p);rw[List.length_drop,eI]at this;omega
theorem AW(d:Nat)(ih:∀L s,(vM d L s).2.length≤s.2.length+dS d L)(s:Int×List ao)(b:au):(da d s b).2.length≤s.2.length+(1+b.Text.size+dS d b.Kids):=by
 unfold da;cases fH b with
 | false=>simp only[cond_false];omega
 | true =>
  simp only[cond_true];cases (b.Kind == 2) with
  | true=>have:=ih b.Kids (aa (s.1+1),s.2);simp only[cond_true];simp only[]at this;omega
  | false =>
   simp only[cond_false];cases (b.Kind == 4) with
   | true=>simp only[cond_true,List.length_append,List.length_cons,List.length_nil];omega
   | false =>
    simp only[cond_false];cases (b.Kind == 5) with
    | true=>simp only[cond_true,List.length_append,List.length_cons,List.length_nil];omega
    | false =>
     simp only[cond_false];cases (b.Kind == 3) with
     | true =>
      have:=CM b (aa (s.1+1)) (cp b.Text 0) s.2;have:=EF b.Text 0;simp only[cond_true];omega
     | false=>simp only[cond_false];omega
theorem xv:∀(d:Nat) (L:List au) (s:Int×List ao),(vM d L s).2.length≤s.2.length+dS d L:=by
 intro d
 induction d with
 | zero=>intro L s;simp[vM,dS]
 | succ d ih =>
  intro L
  induction L with
  | nil=>intro s;simp[vM,dS]
  | cons b r ihL =>
   intro s;have h1:=AW d ih s b;have h2:=ihL (da d s b);rw[ld,List.foldl_cons];rw[ld]at h2;simp only[dS,List.map_cons,List.sum_cons]at h2⊢;omega
theorem Ee(K:Kn)(n:Nat)(b:au):fw K n b=some (fH b):=by
 have e:fw (KN 0) 0 b=fw K n b:=rfl;have:jO (fw K n b):=by
  unfold fw
  repeat first|exact wb _|apply sT
 obtain⟨u,hu⟩:=this;unfold fH;rw[e,hu];rfl
theorem Es(K:Kn)(n:Nat)(L:List au)(i num:Int)(C:Int→Int→List ao→Option (Int×List ao))(hi:i.toNat<L.length):∀(m p:Nat) (out:List ao),(L.getD i.toNat default).Text.size-p<m→out.length+((L.getD i.toNat default).Text.size-p)≤900000 →
  kw K n L i num C m p out=C (aa (i+1)) (aa (num+1)) (cU (L.getD i.toNat default) (aa (num+1)) out (cp (L.getD i.toNat default).Text p)):=by
 intro m
 induction m with
 | zero=>intro p out h;omega
 | succ m ih =>
  intro p out h1 h2;show kk K n L i num C (kw K n L i num C m) p out=_;unfold kk;by_cases hp:p<(L.getD i.toNat default).Text.size
  ·have hw:=zJ (L.getD i.toNat default).Text p;rw[if_pos (by simpa using hp)];simp only[Option.bind_some];rw[G8 K n (by omega)];simp only[Option.bind_some];have hpl:=yP out ⟨1,aa (num+1),((Utf8.decode (L.getD i.toNat default).Text p).1:Int),false,L.getD i.toNat default⟩;rw[ih _ _ (by omega) (by omega),Cp hp];rfl
  ·rw[if_neg (by simpa using hp),w5 hp];rfl
theorem Je:∀(d N:Nat) (L:List au) (s:Int×List ao),Dp d L→s.2.length+dS d L≤800000→d+1100≤N→gP (KN N) N L s.1 s.2=some (vM d L s):=by
 intro d
 induction d with
 | zero=>intro N L s h;exact h.elim
 | succ d ih =>
  intro N L s hD hs hN;obtain⟨N,rfl⟩:∃M,N=M+1:=⟨N-1,by omega⟩;unfold Dp at hD;unfold gP;have loop:∀(m i:Nat) (s:Int×List ao),i≤L.length→L.length<m+i→s.2.length+dS (d+1) (L.drop i)≤800000→iY (KN (N+1)) (N+1) L m (i:Int) s.1 s.2=some (vM (d+1) (L.drop i) s):=by
   intro m
   induction m with
   | zero=>intro i s h1 h2;omega
   | succ m ihm =>
    intro i s h1 h2 h3;show l7 (KN (N+1)) (N+1) L (iY (KN (N+1)) (N+1) L m) i s.1 s.2=_;unfold l7;by_cases hi:i<L.length
    ·have hb:L.getD i default∈L:=by rw[bR hi];exact List.getElem_mem _
     have hdr:L.drop i=L.getD i default::L.drop (i+1):=by rw[List.drop_eq_getElem_cons hi,bR hi]
     have hw:aa ((i:Int)+1)=((i+1:Nat):Int):=by rw[cb (by omega) (by omega)];omega
     rw[hdr]at h3⊢;rw[ld,List.foldl_cons,← ld];have hvl:=AW d (xv d) s (L.getD i default);have h3':s.2.length+((1+(L.getD i default).Text.size+dS d (L.getD i default).Kids)+dS (d+1) (L.drop (i+1)))≤800000:=by
      simpa only[dS,List.map_cons,List.sum_cons]using h3
     have fin:=ihm (i+1) (da d s (L.getD i default)) (by omega) (by omega) (by omega);rw[if_pos (by simpa using hi),cI (by omega) (by omega),bA,Ee];simp only[Option.bind_some,Int.toNat_natCast];have step:∀s',da d s (L.getD i default)=s'→iY (KN (N+1)) (N+1) L m (aa ((i:Int)+1)) s'.1 s'.2=some (vM (d+1) (L.drop (i+1)) (da d s (L.getD i default))):=fun s' e=>by
      rw[←e,hw];exact fin
     cases hf:fH (L.getD i default) with
     | false =>
      rw[show(!false)=true from rfl,if_pos rfl];unfold gH;exact step s (by unfold da;rw[hf];rfl)
     | true =>
      rw[show(!true)=false from rfl,if_neg (by simp)];cases h2':((L.getD i default).Kind == 2) with
      | true =>
       have hk:(L.getD i default).Kind=2:=by simpa using h2'
       have:=ih N (L.getD i default).Kids (aa (s.1+1),s.2) ((hD.2 _ hb).2 hk) (by simp only[];omega) (by omega);rw[if_pos rfl];show((gP (KN N) N (L.getD i default).Kids (aa (s.1+1)) s.2).bind _)=_;rw[show gP (KN N) N (L.getD i default).Kids (aa (s.1+1)) s.2=_ from this];simp only[Option.bind_some];unfold fB gH;exact step _ (by unfold da;rw[hf,h2'];rfl)
      | false =>
       rw[if_neg (by simp)];cases h4':((L.getD i default).Kind == 4) with
       | true =>
        rw[if_pos rfl,eC (by simp;omega) (by omega),bA];unfold fB gH;exact step (_,_) (by unfold da;rw[hf,h2',h4'];rfl)
       | false =>
        rw[if_neg (by simp)];cases h5':((L.getD i default).Kind == 5) with
        | true =>
         rw[if_pos rfl,eC (by simp;omega) (by omega),bA];unfold fB gH;exact step (_,_) (by unfold da;rw[hf,h2',h4',h5'];rfl)
        | false =>
         rw[if_neg (by simp)];cases h3'':((L.getD i default).Kind == 3) with
         | true =>
          have ht:=(hD.2 _ hb).1;rw[if_pos rfl,Es (KN (N+1)) (N+1) L i s.1 _ (by simpa using hi) (N+1) 0 s.2 (by rw[Int.toNat_natCast];omega) (by rw[Int.toNat_natCast];omega)];rw[Int.toNat_natCast];exact step (_,_) (by unfold da;rw[hf,h2',h4',h5',h3''];rfl)
         | false =>
          rw[if_neg (by simp)];unfold fB gH;exact step (_,_) (by unfold da;rw[hf,h2',h4',h5',h3''];rfl)
    ·rw[if_neg (by simpa using hi),List.drop_eq_nil_of_le (by omega)];rfl
  have:=loop (N+1) 0 s (by omega) (by omega) (by rw[List.drop_zero];exact hs);rw[List.drop_zero]at this;exact this
def df(d:Nat)(L:List au):List ao:=(vM d L (0,[])).2
theorem JB{d N:Nat}{L:List au}(hD:Dp d L)(hc:dS d L≤800000)(hN:d+1100≤N):mD (KN N) N L=some (df d L):=by
 unfold mD;rw[show gP (KN N) N L 0 []=_ from Je d N L (0,[]) hD (by simpa using hc) hN];rfl
theorem pH(d:Nat)(L:List au):(df d L).length≤dS d L:=by
 have:=xv d L (0,[]);unfold df;simpa using this
theorem GU{P:ao→Prop}{out:List ao}{e:ao}(h:∀x∈out,P x)(h1:er e.Char=false→P e)(h2:dB e=true→P { e with Kind:=2,Char:=32 })(h3:dB e=true→P { e with Char:=32 })(h4:dB e=false→P { e with Soft:=true,Char:=32 }):∀x∈eJ out e,P x:=by
 have ap:∀y,P y→∀x∈out++[y],P x:=fun y hy x hx=>by
  rcases List.mem_append.1 hx with hx|hx
  ·exact h x hx
  ·rw[List.mem_singleton.1 hx];exact hy
 unfold eJ;cases hs:er e.Char with
 | false=>exact ap _ (h1 hs)
 | true =>
  simp only[cond_true];cases hp:dB e with
  | true =>
   simp only[cond_true];cases (e.Char == 10) with
   | true=>exact ap _ (h2 hp)
   | false =>
    simp only[cond_false];cases (e.Char == 13) with
    | true=>exact h
    | false=>exact ap _ (h3 hp)
  | false =>
   simp only[cond_false];cases fd out with
   | true=>exact h
   | false=>exact ap _ (h4 hp)
theorem Co{P:ao→Prop}(b:au)(num:Int)(hP:∀r,b8 r→(er r=false→P ⟨1,num,r,false,b⟩))(h2:P ⟨2,num,32,false,b⟩)(h3:b.Style.WhiteSpace=2→P ⟨1,num,32,false,b⟩)(h4:b.Style.WhiteSpace≠2→P ⟨1,num,32,true,b⟩):∀(rs:List Int) (out:List ao),(∀r∈rs,b8 r)→(∀x∈out,P x)→∀x∈cU b num out rs,P x
 | [],out,_,h=>h
 | r::t,out,hr,h=>by
  unfold cU;rw[List.foldl_cons];refine Co b num hP h2 h3 h4 t _ (fun x hx=>hr x (by simp[hx])) (GU h (fun hs=>hP r (hr r (by simp)) hs) (fun _=>h2) (fun hp=>h3 (by simpa[dB]using hp)) (fun hp=>h4 (by simpa[dB]using hp)))
theorem CC{P:ao→Prop}(h1:∀(b:au) (num r:Int),b8 r→er r=false→P ⟨1,num,r,false,b⟩)(h2:∀(b:au) (num:Int),P ⟨2,num,32,false,b⟩)(h3:∀(b:au) (num:Int),b.Style.WhiteSpace=2→P ⟨1,num,32,false,b⟩)(h4:∀(b:au) (num:Int),b.Style.WhiteSpace≠2→P ⟨1,num,32,true,b⟩)
  (h5:∀(b:au) (num:Int),P ⟨2,num,0,false,b⟩) (h6:∀(b:au) (num:Int),P ⟨3,num,0,false,b⟩):∀(d:Nat) (L:List au) (s:Int×List ao),(∀x∈s.2,P x)→∀x∈(vM d L s).2,P x:=by
 have ap:∀{out:List ao} (y:ao),(∀x∈out,P x)→P y→∀x∈out++[y],P x:=fun y h hy x hx=>by
  rcases List.mem_append.1 hx with hx|hx
  ·exact h x hx
  ·rw[List.mem_singleton.1 hx];exact hy
 intro d
 induction d with
 | zero=>intro L s h;exact h
 | succ d ih =>
  intro L
  induction L with
  | nil=>intro s h;exact h
  | cons b r ihL =>
   intro s h;rw[ld,List.foldl_cons,← ld];refine ihL _ ?_;unfold da;cases fH b with
   | false=>exact h
   | true =>
    simp only[cond_true];cases (b.Kind == 2) with
    | true=>exact ih _ _ h
    | false =>
     simp only[cond_false];cases (b.Kind == 4) with
     | true=>exact ap _ h (h5 _ _)
     | false =>
      simp only[cond_false];cases (b.Kind == 5) with
      | true=>exact ap _ h (h6 _ _)
      | false =>
       simp only[cond_false];cases (b.Kind == 3) with
       | true=>exact Co b _ (fun r hr hs=>h1 b _ r hr hs) (h2 b _) (h3 b _) (h4 b _) _ _ Fg h
       | false=>exact h
theorem sL:b8 32:=by unfold b8;omega
theorem Cm:b8 0:=by unfold b8;omega
theorem rU(d:Nat)(L:List au):∀x∈df d L,fY x :=
 CC (fun b num r hr _=>⟨hr,fun h=>by cases h⟩) (fun b num=>⟨sL,fun _=>rfl⟩) (fun b num _=>⟨sL,fun _=>rfl⟩) (fun b num _=>⟨sL,fun _=>rfl⟩) (fun b num=>⟨Cm,fun h=>by cases h⟩) (fun b num=>⟨Cm,fun h=>by cases h⟩) d L (0,[]) (fun x hx=>by cases hx)
end
end Go.Proofs.YtnpmlepplfaijaaDoor
namespace Go.Proofs.YtnpmlepplfaijaaDoor
set_option linter.all false
open Go.RowKit
structure R4 where
 w:Int
 s:Int
 g:Bool
 f:Bool
instance:Inhabited R4:=⟨⟨0,0,false,false⟩⟩
def vI(r:aw):R4:=⟨r.Width,r.Space,r.Glued,r.Forced⟩
theorem pu{L:List aw}{k:Nat}(h:k<L.length):(L.map vI)[k]'(by simpa using h)=vI (L.getD k default):=by
 rw[bR h];simp
def gr(l:List R4)(i:Nat):Nat:=i+((l.drop i).takeWhile R4.g).length
theorem gx(l:List R4)(i:Nat):i≤gr l i:=Nat.le_add_right _ _
theorem yx{α:Type}(p:α→Bool):∀l:List α,(l.takeWhile p).length≤l.length
 | []=>Nat.le_refl _
 | x::r=>by
  rw[List.takeWhile_cons];split
  ·simp;exact yx p r
  ·simp
theorem lT{l:List R4}{i:Nat}(h:i≤l.length):gr l i≤l.length:=by
 have:=yx R4.g (l.drop i);simp at this;unfold gr;omega
theorem mM{l:List R4}{i:Nat}(h:i<l.length)(hg:l[i].g=true):gr l i=gr l (i+1):=by
 unfold gr;rw[List.drop_eq_getElem_cons h,List.takeWhile_cons,if_pos hg];simp;omega
theorem ui{l:List R4}{i:Nat}(h:i<l.length)(hg:l[i].g=false):gr l i=i:=by
 unfold gr;rw[List.drop_eq_getElem_cons h,List.takeWhile_cons,if_neg (by simp[hg])];simp
theorem td{l:List R4}{i:Nat}(h:l.length≤i):gr l i=i:=by
 unfold gr;rw[List.drop_eq_nil_of_le h];simp
def wS(n last:Int):List R4→Int
 | []=>aa (n-last)
 | r::t=>wS (aa (n+aa (r.w+r.s))) (if r.f then last else r.s) t
def fb(l:List R4):Int:=wS 0 0 l
def km(n:Int):List R4→Int
 | []=>n
 | r::t=>km (aa (n+aa (r.w+r.s))) t
def eo(x:Int):List R4→Int
 | []=>x
 | r::t=>eo (if r.f then x else r.s) t
theorem Bl:∀(l:List R4) (n last:Int),wS n last l=aa (km n l-eo last l)
 | [],n,last=>rfl
 | r::t,n,last=>by unfold wS km eo;exact Bl t _ _
theorem uz:∀(l m:List R4) (x:Int),eo x (l++m)=eo (eo x l) m
 | [],m,x=>rfl
 | r::t,m,x=>by simp only[List.cons_append,eo];exact uz t m _
theorem K8(n:Int):aa (aa n)=aa n:=by
 have : -9223372036854775808≤aa n∧aa n≤9223372036854775807:=by unfold aa;rw[IntKind.wrap_i64];omega
 exact cb this.1 this.2
section
variable{K:Kn}{n:Nat}{L:List aw}
theorem JX:∀(m:Nat) (i:Int),0≤i→i≤L.length→L.length<m+i.toNat→(L.length:Int)<9223372036854775807→lM K n L m i=some ((gr (L.map vI) i.toNat:Nat):Int):=by
 intro m
 induction m with
 | zero=>intro i h0 h1 h2;omega
 | succ m ih =>
  intro i h0 h1 h2 hL;show l6 K n L (lM K n L m) i=_;unfold l6;by_cases hi:i<(L.length:Int)
  ·have hk:i.toNat<L.length:=by omega
   rw[if_pos (by simpa using hi),cI h0 hi,bA];unfold kO;have hv:=pu hk;cases hg:(L.getD i.toNat default).Glued with
   | true =>
    rw[if_pos rfl,cb (by omega) (by omega),ih (i+1) (by omega) (by omega) (by omega) hL];rw[mM (l:=L.map vI) (i:=i.toNat) (by simpa using hk) (by rw[hv];exact hg),show(i+1).toNat=i.toNat+1 by omega]
   | false =>
    rw[if_neg (by simp)];rw[ui (l:=L.map vI) (i:=i.toNat) (by simpa using hk) (by rw[hv];exact hg)];congr 1;omega
  ·rw[if_neg (by simpa using hi)];unfold kO;rw[if_neg (by simp),td (by simp;omega)];congr 1;omega
theorem zA{i:Int}(h0:0≤i)(h1:i<L.length)(hn:L.length<n)(hL:(L.length:Int)<9223372036854775807):l3 K n L i=some ((gr (L.map vI) (i.toNat+1):Nat):Int):=by
 unfold l3;rw[cb (by omega) (by omega),JX n (i+1) (by omega) (by omega) (by omega) hL,show(i+1).toNat=i.toNat+1 by omega]
theorem Ha:∀(m:Nat) (k:Nat),k≤L.length→k<m→(L.length:Int)<9223372036854775807 →
  ∃j:Int,im K n L m ((k:Int)-1)=some j∧((j = -1∧∀x,eo x ((L.map vI).take k)=x)∨(0≤j∧j<k∧∀x,eo x ((L.map vI).take k)=(L.getD j.toNat default).Space)):=by
 intro m
 induction m with
 | zero=>intro k _ h;omega
 | succ m ih =>
  intro k hk hm hL;show ∃j,iH K n L (im K n L m) ((k:Int)-1)=some j∧_;unfold iH;cases k with
  | zero=>rw[if_neg (by simp)];exact⟨-1,rfl,.inl ⟨rfl,fun x=>by simp[eo]⟩⟩
  | succ k =>
   have e:(((k+1:Nat):Int)-1)=(k:Int):=by omega
   rw[e,if_pos (by simp),cI (by omega) (by omega),bA,Int.toNat_natCast];have hkl:k<L.length:=by omega
   have hv:=pu hkl;have ht:(L.map vI).take (k+1)=(L.map vI).take k++[vI (L.getD k default)]:=by
    rw[List.take_add_one,List.getElem?_eq_getElem (by simpa using hkl),hv];rfl
   cases hf:(L.getD k default).Forced with
   | false =>
    rw[show(!false)=true from rfl,if_pos rfl];refine⟨(k:Int),rfl,.inr ⟨by omega,by omega,fun x=>?_⟩⟩;rw[ht,uz,Int.toNat_natCast];simp only[eo,vI,hf,Bool.false_eq_true,if_false]
   | true =>
    rw[show(!true)=false from rfl,if_neg (by simp),cb (by omega) (by omega)];obtain⟨j,h1,h2⟩:=ih k (by omega) (by omega) hL;refine⟨j,h1,?_⟩;have hx:∀x,eo x ((L.map vI).take (k+1))=eo x ((L.map vI).take k):=fun x=>by
     rw[ht,uz];simp only[eo,vI,hf,if_true]
    obtain⟨a,b⟩|⟨a,b,c⟩:=h2
    ·exact .inl ⟨a,fun x=>(hx x).trans (b x)⟩
    ·exact .inr ⟨a,by omega,fun x=>(hx x).trans (c x)⟩
theorem E5(hn:L.length<n)(hL:(L.length:Int)<9223372036854775807):∃j:Int,iE K n L=some j∧((j = -1∧∀x,eo x (L.map vI)=x)∨(0≤j∧j<L.length∧∀x,eo x (L.map vI)=(L.getD j.toNat default).Space)):=by
 unfold iE;rw[cb (by omega) (by omega)];obtain⟨j,h1,h2⟩:=Ha (K:=K) (n:=n) (L:=L) n L.length (Nat.le_refl _) hn hL;refine⟨j,h1,?_⟩;rw[List.take_of_length_le (by simp)]at h2;exact h2
theorem Ip(hn:L.length<n)(hL:(L.length:Int)<9223372036854775807):∀(m:Nat) (x i:Int),0≤i→i≤L.length→L.length<m+i.toNat→aa x=x →
  km 0 (L.map vI)=km x ((L.map vI).drop i.toNat)→kt K n L m x i=some (fb (L.map vI)):=by
 intro m
 induction m with
 | zero=>intro x i h0 h1 h2;omega
 | succ m ih =>
  intro x i h0 h1 h2 hx hs;show kG K n L (kt K n L m) x i=_;unfold kG;by_cases hi:i<(L.length:Int)
  ·have hk:i.toNat<L.length:=by omega
   rw[if_pos (by simpa using hi),cI h0 hi,bA,cb (n:=i+1) (by omega) (by omega)];refine ih _ (i+1) (by omega) (by omega) (by omega) (K8 _) ?_;rw[hs,List.drop_eq_getElem_cons (by simpa using hk),pu hk,show(i+1).toNat=i.toNat+1 by omega];rfl
  ·rw[if_neg (by simpa using hi)];rw[List.drop_eq_nil_of_le (by simp;omega)]at hs;simp only[km]at hs;obtain⟨j,h3,h4⟩:=E5 (K:=K) (L:=L) hn hL;rw[h3];simp only[Option.bind_some,nX];unfold fb;rw[Bl,hs];obtain⟨rfl,h5⟩|⟨h5,h6,h7⟩:=h4
   ·rw[if_neg (by simp),h5];simp[hx]
   ·rw[if_pos (by simpa using h5),cI h5 h6,bA,h7]
theorem yK(hn:L.length<n)(hL:(L.length:Int)<9223372036854775807):lZ K n L=some (fb (L.map vI)):=by
 unfold lZ;exact Ip hn hL n 0 0 (by omega) (by omega) (by simpa using hn) (by unfold aa;rw[IntKind.wrap_i64];omega) rfl
end
def sl{α:Type}(l:List α)(a b:Nat):List α:=List.drop a (List.take b l)
theorem Jq{α β:Type}(f:α→β)(l:List α)(a b:Nat):(sl l a b).map f=sl (l.map f) a b:=by unfold sl;rw[List.map_drop,List.map_take]
theorem pY{α:Type}(l:List α)(a b:Nat):(sl l a b).length≤l.length:=by unfold sl;simp;omega
def lE(l:List R4)(w:Int)(a:Nat):Nat→Nat→Nat
 | 0,e=>e
 | m+1,e=>if e<l.length∧(l.getD (e-1) default).f=false∧¬ fb (sl l a (gr l (e+1)))>w then lE l w a m (gr l (e+1)) else e
def bM(l:List R4)(w:Int):Nat→Nat→List Nat
 | 0,_=>[]
 | m+1,a=>if a<l.length then a::bM l w m (lE l w a l.length (gr l (a+1))) else []
theorem mN(l:List R4)(w:Int)(a:Nat):∀m e,e≤lE l w a m e
 | 0,e=>Nat.le_refl _
 | m+1,e=>by
  unfold lE;split
  ·have:=mN l w a m (gr l (e+1));have:=gx l (e+1);omega
  ·exact Nat.le_refl _
theorem oT(l:List R4)(w:Int)(a:Nat):∀m e,e≤l.length→lE l w a m e≤l.length
 | 0,e,h=>h
 | m+1,e,h=>by
  unfold lE;split
  ·rename_i h1;exact oT l w a m _ (lT (by omega))
  ·exact h
theorem CD(l:List R4)(w:Int)(a:Nat):∀(m m' e:Nat),l.length≤m+e→l.length≤m'+e→lE l w a m e=lE l w a m' e:=by
 intro m
 induction m with
 | zero =>
  intro m' e h h';cases m' with
  | zero=>rfl
  | succ m'=>unfold lE;rw[if_neg (by omega)]
 | succ m ih =>
  intro m' e h h';cases m' with
  | zero=>unfold lE;rw[if_neg (by omega)]
  | succ m' =>
   unfold lE;split
   ·have:=gx l (e+1);exact ih m' _ (by omega) (by omega)
   ·rfl
end Go.Proofs.YtnpmlepplfaijaaDoor
namespace Go.Proofs.YtnpmlepplfaijaaDoor
set_option linter.all false
open Go.RowKit
theorem AO(l:List R4)(w:Int):∀(m m' a:Nat),l.length<m+a→l.length<m'+a→bM l w m a=bM l w m' a:=by
 intro m
 induction m with
 | zero =>
  intro m' a h h';cases m' with
  | zero=>rfl
  | succ m'=>unfold bM;rw[if_neg (by omega)]
 | succ m ih =>
  intro m' a h h';cases m' with
  | zero=>unfold bM;rw[if_neg (by omega)]
  | succ m' =>
   unfold bM;split
   ·have:=mN l w a l.length (gr l (a+1));have:=gx l (a+1);rw[ih m' _ (by omega) (by omega)]
   ·rfl
theorem vT(l:List R4)(w:Int):∀(m a:Nat),(bM l w m a).length≤l.length-a
 | 0,a=>by simp[bM]
 | m+1,a=>by
  unfold bM;split
  ·have:=vT l w m (lE l w a l.length (gr l (a+1)));have:=mN l w a l.length (gr l (a+1));have:=gx l (a+1);simp;omega
  ·simp
section
variable{K:Kn}{n:Nat}{L:List aw}{w:Int}
theorem KI(hn:L.length<n)(hL:(L.length:Int)<9223372036854775807)(a:Nat)(out:List Int)(C:Int→List Int→Option (List Int)):∀(m e:Nat),1≤e→a≤e→e≤L.length→L.length<m+e →
  kg K n L w a out C m e=C ((lE (L.map vI) w a m e:Nat):Int) (out++[(a:Int)]):=by
 intro m
 induction m with
 | zero=>intro e h0 h1 h2 h3;omega
 | succ m ih =>
  intro e h0 h1 h2 h3;show kH K n L w a out C (kg K n L w a out C m) e=_;unfold kH lE;by_cases he:e<L.length
  ·rw[if_pos (by simpa using he),cb (by omega) (by omega),cI (by omega) (by omega),bA];unfold kT;have e1:((e:Int)-1).toNat=e-1:=by omega
   have hv:=pu (L:=L) (k:=e-1) (by omega);have hf:((L.map vI).getD (e-1) default).f=(L.getD ((e:Int)-1).toNat default).Forced:=by
    rw[bR (by simp;omega),hv,e1];rfl
   cases hb:(L.getD ((e:Int)-1).toNat default).Forced with
   | true =>
    rw[show(!true)=false from rfl,if_neg (by simp),if_neg (by rw[hf,hb];simp)];rfl
   | false =>
    have hg:=lT (l:=L.map vI) (i:=e+1) (by simp;omega);have hge:=gx (L.map vI) (e+1);simp only[List.length_map]at hg;rw[show(!false)=true from rfl,if_pos rfl,zA (by omega) (by omega) hn hL];simp only[Option.bind_some,Int.toNat_natCast];rw[show cW (a:Int) ((gr (L.map vI) (e+1):Nat):Int) L.length=true by simp only[cW,Bool.and_eq_true,decide_eq_true_eq];omega,bA];have hs:List.drop a (List.take (gr (L.map vI) (e+1)) L)=sl L a (gr (L.map vI) (e+1)):=rfl;rw[hs,yK (by have:=pY L a (gr (L.map vI) (e+1));omega) (by have:=pY L a (gr (L.map vI) (e+1));omega),Jq];simp only[Option.bind_some];by_cases hw:fb (sl (L.map vI) a (gr (L.map vI) (e+1)))>w
    ·rw[if_pos (by simpa using hw),if_neg (by simp[hw])];rfl
    ·rw[if_neg (by simpa using hw),if_pos ⟨by simpa using he,by rw[hf,hb],hw⟩];exact ih _ (by omega) (by omega) (by omega) (by omega)
  ·rw[if_neg (by simpa using he),if_neg (by simp;omega)];unfold kT;rw[if_neg (by simp)];rfl
theorem Ib(hn:L.length<n)(hL:(L.length:Int)≤1000000):∀(m a:Nat) (out:List Int),a≤L.length→out.length≤a→L.length<m+a→j0 K n L w m a out=some (out++(bM (L.map vI) w m a).map fun (k:Nat)=>(k:Int)):=by
 intro m
 induction m with
 | zero=>intro a out h1 h2 h3;omega
 | succ m ih =>
  intro a out h1 h2 h3;show kh K n L w (j0 K n L w m) a out=_;unfold kh bM;by_cases ha:a<L.length
  ·rw[if_pos (by simpa using ha),if_pos (by simpa using ha),eC (by simp;omega) (by omega),bA,zA (by omega) (by omega) hn (by omega)];simp only[Option.bind_some,Int.toNat_natCast];have hg:=lT (l:=L.map vI) (i:=a+1) (by simp;omega);have hge:=gx (L.map vI) (a+1);simp only[List.length_map]at hg;rw[KI hn (by omega) a out _ n _ (by omega) (by omega) hg (by omega)];rw[CD (L.map vI) w a n (L.map vI).length _ (by simp;omega) (by simp)];have h5:=oT (L.map vI) w a (L.map vI).length (gr (L.map vI) (a+1)) (by simpa using hg);have h6:=mN (L.map vI) w a (L.map vI).length (gr (L.map vI) (a+1));simp only[List.length_map]at h5 h6⊢;rw[ih _ _ h5 (by simp;omega) (by omega)];simp[List.append_assoc]
  ·rw[if_neg (by simpa using ha),if_neg (by simpa using ha)];simp
theorem DB(hn:L.length<n)(hL:(L.length:Int)≤1000000):mV K n L w=some ((bM (L.map vI) w (L.length+1) 0).map fun (k:Nat)=>(k:Int)):=by
 unfold mV;rw[show(0:Int)=((0:Nat):Int) from rfl,Ib hn hL n 0 [] (by omega) (by simp) (by omega),AO (L.map vI) w n (L.length+1) 0 (by simp;omega) (by simp)];simp
end
end Go.Proofs.YtnpmlepplfaijaaDoor
namespace Go.Proofs.YtnpmlepplfaijaaDoor
set_option linter.all false
open Go.RowKit
noncomputable section
def jl(o:Int):ao→List ao→Nat
 | _,[]=>0
 | a,b::r=>bif b.Kind == 1&&(b.Of == o&&!db a b) then jl o b r+1 else 0
theorem Am(o:Int):∀(l:List ao) (a:ao),jl o a l≤l.length
 | [],_=>Nat.le_refl _
 | b::r,a=>by
  unfold jl;cases (b.Kind == 1&&(b.Of == o&&!db a b)) with
  | true=>have:=Am o r b;simp;omega
  | false=>simp
def fG(p:Option ao)(e:ao):Bool:=match p with
 | none=>false
 | some q=>q.Kind != 2&&!db q e
def runM(x:aw)(e:ao)(g:Bool):aw:={ x with Node:=e.Box.Node,Style:=e.Box.Style,Glued:=g }
def cM(pl:au→aw):Nat→Option ao→List ao→List aw
 | 0,_,_=>[]
 | _+1,_,[]=>[]
 | m+1,p,e::r =>
  bif e.Kind == 2 then runM { cy with Forced:=true } e (fG p e)::cM pl m (some e) r
  else bif e.Kind == 3 then runM (pl e.Box) e (fG p e)::cM pl m (some e) r
  else runM (ce (e::r.take (jl e.Of e r))) e (fG p e)::cM pl m (some (cn (e::r.take (jl e.Of e r)))) (r.drop (jl e.Of e r))
def gq(L:List ao)(i:Nat):Option ao:=if i=0 then none else some (L.getD (i-1) default)
theorem Bz{α:Type}[Inhabited α]{L:List α}{i k:Nat}(h:i<L.length):sl L i (i+1+k)=L.getD i default::(L.drop (i+1)).take k:=by
 unfold sl;rw[List.drop_take,show i+1+k-i=k+1 by omega,List.drop_eq_getElem_cons h,List.take_succ_cons,bR h]
theorem Ln{α:Type}{L:List α}{a b:Nat}{x:α}(h:x∈sl L a b):x∈L:=by
 unfold sl at h;exact List.mem_of_mem_take (List.mem_of_mem_drop h)
theorem wU{α:Type}{L:List α}{a b:Nat}(h:b≤L.length):(sl L a b).length=b-a:=by unfold sl;simp;omega
theorem Ku{L:List ao}{i k:Nat}(h:i+k<L.length):cn (L.getD i default::(L.drop (i+1)).take k)=L.getD (i+k) default:=by
 rw[←Bz (by omega)];unfold cn;have hl:=wU (L:=L) (a:=i) (b:=i+1+k) (by omega);rw[hl,bR (by rw[hl];omega),bR h];unfold sl;rw[List.getElem_drop,List.getElem_take];congr 1;omega
section
variable{K:Kn}{n:Nat}{v2:Fv}{L:List ao}{pl:au→aw}
theorem C4(ho:∀e∈L,fY e)(hl:L.length≤2000)(hn:8010≤n)(i:Nat)(acc:List aw)(g:Bool)(C:Int→List aw→Option (List aw))(hi:i<L.length):∀(m x:Nat),i<x→x≤L.length→L.length<m+x →
  jP K n v2 L (i:Int) acc g C m (x:Int)=fP K n v2 L i acc g C ((x+jl (L.getD i default).Of (L.getD (x-1) default) (L.drop x):Nat):Int) (ce (sl L i (x+jl (L.getD i default).Of (L.getD (x-1) default) (L.drop x)))):=by
 have fin:∀y:Nat,i<y→y≤L.length→∀(D:Int→Option (List aw)),fQ K n v2 L (i:Int) acc g (y:Int) C D false=fP K n v2 L i acc g C (y:Int) (ce (sl L i y)):=fun y h1 h2 D=>by
  unfold fQ;have hsl:List.drop i (List.take y L)=sl L i y:=rfl;have hlen:=wU (L:=L) (a:=i) (b:=y) h2;rw[if_neg (by simp),show cW (i:Int) (y:Int) L.length=true by simp only[cW,Bool.and_eq_true,decide_eq_true_eq];omega,bA];simp only[Int.toNat_natCast];rw[hsl,DG (by intro e;rw[e]at hlen;simp at hlen;omega) (by omega) (fun e he=>ho e (Ln he)) hn];rfl
 intro m
 induction m with
 | zero=>intro x h1 h2 h3;omega
 | succ m ih =>
  intro x h1 h2 h3;show kZ K n v2 L i acc g C (jP K n v2 L i acc g C m) x=_;unfold kZ;by_cases hx:x<L.length
  ·have hdr:L.drop x=L.getD x default::L.drop (x+1):=by rw[List.drop_eq_getElem_cons hx,bR hx]
   have hb:L.getD x default∈L:=by rw[bR hx];exact List.getElem_mem _
   have ha:L.getD (x-1) default∈L:=by rw[bR (by omega)];exact List.getElem_mem _
   have e1:aa ((x:Int)-1)=((x-1:Nat):Int):=by rw[cb (by omega) (by omega)];omega
   rw[if_pos (by simpa using hx),cI (by omega) (by omega)];simp only[bA,Int.toNat_natCast,e1];rw[hdr];unfold jl;have nog:∀{b:Bool},b=false→fQ K n v2 L (i:Int) acc g (x:Int) C (jP K n v2 L i acc g C m) false=fP K n v2 L i acc g C ((x+(bif b then jl (L.getD i default).Of (L.getD x default) (L.drop (x+1))+1 else 0):Nat):Int) (ce (sl L i (x+(bif b then jl (L.getD i default).Of (L.getD x default) (L.drop (x+1))+1 else 0)))):=fun {b} hb=>by
    subst hb;exact fin x h1 h2 _
   cases hk:((L.getD x default).Kind == 1) with
   | false=>rw[if_neg (by simp)];exact nog rfl
   | true =>
    rw[if_pos rfl];cases hof:((L.getD x default).Of == (L.getD i default).Of) with
    | false=>rw[if_neg (by simp)];exact nog rfl
    | true =>
     rw[if_pos rfl,cI (by omega) (by omega),bA,xc K (by omega) (ho _ ha).ch (ho _ hb).ch];simp only[Option.bind_some];cases hbr:db (L.getD (x-1) default) (L.getD x default) with
     | true=>exact nog rfl
     | false =>
      unfold fQ;rw[show(!false)=true from rfl,if_pos rfl,cb (by omega) (by omega),show(x:Int)+1=((x+1:Nat):Int) by omega,ih (x+1) (by omega) (by omega) (by omega)];simp only[Nat.add_sub_cancel,Bool.and_self,cond_true];rw[show x+1+jl (L.getD i default).Of (L.getD x default) (L.drop (x+1))=x+(jl (L.getD i default).Of (L.getD x default) (L.drop (x+1))+1) by omega]
  ·rw[if_neg (by simpa using hx),List.drop_eq_nil_of_le (by omega)];unfold jl;exact fin x h1 h2 _
theorem tG(i:Nat)(acc:List aw)(g:Bool)(C:Int→List aw→Option (List aw))(hacc:acc.length≤1000000)(y:Int)(x:aw):fP K n v2 L (i:Int) acc g C y x=C y (acc++[runM x (L.getD i default) g]):=by
 unfold fP;simp only[Option.bind_some,Int.toNat_natCast];rw[eC (by simp;omega) (by omega),bA];rfl
theorem H1(ho:∀e∈L,fY e)(hl:L.length≤2000)(hn:8010≤n)(hpl:∀e∈L,e.Kind=3→K.lq v2 e.Box=some (pl e.Box)):∀(m i:Nat) (acc:List aw),i≤L.length→L.length<m+i→acc.length≤i →
  jn K n v2 L m (i:Int) acc=some (acc++cM pl m (gq L i) (L.drop i)):=by
 intro m
 induction m with
 | zero=>intro i acc h1 h2;omega
 | succ m ih =>
  intro i acc h1 h2 h3;show ls K n v2 L (jn K n v2 L m) i acc=_;unfold ls;by_cases hi:i<L.length
  ·have hdr:L.drop i=L.getD i default::L.drop (i+1):=by rw[List.drop_eq_getElem_cons hi,bR hi]
   have hb:L.getD i default∈L:=by rw[bR hi];exact List.getElem_mem _
   rw[if_pos (by simpa using hi),cI (by omega) (by omega)];simp only[bA,Int.toNat_natCast];rw[hdr];have hw:aa ((i:Int)+1)=((i+1:Nat):Int):=by rw[cb (by omega) (by omega)];omega
   have hprev:gq L (i+1)=some (L.getD i default):=by unfold gq;rw[if_neg (by omega),Nat.add_sub_cancel]
   have key:∀g,g=fG (gq L i) (L.getD i default)→jd K n v2 L (i:Int) acc (jn K n v2 L m) g=some (acc++cM pl (m+1) (gq L i) (L.getD i default::L.drop (i+1))):=by
    intro g hg;unfold jd cM;simp only[Option.bind_some,Int.toNat_natCast];rw[←hg];cases k2:((L.getD i default).Kind == 2) with
    | true =>
     rw[if_pos rfl,tG i acc g _ (by omega),hw,ih (i+1) _ (by omega) (by omega) (by simp;omega),hprev];simp[List.append_assoc]
    | false =>
     rw[if_neg (by simp)];cases k3:((L.getD i default).Kind == 3) with
     | true =>
      rw[if_pos rfl,hpl _ hb (by simpa using k3)];simp only[Option.bind_some];rw[tG i acc g _ (by omega),hw,ih (i+1) _ (by omega) (by omega) (by simp;omega),hprev];simp[List.append_assoc]
     | false =>
      rw[if_neg (by simp),hw,C4 ho hl hn i acc g _ hi n (i+1) (by omega) (by omega) (by omega),Nat.add_sub_cancel];simp only[cond_false];have hj:=Am (L.getD i default).Of (L.drop (i+1)) (L.getD i default);rw[List.length_drop]at hj;generalize jl (L.getD i default).Of (L.getD i default) (L.drop (i+1))=k at *;rw[tG i acc g _ (by omega),ih (i+1+k) _ (by omega) (by omega) (by simp;omega),Bz hi,Ku (by omega),List.drop_drop];have hp:gq L (i+1+k)=some (L.getD (i+k) default):=by unfold gq;rw[if_neg (by omega)];congr 2;omega
      rw[hp];simp[List.append_assoc]
   by_cases h0:i=0
   ·rw[if_neg (by simp;omega)];exact key false (by unfold gq;rw[if_pos h0];rfl)
   ·have ha:L.getD (i-1) default∈L:=by rw[bR (by omega)];exact List.getElem_mem _
    have e1:aa ((i:Int)-1)=((i-1:Nat):Int):=by rw[cb (by omega) (by omega)];omega
    have hp:gq L i=some (L.getD (i-1) default):=by unfold gq;rw[if_neg h0]
    rw[if_pos (by simp;omega),e1,cI (by omega) (by omega)];simp only[bA,Int.toNat_natCast];by_cases hk:((L.getD (i-1) default).Kind != 2)=true
    ·rw[if_pos hk,xc K (by omega) (ho _ ha).ch (ho _ hb).ch];simp only[Option.bind_some];exact key _ (by rw[hp];show _=((L.getD (i-1) default).Kind != 2&&!db (L.getD (i-1) default) (L.getD i default));rw[hk];rfl)
    ·rw[if_neg hk];have hk':((L.getD (i-1) default).Kind != 2)=false:=by simpa using hk
     exact key false (by rw[hp];show _=((L.getD (i-1) default).Kind != 2&&!db (L.getD (i-1) default) (L.getD i default));rw[hk'];rfl)
  ·rw[if_neg (by simpa using hi),List.drop_eq_nil_of_le (by omega)];simp[cM]
theorem yp(pl:au→aw):∀(m m':Nat) (p:Option ao) (l:List ao),l.length<m→l.length<m'→cM pl m p l=cM pl m' p l:=by
 intro m
 induction m with
 | zero=>intro m' p l h;omega
 | succ m ih =>
  intro m' p l h h';cases m' with
  | zero=>omega
  | succ m' =>
   cases l with
   | nil=>rfl
   | cons e r =>
    simp only[List.length_cons]at h h';unfold cM;rw[ih m' (some e) r (by omega) (by omega),ih m' _ (r.drop (jl e.Of e r)) (by simp;omega) (by simp;omega)]
theorem sG(pl:au→aw):∀(m:Nat) (p:Option ao) (l:List ao),(cM pl m p l).length≤l.length:=by
 intro m
 induction m with
 | zero=>intro p l;simp[cM]
 | succ m ih =>
  intro p l;cases l with
  | nil=>simp[cM]
  | cons e r =>
   unfold cM;have h1:=ih (some e) r;have h2:=ih (some (cn (e::r.take (jl e.Of e r)))) (r.drop (jl e.Of e r));rw[List.length_drop]at h2;cases (e.Kind == 2) with
   | true=>simp;omega
   | false =>
    cases (e.Kind == 3) with
    | true=>simp;omega
    | false=>simp;omega
def gg(pl:au→aw)(L:List ao):List aw:=cM pl (L.length+1) none L
end
theorem IL{N d:Nat}{B:List au}{v2:Fv}{pl:au→aw}(hD:Dp d B)(hc:dS d B≤2000)(hN:d+9000≤N)(hpl:∀e∈df d B,e.Kind=3→(KN N).lq v2 e.Box=some (pl e.Box)):
  kS (KN N) N B v2=some (gg pl (df d B)):=by
 have hlen:=pH d B;unfold kS;rw[JB hD (by omega) (by omega)];simp only[Option.bind_some];rw[show(0:Int)=((0:Nat):Int) from rfl,H1 (pl:=pl) (rU d B) (by omega) (by omega) hpl N 0 [] (by omega) (by omega) (by simp),List.drop_zero,List.nil_append];unfold gg;rw[yp pl N ((df d B).length+1) _ _ (by omega) (by omega)];rfl
end
end Go.Proofs.YtnpmlepplfaijaaDoor
namespace Go.Proofs.YtnpmlepplfaijaaDoor
set_option linter.all false
open Go.RowKit
section
variable(K:Kn)(n:Nat)
def em(l:dF):Prop := -16777216≤l.Value∧l.Value≤16777216
theorem eE(l:dF):∃b,dJ K n l=some b∧(b=true→em l):=by
 unfold dJ nZ;by_cases h:l.Value ≥ -16777216
 ·simp only[h,decide_true,if_true];exact⟨_,rfl,fun e=>⟨h,of_decide_eq_true e⟩⟩
 ·simp only[h,decide_false,Bool.false_eq_true,if_false];exact⟨_,rfl,fun e=>by cases e⟩
structure vj(x:cV):Prop where
 text:(x.Text.size:Int)≤60
 left:em x.Style.Left
 top:em x.Style.Top
 width:em x.Style.Width
 height:em x.Style.Height
 minw:em x.Style.MinWidth
 maxw:em x.Style.MaxWidth
 basis:em x.Style.Basis
 lh:0≤x.Style.LineHeight∧x.Style.LineHeight≤65536
 fs:0≤x.Style.FontSize∧x.Style.FontSize≤65536
 grow:0≤x.Style.Grow∧x.Style.Grow≤1048576
 shrink:0≤x.Style.Shrink∧x.Style.Shrink≤1048576
 m0:em x.Style.Margin.a0
 m1:em x.Style.Margin.a1
 m2:em x.Style.Margin.a2
 m3:em x.Style.Margin.a3
 p0:em x.Style.Padding.a0
 p1:em x.Style.Padding.a1
 p2:em x.Style.Padding.a2
 p3:em x.Style.Padding.a3
theorem Em(L:List cV)(m:Int)(L1:Int→Option Bool)(i:Int)(h0:0≤i)(hi:i<L.length):gY K n L m L1 i=some false∨(vj (L.getD i.toNat default)∧gY K n L m L1 i=L1 (aa (i+1))):=by
 unfold gY;simp only[hi,decide_true,if_true,cI h0 hi,bA];generalize hx:L.getD i.toNat default=x;have j5:∀b,k9 K n L m i L1 b=if b=true then some false else L1 (aa (i+1)):=fun b=>rfl;obtain⟨b1,e1,f1⟩:=eE K n x.Style.Left;obtain⟨b2,e2,f2⟩:=eE K n x.Style.Top;obtain⟨b3,e3,f3⟩:=eE K n x.Style.Width;obtain⟨b4,e4,f4⟩:=eE K n x.Style.Height;obtain⟨b5,e5,f5⟩:=eE K n x.Style.MinWidth;obtain⟨b6,e6,f6⟩:=eE K n x.Style.MaxWidth;obtain⟨b7,e7,f7⟩:=eE K n x.Style.Basis;obtain⟨c0,g0,k0⟩:=eE K n x.Style.Margin.a0;obtain⟨c1,g1,k1⟩:=eE K n x.Style.Margin.a1;obtain⟨c2,g2,k2⟩:=eE K n x.Style.Margin.a2;obtain⟨c3,g3,k3⟩:=eE K n x.Style.Margin.a3;obtain⟨d0,q0,r0⟩:=eE K n x.Style.Padding.a0;obtain⟨d1,q1,r1⟩:=eE K n x.Style.Padding.a1;obtain⟨d2,q2,r2⟩:=eE K n x.Style.Padding.a2;obtain⟨d3,q3,r3⟩:=eE K n x.Style.Padding.a3;have jt:dj K n L m i L1 true=some false:=rfl;have j1:dj K n L m i L1 false=some false∨((c0=true∧c1=true∧c2=true∧c3=true∧d0=true∧d1=true∧d2=true∧d3=true)∧dj K n L m i L1 false=L1 (aa (i+1))):=by
  simp only[dj,nN,nj,nA,k9,hx,g0,g1,g2,g3,q0,q1,q2,q3,Option.bind_some];cases c0<;>cases d0<;>cases c1<;>cases d1<;>cases c2<;>cases d2<;>cases c3<;>cases d3<;>simp
 simp only[e1,e2,e3,e4,e5,e6,e7,Option.bind_some,jt];by_cases t0:(x.Text.size:Int)>60
 ·left;simp[t0]
 simp only[t0,decide_false,Bool.false_eq_true,if_false];cases b1
 ·left;simp
 simp only[Bool.not_true,Bool.false_eq_true,if_false];cases b2
 ·left;simp
 simp only[Bool.not_true,Bool.false_eq_true,if_false];cases b3
 ·left;simp
 simp only[Bool.not_true,Bool.false_eq_true,if_false];cases b4
 ·left;simp
 simp only[Bool.not_true,Bool.false_eq_true,if_false];cases b5
 ·left;simp
 simp only[Bool.not_true,Bool.false_eq_true,if_false];cases b6
 ·left;simp
 simp only[Bool.not_true,Bool.false_eq_true,if_false];cases b7
 ·left;simp
 simp only[Bool.not_true,Bool.false_eq_true,if_false];by_cases u1:x.Style.LineHeight<0
 ·left;simp[u1]
 simp only[u1,decide_false,Bool.false_eq_true,if_false];by_cases u2:x.Style.LineHeight>65536
 ·left;simp[u2]
 simp only[u2,decide_false,Bool.false_eq_true,if_false];by_cases u3:x.Style.FontSize<0
 ·left;simp[u3]
 simp only[u3,decide_false,Bool.false_eq_true,if_false];by_cases u4:x.Style.FontSize>65536
 ·left;simp[u4]
 simp only[u4,decide_false,Bool.false_eq_true,if_false];by_cases u5:x.Style.Grow<0
 ·left;simp[u5]
 simp only[u5,decide_false,Bool.false_eq_true,if_false];by_cases u6:x.Style.Grow>1048576
 ·left;simp[u6]
 simp only[u6,decide_false,Bool.false_eq_true,if_false];by_cases u7:x.Style.Shrink<0
 ·left;simp[u7]
 simp only[u7,decide_false,Bool.false_eq_true,if_false];by_cases u8:x.Style.Shrink>1048576
 ·left;simp only[u8,decide_true];exact jt
 simp only[u8,decide_false];rcases j1 with h|⟨⟨a0,a1,a2,a3,p0,p1,p2,p3⟩,h⟩
 ·exact .inl h
 ·refine .inr ⟨⟨by omega,f1 rfl,f2 rfl,f3 rfl,f4 rfl,f5 rfl,f6 rfl,f7 rfl,⟨by omega,by omega⟩,⟨by omega,by omega⟩,⟨by omega,by omega⟩,⟨by omega,by omega⟩,k0 a0,k1 a1,k2 a2,k3 a3,r0 p0,r1 p1,r2 p2,r3 p3⟩,h⟩
theorem Jj(L:List cV)(mx:Int)(hL:(L.length:Int)≤9223372036854775807):∀(m:Nat) (i:Int),0≤i→i≤L.length→(L.length:Int)<m+i →
  ∃b,jz K n L mx m i=some b∧(b=true→(L.length:Int)≤mx∧∀k,i.toNat≤k→k<L.length→vj (L.getD k default)):=by
 intro m
 induction m with
 | zero=>intro i h0 h1 h2;omega
 | succ m ih =>
  intro i h0 h1 h2;show ∃b,gY K n L mx (jz K n L mx m) i=some b∧_;by_cases hi:i<(L.length:Int)
  ·rcases Em K n L mx (jz K n L mx m) i h0 hi with h|⟨h,h'⟩
   ·exact⟨false,h,fun e=>by cases e⟩
   ·obtain⟨b,hb,hk⟩:=ih (i+1) (by omega) (by omega) (by omega);rw[h',cb (by omega) (by omega)];refine⟨b,hb,fun e=>⟨(hk e).1,fun k h3 h4=>?_⟩⟩;by_cases e2:k=i.toNat
    ·subst e2;exact h
    ·exact(hk e).2 k (by omega) h4
  ·have hd:decide (i<(L.length:Int))=false:=by simpa using hi
   unfold gY;simp only[hd,Bool.false_eq_true,if_false];exact⟨_,rfl,fun e=>⟨of_decide_eq_true e,fun k h3 h4=>by omega⟩⟩
theorem EL(L:List cV)(mx:Int)(hL:(L.length:Int)≤9223372036854775807)(hn:L.length<n):∃b,qT K n L mx=some b∧(b=true→(L.length:Int)≤mx∧∀x∈L,vj x):=by
 obtain⟨b,h1,h2⟩:=Jj K n L mx hL n 0 (by omega) (by omega) (by omega);refine⟨b,h1,fun e=>⟨(h2 e).1,fun x hx=>?_⟩⟩;obtain⟨k,hk,rfl⟩:=List.mem_iff_getElem.1 hx;have:=(h2 e).2 k (by simp) hk;rwa[bR hk]at this
end
end Go.Proofs.YtnpmlepplfaijaaDoor
namespace Go.Proofs.YtnpmlepplfaijaaDoor
set_option linter.all false
open Go.RowKit
noncomputable section
def uM:cq:=⟨(Fv.fn 17),(Fv.fn 18),(Fv.fn 19),(Fv.fn 20)⟩
def ee(M:Nat)(w:Int)(b:au):aw:=(pF (KN (M+10)) (M+10) b w uM).getD default
end
end Go.Proofs.YtnpmlepplfaijaaDoor
namespace Go.Proofs.YtnpmlepplfaijaaDoor
set_option linter.all false
open Go.RowKit
noncomputable section
theorem lH(b:ByteArray):b.toList=b.data.toList:=ByteArray.toList_eq b
theorem D1:(⟨#[]⟩:ByteArray).toList=[]:=by rw[lH]
def dD(b:ByteArray):Bool:=b.data.toList.getLast? == some 32
theorem Lq(K:Kn)(n:Nat){b:ByteArray}(hb:b.size≤1000000):ou K n b ⟨#[32]⟩=some (dD b):=by
 have h1:(⟨#[32]⟩:ByteArray).size=1:=rfl;unfold ou ql nV dD;rw[h1];by_cases h:1≤b.size
 ·have e1:aa ((b.size:Int)-((1:Nat):Int))=((b.size-1:Nat):Int):=by rw[cb (by omega) (by omega)];omega
  rw[if_pos (by simp;omega),e1,show cW ((b.size-1:Nat):Int) (b.size:Int) b.size=true by simp only[cW,Bool.and_eq_true,decide_eq_true_eq];omega,bA];simp only[Option.bind_some,Int.toNat_natCast];rw[lH,lH,ByteArray.data_extract,Array.toList_extract];have hl:b.data.toList.length=b.size:=rfl;generalize b.data.toList=l at hl;rw[←hl]at h⊢;have hne:l≠[]:=by intro e;rw[e]at h;simp at h
  have:(l.take l.length).drop (l.length-1)=[l.getLast hne]:=by
   rw[List.take_length]
   conv=>lhs;rw[←List.dropLast_concat_getLast hne]
   rw[List.length_append,List.length_dropLast];simp
  rw[List.extract_eq_drop_take,List.getLast?_eq_some_getLast hne];have e2:List.take (l.length-(l.length-1)) (List.drop (l.length-1) l)=[l.getLast hne]:=by
   rw[←this,List.take_length,List.take_of_length_le (by simp)]
  rw[e2];show some ([l.getLast hne] == [32])=some (some (l.getLast hne) == some 32);congr 1;cases hq:(l.getLast hne == 32)<;>simp_all
 ·have hs:b.size=0:=by omega
  have hl:b.data.toList=[]:=List.eq_nil_of_length_eq_zero (by rw[eI];exact hs);rw[if_neg (by simp;omega),hl];rfl
def eY(b:ByteArray):ByteArray:=b.extract 0 (b.size-1)
def stripR(r:aw):aw:=bif dD r.Text&&r.Style.WhiteSpace != 2 then { r with Text:=eY r.Text,Space:=0 } else r
def ms(above x:Int)(b:ae):ae:={ b with X:=aa (b.X+x),Y:=aa (b.Y+(aa ((aa (above-b.H))-aa (b.After.Pos+b.After.Neg)))) }
def k8(s:Int):Int:=min (max s 0) 1048576
def rM(s:Int):Int:=aa (k8 s+(aa (Int.tdiv (aa (k8 s+3)) 4)))
def fZ(above x:Int)(r:aw):List ae:=bif r.Text.data.toList.isEmpty then [] else [⟨3,r.Node,x,aa (above-k8 r.Style.FontSize),aa (r.Width+r.Space),rM r.Style.FontSize,0,r.Text,r.Style,cr,cr,false,[]⟩]
def cJ(above x:Int)(r:aw):List ae:=fZ above x r++r.Box.map (ms above x)
def cg(above last:Int):Int→Int→List aw→List ae
 | _,_,[]=>[]
 | i,x,r::t =>
  let r':=bif i == last then stripR r else r
  cJ above x r'++cg above last (i+1) (aa (x+aa (r'.Width+r'.Space))) t
section
variable{K:Kn}{n:Nat}{L:List aw}{s:aH}{w above below last:Int}
theorem Gu(r:aw)(i:Int)(C:Int→Int→List ae→Option ae)(x:Int)(hb:r.Box.length≤1000):∀(m j:Nat) (acc:List ae),j≤r.Box.length→r.Box.length<m+j→acc.length≤1000000+j →
  kq K n L s w above below last x i r C m (j:Int) acc=C (aa (x+aa (r.Width+r.Space))) (aa (i+1)) (acc++(r.Box.drop j).map (ms above x)):=by
 intro m
 induction m with
 | zero=>intro j acc h1 h2;omega
 | succ m ih =>
  intro j acc h1 h2 h3;show kW K n L s w above below last x i r C (kq K n L s w above below last x i r C m) j acc=_;unfold kW;by_cases hj:j<r.Box.length
  ·have hd:r.Box.drop j=r.Box.getD j default::r.Box.drop (j+1):=by rw[List.drop_eq_getElem_cons hj,bR hj]
   rw[if_pos (by simpa using hj),cI (by omega) (by omega)];simp only[bA,Option.bind_some,Int.toNat_natCast,gR];rw[eC (by simp;omega) (by omega),bA,cb (n:=(j:Int)+1) (by omega) (by omega),show(j:Int)+1=((j+1:Nat):Int) by omega,ih (j+1) _ (by omega) (by omega) (by simp;omega),hd,List.map_cons];rw[List.append_assoc];rfl
  ·rw[if_neg (by simpa using hj),List.drop_eq_nil_of_le (by omega)];simp
theorem GI(r:aw)(i:Int)(C:Int→Int→List ae→Option ae)(x:Int)(hb:r.Box.length≤1000)(hn:1001≤n)(acc:List ae)(ha:acc.length≤900000):
  hZ K n L s w above below last x i acc C r=C (aa (x+aa (r.Width+r.Space))) (aa (i+1)) (acc++cJ above x r):=by
 unfold hZ;rw[lH,D1];simp only[Option.bind_some];have h5:∀acc':List ae,acc'.length≤1000000→l9 K n L s w above below last x i r C acc'=C (aa (x+aa (r.Width+r.Space))) (aa (i+1)) (acc'++r.Box.map (ms above x)):=fun acc' h=>by
  unfold l9;rw[show(0:Int)=((0:Nat):Int) from rfl,Gu r i C x hb n 0 acc' (by omega) (by omega) (by omega),List.drop_zero]
 unfold cJ fZ;cases he:r.Text.data.toList with
 | nil =>
  rw[if_neg (by simp),h5 acc (by omega)];simp
 | cons b t =>
  rw[if_pos (by simp)];simp only[ov,ml,jQ,Option.bind_some];rw[eC (by simp;omega) (by omega),bA,h5 _ (by simp;omega)];simp only[List.isEmpty_cons,cond_false,List.append_assoc];rfl
theorem Fh(hb:∀r∈L,r.Box.length≤1∧r.Text.size≤100000)(hl:L.length≤2000)(hn:2002≤n):∀(m i:Nat) (x:Int) (acc:List ae),i≤L.length→L.length<m+i→acc.length≤2*i →
  gJ K n L s w above below last m x (i:Int) acc=some { bo with Kind:=2,W:=w,H:=aa (above+below),aC:=above,Style:=s,Kids:=acc++cg above last i x (L.drop i) }:=by
 intro m
 induction m with
 | zero=>intro i x acc h1 h2;omega
 | succ m ih =>
  intro i x acc h1 h2 h3;show kz K n L s w above below last (gJ K n L s w above below last m) x i acc=_;unfold kz;by_cases hi:i<L.length
  ·have hd:L.drop i=L.getD i default::L.drop (i+1):=by rw[List.drop_eq_getElem_cons hi,bR hi]
   have hm:L.getD i default∈L:=by rw[bR hi];exact List.getElem_mem _
   obtain⟨b1,b2⟩:=hb _ hm;have e1:aa ((i:Int)+1)=((i+1:Nat):Int):=by rw[cb (by omega) (by omega)];omega
   rw[if_pos (by simpa using hi),cI (by omega) (by omega),bA];simp only[Int.toNat_natCast];have rl:∀(y:Int) (r:aw),r.Box.length≤1→(cJ above y r).length≤2:=fun y r h=>by
    unfold cJ fZ;cases r.Text.data.toList.isEmpty<;>simp<;>omega
   have step:∀r':aw,r'.Box=(L.getD i default).Box→hZ K n L s w above below last x i acc (gJ K n L s w above below last m) r'=some { bo with Kind:=2,W:=w,H:=aa (above+below),aC:=above,Style:=s,Kids:=acc++(cJ above x r'++cg above last ((i:Int)+1) (aa (x+aa (r'.Width+r'.Space))) (L.drop (i+1))) }:=fun r' hr=>by
    have hrl:=rl x r' (by rw[hr];exact b1);rw[GI r' i _ x (by rw[hr];omega) (by omega) acc (by omega),e1,ih (i+1) _ _ (by omega) (by omega) (by simp;omega)];rw[List.append_assoc];rfl
   rw[hd];unfold cg;by_cases hlast:(i:Int)=last
   ·rw[if_pos (by simpa using hlast),Lq K n (by omega)];simp only[Option.bind_some];rw[show((i:Int) == last)=true by simpa using hlast];simp only[cond_true];have j3:∀c:Bool,iD K n L s w above below last x i acc (gJ K n L s w above below last m) (dD (L.getD i default).Text&&c)=hZ K n L s w above below last x i acc (gJ K n L s w above below last m) (bif dD (L.getD i default).Text&&c then { L.getD i default with Text:=eY (L.getD i default).Text,Space:=0 } else L.getD i default):=fun c=>by
     unfold iD;simp only[Int.toNat_natCast];cases hs:dD (L.getD i default).Text with
     | false=>rw[if_neg (by simp)];rfl
     | true =>
      cases c with
      | false=>rw[if_neg (by simp)];rfl
      | true =>
       have hsz:1≤(L.getD i default).Text.size:=by
        unfold dD at hs;rcases Nat.eq_zero_or_pos (L.getD i default).Text.size with h0|h0
        ·have:(L.getD i default).Text.data.toList=[]:=List.eq_nil_of_length_eq_zero (by rw[eI];exact h0);rw[this]at hs;simp at hs
        ·exact h0
       have e2:aa (((L.getD i default).Text.size:Int)-1)=(((L.getD i default).Text.size-1:Nat):Int):=by rw[cb (by omega) (by omega)];omega
       rw[if_pos (show(true&&true)=true from rfl),e2,show cW (0:Int) (((L.getD i default).Text.size-1:Nat):Int) (L.getD i default).Text.size=true by simp only[cW,Bool.and_eq_true,decide_eq_true_eq];omega,bA];simp only[Int.toNat_natCast,Int.toNat_zero];rfl
    have hst:stripR (L.getD i default)=(bif dD (L.getD i default).Text&&(L.getD i default).Style.WhiteSpace != 2 then { L.getD i default with Text:=eY (L.getD i default).Text,Space:=0 } else L.getD i default):=rfl;rw[hst];have hbox:∀c:Bool,(bif c then { L.getD i default with Text:=eY (L.getD i default).Text,Space:=0 } else L.getD i default:aw).Box=(L.getD i default).Box:=fun c=>by cases c<;>rfl
    cases hs:dD (L.getD i default).Text with
    | true =>
     rw[if_pos rfl];have:=j3 ((L.getD i default).Style.WhiteSpace != 2);rw[hs,Bool.true_and]at this;rw[this,Bool.true_and];exact step _ (hbox _)
    | false =>
     rw[if_neg (by simp)];have:=j3 false;rw[hs,Bool.false_and]at this;rw[this,Bool.false_and];exact step _ rfl
   ·rw[if_neg (by simpa using hlast)];have e3:((i:Int) == last)=false:=by simpa using hlast
    rw[e3];unfold iD;rw[if_neg (by simp)];simp only[Int.toNat_natCast,cond_false];exact step _ rfl
  ·rw[if_neg (by simpa using hi),List.drop_eq_nil_of_le (by omega)];simp[cg]
end
def ec:Int×Int→List aw→Int×Int
 | p,[]=>p
 | p,r::t=>ec (bif r.Forced then p else (max p.1 r.Above,max p.2 r.Below)) t
theorem oV(p:Int×Int)(r:aw)(t:List aw):ec p (r::t)=ec (bif r.Forced then p else (max p.1 r.Above,max p.2 r.Below)) t:=rfl
def dH(i acc:Int):List aw→Int
 | []=>acc
 | r::t=>dH (i+1) (bif r.Forced then acc else i) t
def ju(L:List aw):Int:=dH 0 (-1) L
def n3(s:aH)(w u:Int):Int:=(gX (KN 0) 0 s w u).getD 0
def dz(s:aH)(w:Int)(L:List aw):ae :=
 { bo with Kind:=2,W:=w,H:=aa ((ec (dh s) L).1+(ec (dh s) L).2),aC:=(ec (dh s) L).1,Style:=s,Kids:=[]++cg (ec (dh s) L).1 (ju L) 0 (n3 s w (fb (L.map vI))) L }
theorem yl:∀(a:List aw) (r:aw) (i acc:Int),dH i acc (a++[r])=bif r.Forced then dH i acc a else i+a.length
 | [],r,i,acc=>by simp[dH]
 | x::t,r,i,acc=>by
  simp only[List.cons_append,dH];rw[yl t r (i+1)];cases r.Forced
  ·simp;omega
  ·rfl
theorem I0(K:Kn)(n:Nat)(s:aH)(w u:Int):gX K n s w u=some (n3 s w u):=by
 have e:gX (KN 0) 0 s w u=gX K n s w u:=rfl;have:jO (gX K n s w u):=by
  unfold gX
  repeat first|exact wb _|apply sT
 obtain⟨v,hv⟩:=this;unfold n3;rw[e,hv];rfl
section
variable{K:Kn}{n:Nat}{L:List aw}{s:aH}{w:Int}
theorem Gk:∀(m k:Nat),k≤L.length→k<m→(L.length:Int)<9223372036854775807→im K n L m ((k:Int)-1)=some (dH 0 (-1) (L.take k)):=by
 intro m
 induction m with
 | zero=>intro k _ h;omega
 | succ m ih =>
  intro k hk hm hL;show iH K n L (im K n L m) ((k:Int)-1)=_;unfold iH;cases k with
  | zero=>rw[if_neg (by simp)];rfl
  | succ k =>
   have e:(((k+1:Nat):Int)-1)=(k:Int):=by omega
   have hkl:k<L.length:=by omega
   have ht:L.take (k+1)=L.take k++[L.getD k default]:=by
    rw[List.take_add_one,List.getElem?_eq_getElem hkl,bR hkl];rfl
   rw[e,if_pos (by simp),cI (by omega) (by omega),bA,Int.toNat_natCast,ht,yl];have hl:(L.take k).length=k:=by simp;omega
   cases hf:(L.getD k default).Forced with
   | false=>rw[show(!false)=true from rfl,if_pos rfl,hl];simp
   | true=>rw[show(!true)=false from rfl,if_neg (by simp),cb (by omega) (by omega),ih k (by omega) (by omega) hL];rfl
theorem F4(hn:L.length<n)(hL:(L.length:Int)<9223372036854775807):iE K n L=some (ju L):=by
 unfold iE;rw[cb (by omega) (by omega),Gk n L.length (Nat.le_refl _) hn hL,List.take_length];rfl
theorem G5(hb:∀r∈L,r.Box.length≤1∧r.Text.size≤100000)(hl:L.length≤2000)(hn:2002≤n):∀(m i:Nat) (p:Int×Int),i≤L.length→L.length<m+i→ec (dh s) L=ec p (L.drop i)→kR K n L s w m p.1 p.2 (i:Int)=some (dz s w L):=by
 intro m
 induction m with
 | zero=>intro i p h1 h2;omega
 | succ m ih =>
  intro i p h1 h2 h3;show l8 K n L s w (kR K n L s w m) p.1 p.2 i=_;unfold l8;by_cases hi:i<L.length
  ·have hd:L.drop i=L.getD i default::L.drop (i+1):=by rw[List.drop_eq_getElem_cons hi,bR hi]
   rw[hd,oV]at h3;have e1:aa ((i:Int)+1)=((i+1:Nat):Int):=by rw[cb (by omega) (by omega)];omega
   rw[if_pos (by simpa using hi),cI (by omega) (by omega),bA];simp only[Int.toNat_natCast];unfold me;rw[e1];cases hf:(L.getD i default).Forced with
   | false =>
    rw[hf]at h3;rw[show(!false)=true from rfl,if_pos rfl];exact ih (i+1) (_,_) (by omega) (by omega) h3
   | true =>
    rw[hf]at h3;rw[show(!true)=false from rfl,if_neg (by simp)];exact ih (i+1) p (by omega) (by omega) h3
  ·rw[List.drop_eq_nil_of_le (by omega)]at h3;have h3:ec (dh s) L=p:=h3;rw[if_neg (by simpa using hi),yK (by omega) (by omega)];simp only[Option.bind_some,I0];rw[F4 (by omega) (by omega)];simp only[Option.bind_some];rw[show(0:Int)=((0:Nat):Int) from rfl,Fh hb hl hn n 0 _ [] (by omega) (by omega) (by simp),List.drop_zero];unfold dz;rw[h3];rfl
theorem Lf(hb:∀r∈L,r.Box.length≤1∧r.Text.size≤100000)(hl:L.length≤2000)(hn:2002≤n):m4 K n L s w=some (dz s w L):=by
 unfold m4;rw[uc];simp only[Option.bind_some];exact G5 hb hl hn n 0 (dh s) (by omega) (by omega) rfl
end
def cG(s:aH)(w:Int)(X:List aw):Int→List Nat→List ae×Int
 | h,a::b::r =>
  let f:=dz s w (sl X a b)
  let q:=cG s w X (aa (h+f.H)) (b::r)
  ({ f with Y:=h }::q.1,q.2)
 | h,_=>([],h)
theorem zz(s:aH)(w:Int)(X:List aw):∀(S:List Nat) (h:Int),(cG s w X h S).1.length≤S.length
 | [],h=>by simp[cG]
 | [a],h=>by simp[cG]
 | a::b::r,h=>by
  have:=zz s w X (b::r) (aa (h+(dz s w (sl X a b)).H));unfold cG;simp at this⊢;omega
section
variable{K:Kn}{n:Nat}{X:List aw}{s:aH}{w:Int}
def Asc(N:Nat):List Nat→Prop
 | a::b::r=>a≤b∧b≤N∧Asc N (b::r)
 | _=>True
theorem CG{N:Nat}:∀{S:List Nat},Asc N S→∀i,i+1<S.length→S.getD i 0≤S.getD (i+1) 0∧S.getD (i+1) 0≤N
 | [],_,i,h=>by simp at h
 | [a],_,i,h=>by simp at h
 | a::b::r,h,0,_=>⟨h.1,h.2.1⟩
 | a::b::r,h,i+1,hi=>by
  have:=CG h.2.2 i (by simpa using hi);simpa using this
theorem DN(hb:∀r∈X,r.Box.length≤1∧r.Text.size≤100000)(hl:X.length≤2000)(hn:2010≤n)(v:Int)(hv:min (max v 0) 1048576=w)(S0 S:List Nat)(hS:S=S0++[X.length])(hA:Asc X.length S)(hSl:S.length≤2001):∀(m i:Nat) (h:Int) (acc:List ae),i<S.length→S.length<m+i→acc.length≤i →
  lC K n s v X (S0.map fun (k:Nat)=>(k:Int)) m h ((S.length-1:Nat):Int) (i:Int) acc=some (acc++(cG s w X h (S.drop i)).1,(cG s w X h (S.drop i)).2):=by
 have hSm:(S0.map fun (k:Nat)=>(k:Int))++[(X.length:Int)]=S.map fun (k:Nat)=>(k:Int):=by rw[hS];simp
 have hget:∀j,j<S.length→(S.map fun (k:Nat)=>(k:Int)).getD j default=((S.getD j 0:Nat):Int):=fun j hj=>by
  rw[bR (by simpa using hj),List.getElem_map];congr 1;simp[List.getD,hj]
 intro m
 induction m with
 | zero=>intro i h acc h1 h2;omega
 | succ m ih =>
  intro i h acc h1 h2 h3;show kP K n s v X (S0.map fun (k:Nat)=>(k:Int)) (lC K n s v X (S0.map fun (k:Nat)=>(k:Int)) m) h ((S.length-1:Nat):Int) i acc=_;unfold kP;have e1:aa ((i:Int)+1)=((i+1:Nat):Int):=by rw[cb (by omega) (by omega)];omega
  rw[hSm,e1];have hd:S.drop i=S.getD i 0::S.drop (i+1):=by rw[List.drop_eq_getElem_cons h1];congr 1;simp[List.getD,h1]
  by_cases hi:i+1<S.length
  ·have g1:=hget i h1;have g2:=hget (i+1) hi;obtain⟨a1,a2⟩:=CG hA i hi;have hd2:S.drop (i+1)=S.getD (i+1) 0::S.drop (i+2):=by rw[List.drop_eq_getElem_cons hi];congr 1;simp[List.getD,hi]
   rw[if_pos (by simp;omega),cI (by omega) (by simp;omega),bA,cI (by omega) (by simp;omega),bA];simp only[Int.toNat_natCast,g1,g2];rw[show cW ((S.getD i 0:Nat):Int) ((S.getD (i+1) 0:Nat):Int) X.length=true by simp only[cW,Bool.and_eq_true,decide_eq_true_eq];omega,bA];have hsl:List.drop (S.getD i 0) (List.take (S.getD (i+1) 0) X)=sl X (S.getD i 0) (S.getD (i+1) 0):=rfl;have h5:=pY X (S.getD i 0) (S.getD (i+1) 0);rw[hsl,hv,Lf (fun r hr=>hb r (by unfold sl at hr;exact List.mem_of_mem_take (List.mem_of_mem_drop hr))) (by omega) (by omega)];simp only[Option.bind_some];rw[eC (by simp;omega) (by omega),bA,ih (i+1) _ _ (by omega) (by omega) (by simp;omega),hd,hd2]
   conv=>rhs;unfold cG
   rw[←hd2];simp[List.append_assoc]
  ·rw[if_neg (by simp;omega),hd,List.drop_eq_nil_of_le (by omega)];simp[cG]
end
end
end Go.Proofs.YtnpmlepplfaijaaDoor
namespace Go.Proofs.YtnpmlepplfaijaaDoor
set_option linter.all false
open Go.RowKit
noncomputable section
theorem Eh(l:List R4)(w:Int)(m a:Nat)(ha:a≤l.length)(hm:l.length<m+a):∃r,bM l w m a++[l.length]=a::r:=by
 cases m with
 | zero=>omega
 | succ m =>
  unfold bM;by_cases h:a<l.length
  ·rw[if_pos h];exact⟨_,rfl⟩
  ·rw[if_neg h];exact⟨[],by rw[List.nil_append,show a=l.length by omega]⟩
theorem Ac(l:List R4)(w:Int):∀(m a:Nat),a≤l.length→l.length<m+a→Asc l.length (bM l w m a++[l.length]):=by
 intro m
 induction m with
 | zero=>intro a h1 h2;omega
 | succ m ih =>
  intro a h1 h2;unfold bM;by_cases h:a<l.length
  ·rw[if_pos h];have q1:=lT (l:=l) (i:=a+1) (by omega);have q2:=gx l (a+1);have q3:=oT l w a l.length _ q1;have q4:=mN l w a l.length (gr l (a+1));have h3:=ih (lE l w a l.length (gr l (a+1))) q3 (by omega);obtain⟨r,hr⟩:=Eh l w m (lE l w a l.length (gr l (a+1))) q3 (by omega);rw[List.cons_append];rw[hr]at h3⊢;exact⟨by omega,q3,h3⟩
  ·rw[if_neg h];trivial
theorem J3{P:aw→Prop}{pl:au→aw}(h1:∀e g,P (runM { cy with Forced:=true } e g)):∀(m:Nat) (p:Option ao) (l:List ao),(∀e∈l,e.Kind=3→∀g,P (runM (pl e.Box) e g))→(∀e g (x:List ao),x≠[]→x.length≤l.length→(∀y∈x,y∈l)→P (runM (ce x) e g))→∀r∈cM pl m p l,P r:=by
 intro m
 induction m with
 | zero=>intro p l _ _ r hr;cases hr
 | succ m ih =>
  intro p l h2 h3 r hr;cases l with
  | nil=>cases hr
  | cons e t =>
   unfold cM at hr;cases k2:(e.Kind == 2) with
   | true =>
    rw[k2]at hr;rcases List.mem_cons.1 hr with rfl|hr
    ·exact h1 _ _
    ·exact ih (some e) t (fun e he=>h2 e (by simp[he])) (fun e g x q1 q2 q3=>h3 e g x q1 (by simp;omega) (fun y hy=>by simp[q3 y hy])) r hr
   | false =>
    cases k3:(e.Kind == 3) with
    | true =>
     rw[k2,k3]at hr;rcases List.mem_cons.1 hr with rfl|hr
     ·exact h2 e (by simp) (by simpa using k3) _
     ·exact ih (some e) t (fun e he=>h2 e (by simp[he])) (fun e g x q1 q2 q3=>h3 e g x q1 (by simp;omega) (fun y hy=>by simp[q3 y hy])) r hr
    | false =>
     rw[k2,k3]at hr;rcases List.mem_cons.1 hr with rfl|hr
     ·refine h3 _ _ _ (by simp) (by simp;omega) (fun y hy=>?_);rcases List.mem_cons.1 hy with rfl|hy
      ·simp
      ·exact List.mem_cons_of_mem _ (List.mem_of_mem_take hy)
     ·refine ih _ _ (fun e he=>h2 e (List.mem_cons_of_mem _ (List.mem_of_mem_drop he))) (fun e g x q1 q2 q3=>h3 e g x q1 (by simp at q2⊢;omega) (fun y hy=>List.mem_cons_of_mem _ (List.mem_of_mem_drop (q3 y hy)))) r hr
theorem KY{x:List ao}(h:∀e∈x,fY e):(ce x).Text.size≤4*x.length:=by
 have:=l4 (qX h);unfold ce;simp only[];rw[qP];have:(aX x).length=x.length:=by unfold aX;simp
 omega
def bv(v:Int):Int:=min (max v 0) 1048576
def cY(X:List aw)(w:Int):List Nat:=bM (X.map vI) w (X.length+1) 0++[X.length]
end
end Go.Proofs.YtnpmlepplfaijaaDoor
namespace Go.Proofs.YtnpmlepplfaijaaDoor
set_option linter.all false
open Go.RowKit
noncomputable section
def ck:Nat→List ao→List (List ao)
 | 0,_=>[]
 | _+1,[]=>[]
 | m+1,e::r=>bif e.Kind == 2||e.Kind == 3 then [e]::ck m r else (e::r.take (jl e.Of e r))::ck m (r.drop (jl e.Of e r))
theorem pP(o:Int):∀(l:List ao) (a:ao),∀y∈l.take (jl o a l),y.Kind=1
 | [],_,y,h=>by simp at h
 | b::r,a,y,h=>by
  unfold jl at h;cases hc:(b.Kind == 1&&(b.Of == o&&!db a b)) with
  | false=>rw[hc]at h;simp at h
  | true =>
   rw[hc]at h;simp only[cond_true,List.take_succ_cons]at h;rcases List.mem_cons.1 h with rfl|h
   ·simp only[Bool.and_eq_true,beq_iff_eq]at hc;exact hc.1
   ·exact pP o r b y h
def cZ(F:List ae):List UInt8:=F.flatMap fun f=>bif f.Kind == 3 then f.Text.data.toList else []
theorem B4(a b:List ae):cZ (a++b)=cZ a++cZ b:=by simp[cZ]
theorem tD{above x:Int}{r:aw}(hb:∀f∈r.Box,f.Kind=1):cZ (cJ above x r)=r.Text.data.toList:=by
 unfold cJ;rw[B4];have h2:cZ (r.Box.map (ms above x))=[]:=by
  unfold cZ;rw[List.flatMap_eq_nil_iff];intro f hf;obtain⟨g,hg,rfl⟩:=List.mem_map.1 hf;have:(ms above x g).Kind=1:=hb g hg;rw[this];rfl
 rw[h2,List.append_nil];unfold fZ;cases he:r.Text.data.toList with
 | nil=>rfl
 | cons b t=>simp only[List.isEmpty_cons,cond_false];simp[cZ,he]
def se(c:List Int):Bool:=c.getLast? == some 32
theorem Hr{r:Int}(h:b8 r):∃b,(cz r).getLast?=some b∧((b == 32)=(r == 32)):=by
 have ne:∀n:Nat,n<256→n≠32→((UInt8.ofNat n) == 32)=false:=fun n h1 h2=>by
  rw[beq_eq_false_iff_ne];intro e;have:=congrArg UInt8.toNat e;rw[dp h1]at this;exact h2 this
 obtain⟨c,rfl,h|h|h|h⟩:=qi h
 ·rw[h.2];refine⟨UInt8.ofNat c,rfl,?_⟩;by_cases e:c=32
  ·subst e;rfl
  ·rw[ne c (by omega) e];symm;rw[beq_eq_false_iff_ne];omega
 ·rw[h.2.2];refine⟨UInt8.ofNat (128+c % 64),rfl,?_⟩;rw[ne (128+c % 64) (by omega) (by omega)];symm;rw[beq_eq_false_iff_ne];omega
 ·rw[h.2.2.2];refine⟨UInt8.ofNat (128+c % 64),rfl,?_⟩;rw[ne (128+c % 64) (by omega) (by omega)];symm;rw[beq_eq_false_iff_ne];omega
 ·rw[h.2.2];refine⟨UInt8.ofNat (128+c % 64),rfl,?_⟩;rw[ne (128+c % 64) (by omega) (by omega)];symm;rw[beq_eq_false_iff_ne];omega
theorem C1{cs:List Int}(h:∀r∈cs,b8 r):((b9 cs).getLast? == some 32)=se cs:=by
 unfold se;cases hc:cs.getLast? with
 | none =>
  have:cs=[]:=by simpa using hc
  subst this;rfl
 | some x =>
  obtain⟨ys,hys⟩:=List.getLast?_eq_some_iff.1 hc;subst hys;obtain⟨b,hb,hbe⟩:=Hr (h x (by simp));rw[qm];have:b9 [x]=cz x:=by simp[b9]
  rw[this,List.getLast?_append,hb];simpa using hbe
theorem Gv{cs:List Int}(h:∀r∈cs,b8 r):dD (dc cs)=se cs:=by
 unfold dD;rw[le];exact C1 h
end
end Go.Proofs.YtnpmlepplfaijaaDoor
namespace Go.Proofs.YtnpmlepplfaijaaDoor
set_option linter.all false
open Go.RowKit
noncomputable section
theorem Ij{n m b0 b1 b2 b3 c1 c2 c3:Nat}(h:¬ ((Lib.decodeN n b0 b1 b2 b3).1=65533∧(Lib.decodeN n b0 b1 b2 b3).2=1))(hm:n≤m)(h1:1<n→b1=c1)(h2:2<n→b2=c2)(h3:3<n→b3=c3)(h0:0<n):
  Lib.decodeN m b0 c1 c2 c3=Lib.decodeN n b0 b1 b2 b3∧(Lib.decodeN n b0 b1 b2 b3).2≤n:=by
 unfold Lib.decodeN at h⊢;by_cases q0:b0<128
 ·simp only[if_pos q0];exact⟨trivial,h0⟩
 ·simp only[if_neg q0]at h⊢;by_cases k1:1<n
  ·have e1:=h1 k1;subst e1;have m1:1<m:=by omega
   by_cases k2:2<n
   ·have e2:=h2 k2;subst e2;have m2:2<m:=by omega
    by_cases k3:3<n
    ·have e3:=h3 k3;subst e3;have m3:3<m:=by omega
     simp only[k1,k2,k3,m1,m2,m3,true_and]at h⊢
     repeat' split
     all_goals simp only[]
     all_goals omega
    ·simp only[k1,k2,k3,m1,m2,true_and,false_and,and_false,if_false]at h⊢;by_cases p1:b0 / 32=6∧b1 / 64=2
     ·simp only[if_pos p1,true_and];split<;>simp only[]<;>omega
     ·simp only[if_neg p1]at h⊢;by_cases p2:b0 / 16=14∧b1 / 64=2∧b2 / 64=2
      ·simp only[if_pos p2,true_and];split<;>simp only[]<;>omega
      ·simp only[if_neg p2]at h;exact absurd ⟨trivial,trivial⟩ h
   ·have k3:¬ 3<n:=by omega
    simp only[k1,k2,k3,m1,true_and,false_and,and_false,if_false]at h⊢;by_cases p1:b0 / 32=6∧b1 / 64=2
    ·simp only[if_pos p1,true_and];split<;>simp only[]<;>omega
    ·simp only[if_neg p1]at h;exact absurd ⟨trivial,trivial⟩ h
  ·have k2:¬ 2<n:=by omega
   have k3:¬ 3<n:=by omega
   simp only[k1,k2,k3,false_and,and_false,if_false]at h;exact absurd ⟨trivial,trivial⟩ h
theorem rT(l t:List UInt8){i:Nat}(h:i<l.length):(l++t).getD i 0=l.getD i 0:=by
 simp only[List.getD_eq_getElem?_getD,List.getElem?_append_left h]
theorem Hq{l:List UInt8}(t:List UInt8)(h0:l≠[])(h:¬ ((Lib.decodeL l).1=65533∧(Lib.decodeL l).2=1)):Lib.decodeL (l++t)=Lib.decodeL l∧(Lib.decodeL l).2≤l.length:=by
 have hl:0<l.length:=List.length_pos_iff.2 h0;rw[Lib.decodeL_N l]at h⊢;rw[Lib.decodeL_N (l++t),rT l t hl];exact Ij h (by rw[List.length_append];omega) (fun h=>by rw[rT l t h]) (fun h=>by rw[rT l t h]) (fun h=>by rw[rT l t h]) hl
theorem Eu(t:List UInt8):∀(k:Nat) (l:List UInt8),l.length≤k→Lib.validD l=true→ew (l++t)=ew l++ew t:=by
 intro k
 induction k with
 | zero =>
  intro l h _;have:l=[]:=List.eq_nil_of_length_eq_zero (by omega);subst this;rfl
 | succ k ih =>
  intro l h hv;by_cases h0:l=[]
  ·subst h0;rfl
  ·rw[Lib.validD_step l h0]at hv;by_cases hb:(Lib.decodeL l).1=65533∧(Lib.decodeL l).2=1
   ·rw[if_pos hb]at hv;cases hv
   ·rw[if_neg hb]at hv;obtain⟨e1,e2⟩:=Hq t h0 hb;have hw:=Lib.decodeL_width l;have hl:0<l.length:=List.length_pos_iff.2 h0;rw[pb h0,pb (l:=l++t) (by intro e;rw[List.append_eq_nil_iff]at e;exact h0 e.1),e1,List.drop_append_of_le_length e2,ih _ (by rw[List.length_drop];omega) hv];rfl
theorem IE{a:ByteArray}(b:ByteArray)(h:Lib.validD a.data.toList=true):cp (a++b) 0=cp a 0++cp b 0:=by
 unfold cp;rw[List.drop_zero,List.drop_zero,List.drop_zero,kC];exact Eu _ _ _ (Nat.le_refl _) h
def key(e:ao):Int×Int×Bool×aH×Int:=(e.Kind,e.Char,e.Soft,e.Box.Style,e.Box.Node)
theorem dX{a b:ao}(h:key a=key b):a.Kind=b.Kind∧a.Char=b.Char∧a.Soft=b.Soft∧a.Box.Style=b.Box.Style∧a.Box.Node=b.Box.Node:=by
 simpa[key]using h
theorem mT{A B:List ao}(h:A.map key=B.map key)(i:Nat):key (A.getD i default)=key (B.getD i default):=by
 have hl:A.length=B.length:=by simpa using congrArg List.length h
 by_cases hi:i<A.length
 ·have:=congrArg (fun l=>l[i]?) h;simp only[List.getElem?_map,List.getElem?_eq_getElem hi,List.getElem?_eq_getElem (show i<B.length by omega),Option.map_some,Option.some.injEq]at this;rw[bR hi,bR (by omega)];exact this
 ·simp[List.getD,hi,show ¬ i<B.length by omega]
theorem BX{a a' b b':ao}(h:key a=key a')(h2:key b=key b'):db a b=db a' b':=by
 obtain⟨a1,a2,a3,a4,a5⟩:=dX h;obtain⟨b1,b2,b3,b4,b5⟩:=dX h2;unfold db eG;rw[a1,a2,a4,b1,b2,b4]
theorem FJ{A B:List ao}(h:A.map key=B.map key):fd A=fd B:=by
 have hl:A.length=B.length:=by simpa using congrArg List.length h
 have he:A.isEmpty=B.isEmpty:=by cases A<;>cases B<;>simp_all
 obtain⟨a1,a2,a3,_⟩:=dX (mT h (A.length-1));unfold fd cn;rw[he,← hl,a1,a3]
theorem Ew{A B:List ao}(h:A.map key=B.map key){e f:ao}(he:key e=key f):(eJ A e).map key=(eJ B f).map key:=by
 obtain⟨a1,a2,a3,a4,a5⟩:=dX he;have hp:dB e=dB f:=by unfold dB;rw[a4]
 have ap:∀{x y:ao},key x=key y→(A++[x]).map key=(B++[y]).map key:=fun hx=>by rw[List.map_append,List.map_append,h,List.map_singleton,List.map_singleton,hx]
 unfold eJ;rw[a2,hp,FJ h];cases er f.Char with
 | false=>exact ap he
 | true =>
  simp only[cond_true];cases dB f with
  | true =>
   simp only[cond_true];cases (f.Char == 10) with
   | true=>exact ap (by simp[key,a3,a4,a5])
   | false =>
    simp only[cond_false];cases (f.Char == 13) with
    | true=>exact h
    | false=>exact ap (by simp[key,a1,a3,a4,a5])
  | false =>
   simp only[cond_false];cases fd B with
   | true=>exact h
   | false=>exact ap (by simp[key,a1,a4,a5])
theorem vG{b c:au}(hs:b.Style=c.Style)(hn:b.Node=c.Node)(n m:Int):∀(rs:List Int) {A B:List ao},A.map key=B.map key→(cU b n A rs).map key=(cU c m B rs).map key
 | [],A,B,h=>h
 | r::t,A,B,h=>by
  unfold cU;rw[List.foldl_cons,List.foldl_cons];exact vG hs hn n m t (Ew h (by simp[key,hs,hn]))
theorem K7(A:List ao)(e:ao)(hk:e.Kind=1):∃N,eJ A e=A++N∧∀x∈N,x.Of=e.Of∧(x.Kind=1∨x.Kind=2)∧x.Box=e.Box:=by
 have one:∀x:ao,x.Of=e.Of∧(x.Kind=1∨x.Kind=2)∧x.Box=e.Box→∃N,A++[x]=A++N∧∀y∈N,y.Of=e.Of∧(y.Kind=1∨y.Kind=2)∧y.Box=e.Box:=fun x hx=>⟨[x],rfl,fun y hy=>by rw[List.mem_singleton.1 hy];exact hx⟩;have no:∃N,A=A++N∧∀y∈N,y.Of=e.Of∧(y.Kind=1∨y.Kind=2)∧y.Box=e.Box:=⟨[],by simp,fun y hy=>by cases hy⟩;unfold eJ;cases er e.Char with
 | false=>exact one e ⟨rfl,.inl hk,rfl⟩
 | true =>
  simp only[cond_true];cases dB e with
  | true =>
   simp only[cond_true];cases (e.Char == 10) with
   | true=>exact one _ ⟨rfl,.inr rfl,rfl⟩
   | false =>
    simp only[cond_false];cases (e.Char == 13) with
    | true=>exact no
    | false=>exact one _ ⟨rfl,.inl hk,rfl⟩
  | false =>
   simp only[cond_false];cases fd A with
   | true=>exact no
   | false=>exact one _ ⟨rfl,.inl hk,rfl⟩
theorem mH(b:au)(n:Int):∀(rs:List Int) (A:List ao),∃N,cU b n A rs=A++N∧∀x∈N,x.Of=n∧(x.Kind=1∨x.Kind=2)∧x.Box=b
 | [],A=>⟨[],by simp[cU],fun x hx=>by cases hx⟩
 | r::t,A=>by
  obtain⟨N,h1,h2⟩:=K7 A ⟨1,n,r,false,b⟩ rfl;obtain⟨N2,h3,h4⟩:=mH b n t (eJ A ⟨1,n,r,false,b⟩);refine⟨N++N2,?_,fun x hx=>?_⟩
  ·unfold cU at h3⊢;rw[List.foldl_cons,h3,h1,List.append_assoc]
  ·rcases List.mem_append.1 hx with hx|hx
   ·exact h2 x hx
   ·exact h4 x hx
def cQ:ao→List ao→Nat
 | _,[]=>0
 | a,b::r=>bif b.Kind == 1&&!db a b then cQ b r+1 else 0
theorem Aw:∀(l:List ao) (a:ao),cQ a l≤l.length
 | [],_=>Nat.le_refl _
 | b::r,a=>by
  unfold cQ;cases (b.Kind == 1&&!db a b) with
  | true=>have:=Aw r b;simp;omega
  | false=>simp
theorem nR{o:Int}:∀(l:List ao) (a:ao),(∀x∈l,x.Of=o)→jl o a l=cQ a l
 | [],_,_=>rfl
 | b::r,a,h=>by
  have e:(b.Of == o)=true:=by simp[h b (by simp)]
  unfold jl cQ;rw[e,nR r b (fun x hx=>h x (by simp[hx]))];rfl
theorem xA{o:Int}:∀(A B:List ao) (a:ao),(∀x∈A,x.Of=o)→(∀x∈B,x.Of≠o)→jl o a (A++B)=min (cQ a (A++B)) A.length
 | [],[],a,_,_=>rfl
 | [],b::r,a,_,h=>by
  have e:(b.Of == o)=false:=by simpa using h b (by simp)
  show jl o a (b::r)=_;unfold jl;rw[e];simp
 | b::r,B,a,h1,h2=>by
  have e:(b.Of == o)=true:=by simp[h1 b (by simp)]
  show jl o a (b::(r++B))=min (cQ a (b::(r++B))) _;unfold jl cQ;rw[e,xA r B b (fun x hx=>h1 x (by simp[hx])) h2];cases (b.Kind == 1)<;>cases db a b<;>simp<;>omega
theorem qM:∀{A B:List ao} {a b:ao},A.map key=B.map key→key a=key b→cQ a A=cQ b B
 | [],[],_,_,_,_=>rfl
 | [],y::s,_,_,h,_=>by simp at h
 | x::r,[],_,_,h,_=>by simp at h
 | x::r,y::s,a,b,h,h2=>by
  rw[List.map_cons,List.map_cons]at h;injection h with h3 h4
  unfold cQ;rw[BX h2 h3,(dX h3).1,qM h4 h3]
theorem BO:∀(A B:List ao) (a:ao) (b:ao),A.length<cQ a (A++b::B)→b.Kind=1∧db (cn (a::A)) b=false∧cQ b B=cQ a (A++b::B)-(A.length+1)
 | [],B,a,b,h=>by
  simp only[List.nil_append,List.length_nil]at h⊢;have e:cQ a (b::B)=bif b.Kind == 1&&!db a b then cQ b B+1 else 0:=rfl;rw[e]at h⊢;cases hc:(b.Kind == 1&&!db a b) with
  | false=>rw[hc]at h;simp at h
  | true =>
   simp only[Bool.and_eq_true,beq_iff_eq,Bool.not_eq_true']at hc;exact⟨hc.1,hc.2,by simp⟩
 | x::r,B,a,b,h=>by
  simp only[List.cons_append,List.length_cons]at h⊢;have e:cQ a (x::(r++b::B))=bif x.Kind == 1&&!db a x then cQ x (r++b::B)+1 else 0:=rfl;rw[e]at h⊢;cases hc:(x.Kind == 1&&!db a x) with
  | false=>rw[hc]at h;simp at h
  | true =>
   rw[hc]at h;simp only[cond_true]at h⊢;obtain⟨q1,q2,q3⟩:=BO r B x b (by omega);refine⟨q1,?_,by omega⟩;have:cn (a::x::r)=cn (x::r):=by
    unfold cn;simp[List.getD]
   rw[this];exact q2
end
end Go.Proofs.YtnpmlepplfaijaaDoor
namespace Go.Proofs.YtnpmlepplfaijaaDoor
set_option linter.all false
open Go.RowKit
noncomputable section
theorem ET{x y:List ao}(h:x.map key=y.map key):aX x=aX y:=by
 have:=congrArg (fun l=>l.map fun k=>k.2.1) h;simpa[aX,List.map_map,Function.comp_def,key]using this
theorem tm{x y:List ao}(h:x.map key=y.map key):ce x=ce y:=by
 have hl:x.length=y.length:=by simpa using congrArg List.length h
 have hs:cR x=cR y:=by unfold cR;rw[←hl];exact(dX (mT h _)).2.2.1
 have ht:dd x=dd y:=(dX (mT h 0)).2.2.2.1;unfold ce cS;rw[ET h,hs,ht]
theorem mS{e f:ao}(h:key e=key f)(r:aw)(g:Bool):runM r e g=runM r f g:=by
 obtain⟨_,_,_,h4,h5⟩:=dX h;unfold runM;rw[h4,h5]
theorem vg{p q:Option ao}(h:p.map key=q.map key){e f:ao}(h2:key e=key f):fG p e=fG q f:=by
 cases p with
 | none=>cases q with
  | none=>rfl
  | some y=>cases h
 | some x=>cases q with
  | none=>cases h
  | some y =>
   have h3:key x=key y:=by simpa using h
   show(x.Kind != 2&&!db x e)=(y.Kind != 2&&!db y f);rw[(dX h3).1,BX h3 h2]
theorem rm{A B:List ao}(h:A.map key=B.map key):key (cn A)=key (cn B):=by
 have hl:A.length=B.length:=by simpa using congrArg List.length h
 unfold cn;rw[←hl];exact mT h _
theorem map_take{A B:List ao}(h:A.map key=B.map key)(k:Nat):(A.take k).map key=(B.take k).map key:=by rw[List.map_take,List.map_take,h]
theorem map_drop{A B:List ao}(h:A.map key=B.map key)(k:Nat):(A.drop k).map key=(B.drop k).map key:=by rw[List.map_drop,List.map_drop,h]
section
variable{pl:au→aw}{o1 o2:Int}
theorem A8:∀(m:Nat) (p q:Option ao) (A B:List ao),A.map key=B.map key→p.map key=q.map key→(∀x∈A,x.Of=o1∧x.Kind≠3)→(∀x∈B,x.Of=o2)→cM pl m p A=cM pl m q B:=by
 intro m
 induction m with
 | zero=>intro p q A B _ _ _ _;rfl
 | succ m ih =>
  intro p q A B h hp h1 h2;cases A with
  | nil=>cases B with
   | nil=>rfl
   | cons y s=>simp at h
  | cons e r=>cases B with
   | nil=>simp at h
   | cons f s =>
    rw[List.map_cons,List.map_cons]at h;injection h with h3 h4
    have k3:(e.Kind == 3)=false:=by simpa using (h1 e (by simp)).2
    have k3':(f.Kind == 3)=false:=by rw[←(dX h3).1];exact k3
    have hj:jl e.Of e r=jl f.Of f s:=by
     rw[nR r e (fun x hx=>by rw[(h1 x (by simp[hx])).1,(h1 e (by simp)).1]),nR s f (fun x hx=>by rw[h2 x (by simp[hx]),h2 f (by simp)]),qM h4 h3]
    unfold cM;rw[k3,k3',← (dX h3).1,vg hp h3,← hj];simp only[cond_false];have ht:(e::r.take (jl e.Of e r)).map key=(f::s.take (jl e.Of e r)).map key:=by rw[List.map_cons,List.map_cons,h3,map_take h4]
    rw[ih (some e) (some f) r s h4 (by simpa using h3) (fun x hx=>h1 x (by simp[hx])) (fun x hx=>h2 x (by simp[hx])),
     ih _ (some (cn (f::s.take (jl e.Of e r)))) (r.drop (jl e.Of e r)) (s.drop (jl e.Of e r)) (map_drop h4 _) (by simpa using rm ht) (fun x hx=>h1 x (List.mem_cons_of_mem _ (List.mem_of_mem_drop hx))) (fun x hx=>h2 x (List.mem_cons_of_mem _ (List.mem_of_mem_drop hx))),
     tm ht,mS h3,mS h3]
structure Cut(Q:ao→Prop)(r ra rb:aw):Prop where
 ex:∃xa xb e b g,xa≠[]∧xb≠[]∧(∀x∈xa,x.Kind=1∧Q x)∧(∀x∈xb,x.Kind=1∧Q x)∧Q e∧Q b∧xa.length+xb.length≤2000∧r=runM (ce (xa++xb)) e g∧ra=runM (ce xa) e g∧rb=runM (ce xb) b true
theorem FD(Q:ao→Prop)(ho:o2≠o1):∀(m:Nat) (p q:Option ao) (A B A' B':List ao),A.length+B.length<m→A.length+B.length≤2000→A.map key=A'.map key→B.map key=B'.map key→p.map key=q.map key→(∀x∈A,x.Of=o1∧(x.Kind=1∨x.Kind=2))→(∀x∈B,x.Of=o1∧(x.Kind=1∨x.Kind=2))→(∀x∈A',x.Of=o1∧Q x)→(∀x∈B',x.Of=o2∧Q x) →
  cM pl m p (A++B)=cM pl m q (A'++B')∨∃P r ra rb S,cM pl m p (A++B)=P++r::S∧cM pl m q (A'++B')=P++ra::rb::S∧Cut Q r ra rb:=by
 intro m
 induction m with
 | zero=>intro p q A B A' B' h;omega
 | succ m ih =>
  intro p q A B A' B' hm hl hA hB hp h1 h2 h3 h4;have lA:A.length=A'.length:=by simpa using congrArg List.length hA
  have lB:B.length=B'.length:=by simpa using congrArg List.length hB
  cases A with
  | nil =>
   cases A' with
   | cons y s=>simp at hA
   | nil=>exact .inl (A8 (o1:=o1) (o2:=o2) _ _ _ _ _ hB hp (fun x hx=>⟨(h2 x hx).1,by rcases (h2 x hx).2 with h|h<;>omega⟩) (fun x hx=>(h4 x hx).1))
  | cons e r=>cases A' with
   | nil=>simp at hA
   | cons f s =>
    rw[List.map_cons,List.map_cons]at hA;injection hA with hef hrs
    simp only[List.length_cons]at hm hl lA;have k3:(e.Kind == 3)=false:=by rcases (h1 e (by simp)).2 with h|h<;>rw[h]<;>rfl
    have k3':(f.Kind == 3)=false:=by rw[←(dX hef).1];exact k3
    have sub:∀{R1 R2:List aw} (r0:aw),(R1=R2∨∃P r ra rb S,R1=P++r::S∧R2=P++ra::rb::S∧Cut Q r ra rb)→(r0::R1=r0::R2∨∃P r ra rb S,r0::R1=P++r::S∧r0::R2=P++ra::rb::S∧Cut Q r ra rb):=fun r0 h=>by
     rcases h with h|⟨P,r,ra,rb,S,e1,e2,e3⟩
     ·exact .inl (by rw[h])
     ·exact .inr ⟨r0::P,r,ra,rb,S,by rw[e1];rfl,by rw[e2];rfl,e3⟩
    simp only[List.cons_append];have hrB:(r++B).map key=(s++B').map key:=by rw[List.map_append,List.map_append,hrs,hB]
    unfold cM;rw[k3,k3',← (dX hef).1,vg hp hef];simp only[cond_false];cases k2:(e.Kind == 2) with
    | true =>
     simp only[cond_true];rw[mS hef];exact sub _ (ih (some e) (some f) r B s B' (by omega) (by omega) hrs hB (by simpa using hef) (fun x hx=>h1 x (by simp[hx])) h2 (fun x hx=>h3 x (by simp[hx])) h4)
    | false =>
     simp only[cond_false];have oe:=(h1 e (by simp)).1;have of_:=(h3 f (by simp)).1;have hj1:jl e.Of e (r++B)=cQ e (r++B):=nR _ _ (fun x hx=>by
      rw[oe];rcases List.mem_append.1 hx with hx|hx
      ·exact(h1 x (by simp[hx])).1
      ·exact(h2 x hx).1)
     have hj2:jl f.Of f (s++B')=min (cQ e (r++B)) r.length:=by
      rw[xA s B' f (fun x hx=>by rw[of_];exact(h3 x (by simp[hx])).1) (fun x hx=>by rw[of_,(h4 x hx).1];exact ho),← qM hrB hef];congr 1;omega
     rw[hj1,hj2];have hjl:=Aw (r++B) e;rw[List.length_append]at hjl;by_cases hle:cQ e (r++B)≤r.length
     ·rw[Nat.min_eq_left hle];generalize cQ e (r++B)=k at *;have ht:(e::(r++B).take k).map key=(f::(s++B').take k).map key:=by rw[List.map_cons,List.map_cons,hef,map_take hrB]
      rw[tm ht,mS hef,List.drop_append_of_le_length (l₁:=r) (by omega),List.drop_append_of_le_length (l₁:=s) (by omega)];exact sub _ (ih _ _ (r.drop k) B (s.drop k) B' (by rw[List.length_drop];omega) (by rw[List.length_drop];omega) (map_drop hrs k) hB (by simpa using rm ht) (fun x hx=>h1 x (List.mem_cons_of_mem _ (List.mem_of_mem_drop hx))) h2 (fun x hx=>h3 x (List.mem_cons_of_mem _ (List.mem_of_mem_drop hx))) h4)
     ·rw[Nat.min_eq_right (by omega)];have hlt:r.length<cQ e (r++B):=by omega
      cases B with
      | nil=>simp only[List.length_nil]at hjl;omega
      | cons b B=>cases B' with
       | nil=>simp at hB
       | cons b' B' =>
        rw[List.map_cons,List.map_cons]at hB;injection hB with hbb hBB
        simp only[List.length_cons]at hm hl lB hjl;obtain⟨c1,c2,c3⟩:=BO r B e b hlt;generalize hk:cQ e (r++b::B)=k at *;obtain⟨k',rfl⟩:∃k',k=r.length+1+k':=⟨k-(r.length+1),by omega⟩;have hk':cQ b B=k':=by omega
        have lrs:r.length=s.length:=by omega
        have kb3:(b'.Kind == 3)=false:=by rw[←(dX hbb).1];rw[c1];rfl
        have kb2:(b'.Kind == 2)=false:=by rw[←(dX hbb).1];rw[c1];rfl
        have ob:=(h4 b' (by simp)).1;have hj3:jl b'.Of b' B'=k':=by
         rw[nR B' b' (fun x hx=>by rw[ob];exact(h4 x (by simp[hx])).1),← qM hBB hbb,hk']
        -- the first part of the divided run,then the second
        have htk:(r++b::B).take (r.length+1+k')=r++b::B.take k':=by
         rw[Nat.add_assoc,List.take_append,show r.length+(1+k')-r.length=k'+1 by omega,List.take_of_length_le (by omega)];rfl
        have hdk:(r++b::B).drop (r.length+1+k')=B.drop k':=by
         rw[Nat.add_assoc,List.drop_append,show r.length+(1+k')-r.length=k'+1 by omega,List.drop_eq_nil_of_le (by omega)];rfl
        have htk2:(s++b'::B').take r.length=s:=by rw[lrs];simp
        have hdk2:(s++b'::B').drop r.length=b'::B':=by rw[lrs];simp
        rw[htk,hdk,htk2,hdk2];obtain⟨m,rfl⟩:∃m',m=m'+1:=⟨m-1,by omega⟩;have hgl:fG (some (cn (f::s))) b'=true:=by
         have e1:fG (some (cn (f::s))) b'=fG (some (cn (e::r))) b:=vg (by
          have:(f::s).map key=(e::r).map key:=by rw[List.map_cons,List.map_cons,hef,hrs]
          simpa using rm this) hbb.symm
         rw[e1];show((cn (e::r)).Kind != 2&&!db (cn (e::r)) b)=true;rw[c2];have hke:e.Kind=1:=by
          rcases (h1 e (by simp)).2 with h|h
          ·exact h
          ·rw[h]at k2;cases k2
         have hki:(cn (e::r)).Kind=1:=by
          have q1:∀x∈(r++b::B).take (jl o1 e (r++b::B)),x.Kind=1:=pP _ _ _;rw[←oe,hj1,htk]at q1;unfold cn;have hm2:(e::r).getD ((e::r).length-1) default∈e::r:=by rw[bR (by simp)];exact List.getElem_mem _
          rcases List.mem_cons.1 hm2 with h|h
          ·rw[h];exact hke
          ·exact q1 _ (List.mem_append.2 (.inl h))
         rw[hki];rfl
        have hX2:(b'::B').length<m+1:=by simp only[List.length_cons];omega
        have bL:cM pl (m+1) (some (cn (f::s))) (b'::B')=runM (ce (b'::B'.take k')) b' true::cM pl m (some (cn (b'::B'.take k'))) (B'.drop k'):=by
         show(bif b'.Kind == 2 then _ else bif b'.Kind == 3 then _ else runM (ce (b'::B'.take (jl b'.Of b' B'))) b' (fG (some (cn (f::s))) b')::cM pl m (some (cn (b'::B'.take (jl b'.Of b' B')))) (B'.drop (jl b'.Of b' B')))=_;rw[kb2,kb3,hj3,hgl];rfl
        have htx:(e::(r++b::B.take k')).map key=(f::s++b'::B'.take k').map key:=by
         rw[List.map_cons,List.map_append,List.map_cons,hef,hrs,hbb,map_take hBB,List.map_append,List.map_cons,List.map_cons,List.cons_append]
        have hS:cM pl (m+1) (some (cn (e::(r++b::B.take k')))) (B.drop k')=cM pl m (some (cn (b'::B'.take k'))) (B'.drop k'):=by
         rw[yp pl (m+1) m _ _ (by rw[List.length_drop];omega) (by rw[List.length_drop];omega)];refine A8 (o1:=o1) (o2:=o2) _ _ _ _ _ (map_drop hBB k') ?_ (fun x hx=>?_) (fun x hx=>(h4 x (List.mem_cons_of_mem _ (List.mem_of_mem_drop hx))).1)
         ·have:cn (e::(r++b::B.take k'))=cn (b::B.take k'):=by
           unfold cn;simp only[List.getD_eq_getElem?_getD,List.length_cons,List.length_append,Nat.add_sub_cancel];rw[show e::(r++b::B.take k')=(e::r)++b::B.take k' from rfl,List.getElem?_append_right (by simp)];congr 2;simp;omega
          rw[this];have h9:(b::B.take k').map key=(b'::B'.take k').map key:=by rw[List.map_cons,List.map_cons,hbb,map_take hBB]
          simpa using rm h9
         ·have:=h2 x (List.mem_cons_of_mem _ (List.mem_of_mem_drop hx));exact⟨this.1,by rcases this.2 with h|h<;>omega⟩
        rw[bL,hS,tm htx,mS hef];refine .inr ⟨[],_,_,_,_,rfl,rfl,⟨f::s,b'::B'.take k',f,b',fG q f,by simp,by simp,?_,?_,(h3 f (by simp)).2,(h4 b' (by simp)).2,?_,rfl,rfl,rfl⟩⟩
        ·intro x hx;refine⟨?_,(h3 x hx).2⟩;have q1:∀x∈(r++b::B).take (jl o1 e (r++b::B)),x.Kind=1:=pP _ _ _;rw[←oe,hj1,htk]at q1;have q2:∀z∈e::r,z.Kind=1:=fun z hz=>by
          rcases List.mem_cons.1 hz with rfl|hz
          ·rcases (h1 z (by simp)).2 with h|h
           ·exact h
           ·rw[h]at k2;cases k2
          ·exact q1 z (List.mem_append.2 (.inl hz))
         have h9:(e::r).map key=(f::s).map key:=by rw[List.map_cons,List.map_cons,hef,hrs]
         obtain⟨i,hi,rfl⟩:=List.getElem_of_mem hx;have h10:=mT h9 i;rw[←bR hi,← (dX h10).1];have hi2:i<(e::r).length:=by simp only[List.length_cons]at hi⊢;omega
         rw[bR hi2];exact q2 _ (List.getElem_mem _)
        ·intro x hx;refine⟨?_,?_⟩
         ·rcases List.mem_cons.1 hx with rfl|hx
          ·rw[←(dX hbb).1];exact c1
          ·rw[←hj3]at hx;exact pP _ _ _ x hx
         ·rcases List.mem_cons.1 hx with rfl|hx
          ·exact(h4 x (by simp)).2
          ·exact(h4 x (List.mem_cons_of_mem _ (List.mem_of_mem_take hx))).2
        ·simp only[List.length_cons,List.length_take];omega
end
end
end Go.Proofs.YtnpmlepplfaijaaDoor
namespace Go.Proofs.YtnpmlepplfaijaaDoor
set_option linter.all false
open Go.RowKit
noncomputable section
theorem AQ{a b:Int}(h:a % 18446744073709551616=b % 18446744073709551616):aa a=aa b:=by
 unfold aa;rw[IntKind.wrap_i64,IntKind.wrap_i64];omega
theorem wy(a:Int):aa a % 18446744073709551616=a % 18446744073709551616:=by
 unfold aa;rw[IntKind.wrap_i64];omega
def ph(p k:Nat):Nat:=if k≤p then k else k+1
theorem ft{p k:Nat}(h:k≤p):ph p k=k:=if_pos h
theorem gh{p k:Nat}(h:p<k):ph p k=k+1:=if_neg (by omega)
structure Dv(r a b:R4):Prop where
 ag:a.g=r.g
 bg:b.g=true
 rf:r.f=false
 af:a.f=false
 bf:b.f=false
 sum:aa (r.w+r.s)=aa (aa (a.w+a.s)+aa (b.w+b.s))
 sp:r.s=b.s
section
variable{r a b:R4}(hd:Dv r a b)
include hd
theorem th(T:List R4):∀(P:List R4) (n l:Int),wS n l (P++r::T)=wS n l (P++a::b::T)
 | [],n,l=>by
  show wS (aa (n+aa (r.w+r.s))) (if r.f then l else r.s) T=wS (aa (aa (n+aa (a.w+a.s))+aa (b.w+b.s))) (if b.f then (if a.f then l else a.s) else b.s) T;have e1:aa (n+aa (r.w+r.s))=aa (aa (n+aa (a.w+a.s))+aa (b.w+b.s)):=by
   have e:=hd.sum;have h1:=wy (aa (a.w+a.s)+aa (b.w+b.s));rw[←e]at h1;apply AQ;have h2:=wy (n+aa (a.w+a.s));omega
  rw[hd.rf,hd.bf,e1];simp only[Bool.false_eq_true,if_false];rw[hd.sp]
 | x::P,n,l=>by
  show wS _ _ (P++r::T)=wS _ _ (P++a::b::T);exact th T P _ _
variable(P S:List R4)
theorem D0(u v:Nat)(hv:v≤(P++r::S).length)(huv:u≤v):fb (sl (P++a::b::S) (ph P.length u) (ph P.length v))=fb (sl (P++r::S) u v):=by
 by_cases h1:v≤P.length
 ·rw[ft h1,ft (by omega)];unfold sl;rw[List.take_append_of_le_length h1,List.take_append_of_le_length h1]
 ·rw[gh (p:=P.length) (k:=v) (by omega)];obtain⟨k,rfl⟩:∃k,v=P.length+1+k:=⟨v-(P.length+1),by omega⟩;have e1:(P++r::S).take (P.length+1+k)=P++r::S.take k:=by
   rw[Nat.add_assoc,List.take_append,show P.length+(1+k)-P.length=k+1 by omega,List.take_of_length_le (by omega)];rfl
  have e2:(P++a::b::S).take (P.length+1+k+1)=P++a::b::S.take k:=by
   rw[show P.length+1+k+1=P.length+(k+2) by omega,List.take_append,show P.length+(k+2)-P.length=k+2 by omega,List.take_of_length_le (by omega)];rfl
  unfold sl;rw[e1,e2];by_cases h2:u≤P.length
  ·rw[ft h2,List.drop_append_of_le_length h2,List.drop_append_of_le_length h2];exact(th hd (S.take k) (P.drop u) 0 0).symm
  ·obtain⟨j,rfl⟩:∃j,u=P.length+1+j:=⟨u-(P.length+1),by omega⟩;rw[gh (p:=P.length) (k:=P.length+1+j) (by omega)];have e3:(P++r::S.take k).drop (P.length+1+j)=(S.take k).drop j:=by
    rw[Nat.add_assoc,List.drop_append,show P.length+(1+j)-P.length=j+1 by omega,List.drop_eq_nil_of_le (by omega)];rfl
   have e4:(P++a::b::S.take k).drop (P.length+1+j+1)=(S.take k).drop j:=by
    rw[show P.length+1+j+1=P.length+(j+2) by omega,List.drop_append,show P.length+(j+2)-P.length=j+2 by omega,List.drop_eq_nil_of_le (by omega)];rfl
   rw[e3,e4]
omit hd in
theorem wi(j:Nat):(P++r::S).getD j default=if j<P.length then P.getD j default else if j=P.length then r else S.getD (j-P.length-1) default:=by
 simp only[List.getD_eq_getElem?_getD];by_cases h:j<P.length
 ·rw[if_pos h,List.getElem?_append_left h]
 ·rw[if_neg h,List.getElem?_append_right (by omega)];by_cases h2:j=P.length
  ·rw[if_pos h2,h2];simp
  ·rw[if_neg h2];obtain⟨k,hk⟩:∃k,j-P.length=k+1:=⟨j-P.length-1,by omega⟩;rw[hk,List.getElem?_cons_succ];rfl
omit hd in
theorem oI(j:Nat):(P++a::b::S).getD j default=if j<P.length then P.getD j default else if j=P.length then a else if j=P.length+1 then b else S.getD (j-P.length-2) default:=by
 rw[wi P (b::S) j];by_cases h:j<P.length
 ·rw[if_pos h,if_pos h]
 ·rw[if_neg h,if_neg h];by_cases h2:j=P.length
  ·rw[if_pos h2,if_pos h2]
  ·rw[if_neg h2,if_neg h2];by_cases h3:j=P.length+1
   ·rw[if_pos h3,h3,show P.length+1-P.length-1=0 by omega];rfl
   ·rw[if_neg h3];obtain⟨k,hk⟩:∃k,j-P.length-1=k+1:=⟨j-P.length-2,by omega⟩;rw[hk,show j-P.length-2=k by omega];rfl
theorem II:∀(k j:Nat),(P++r::S).length-j=k→gr (P++a::b::S) (ph P.length j)=ph P.length (gr (P++r::S) j):=by
 have l1:(P++r::S).length=P.length+1+S.length:=by simp;omega
 have l2:(P++a::b::S).length=P.length+2+S.length:=by simp;omega
 have hb:gr (P++a::b::S) (P.length+1)=gr (P++a::b::S) (P.length+2):=by
  have hlt:P.length+1<(P++a::b::S).length:=by omega
  refine mM hlt ?_;have:=oI (a:=a) (b:=b) P S (P.length+1);rw[bR hlt,if_neg (by omega),if_neg (by omega),if_pos rfl]at this;rw[this];exact hd.bg
 intro k
 induction k with
 | zero =>
  intro j hk;have hj:(P++r::S).length≤j:=by omega
  rw[td hj,td (by rw[gh (p:=P.length) (k:=j) (by omega)];omega)]
 | succ k ih =>
  intro j hk;have hj:j<(P++r::S).length:=by omega
  have hj2:ph P.length j<(P++a::b::S).length:=by unfold ph;split<;>omega
  have same:(P++a::b::S)[ph P.length j].g=(P++r::S)[j].g:=by
   rw[←bR (L:=P++a::b::S) hj2,← bR (L:=P++r::S) hj,wi (r:=r) P S,oI (a:=a) (b:=b) P S];by_cases q1:j<P.length
   ·rw[ft (p:=P.length) (k:=j) (by omega),if_pos q1,if_pos q1]
   ·by_cases q2:j=P.length
    ·rw[ft (p:=P.length) (k:=j) (by omega),if_neg q1,if_neg q1,if_pos q2,if_pos q2];exact hd.ag
    ·rw[gh (p:=P.length) (k:=j) (by omega),if_neg (by omega),if_neg (by omega),if_neg (by omega),if_neg q1,if_neg q2,show j+1-P.length-2=j-P.length-1 by omega]
  cases hg:(P++r::S)[j].g with
  | false=>rw[ui hj hg,ui hj2 (by rw[same];exact hg)]
  | true =>
   rw[mM hj hg,mM hj2 (by rw[same];exact hg),← ih (j+1) (by omega)];by_cases q2:j=P.length
   ·rw[ft (p:=P.length) (k:=j) (by omega),gh (p:=P.length) (k:=j+1) (by omega),q2,hb]
   ·have:ph P.length j+1=ph P.length (j+1):=by unfold ph;split<;>split<;>omega
    rw[this]
theorem zC{j:Nat}:gr (P++a::b::S) (ph P.length j+1)=ph P.length (gr (P++r::S) (j+1)):=by
 rw[←II hd P S _ (j+1) rfl];by_cases q2:j=P.length
 ·have hlt:P.length+1<(P++a::b::S).length:=by simp
  rw[ft (p:=P.length) (k:=j) (by omega),gh (p:=P.length) (k:=j+1) (by omega),q2];refine mM hlt ?_;have:=oI (a:=a) (b:=b) P S (P.length+1);rw[bR hlt,if_neg (by omega),if_neg (by omega),if_pos rfl]at this;rw[this];exact hd.bg
 ·have:ph P.length j+1=ph P.length (j+1):=by unfold ph;split<;>split<;>omega
  rw[this]
theorem Km(w:Int)(u:Nat):∀(m e:Nat),u<e→e≤(P++r::S).length→lE (P++a::b::S) w (ph P.length u) m (ph P.length e)=ph P.length (lE (P++r::S) w u m e):=by
 have l1:(P++r::S).length=P.length+1+S.length:=by simp;omega
 have l2:(P++a::b::S).length=P.length+2+S.length:=by simp;omega
 intro m
 induction m with
 | zero=>intro e _ _;rfl
 | succ m ih =>
  intro e h1 h2;unfold lE;have c1:(ph P.length e<(P++a::b::S).length)↔(e<(P++r::S).length):=by
   rw[l1,l2];unfold ph;split<;>constructor<;>intro h<;>omega
  have c2:((P++a::b::S).getD (ph P.length e-1) default).f=((P++r::S).getD (e-1) default).f:=by
   rw[oI (a:=a) (b:=b) P S,wi (r:=r) P S];by_cases q1:e≤P.length
   ·rw[ft q1,if_pos (by omega),if_pos (by omega)]
   ·rw[gh (p:=P.length) (k:=e) (by omega),if_neg (by omega),if_neg (by omega)];by_cases q2:e-1=P.length
    ·rw[if_pos (by omega),if_neg (by omega),if_pos q2,hd.bf,hd.rf]
    ·rw[if_neg (by omega),if_neg (by omega),if_neg q2,show e+1-1-P.length-2=e-1-P.length-1 by omega]
  by_cases hc:e<(P++r::S).length
  ·have q1:=lT (l:=P++r::S) (i:=e+1) (by omega);have q2:=gx (P++r::S) (e+1);have e1:gr (P++a::b::S) (ph P.length e+1)=ph P.length (gr (P++r::S) (e+1)):=zC hd P S;have e2:=D0 hd P S u _ q1 (by omega);rw[e1,e2,c2];by_cases hq:((P++r::S).getD (e-1) default).f=false∧¬ fb (sl (P++r::S) u (gr (P++r::S) (e+1)))>w
   ·rw[if_pos ⟨c1.2 hc,hq⟩,if_pos ⟨hc,hq⟩];exact ih _ (by omega) q1
   ·rw[if_neg (fun h=>hq h.2),if_neg (fun h=>hq h.2)]
  ·rw[if_neg (fun h=>hc (c1.1 h.1)),if_neg (fun h=>hc h.1)]
theorem JJ(w:Int):∀(m u:Nat),u≤(P++r::S).length→bM (P++a::b::S) w m (ph P.length u)=(bM (P++r::S) w m u).map (ph P.length):=by
 have l1:(P++r::S).length=P.length+1+S.length:=by simp;omega
 have l2:(P++a::b::S).length=P.length+2+S.length:=by simp;omega
 intro m
 induction m with
 | zero=>intro u _;rfl
 | succ m ih =>
  intro u hu;unfold bM;have c1:(ph P.length u<(P++a::b::S).length)↔(u<(P++r::S).length):=by
   rw[l1,l2];unfold ph;split<;>constructor<;>intro h<;>omega
  by_cases h:u<(P++r::S).length
  ·have q1:=lT (l:=P++r::S) (i:=u+1) (by omega);have q2:=gx (P++r::S) (u+1);have q3:=oT (P++r::S) w u (P++r::S).length _ q1;rw[if_pos (c1.2 h),if_pos h,zC hd P S,Km hd P S w u _ _ (by omega) q1];rw[CD (P++r::S) w u (P++a::b::S).length (P++r::S).length _ (by omega) (by omega),ih _ q3];rfl
  ·rw[if_neg (fun q=>h (c1.1 q)),if_neg h];rfl
end
end
end Go.Proofs.YtnpmlepplfaijaaDoor
namespace Go.Proofs.YtnpmlepplfaijaaDoor
set_option linter.all false
open Go.RowKit
noncomputable section
def rB(x:Option Int):Prop:=∃u,x=some u∧0≤u∧u≤16
theorem Fs{c:Prop}[Decidable c]{x y:Option Int}(h1:rB x)(h2:rB y):rB (if c then x else y):=by split;exact h1;exact h2
theorem KR(r:Int):0≤gT r∧gT r≤16:=by
 have h:rB (fv (KN 0) 0 r):=by
  unfold fv fx;simp only[dW,dL,gn,lG]
  repeat first|exact⟨_,rfl,by decide,by decide⟩|apply Fs
 obtain⟨u,h1,h2⟩:=h;unfold gT;rw[h1];exact h2
theorem sw(r s:Int):0≤eh r s∧eh r s≤2097152:=by
 have h1:=KR r;have h2:0≤ma s∧ma s≤1048576:=by unfold ma;omega
 unfold eh;generalize gT r=u at *;generalize ma s=z at *;have h3:0≤u*z:=Int.mul_nonneg h1.1 h2.1;have h4:u*z≤16*1048576:=Int.mul_le_mul h1.2 h2.2 h2.1 (by decide);generalize u*z=p at *;rw[cb (n:=p) (by omega) (by omega),cb (n:=p+15) (by omega) (by omega),Int.tdiv_eq_ediv_of_nonneg (by omega),cb (by omega) (by omega)];omega
def c8(s:Int):List Int→Int
 | []=>0
 | c::t=>eh c s+c8 s t
theorem uO(s:Int):∀a b:List Int,c8 s (a++b)=c8 s a+c8 s b
 | [],b=>by simp[c8]
 | c::t,b=>by simp only[List.cons_append,c8,uO s t b];omega
theorem q8(s:Int):∀l:List Int,0≤c8 s l∧c8 s l≤2097152*l.length
 | []=>by simp[c8]
 | c::t=>by have:=q8 s t;have:=sw c s;simp only[c8,List.length_cons];omega
theorem pd(s:Int):∀(l:List Int) (a:Int),0≤a→a+2097152*l.length≤1125899906842624→fM s a l=a+c8 s l
 | [],a,h,_=>by simp[fM,c8]
 | c::t,a,h0,h1=>by
  have hc:=sw c s;simp only[List.length_cons]at h1;unfold fM;rw[cb (n:=a+eh c s) (by omega) (by omega),pd s t _ (by omega) (by omega)];simp only[c8];omega
structure Qe(s:aH)(nd:Int)(x:ao):Prop where
 ok:fY x
 st:x.Box.Style=s
 nd:x.Box.Node=nd
 sft:x.Soft=true→x.Kind=1∧x.Char=32∧x.Box.Style.WhiteSpace≠2
 h32:x.Kind=1→x.Char=32→x.Soft=true∨x.Box.Style.WhiteSpace=2
structure kF(s:aH)(nd:Int)(r ra rb:aw):Prop where
 fr:r.Forced=false∧ra.Forced=false∧rb.Forced=false
 bx:r.Box=[]∧ra.Box=[]∧rb.Box=[]
 gl:ra.Glued=r.Glued∧rb.Glued=true
 st:r.Style=s∧ra.Style=s∧rb.Style=s
 nd:r.Node=nd∧ra.Node=nd∧rb.Node=nd
 ab:ra.Above=r.Above∧rb.Above=r.Above∧ra.Below=r.Below∧rb.Below=r.Below
 wd:∃A B C:Int,0≤A∧A≤1099511627776∧0≤B∧B≤1099511627776∧0≤C∧C≤1099511627776∧ra.Width+ra.Space=A∧rb.Width=B∧rb.Space=C∧r.Space=C∧r.Width=A+B
 tx:r.Text.data.toList=ra.Text.data.toList++rb.Text.data.toList
 ta:ra.Text.data.toList≠[]
 tb:rb.Text.data.toList≠[]
 sz:(dD rb.Text&&s.WhiteSpace != 2)=true→(eY rb.Text).data.toList=[]→rb.Width=0
theorem Gf{s:aH}{nd:Int}{r ra rb:aw}(h:Cut (Qe s nd) r ra rb):kF s nd r ra rb:=by
 obtain⟨xa,xb,e,b,g,na,nb,qa,qb,qe,qbb,hl,e1,e2,e3⟩:=h.ex;subst e1;subst e2;subst e3;have la:0<xa.length:=List.length_pos_iff.2 na;have lb:0<xb.length:=List.length_pos_iff.2 nb;have stl_of:∀x:List ao,x≠[]→(∀y∈x,y.Kind=1∧Qe s nd y)→dd x=s:=fun x hx hq=>by
  unfold dd;have:x.getD 0 default∈x:=by rw[bR (List.length_pos_iff.2 hx)];exact List.getElem_mem _
  exact(hq _ this).2.st
 have qab:∀y∈xa++xb,y.Kind=1∧Qe s nd y:=fun y hy=>by
  rcases List.mem_append.1 hy with hy|hy
  ·exact qa y hy
  ·exact qb y hy
 have sab:=stl_of (xa++xb) (by simp[na]) qab;have sa:=stl_of xa na qa;have sb:=stl_of xb nb qb;have soft_eq:cR (xa++xb)=cR xb:=by
  unfold cR;rw[List.length_append];simp only[List.getD_eq_getElem?_getD];rw[List.getElem?_append_right (by omega),show xa.length+xb.length-1-xa.length=xb.length-1 by omega]
 have cab:aX (xa++xb)=aX xa++aX xb:=by simp[aX]
 have cla:(aX xa).length=xa.length:=by simp[aX]
 have clb:(aX xb).length=xb.length:=by simp[aX]
 have nca:aX xa≠[]:=by intro h;rw[h]at cla;simp at cla;omega
 have ncb:aX xb≠[]:=by intro h;rw[h]at clb;simp at clb;omega
 have sh_eq:cS (xa++xb)=aX xa++cS xb:=by
  unfold cS;rw[soft_eq,cab];cases cR xb with
  | false=>rfl
  | true=>simp only[cond_true];exact List.dropLast_append_of_ne_nil ncb
 have shl:(cS xb).length≤xb.length:=by unfold cS;cases cR xb<;>simp[clb]
 have shla:(cS xa).length≤xa.length:=by unfold cS;cases cR xa<;>simp[cla]
 -- a run's soft space is its last character
 have last32:∀x:List ao,x≠[]→(∀y∈x,y.Kind=1∧Qe s nd y)→cR x=true→c8 s.FontSize (aX x)=c8 s.FontSize (cS x)+eh 32 s.FontSize:=fun x hx hq hs=>by
  have hlx:0<x.length:=List.length_pos_iff.2 hx;have hm:x.getD (x.length-1) default∈x:=by rw[bR (by omega)];exact List.getElem_mem _
  have hc:=((hq _ hm).2.sft hs).2.1;have hne:aX x≠[]:=by intro h;have:=congrArg List.length h;simp[aX]at this;exact hx this
  have hla:(aX x).getLast hne=32:=by
   rw[List.getLast_eq_getElem];unfold aX;rw[List.getElem_map];rw[bR (by omega)]at hc;simpa using hc
  unfold cS;rw[hs];simp only[cond_true]
  conv=>lhs;rw[←List.dropLast_concat_getLast hne,uO,hla]
  simp[c8]
 have hcb:=sw 32 s.FontSize;have s1:=q8 s.FontSize (aX xa);have s2:=q8 s.FontSize (cS xb);have s3:=q8 s.FontSize (cS xa);have w1:(ce (xa++xb)).Width=c8 s.FontSize (aX xa)+c8 s.FontSize (cS xb):=by
  show fM (dd (xa++xb)).FontSize 0 (cS (xa++xb))=_;rw[sab,sh_eq,pd _ _ _ (Int.le_refl _) (by rw[List.length_append];omega),uO];omega
 have w2:(ce xa).Width=c8 s.FontSize (cS xa):=by
  show fM (dd xa).FontSize 0 (cS xa)=_;rw[sa,pd _ _ _ (Int.le_refl _) (by omega)];omega
 have w3:(ce xb).Width=c8 s.FontSize (cS xb):=by
  show fM (dd xb).FontSize 0 (cS xb)=_;rw[sb,pd _ _ _ (Int.le_refl _) (by omega)];omega
 have p1:(ce (xa++xb)).Space=bif cR xb then eh 32 s.FontSize else 0:=by
  show(bif cR (xa++xb) then eh 32 (dd (xa++xb)).FontSize else 0)=_;rw[soft_eq,sab]
 have p2:(ce xa).Space=bif cR xa then eh 32 s.FontSize else 0:=by
  show(bif cR xa then eh 32 (dd xa).FontSize else 0)=_;rw[sa]
 have p3:(ce xb).Space=bif cR xb then eh 32 s.FontSize else 0:=by
  show(bif cR xb then eh 32 (dd xb).FontSize else 0)=_;rw[sb]
 have wa:(ce xa).Width+(ce xa).Space=c8 s.FontSize (aX xa):=by
  rw[w2,p2];cases hs:cR xa with
  | true=>rw[last32 xa na qa hs];rfl
  | false =>
   have:cS xa=aX xa:=by unfold cS;rw[hs];rfl
   rw[this];simp
 have okc:∀x:List ao,(∀y∈x,y.Kind=1∧Qe s nd y)→∀c∈aX x,b8 c:=fun x hq=>qX fun y hy=>(hq y hy).2.ok;have lst:∀x:List ao,(ce x).Text.data.toList=b9 (aX x):=fun x=>le _;have nen:∀x:List ao,aX x≠[]→(∀y∈x,y.Kind=1∧Qe s nd y)→b9 (aX x)≠[]:=fun x hx hq h=>by
  have:=(l4 (okc x hq)).1;rw[h]at this;have h2:=List.length_pos_iff.2 hx;simp only[List.length_nil]at this;omega
 refine⟨⟨rfl,rfl,rfl⟩,⟨rfl,rfl,rfl⟩,⟨rfl,rfl⟩,⟨qe.st,qe.st,qbb.st⟩,⟨qe.nd,qe.nd,qbb.nd⟩,?_,?_,?_,?_,?_,?_⟩
 ·show(dh (dd xa)).1=(dh (dd (xa++xb))).1∧(dh (dd xb)).1=(dh (dd (xa++xb))).1∧(dh (dd xa)).2=(dh (dd (xa++xb))).2∧(dh (dd xb)).2=(dh (dd (xa++xb))).2;rw[sa,sb,sab];exact⟨rfl,rfl,rfl,rfl⟩
 ·refine⟨c8 s.FontSize (aX xa),c8 s.FontSize (cS xb),bif cR xb then eh 32 s.FontSize else 0,s1.1,by omega,s2.1,by omega,?_,?_,wa,w3,p3,p1,w1⟩
  ·cases cR xb with
   | true=>exact hcb.1
   | false=>exact Int.le_refl _
  ·cases cR xb with
   | true=>simp only[cond_true];omega
   | false=>simp only[cond_false];omega
 ·show(ce (xa++xb)).Text.data.toList=(ce xa).Text.data.toList++(ce xb).Text.data.toList;rw[lst,lst,lst,cab,qm]
 ·show(ce xa).Text.data.toList≠[];rw[lst];exact nen xa nca qa
 ·show(ce xb).Text.data.toList≠[];rw[lst];exact nen xb ncb qb
 ·intro hs hz;have hs:(dD (dc (aX xb))&&s.WhiteSpace != 2)=true:=hs;have hz:(eY (dc (aX xb))).data.toList=[]:=hz;rw[Gv (okc xb qb)]at hs;simp only[Bool.and_eq_true,bne_iff_ne,ne_eq]at hs;have hla:(aX xb).getLast ncb=32:=by
   have:=hs.1;unfold se at this;rw[List.getLast?_eq_some_getLast ncb]at this;simpa using this
  have hm:xb.getD (xb.length-1) default∈xb:=by rw[bR (by omega)];exact List.getElem_mem _
  have hch:(xb.getD (xb.length-1) default).Char=32:=by
   rw[List.getLast_eq_getElem]at hla;unfold aX at hla;rw[List.getElem_map]at hla;rw[bR (by omega)];simpa using hla
  have hsoft:cR xb=true:=by
   rcases (qb _ hm).2.h32 (qb _ hm).1 hch with h|h
   ·exact h
   ·rw[(qb _ hm).2.st]at h;exact absurd h hs.2
  have hcut:eY (dc (aX xb))=dc (aX xb).dropLast:=xG ncb hla;rw[hcut,le]at hz;have hdl:(aX xb).dropLast=[]:=by
   have:=(l4 (rs:=(aX xb).dropLast) (fun c hc=>okc xb qb c ((List.dropLast_sublist _).subset hc))).1;rw[hz]at this;exact List.eq_nil_of_length_eq_zero (by simpa using this)
  show(ce xb).Width=0;rw[w3];unfold cS;rw[hsoft,cond_true,hdl];rfl
theorem yc{s:aH}{nd:Int}{r ra rb:aw}(h:kF s nd r ra rb):Dv (vI r) (vI ra) (vI rb):=by
 obtain⟨A,B,C,h1,h2,h3,h4,h5,h6,e1,e2,e3,e4,e5⟩:=h.wd;refine⟨h.gl.1,h.gl.2,h.fr.1,h.fr.2.1,h.fr.2.2,?_,?_⟩
 ·show aa (r.Width+r.Space)=aa (aa (ra.Width+ra.Space)+aa (rb.Width+rb.Space));rw[e1,e2,e3,e4,e5,cb (n:=A) (by omega) (by omega),cb (n:=B+C) (by omega) (by omega)];congr 1;omega
 ·show r.Space=rb.Space;rw[e4,e3]
def eX(K:List ae):Int×Int:=match K with
 | []=>(0,0)
 | f::t=>(f.X,aa (((f::t).getLast (by simp)).X+((f::t).getLast (by simp)).W))
structure LR(f g:ae):Prop where
 sh:cZ f.Kids=cZ g.Kids
 h:f.H=g.H
 b:f.aC=g.aC
 e:eX f.Kids=eX g.Kids
theorem xN{A Z R1 R2:List ae}{f1 f2:ae}{t1 t2:List ae}(h1:R1=f1::t1)(h2:R2=f2::t2)(hx:f1.X=f2.X)(hl:aa ((R1.getLast (by rw[h1];simp)).X+(R1.getLast (by rw[h1];simp)).W)=aa ((R2.getLast (by rw[h2];simp)).X+(R2.getLast (by rw[h2];simp)).W)):eX (A++R1++Z)=eX (A++R2++Z):=by
 have lasts:∀(L:List ae) (h:L≠[]),eX L=((L.head h).X,aa ((L.getLast h).X+(L.getLast h).W)):=fun L h=>by
  cases L with
  | nil=>exact absurd rfl h
  | cons a b=>rfl
 have n1:R1≠[]:=by rw[h1];simp
 have n2:R2≠[]:=by rw[h2];simp
 have m1:A++R1++Z≠[]:=by simp[n1]
 have m2:A++R2++Z≠[]:=by simp[n2]
 rw[lasts _ m1,lasts _ m2];have hh:((A++R1++Z).head m1).X=((A++R2++Z).head m2).X:=by
  cases A with
  | nil =>
   simp only[List.nil_append];rw[List.head_append_of_ne_nil n1,List.head_append_of_ne_nil n2];simp only[h1,h2,List.head_cons];exact hx
  | cons a u=>rfl
 rw[hh];congr 1;by_cases hz:Z=[]
 ·subst hz;simp only[List.append_nil];rw[List.getLast_append_of_ne_nil _ n1,List.getLast_append_of_ne_nil _ n2];exact hl
 ·rw[List.getLast_append_of_ne_nil _ hz,List.getLast_append_of_ne_nil _ hz]
def xM(last:Int):Int→Int→List aw→Int
 | _,x,[]=>x
 | i,x,r::t=>xM last (i+1) (aa (x+aa ((bif i == last then stripR r else r).Width+(bif i == last then stripR r else r).Space))) t
theorem wm(ab last:Int):∀(A B:List aw) (i x:Int),cg ab last i x (A++B)=cg ab last i x A++cg ab last (i+A.length) (xM last i x A) B
 | [],B,i,x=>by simp[cg,xM]
 | r::t,B,i,x=>by
  have e:i+((r::t).length:Int)=i+1+t.length:=by simp only[List.length_cons];omega
  rw[e];show cJ ab x (bif i == last then stripR r else r)++cg ab last (i+1) _ (t++B)=cJ ab x (bif i == last then stripR r else r)++cg ab last (i+1) _ t++cg ab last (i+1+t.length) (xM last i x (r::t)) B;rw[wm ab last t B,List.append_assoc];rfl
theorem zS(ab:Int){l1 l2:Int}:∀(A:List aw) (i x:Int),i+A.length≤l1→i+A.length≤l2→cg ab l1 i x A=cg ab l2 i x A∧xM l1 i x A=xM l2 i x A
 | [],i,x,_,_=>⟨rfl,rfl⟩
 | r::t,i,x,h1,h2=>by
  simp only[List.length_cons]at h1 h2;have e1:(i == l1)=false:=by simp;omega
  have e2:(i == l2)=false:=by simp;omega
  unfold cg xM;rw[e1,e2];obtain⟨q1,q2⟩:=zS ab t (i+1) (aa (x+aa (r.Width+r.Space))) (l1:=l1) (l2:=l2) (by omega) (by omega);simp only[cond_false];exact⟨by rw[q1],q2⟩
theorem CL(ab last:Int):∀(A:List aw) (i x:Int),cg ab (last+1) (i+1) x A=cg ab last i x A
 | [],i,x=>rfl
 | r::t,i,x=>by
  have e:(i+1 == last+1)=(i == last):=by
   cases h:(i == last) with
   | true=>simp at h⊢;exact h
   | false=>simp at h⊢;omega
  show cJ ab x (bif i+1 == last+1 then stripR r else r)++cg ab (last+1) (i+1+1) (aa (x+aa ((bif i+1 == last+1 then stripR r else r).Width+(bif i+1 == last+1 then stripR r else r).Space))) t=cJ ab x (bif i == last then stripR r else r)++cg ab last (i+1) (aa (x+aa ((bif i == last then stripR r else r).Width+(bif i == last then stripR r else r).Space))) t;rw[e,CL ab last t]
theorem z1:∀(T:List aw) (i acc:Int),acc≤dH i acc T∨i≤dH i acc T
 | [],i,acc=>.inl (Int.le_refl _)
 | r::t,i,acc=>by
  unfold dH;rcases z1 t (i+1) (bif r.Forced then acc else i)with h|h
  ·cases hf:r.Forced with
   | true=>rw[hf]at h;exact .inl h
   | false=>rw[hf]at h;exact .inr h
  ·exact .inr (by omega)
theorem wh:∀(T:List aw) (i acc:Int),dH (i+1) (acc+1) T=dH i acc T+1
 | [],i,acc=>rfl
 | r::t,i,acc=>by
  unfold dH;cases r.Forced with
  | true=>exact wh t (i+1) acc
  | false=>exact wh t (i+1) i
theorem qI:∀(A B:List aw) (i acc:Int),dH i acc (A++B)=dH (i+A.length) (dH i acc A) B
 | [],B,i,acc=>by simp[dH]
 | r::t,B,i,acc=>by
  have e:i+((r::t).length:Int)=i+1+t.length:=by simp only[List.length_cons];omega
  rw[e];exact qI t B (i+1) _
theorem tu:∀(A B:List aw) (p:Int×Int),ec p (A++B)=ec (ec p A) B
 | [],B,p=>rfl
 | r::t,B,p=>tu t B _
section
variable{s:aH}{nd:Int}{r ra rb:aw}
theorem E4(h:kF s nd r ra rb)(t:Bool):∃r' rb',(bif t then stripR r else r)=r'∧(bif t then stripR rb else rb)=rb'∧r'.Box=[]∧rb'.Box=[]∧r'.Text.data.toList=ra.Text.data.toList++rb'.Text.data.toList∧r'.Node=nd∧rb'.Node=nd ∧
  (∃A D:Int,0≤A∧A≤1099511627776∧0≤D∧D≤4398046511104∧ra.Width+ra.Space=A∧rb'.Width+rb'.Space=D∧r'.Width+r'.Space=A+D∧(rb'.Text.data.toList=[]→D=0)):=by
 obtain⟨A,B,C,h1,h2,h3,h4,h5,h6,e1,e2,e3,e4,e5⟩:=h.wd;have plain:∃r' rb',r=r'∧rb=rb'∧r'.Box=[]∧rb'.Box=[]∧r'.Text.data.toList=ra.Text.data.toList++rb'.Text.data.toList∧r'.Node=nd∧rb'.Node=nd ∧
  (∃A D:Int,0≤A∧A≤1099511627776∧0≤D∧D≤4398046511104∧ra.Width+ra.Space=A∧rb'.Width+rb'.Space=D∧r'.Width+r'.Space=A+D∧(rb'.Text.data.toList=[]→D=0)) :=
  ⟨r,rb,rfl,rfl,h.bx.1,h.bx.2.2,h.tx,h.nd.1,h.nd.2.2,A,B+C,h1,h2,by omega,by omega,e1,by omega,by omega,fun q=>absurd q h.tb⟩
 cases t with
 | false=>exact plain
 | true =>
  simp only[cond_true];have hes:dD r.Text=dD rb.Text:=by
   unfold dD;rw[h.tx,List.getLast?_append];cases hq:rb.Text.data.toList.getLast? with
   | none=>exact absurd (List.getLast?_eq_none_iff.1 hq) h.tb
   | some z=>rfl
  have hcond:(dD r.Text&&r.Style.WhiteSpace != 2)=(dD rb.Text&&rb.Style.WhiteSpace != 2):=by rw[hes,h.st.1,h.st.2.2]
  unfold stripR;rw[hcond];cases hc:(dD rb.Text&&rb.Style.WhiteSpace != 2) with
  | false=>exact plain
  | true =>
   have cutL:∀b:ByteArray,(eY b).data.toList=b.data.toList.take (b.data.toList.length-1):=fun b=>by
    unfold eY;rw[ByteArray.data_extract,Array.toList_extract];show(List.take (b.size-1-0) (List.drop 0 b.data.toList))=_;rfl
   refine⟨_,_,rfl,rfl,h.bx.1,h.bx.2.2,?_,h.nd.1,h.nd.2.2,A,B,h1,h2,h3,by omega,e1,?_,?_,?_⟩
   ·show(eY r.Text).data.toList=_++(eY rb.Text).data.toList;rw[cutL,cutL,h.tx,List.length_append,List.take_append];have:=List.length_pos_iff.2 h.tb;rw[List.take_of_length_le (by omega),show ra.Text.data.toList.length+rb.Text.data.toList.length-1-ra.Text.data.toList.length=rb.Text.data.toList.length-1 by omega]
   ·show rb.Width+0=B;omega
   ·show r.Width+0=A+B;omega
   ·intro q;rw[h.st.2.2]at hc;have:=h.sz hc q;omega
theorem nP{ab x:Int}{r:aw}(hb:r.Box=[]):cJ ab x r=fZ ab x r:=by unfold cJ;rw[hb];simp
theorem DL(h:kF s nd r ra rb)(st:aH)(w:Int)(Q T:List aw)(hbQ:∀y∈Q++T,y.Box=[]):LR (dz st w (Q++r::T)) (dz st w (Q++ra::rb::T)):=by
 have hd:=yc h;have habs:ec (dh st) (Q++r::T)=ec (dh st) (Q++ra::rb::T):=by
  rw[tu,tu,oV,oV,oV,h.fr.1,h.fr.2.1,h.fr.2.2];simp only[cond_false];congr 1;obtain⟨q1,q2,q3,q4⟩:=h.ab;rw[q1,q2,q3,q4];ext<;>simp only[]<;>omega
 have hwid:fb ((Q++r::T).map vI)=fb ((Q++ra::rb::T).map vI):=by
  simp only[List.map_append,List.map_cons];exact th hd (T.map vI) (Q.map vI) 0 0
 obtain⟨l1,hl1,hl2,hge⟩:∃l1,ju (Q++r::T)=l1∧ju (Q++ra::rb::T)=l1+1∧(Q.length:Int)≤l1:=by
  refine⟨_,rfl,?_,?_⟩
  ·unfold ju;rw[qI,qI];show dH (0+(Q.length:Int)+1+1) (bif rb.Forced then (bif ra.Forced then _ else 0+(Q.length:Int)) else 0+(Q.length:Int)+1) T=dH (0+(Q.length:Int)+1) (bif r.Forced then _ else 0+(Q.length:Int)) T+1;rw[h.fr.1,h.fr.2.2];exact wh T _ _
  ·unfold ju;rw[qI];show(Q.length:Int)≤dH (0+(Q.length:Int)+1) (bif r.Forced then _ else 0+(Q.length:Int)) T;rw[h.fr.1];simp only[cond_false];rcases z1 T (0+(Q.length:Int)+1) (0+(Q.length:Int))with q|q<;>omega
 unfold dz;rw[←habs,← hwid,hl1,hl2];generalize ec (dh st) (Q++r::T)=p;generalize n3 st w (fb ((Q++r::T).map vI))=x0;obtain⟨r',rb',g1,g2,g3,g4,g5,g6,g7,A,D,a1,a2,a3,a4,a5,a6,a7,a8⟩:=E4 h ((Q.length:Int) == l1);have far:=zS p.1 Q 0 x0 (l1:=l1) (l2:=l1+1) (by omega) (by omega);have i1:(0:Int)+(Q.length:Int)=(Q.length:Int):=by omega
 have k1:cg p.1 l1 0 x0 (Q++r::T)=cg p.1 l1 0 x0 Q++cJ p.1 (xM l1 0 x0 Q) r'++cg p.1 l1 ((Q.length:Int)+1) (aa (xM l1 0 x0 Q+aa (r'.Width+r'.Space))) T:=by
  rw[wm,i1];show cg p.1 l1 0 x0 Q++(cJ p.1 (xM l1 0 x0 Q) (bif ((Q.length:Int) == l1) then stripR r else r)++cg p.1 l1 ((Q.length:Int)+1) (aa (xM l1 0 x0 Q+aa ((bif ((Q.length:Int) == l1) then stripR r else r).Width+(bif ((Q.length:Int) == l1) then stripR r else r).Space))) T)=_;rw[g1,List.append_assoc]
 have e0:((Q.length:Int) == l1+1)=false:=by simp;omega
 have e1:((Q.length:Int)+1 == l1+1)=((Q.length:Int) == l1):=by
  cases hq:((Q.length:Int) == l1) with
  | true=>simp at hq⊢;exact hq
  | false=>simp at hq⊢;omega
 have k2:cg p.1 (l1+1) 0 x0 (Q++ra::rb::T)=cg p.1 l1 0 x0 Q++(cJ p.1 (xM l1 0 x0 Q) ra++cJ p.1 (aa (xM l1 0 x0 Q+aa (ra.Width+ra.Space))) rb')++cg p.1 (l1+1) ((Q.length:Int)+1+1) (aa (aa (xM l1 0 x0 Q+aa (ra.Width+ra.Space))+aa (rb'.Width+rb'.Space))) T:=by
  rw[wm,i1,← far.1,← far.2];show cg p.1 l1 0 x0 Q++(cJ p.1 (xM l1 0 x0 Q) (bif ((Q.length:Int) == l1+1) then stripR ra else ra)++cg p.1 (l1+1) ((Q.length:Int)+1) (aa (xM l1 0 x0 Q+aa ((bif ((Q.length:Int) == l1+1) then stripR ra else ra).Width+(bif ((Q.length:Int) == l1+1) then stripR ra else ra).Space))) (rb::T))=_;rw[e0];simp only[cond_false];show cg p.1 l1 0 x0 Q++(cJ p.1 (xM l1 0 x0 Q) ra++(cJ p.1 _ (bif ((Q.length:Int)+1 == l1+1) then stripR rb else rb)++cg p.1 (l1+1) ((Q.length:Int)+1+1) (aa (_+aa ((bif ((Q.length:Int)+1 == l1+1) then stripR rb else rb).Width+(bif ((Q.length:Int)+1 == l1+1) then stripR rb else rb).Space))) T))=_;rw[e1,g2,List.append_assoc,List.append_assoc]
 generalize xM l1 0 x0 Q=x at *;have wA:aa (ra.Width+ra.Space)=A:=by rw[a5,cb (by omega) (by omega)]
 have wD:aa (rb'.Width+rb'.Space)=D:=by rw[a6,cb (by omega) (by omega)]
 have wR:aa (r'.Width+r'.Space)=A+D:=by rw[a7,cb (by omega) (by omega)]
 have xx:aa (x+aa (r'.Width+r'.Space))=aa (aa (x+aa (ra.Width+ra.Space))+aa (rb'.Width+rb'.Space)):=by
  rw[wA,wD,wR];apply AQ;have:=wy (x+A);omega
 have hsh:=CL p.1 l1 T ((Q.length:Int)+1) (aa (x+aa (r'.Width+r'.Space)));rw[k1,k2,← xx,hsh];have f1:cJ p.1 x r'=[⟨3,r'.Node,x,aa (p.1-k8 r'.Style.FontSize),aa (r'.Width+r'.Space),rM r'.Style.FontSize,0,r'.Text,r'.Style,cr,cr,false,[]⟩]:=by
  rw[nP g3];unfold fZ;have:r'.Text.data.toList.isEmpty=false:=by
   rw[g5];cases hq:ra.Text.data.toList with
   | nil=>exact absurd hq h.ta
   | cons a b=>rfl
  rw[this];rfl
 have f2:cJ p.1 x ra=[⟨3,ra.Node,x,aa (p.1-k8 ra.Style.FontSize),aa (ra.Width+ra.Space),rM ra.Style.FontSize,0,ra.Text,ra.Style,cr,cr,false,[]⟩]:=by
  rw[nP h.bx.2.1];unfold fZ;have:ra.Text.data.toList.isEmpty=false:=by
   cases hq:ra.Text.data.toList with
   | nil=>exact absurd hq h.ta
   | cons a b=>rfl
  rw[this];rfl
 refine⟨?_,rfl,rfl,?_⟩
 ·show cZ ([]++_)=cZ ([]++_);simp only[List.nil_append,B4];congr 2;rw[tD (by rw[g3];intro f hf;cases hf),tD (by rw[h.bx.2.1];intro f hf;cases hf),tD (by rw[g4];intro f hf;cases hf),g5]
 ·show eX ([]++_)=eX ([]++_);simp only[List.nil_append];rw[f1,f2];cases hq:rb'.Text.data.toList with
  | nil =>
   have f3:cJ p.1 (aa (x+aa (ra.Width+ra.Space))) rb'=[]:=by
    rw[nP g4];unfold fZ;rw[hq];rfl
   have hD:=a8 hq;rw[f3];refine xN rfl rfl rfl ?_;show aa (x+aa (r'.Width+r'.Space))=aa (x+aa (ra.Width+ra.Space));rw[wR,wA,hD,Int.add_zero]
  | cons b v =>
   have f3:cJ p.1 (aa (x+aa (ra.Width+ra.Space))) rb'=[⟨3,rb'.Node,aa (x+aa (ra.Width+ra.Space)),aa (p.1-k8 rb'.Style.FontSize),aa (rb'.Width+rb'.Space),rM rb'.Style.FontSize,0,rb'.Text,rb'.Style,cr,cr,false,[]⟩]:=by
    rw[nP g4];unfold fZ;rw[hq];rfl
   rw[f3];refine xN rfl rfl rfl ?_;show aa (x+aa (r'.Width+r'.Space))=aa (aa (x+aa (ra.Width+ra.Space))+aa (rb'.Width+rb'.Space));exact xx
end
end
end Go.Proofs.YtnpmlepplfaijaaDoor
namespace Go.Proofs.YtnpmlepplfaijaaDoor
set_option linter.all false
open Go.RowKit
noncomputable section
def jR:List ae→List ae→Prop
 | [],[]=>True
 | f::t,g::u=>LR f g∧jR t u
 | _,_=>False
theorem Bo:∀l:List ae,jR l l
 | []=>trivial
 | f::t=>⟨⟨rfl,rfl,rfl,rfl⟩,Bo t⟩
theorem s7:∀(A B:List ae),jR A B→A.length=B.length
 | [],[],_=>rfl
 | [],y::u,h=>h.elim
 | r::t,[],h=>h.elim
 | r::t,y::u,h=>by simp[s7 t u h.2]
theorem BT:∀(A B:List ae),jR A B→∀i,i<A.length→LR (A.getD i default) (B.getD i default)
 | [],[],_,i,hi=>by simp at hi
 | [],y::u,h,i,_=>h.elim
 | r::t,[],h,i,_=>h.elim
 | r::t,y::u,h,0,_=>h.1
 | r::t,y::u,h,i+1,hi=>by
  have:=BT t u h.2 i (by simpa using hi);simpa using this
section
variable{s:aH}{nd:Int}{r ra rb:aw}
theorem Jx(P S:List aw)(u v:Nat)(hv:v≤(P++r::S).length)(huv:u≤v):sl (P++ra::rb::S) (ph P.length u) (ph P.length v)=sl (P++r::S) u v∨∃Q T,sl (P++r::S) u v=Q++r::T∧sl (P++ra::rb::S) (ph P.length u) (ph P.length v)=Q++ra::rb::T∧∀y∈Q++T,y∈P++S:=by
 by_cases h1:v≤P.length
 ·left;rw[ft h1,ft (by omega)];unfold sl;rw[List.take_append_of_le_length h1,List.take_append_of_le_length h1]
 ·rw[gh (p:=P.length) (k:=v) (by omega)];obtain⟨k,rfl⟩:∃k,v=P.length+1+k:=⟨v-(P.length+1),by omega⟩;have e1:(P++r::S).take (P.length+1+k)=P++r::S.take k:=by
   rw[Nat.add_assoc,List.take_append,show P.length+(1+k)-P.length=k+1 by omega,List.take_of_length_le (by omega)];rfl
  have e2:(P++ra::rb::S).take (P.length+1+k+1)=P++ra::rb::S.take k:=by
   rw[show P.length+1+k+1=P.length+(k+2) by omega,List.take_append,show P.length+(k+2)-P.length=k+2 by omega,List.take_of_length_le (by omega)];rfl
  unfold sl;rw[e1,e2];by_cases h2:u≤P.length
  ·right;rw[ft h2,List.drop_append_of_le_length h2,List.drop_append_of_le_length h2];refine⟨P.drop u,S.take k,rfl,rfl,fun y hy=>?_⟩;rcases List.mem_append.1 hy with hy|hy
   ·exact List.mem_append.2 (.inl (List.mem_of_mem_drop hy))
   ·exact List.mem_append.2 (.inr (List.mem_of_mem_take hy))
  ·left;obtain⟨j,rfl⟩:∃j,u=P.length+1+j:=⟨u-(P.length+1),by omega⟩;rw[gh (p:=P.length) (k:=P.length+1+j) (by omega)];have e3:(P++r::S.take k).drop (P.length+1+j)=(S.take k).drop j:=by
    rw[Nat.add_assoc,List.drop_append,show P.length+(1+j)-P.length=j+1 by omega,List.drop_eq_nil_of_le (by omega)];rfl
   have e4:(P++ra::rb::S.take k).drop (P.length+1+j+1)=(S.take k).drop j:=by
    rw[show P.length+1+j+1=P.length+(j+2) by omega,List.drop_append,show P.length+(j+2)-P.length=j+2 by omega,List.drop_eq_nil_of_le (by omega)];rfl
   rw[e3,e4]
theorem yt(h:kF s nd r ra rb)(st:aH)(w:Int)(P S:List aw)(hb:∀y∈P++S,y.Box=[]):∀(E:List Nat) (y:Int),Asc (P++r::S).length E→(cG st w (P++ra::rb::S) y (E.map (ph P.length))).2=(cG st w (P++r::S) y E).2∧jR (cG st w (P++r::S) y E).1 (cG st w (P++ra::rb::S) y (E.map (ph P.length))).1
 | [],y,_=>⟨rfl,trivial⟩
 | [a],y,_=>⟨rfl,trivial⟩
 | a::b::t,y,hA=>by
  have hl:LR (dz st w (sl (P++r::S) a b)) (dz st w (sl (P++ra::rb::S) (ph P.length a) (ph P.length b))):=by
   rcases Jx (ra:=ra) (rb:=rb) P S a b hA.2.1 hA.1 with e|⟨Q,T,e1,e2,e3⟩
   ·rw[e];exact⟨rfl,rfl,rfl,rfl⟩
   ·rw[e1,e2];exact DL h st w Q T (fun z hz=>hb z (e3 z hz))
  obtain⟨q1,q2⟩:=yt h st w P S hb (b::t) (aa (y+(dz st w (sl (P++r::S) a b)).H)) hA.2.2;have e:cG st w (P++ra::rb::S) y ((a::b::t).map (ph P.length))=({ dz st w (sl (P++ra::rb::S) (ph P.length a) (ph P.length b))with Y:=y }::(cG st w (P++ra::rb::S) (aa (y+(dz st w (sl (P++ra::rb::S) (ph P.length a) (ph P.length b))).H)) ((b::t).map (ph P.length))).1,(cG st w (P++ra::rb::S) (aa (y+(dz st w (sl (P++ra::rb::S) (ph P.length a) (ph P.length b))).H)) ((b::t).map (ph P.length))).2):=rfl;have e':cG st w (P++r::S) y (a::b::t)=({ dz st w (sl (P++r::S) a b)with Y:=y }::(cG st w (P++r::S) (aa (y+(dz st w (sl (P++r::S) a b)).H)) (b::t)).1,(cG st w (P++r::S) (aa (y+(dz st w (sl (P++r::S) a b)).H)) (b::t)).2):=rfl;rw[e,e',← hl.h];exact⟨q1,⟨hl.sh,hl.h,hl.b,hl.e⟩,q2⟩
theorem E3(h:kF s nd r ra rb)(w:Int)(P S:List aw):cY (P++ra::rb::S) w=(cY (P++r::S) w).map (ph P.length):=by
 have l1:(P++r::S).length=P.length+1+S.length:=by simp;omega
 have l2:(P++ra::rb::S).length=P.length+2+S.length:=by simp;omega
 have hb:=JJ (yc h) (P.map vI) (S.map vI) w ((P++ra::rb::S).length+1) 0 (by omega);rw[List.length_map]at hb;have e0:ph P.length 0=0:=ft (by omega);rw[e0]at hb;have hm:=AO (P.map vI++vI r::S.map vI) w ((P++ra::rb::S).length+1) ((P++r::S).length+1) 0 (by simp;omega) (by simp);rw[hm]at hb;unfold cY;rw[List.map_append,List.map_append,List.map_append,List.map_cons,List.map_cons,List.map_cons,hb,List.map_singleton];congr 1;rw[gh (p:=P.length) (k:=(P++r::S).length) (by omega)];congr 1;omega
end
theorem ue{pl:au→aw}{E:List ao}(hno:∀e∈E,e.Kind≠3)(hok:∀e∈E,fY e)(m:Nat)(p:Option ao):∀r∈cM pl m p E,r.Box=[]∧r.Text.size≤4*E.length :=
 J3 (P:=fun r=>r.Box=[]∧r.Text.size≤4*E.length) (fun e g=>⟨rfl,by show(⟨#[]⟩:ByteArray).size≤_;exact Nat.zero_le _⟩) m p E (fun e he h3=>absurd h3 (hno e he)) (fun e g x h1 h2 h3=>⟨rfl,by
  have:=KY (x:=x) (fun y hy=>hok y (h3 y hy));show(ce x).Text.size≤_;omega⟩)
theorem yJ{d:Nat}{bx:List au}(hD:Dp d bx)(hc:dS d bx≤2000){M:Nat}(hM:d+9100≤M)(hno:∀e∈df d bx,e.Kind≠3)(s:aH)(v:Int):
  gM (KN (M+11)) (M+11) bx s v uM=some (cG s (bv v) (gg (ee M (bv v)) (df d bx)) 0 (cY (gg (ee M (bv v)) (df d bx)) (bv v))):=by
 have hel:=pH d bx;have hr:mC (KN (M+11)) (M+11) bx (bv v) uM=some (gg (ee M (bv v)) (df d bx)):=by
  unfold mC;rw[show kS (KN (M+11)) (M+11) bx _=_ from IL (pl:=ee M (bv v)) hD hc (by omega) (fun e he h3=>absurd h3 (hno e he))];rfl
 have hXl:(gg (ee M (bv v)) (df d bx)).length≤2000:=by
  have:=sG (ee M (bv v)) ((df d bx).length+1) none (df d bx);unfold gg;omega
 have hXo:∀r∈gg (ee M (bv v)) (df d bx),r.Box.length≤1∧r.Text.size≤100000:=fun r hr=>by
  obtain⟨q1,q2⟩:=ue hno (rU d bx) _ _ r hr;rw[q1];exact⟨by simp,by omega⟩
 generalize gg (ee M (bv v)) (df d bx)=X at *;unfold gM;rw[show min (max v 0) 1048576=bv v from rfl,hr];simp only[Option.bind_some];rw[DB (by omega) (by omega)];simp only[Option.bind_some];have hbl:=vT (X.map vI) (bv v) (X.length+1) 0;simp only[List.length_map]at hbl;rw[eC (by simp;omega) (by omega),bA];have hA:=Ac (X.map vI) (bv v) (X.length+1) 0 (by omega) (by simp);rw[List.length_map]at hA;have hSl:(cY X (bv v)).length≤2001:=by unfold cY;simp only[List.length_append,List.length_cons,List.length_nil];omega
 have hSp:0<(cY X (bv v)).length:=by unfold cY;simp
 have hell:(((bM (X.map vI) (bv v) (X.length+1) 0).map fun (k:Nat)=>(k:Int))++[(X.length:Int)]).length=(cY X (bv v)).length:=by unfold cY;simp
 rw[hell,show aa (((cY X (bv v)).length:Int)-1)=(((cY X (bv v)).length-1:Nat):Int) by rw[cb (by omega) (by omega)];omega];have:=DN (K:=KN (M+11)) (n:=M+11) (X:=X) (s:=s) (w:=bv v) hXo (by omega) (by omega) v rfl (bM (X.map vI) (bv v) (X.length+1) 0) (cY X (bv v)) rfl hA hSl (M+11) 0 0 [] hSp (by omega) (by simp);rw[List.drop_zero,List.nil_append]at this;exact this
theorem tA{c:Nat}:∀(F:List ae),(∀f∈F,f.Text.size≤c)→(cZ F).length≤c*F.length
 | [],_=>by simp[cZ]
 | f::t,h=>by
  have h1:=tA t (fun x hx=>h x (by simp[hx]));have h2:=h f (by simp);have e:cZ (f::t)=(bif f.Kind == 3 then f.Text.data.toList else [])++cZ t:=rfl;rw[e,List.length_append,List.length_cons,Nat.mul_add,Nat.mul_one];cases (f.Kind == 3) with
  | true=>simp only[cond_true,eI];omega
  | false=>simp only[cond_false,List.length_nil];omega
theorem DH(r:aw):(stripR r).Text.size≤r.Text.size∧(stripR r).Box=r.Box:=by
 unfold stripR;cases (dD r.Text&&r.Style.WhiteSpace != 2) with
 | false=>exact⟨Nat.le_refl _,rfl⟩
 | true =>
  refine⟨?_,rfl⟩;show(eY r.Text).size≤r.Text.size;unfold eY;rw[ByteArray.size_extract];omega
theorem xf{ab last:Int}{c:Nat}:∀(L:List aw) (i x:Int),(∀r∈L,r.Box=[]∧r.Text.size≤c)→(cg ab last i x L).length≤L.length∧∀f∈cg ab last i x L,f.Text.size≤c
 | [],i,x,_=>⟨by simp[cg],fun f hf=>by simp[cg]at hf⟩
 | r::t,i,x,h=>by
  obtain⟨h1,h2⟩:=h r (by simp);obtain⟨k1,k2⟩:=DH r;have hr:(bif i == last then stripR r else r).Box=[]∧(bif i == last then stripR r else r).Text.size≤c:=by
   cases (i == last) with
   | true=>exact⟨k2.trans h1,Nat.le_trans k1 h2⟩
   | false=>exact⟨h1,h2⟩
  unfold cg;generalize (bif i == last then stripR r else r)=r' at *;obtain⟨q1,q2⟩:=xf (ab:=ab) (last:=last) t (i+1) (aa (x+aa (r'.Width+r'.Space))) (fun y hy=>h y (by simp[hy]));have ht:(cJ ab x r').length≤1∧∀f∈cJ ab x r',f.Text.size≤c:=by
   rw[nP hr.1];unfold fZ;cases r'.Text.data.toList.isEmpty with
   | true=>exact⟨by simp,fun f hf=>by simp at hf⟩
   | false=>exact⟨by simp,fun f hf=>by
     simp only[cond_false]at hf;rw[List.mem_singleton.1 hf];exact hr.2⟩
  simp only[];refine⟨by rw[List.length_append,List.length_cons];omega,fun f hf=>?_⟩;rcases List.mem_append.1 hf with hf|hf
  ·exact ht.2 f hf
  ·exact q2 f hf
theorem tI{s:aH}{w:Int}{X:List aw}{c:Nat}(hX:∀r∈X,r.Box=[]∧r.Text.size≤c):∀(S:List Nat) (h:Int),∀f∈(cG s w X h S).1,f.Kids.length≤X.length∧∀k∈f.Kids,k.Text.size≤c
 | [],h,f,hf=>by cases hf
 | [a],h,f,hf=>by cases hf
 | a::b::r,h,f,hf=>by
  unfold cG at hf;rcases List.mem_cons.1 hf with rfl|hf
  ·have hm:∀y∈sl X a b,y∈X:=fun y hy=>List.mem_of_mem_take (List.mem_of_mem_drop hy);have q:=xf (ab:=(ec (dh s) (sl X a b)).1) (last:=ju (sl X a b)) (sl X a b) 0 (n3 s w (fb ((sl X a b).map vI))) (fun r hr=>hX r (hm r hr));have h2:=pY X a b;show(dz s w (sl X a b)).Kids.length≤_∧∀k∈(dz s w (sl X a b)).Kids,_;unfold dz;simp only[List.nil_append];exact⟨by omega,q.2⟩
  ·exact tI hX (b::r) _ f hf
end
end Go.Proofs.YtnpmlepplfaijaaDoor
namespace Go.Proofs.YtnpmlepplfaijaaDoor
set_option linter.all false
open Go.RowKit
set_option maxRecDepth 100000 in
theorem EI(k:Nat):nS (KN (k+40)) (k+40)=some true:=by kernel_rfl
end Go.Proofs.YtnpmlepplfaijaaDoor
namespace Go.Proofs.YtnpmlepplfaijaaDoor.QInlineNested
set_option linter.all false
open Go.RowKit
noncomputable section
theorem Bv{a b:ByteArray}(h:a.size+b.size≤100000000):lK a b=true:=decide_eq_true (Nat.le_trans h (by decide))
theorem KC{K:Kn}{n:Nat}(f:ae)(hfk:f.Kids.length≤1000000):∀(m i:Nat) (acc:ByteArray),i≤f.Kids.length→f.Kids.length<m+i→acc.size+(cZ (f.Kids.drop i)).length≤50000000→∃b,kX K n f m acc (i:Int)=some b∧b.data.toList=acc.data.toList++cZ (f.Kids.drop i):=by
 intro m
 induction m with
 | zero=>intro i acc h1 h2;omega
 | succ m ih =>
  intro i acc h1 h2 h3;show ∃b,lI K n f (kX K n f m) acc i=some b∧_;unfold lI;by_cases hi:i<f.Kids.length
  ·have hdr:f.Kids.drop i=f.Kids.getD i default::f.Kids.drop (i+1):=by rw[List.drop_eq_getElem_cons hi,bR hi]
   have hw:aa ((i:Int)+1)=((i+1:Nat):Int):=by rw[cb (by omega) (by omega)];omega
   rw[hdr]at h3⊢;have e:cZ (f.Kids.getD i default::f.Kids.drop (i+1))=(bif (f.Kids.getD i default).Kind == 3 then (f.Kids.getD i default).Text.data.toList else [])++cZ (f.Kids.drop (i+1)):=rfl;rw[e]at h3⊢;rw[if_pos (by simpa using hi),cI (by omega) (by omega)];simp only[bA,Option.bind_some,Int.toNat_natCast];unfold mK;rw[hw];cases hk:((f.Kids.getD i default).Kind == 3) with
   | true =>
    rw[hk]at h3;simp only[cond_true,List.length_append,eI]at h3;rw[if_pos rfl,Bv (by omega),bA];have hsz:(acc++(f.Kids.getD i default).Text).size=acc.size+(f.Kids.getD i default).Text.size:=by rw[←eI,kC,List.length_append,eI,eI]
    obtain⟨b,b1,b2⟩:=ih (i+1) (acc++(f.Kids.getD i default).Text) (by omega) (by omega) (by rw[hsz];omega);exact⟨b,b1,by rw[b2,kC];simp[List.append_assoc]⟩
   | false =>
    rw[hk]at h3;simp only[cond_false,List.nil_append]at h3;rw[if_neg (by simp)];obtain⟨b,b1,b2⟩:=ih (i+1) acc (by omega) (by omega) (by omega);exact⟨b,b1,by rw[b2];simp⟩
  ·rw[if_neg (by simpa using hi),List.drop_eq_nil_of_le (by omega)];exact⟨acc,rfl,by simp[cZ]⟩
theorem Bj{K:Kn}{n:Nat}{f:ae}(hn:f.Kids.length<n)(hfk:f.Kids.length≤1000000)(hl:(cZ f.Kids).length≤50000000):∃b,kp K n f=some b∧b.data.toList=cZ f.Kids:=by
 unfold kp;obtain⟨b,b1,b2⟩:=KC (K:=K) (n:=n) f hfk n 0 ⟨#[]⟩ (by omega) (by omega) (by rw[List.drop_zero];show 0+_≤_;omega);exact⟨b,b1,by rw[b2,List.drop_zero];rfl⟩
theorem BU(K:Kn)(n:Nat)(f:ae)(hl:f.Kids.length≤1000000):lu K n f=some ⟨(eX f.Kids).1,(eX f.Kids).2⟩:=by
 unfold lu;cases hk:f.Kids with
 | nil=>rw[if_pos (by simp)];rfl
 | cons a t =>
  rw[hk]at hl;simp only[List.length_cons]at hl;have e1:aa (((a::t).length:Int)-1)=(t.length:Int):=by rw[cb (by simp only[List.length_cons];omega) (by simp only[List.length_cons];omega)];simp only[List.length_cons];omega
  rw[if_neg (by intro h;have:=eq_of_beq h;simp only[List.length_cons]at this;omega),e1,cI (by omega) (by simp only[List.length_cons];omega),bA];simp only[Option.bind_some];rw[cI (by omega) (by simp only[List.length_cons];omega),bA];have e2:(a::t).getLast (by simp)=(a::t).getD t.length default:=by
   rw[bR (by simp),List.getLast_eq_getElem];first|done|rfl|simp
  unfold eX;simp only[];rw[e2];rfl
theorem loop{K:Kn}{n:Nat}{V W:List ae×Int}(h:jR V.1 W.1)(hV:∀f∈V.1,f.Kids.length≤2000∧∀k∈f.Kids,k.Text.size≤8000)(hW:∀f∈W.1,f.Kids.length≤2000∧∀k∈f.Kids,k.Text.size≤8000)(hl:V.1.length≤5000)(hn:5000≤n):∀(m i:Nat),i≤V.1.length→V.1.length<m+i→kM K n V W m (i:Int)=some true:=by
 have hlen:=s7 _ _ h;intro m
 induction m with
 | zero=>intro i h1 h2;omega
 | succ m ih =>
  intro i h1 h2;show j6 K n V W (kM K n V W m) i=_;unfold j6;by_cases hi:i<V.1.length
  ·have hw:aa ((i:Int)+1)=((i+1:Nat):Int):=by rw[cb (by omega) (by omega)];omega
   have hm:V.1.getD i default∈V.1:=by rw[bR hi];exact List.getElem_mem _
   have hm2:W.1.getD i default∈W.1:=by rw[bR (by omega)];exact List.getElem_mem _
   have hr:=BT _ _ h i hi;obtain⟨k1,k2⟩:=hV _ hm;obtain⟨k3,k4⟩:=hW _ hm2;have b1:=tA _ k2;have b2:=tA _ k4;obtain⟨x,x1,x2⟩:=Bj (K:=K) (n:=n) (f:=V.1.getD i default) (by omega) (by omega) (by omega);obtain⟨y,y1,y2⟩:=Bj (K:=K) (n:=n) (f:=W.1.getD i default) (by omega) (by omega) (by omega);have hxy:(x.toList == y.toList)=true:=by
    rw[lH,lH,x2,y2,hr.sh];simp
   rw[if_pos (by simpa using hi),cI (by omega) (by omega),cI (by omega) (by omega)];simp only[bA,Int.toNat_natCast];rw[x1];simp only[Option.bind_some];rw[y1];simp only[Option.bind_some];rw[hxy,show(!true)=false from rfl,if_neg (by simp),if_neg (by rw[hr.h];simp),if_neg (by rw[hr.b];simp),BU K n _ (by omega),BU K n _ (by omega),hr.e];simp only[Option.bind_some];unfold jc;rw[show(!(((eX (W.1.getD i default).Kids).1 == (eX (W.1.getD i default).Kids).1)&&(((eX (W.1.getD i default).Kids).2 == (eX (W.1.getD i default).Kids).2)&&true)))=false by simp,if_neg (by simp),hw];exact ih (i+1) (by omega) (by omega)
  ·rw[if_neg (by simpa using hi)]
theorem ve{b:au}(h:b.Kind=3):fH b=true:=by unfold fH fw;rw[if_pos (by simp[h])];rfl
theorem Kc{b:au}(h:b.Kind=2)(hp:b.Style.Position≠2):fH b=true:=by
 unfold fH fw;rw[if_neg (by simp[h])];simp[nf,hp]
theorem Kt(d:Nat)(bx:List au):∀e∈df d bx,(e.Soft=true→e.Kind=1∧e.Char=32∧e.Box.Style.WhiteSpace≠2)∧(e.Kind=1→e.Char=32→e.Soft=true∨e.Box.Style.WhiteSpace=2) :=
 CC (P:=fun e=>(e.Soft=true→e.Kind=1∧e.Char=32∧e.Box.Style.WhiteSpace≠2)∧(e.Kind=1→e.Char=32→e.Soft=true∨e.Box.Style.WhiteSpace=2)) (fun b num r _ hs=>⟨fun h=>(by cases h),fun _ h=>by
   have e:r=32:=h;subst e;cases hs⟩) (fun _ _=>⟨fun h=>(by cases h),fun h=>by cases h⟩) (fun _ _ hw=>⟨fun h=>(by cases h),fun _ _=>.inr hw⟩) (fun _ _ hw=>⟨fun _=>⟨rfl,rfl,hw⟩,fun _ _=>.inl rfl⟩) (fun _ _=>⟨fun h=>(by cases h),fun h=>by cases h⟩) (fun _ _=>⟨fun h=>(by cases h),fun h=>by cases h⟩) d bx (0,[]) (fun x hx=>by cases hx)
section
variable(s:aH)(a t:ByteArray)
def bT(x:ByteArray):au:={ cv with Kind:=3,Style:=s,Text:=x }
def bI:au:={ cv with Kind:=2,Style:=s,Kids:=[bT s t] }
theorem FG:df 3 [bT s (a++t)]=cU (bT s (a++t)) 1 [] (cp (a++t) 0):=by
 show(da 2 (0,[]) (bT s (a++t))).2=_;unfold da;rw[ve (b:=bT s (a++t)) rfl];rfl
theorem Jn(hp:s.Position≠2):df 3 [bT s a,bI s t]=cU (bT s t) 3 (cU (bT s a) 1 [] (cp a 0)) (cp t 0):=by
 show(da 2 (da 2 (0,[]) (bT s a)) (bI s t)).2=_;have e1:da 2 (0,[]) (bT s a)=(1,cU (bT s a) 1 [] (cp a 0)):=by
  unfold da;rw[ve (b:=bT s a) rfl];rfl
 rw[e1];unfold da;rw[Kc (b:=bI s t) rfl hp];show(da 1 (2,cU (bT s a) 1 [] (cp a 0)) (bT s t)).2=_;unfold da;rw[ve (b:=bT s t) rfl];rfl
end
theorem holds(x0:cV)(x1:ByteArray)(x2:Int):∃n,rO (KN n) n x0 x1 x2=some true:=by
 refine⟨12000+11,?_⟩;generalize hM:12000=M;unfold rO;obtain⟨v,hv,hv2⟩:=EL (KN (M+11)) (M+11) [x0] 16 (by simp) (by simp);rw[show nS (KN (M+11)) (M+11)=some true from by
  have:=EI (M-29);rwa[show M-29+40=M+11 by omega]at this]
 unfold qS;rw[hv];simp only[Option.bind_some,Bool.not_true,Bool.false_eq_true,if_false];have jt:gK (KN (M+11)) (M+11) x0 x1 x2 true=some true:=rfl;cases v with
 | false=>rfl
 | true =>
  have hf:=(hv2 rfl).2 x0 (by simp);have hsz:x0.Text.size≤60:=by have:=hf.text;omega
  simp only[Bool.not_true,Bool.false_eq_true,if_false];by_cases ht:(x1.size:Int)>60
  ·rw[if_pos (by simpa using ht)];exact jt
  ·rw[if_neg (by simpa using ht)];have htz:x1.size≤60:=by omega
   unfold mu;rw[show decide (x0.Text.size≤9223372036854775807)=true by simp;omega,bA];simp only[Option.bind_some];cases hva:Lib.validD x0.Text.data.toList with
   | false=>rw[show(!false)=true from rfl,if_pos rfl];exact jt
   | true =>
    rw[show(!true)=false from rfl,if_neg (by simp),show decide (x1.size≤9223372036854775807)=true by simp;omega,bA];simp only[Option.bind_some];cases hvt:Lib.validD x1.data.toList with
    | false=>rw[show(!false)=true from rfl,if_pos rfl];exact jt
    | true =>
     rw[show(!true)=false from rfl,if_neg (by simp)];cases hp:(x0.Style.Position == 2) with
     | true=>exact jt
     | false =>
      have hpos:x0.Style.Position≠2:=by simpa using hp
      unfold gK;rw[if_neg (by simp),Bv (by omega),bA];simp only[iz,Option.bind_some];have e1:=FG x0.Style x0.Text x1;have e2:=Jn x0.Style x0.Text x1 hpos;rw[IE x1 hva,cU,List.foldl_append]at e1;have e1:df 3 [bT x0.Style (x0.Text++x1)]=cU (bT x0.Style (x0.Text++x1)) 1 (cU (bT x0.Style (x0.Text++x1)) 1 [] (cp x0.Text 0)) (cp x1 0):=e1;have hs12:(x0.Text++x1).size=x0.Text.size+x1.size:=by rw[←eI,kC,List.length_append,eI,eI]
      have hD1:Dp 3 [bT x0.Style (x0.Text++x1)]:=⟨by simp,fun b hb=>by
       rw[List.mem_singleton.1 hb];exact⟨by show(x0.Text++x1).size≤1000;omega,fun h=>by cases h⟩⟩
      have hD2:Dp 3 [bT x0.Style x0.Text,bI x0.Style x1]:=⟨by simp,fun b hb=>by
       rcases List.mem_cons.1 hb with rfl|hb
       ·exact⟨by show x0.Text.size≤1000;omega,fun h=>by cases h⟩
       ·rw[List.mem_singleton.1 hb];refine⟨by show(⟨#[]⟩:ByteArray).size≤1000;decide,fun _=>⟨by show 1≤1000;omega,fun c hc=>?_⟩⟩;have:c=bT x0.Style x1:=List.mem_singleton.1 hc;rw[this];exact⟨by show x1.size≤1000;omega,fun h=>by cases h⟩⟩
      have hc1:dS 3 [bT x0.Style (x0.Text++x1)]≤2000:=by
       show(1+(x0.Text++x1).size+0)+0≤2000;omega
      have hc2:dS 3 [bT x0.Style x0.Text,bI x0.Style x1]≤2000:=by
       show(1+x0.Text.size+0)+((1+0+((1+x1.size+0)+0))+0)≤2000;omega
      obtain⟨A1,a1,a2⟩:=mH (bT x0.Style (x0.Text++x1)) 1 (cp x0.Text 0) [];obtain⟨B1,b1,b2⟩:=mH (bT x0.Style (x0.Text++x1)) 1 (cp x1 0) (cU (bT x0.Style (x0.Text++x1)) 1 [] (cp x0.Text 0));obtain⟨A2,c1,c2⟩:=mH (bT x0.Style x0.Text) 1 (cp x0.Text 0) [];obtain⟨B2,d1,d2⟩:=mH (bT x0.Style x1) 3 (cp x1 0) (cU (bT x0.Style x0.Text) 1 [] (cp x0.Text 0));have kA:=vG (b:=bT x0.Style (x0.Text++x1)) (c:=bT x0.Style x0.Text) rfl rfl 1 1 (cp x0.Text 0) (A:=[]) (B:=[]) rfl;have kE:=vG (b:=bT x0.Style (x0.Text++x1)) (c:=bT x0.Style x1) rfl rfl 1 3 (cp x1 0) kA;rw[b1,d1,a1,c1]at kE;rw[a1,c1]at kA;rw[b1,a1]at e1;rw[d1,c1]at e2;simp only[List.nil_append]at kA kE e1 e2;have lA:A1.length=A2.length:=by simpa using congrArg List.length kA
      have kB:B1.map key=B2.map key:=by
       rw[List.map_append,List.map_append,kA]at kE;exact List.append_cancel_left kE
      have lB:B1.length=B2.length:=by simpa using congrArg List.length kB
      have n1:∀e∈df 3 [bT x0.Style (x0.Text++x1)],e.Kind≠3:=fun e he=>by
       rw[e1]at he;rcases List.mem_append.1 he with he|he
       ·rcases (a2 e he).2.1 with h|h<;>omega
       ·rcases (b2 e he).2.1 with h|h<;>omega
      have n2:∀e∈df 3 [bT x0.Style x0.Text,bI x0.Style x1],e.Kind≠3:=fun e he=>by
       rw[e2]at he;rcases List.mem_append.1 he with he|he
       ·rcases (c2 e he).2.1 with h|h<;>omega
       ·rcases (d2 e he).2.1 with h|h<;>omega
      have hL1:=yJ hD1 hc1 (M:=M) (by omega) n1 x0.Style x2;have hL2:=yJ hD2 hc2 (M:=M) (by omega) n2 x0.Style x2;have len1:=pH 3 [bT x0.Style (x0.Text++x1)];have len2:=pH 3 [bT x0.Style x0.Text,bI x0.Style x1];have ok1:=rU 3 [bT x0.Style (x0.Text++x1)];have ok2:=rU 3 [bT x0.Style x0.Text,bI x0.Style x1];have eq2:=Kt 3 [bT x0.Style x0.Text,bI x0.Style x1];rw[show gM (KN (M+11)) (M+11) [({ cv with Kind:=3,Style:=x0.Style,Text:=(x0.Text++x1) }:au)] x0.Style x2 (⟨(Fv.fn 17),(Fv.fn 18),(Fv.fn 19),(Fv.fn 20)⟩:cq)=_ from hL1];simp only[Option.bind_some];rw[show gM (KN (M+11)) (M+11) [({ cv with Kind:=3,Style:=x0.Style,Text:=x0.Text }:au),({ cv with Kind:=2,Style:=x0.Style,Kids:=[({ cv with Kind:=3,Style:=x0.Style,Text:=x1 }:au)] }:au)] x0.Style x2 (⟨(Fv.fn 17),(Fv.fn 18),(Fv.fn 19),(Fv.fn 20)⟩:cq)=_ from hL2];simp only[Option.bind_some];rw[e1]at len1 ok1 n1⊢;rw[e2]at len2 ok2 n2 eq2⊢
      have box1:=ue (pl:=ee M (bv x2)) n1 ok1 ((A1++B1).length+1) none;have box2:=ue (pl:=ee M (bv x2)) n2 ok2 ((A2++B2).length+1) none;have cl1:=sG (ee M (bv x2)) ((A1++B1).length+1) none (A1++B1);have cl2:=sG (ee M (bv x2)) ((A2++B2).length+1) none (A2++B2);have ll:(A1++B1).length=(A2++B2).length:=by rw[List.length_append,List.length_append,lA,lB]
      have hspl:=FD (pl:=ee M (bv x2)) (o1:=1) (o2:=3) (Qe x0.Style 0) (by decide) ((A1++B1).length+1) none none A1 B1 A2 B2 (by rw[List.length_append];omega) (by rw[List.length_append]at len1;omega) kA kB rfl (fun x hx=>⟨(a2 x hx).1,(a2 x hx).2.1⟩) (fun x hx=>⟨(b2 x hx).1,(b2 x hx).2.1⟩)
       (fun x hx=>⟨(c2 x hx).1,⟨ok2 x (List.mem_append.2 (.inl hx)),by rw[(c2 x hx).2.2];rfl,by rw[(c2 x hx).2.2];rfl,(eq2 x (List.mem_append.2 (.inl hx))).1,(eq2 x (List.mem_append.2 (.inl hx))).2⟩⟩)
       (fun x hx=>⟨(d2 x hx).1,⟨ok2 x (List.mem_append.2 (.inr hx)),by rw[(d2 x hx).2.2];rfl,by rw[(d2 x hx).2.2];rfl,(eq2 x (List.mem_append.2 (.inr hx))).1,(eq2 x (List.mem_append.2 (.inr hx))).2⟩⟩)
      unfold gg;rw[←ll]at box2 cl2⊢;have hln:(A1++B1).length≤2000:=by omega
      have bd1:∀r∈cM (ee M (bv x2)) ((A1++B1).length+1) none (A1++B1),r.Box=[]∧r.Text.size≤8000:=fun r hr=>⟨(box1 r hr).1,by have:=(box1 r hr).2;omega⟩;have bd2:∀r∈cM (ee M (bv x2)) ((A1++B1).length+1) none (A2++B2),r.Box=[]∧r.Text.size≤8000:=fun r hr=>⟨(box2 r hr).1,by have:=(box2 r hr).2;omega⟩;generalize cM (ee M (bv x2)) ((A1++B1).length+1) none (A1++B1)=X1 at *;generalize cM (ee M (bv x2)) ((A1++B1).length+1) none (A2++B2)=X2 at *;have key2:(cG x0.Style (bv x2) X2 0 (cY X2 (bv x2))).2=(cG x0.Style (bv x2) X1 0 (cY X1 (bv x2))).2∧jR (cG x0.Style (bv x2) X1 0 (cY X1 (bv x2))).1 (cG x0.Style (bv x2) X2 0 (cY X2 (bv x2))).1:=by
       rcases hspl with h|⟨P,r,ra,rb,S,h1,h2,h3⟩
       ·rw[h];exact⟨rfl,Bo _⟩
       ·have hcn:=Gf h3;rw[h1,h2,E3 hcn];refine yt hcn x0.Style (bv x2) P S (fun y hy=>?_) _ 0 ?_
        ·refine (bd1 y ?_).1;rw[h1];rcases List.mem_append.1 hy with hy|hy
         ·exact List.mem_append.2 (.inl hy)
         ·exact List.mem_append.2 (.inr (List.mem_cons_of_mem _ hy))
        ·have:=Ac ((P++r::S).map vI) (bv x2) ((P++r::S).length+1) 0 (by omega) (by simp);rw[List.length_map]at this;exact this
      have q1:=tI (s:=x0.Style) (w:=bv x2) bd1 (cY X1 (bv x2)) 0;have q2:=tI (s:=x0.Style) (w:=bv x2) bd2 (cY X2 (bv x2)) 0;have hll:=zz x0.Style (bv x2) X1 (cY X1 (bv x2)) 0;have hbl:=vT (X1.map vI) (bv x2) (X1.length+1) 0;simp only[List.length_map]at hbl;have hSl:(cY X1 (bv x2)).length≤2001:=by unfold cY;simp only[List.length_append,List.length_cons,List.length_nil];omega
      generalize cG x0.Style (bv x2) X1 0 (cY X1 (bv x2))=V at *;generalize cG x0.Style (bv x2) X2 0 (cY X2 (bv x2))=W at *;have hlen:=s7 _ _ key2.2;rw[key2.1,show(V.2 != V.2)=false by simp,if_neg (by simp),hlen,show((W.1.length:Int) != (W.1.length:Int))=false by simp];unfold mZ;rw[if_neg (by simp)];exact loop key2.2 (fun f hf=>⟨by have:=(q1 f hf).1;omega,(q1 f hf).2⟩) (fun f hf=>⟨by have:=(q2 f hf).1;omega,(q2 f hf).2⟩) (by omega) (by omega) (M+11) 0 (by omega) (by omega)
end
end Go.Proofs.YtnpmlepplfaijaaDoor.QInlineNested
