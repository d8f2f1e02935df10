/- Laws of single operations in short form: what the kernel computes of an operation is one premise. No program in sight. -/
import Derived.Test.YtocgkfoifehcbaaGreatRdVx
namespace Go.Proofs.YtocgkfoifehcbaaGreat
set_option linter.all false
open Go.RowKit
def d8(id:Nat)(ar:cj)(s:AS):AS:={ s with r:=bd id ar s.r }
def g9(d id:Nat)(ar:cj)(s:AS):AS:={ t:=bd d (.ref id) (dw id s.t),o:=eV id s.o,r:=bd id ar s.r,u:=s.u }
def JK(d:Nat)(ar:cj)(s:AS):AS:={ t:=bd d (.ref d) s.t,o:=s.o,r:=bd d ar s.r,u:=d::s.u }
def aj3(k d:Nat)(ar:cj)(s:AS):AS:=⟨bd k (.ref d) s.t,s.o,bd d ar s.r,d::s.u⟩
section
variable{P:Program}{n:Nat}{s:AS}{o:Oper}{α:Type}[Inhabited α]
def l7(n:Nat)(o:Oper):Bool:=match o.dst with|some d=>Nat.ble (d+1) n|none=>false
theorem q9(h:l7 n o=true):∃d,o.dst=some d∧Nat.ble (d+1) n=true:=by
 grind[l7]
def MK(P:Program)(n:Nat)(s:AS)(o:Oper):Option (h6×Int×Nat):=match l7 n o,o.op with
 | true,.indexAddr T x y=>match s.ev x,s.ev y,ph P T,gA P T with
  | some (.sl l),some (.int _ i),none,some (_,sz)=>some (l,i,sz)
  | _,_,_,_=>none
 | _,_=>none
theorem bD(enc b:α→c6){L:List α}{i:Int}{sz:Nat}(l:aO i L.length=true)(q:∀a,(enc a).length=sz)(m:∀a,enc a=b a)(h:MK P n s o=some (L.map enc,i,sz):=by kernel_rfl):cc P n s o=some (s.put o.dst (.cptr (b (L.getD i.toNat default)))):=by
 unfold MK at h;split at h
 case h_2=>cases h
 rename_i T x y c e;obtain⟨d,c,p⟩:=q9 c;split at h
 case h_2=>cases h
 rename_i f g j k;simp only[th]at h;obtain⟨rfl,rfl,rfl⟩:=h;rw[c];exact aj9 enc b L _ T x y d e c p f g j k l q m
def HN(P:Program)(n:Nat)(s:AS)(o:Oper):Option (Nat×Nat×Int×h6):=match l7 n o,o.op with
 | true,.indexAddr T x y=>match s.ev x,s.ev y,ph P T,gA P T with
  | some (.ref id),some (.int _ i),none,some (_,sz)=>match look id s.r with
   | some ⟨_,a,l⟩=>match Nat.beq sz a with
    | true=>some (id,sz,i,l)
    | false=>none
   | none=>none
  | _,_,_,_=>none
 | _,_=>none
theorem cp(id sz:Nat)(enc:α→c6){L:List α}{i:Int}(l:aO i L.length=true)(h:HN P n s o=some (id,sz,i,L.map enc):=by kernel_rfl):cc P n s o=some (s.put o.dst (.eptr id sz i.toNat 0)):=by
 unfold HN at h;split at h
 case h_2=>cases h
 rename_i T x y a c;obtain⟨d,a,m⟩:=q9 a;split at h
 case h_2=>cases h
 rename_i e f g j;split at h
 case h_2=>cases h
 rename_i k;split at h
 case h_2=>cases h
 rename_i b;have b:=nx b;simp only[th,BY]at h;obtain⟨rfl,rfl,rfl,rfl⟩:=h;subst b;rw[a];exact abt enc L _ T x y d c a m e f k g j l
def SP(n:Nat)(s:AS)(o:Oper):Option (TypeId×Nat×Nat×h6):=match l7 n o,o.op with
 | true,.load T x=>match s.ev x with
  | some (.eptr id sz j off)=>match look id s.r with
   | some ⟨_,a,l⟩=>match Nat.beq sz a&&Nat.ble (id+1) TG with
    | true=>some (T,j,off,l)
    | false=>none
   | none=>none
  | _=>none
 | _,_=>none
def aiT:Option AV→AV
 | some v=>v
 | none=>.any
def ach:Option AV→Bool
 | some _=>true
 | none=>false
theorem bJ(T:TypeId)(off:Nat)(enc b:α→c6){L:List α}{j:Nat}(q:j<L.length)(p:∀a,enc a=b a)(h:SP n s o=some (T,j,off,L.map enc):=by kernel_rfl)(k:ach (iV P T ((b (L.getD j default)).drop off))=true:=by kernel_rfl):
  cc P n s o=some (s.put o.dst (aiT (iV P T ((b (L.getD j default)).drop off)))):=by
 unfold SP at h;split at h
 case h_2=>cases h
 rename_i T' x e f;obtain⟨d,e,r⟩:=q9 e;split at h
 case h_2=>cases h
 rename_i l;split at h
 case h_2=>cases h
 rename_i m;split at h
 case h_2=>cases h
 rename_i c;rw[iO]at c;have g:=kb c.2;have c:=nx c.1;simp only[th,BY]at h;obtain⟨rfl,rfl,rfl,rfl⟩:=h;subst c;cases i:iV P T' ((b (L.getD _ default)).drop _) with
 | none=>rw[i]at k;cases k
 | some v =>
  rw[e];exact abX enc b L T' x d g f e r l m q p i
def Oy(P:Program)(s:AS)(o:Oper):Option (Nat×TypeId×Nat×Nat×Nat×h6):=match o.dst,o.op with
 | none,.store T x y=>match s.ev x,s.ev y with
  | some (.eptr id sz j off),some v=>match look id s.r,jR v,cr P T with
   | some ⟨et,a,l⟩,some b,some k=>match Nat.beq sz a&&Nat.beq k b.length with
    | true=>some (id,et,sz,j,off,l)
    | false=>none
   | _,_,_=>none
  | _,_=>none
 | _,_=>none
def yb(s:AS)(o:Oper):c6:=match o.op with
 | .store _ _ y=>match s.ev y with
  | some v=>match jR v with|some a=>a|none=>[]
  | none=>[]
 | _=>[]
theorem dD(id:Nat)(et:TypeId)(sz off:Nat)(enc b:α→c6){L:List α}{j:Nat}(new:α)(w:j<L.length)(u:∀a,enc a=b a)(h:Oy P s o=some (id,et,sz,j,off,L.map enc):=by kernel_rfl)
  (d:(Nat.ble (off+(yb s o).length) (b (L.getD j default)).length&&dV [] (yb s o))=true:=by kernel_rfl) (g:jn off (yb s o) (b (L.getD j default))=b new:=by kernel_rfl) :
  cc P n s o=some (d8 id ⟨et,sz,(L.set j new).map enc⟩ s):=by
 unfold Oy at h;split at h
 case h_2=>cases h
 rename_i T x y t c;split at h
 case h_2=>cases h
 rename_i v l f;split at h
 case h_2=>cases h
 rename_i A k m i z;split at h
 case h_2=>cases h
 rename_i e;simp only[iO]at e;have p:=nx e.1;have q:=nx e.2;simp only[th,BY]at h;obtain⟨rfl,rfl,rfl,rfl,rfl,rfl⟩:=h;subst p;subst q;have r:yb s o=A:=by unfold yb;simp only[c,f,i]
 rw[r]at d g;simp only[iO]at d;exact agQ enc b L new T x y c t l f m w i z u d.1 d.2 g
def UC(P:Program)(n:Nat)(s:AS)(o:Oper):Option h6:=match l7 n o,o.op with
 | true,.call ⟨.builtin .len,⟨[x]⟩,⟨[T]⟩⟩=>match s.ev x,gA P T with
  | some (.sl l),some _=>some l
  | some (.ref id),some _=>match look id s.r with
   | some ⟨_,_,l⟩=>some l
   | none=>none
  | _,_=>none
 | _,_=>none
theorem bv enc(L:List α)(h:UC P n s o=some (L.map enc):=by kernel_rfl):cc P n s o=some (s.put o.dst (.int .i64 L.length)):=by
 grind[UC,q9,aea,YM]
def Uc(P:Program)(n:Nat)(s:AS)(o:Oper):Option (Nat×Nat×TypeId×Nat×Nat×h6×h6):=match o.dst,o.op with
 | some d,.call ⟨.builtin .append,⟨[x,y]⟩,⟨[T,T']⟩⟩=>match Nat.beq T T'&&Nat.ble (d+1) n,s.ev x,s.ev y,ja P T with
  | true,some (.ref id),some (.sl new),some (et,sz,bytes)=>match look id s.r with
   | some ⟨a,b,l⟩=>match (Nat.beq et a&&Nat.beq sz b)&&!s.u.contains (da id) with
    | true=>some (d,id,et,sz,bytes,new,l)
    | false=>none
   | none=>none
  | _,_,_,_=>none
 | _,_=>none
theorem cG(d id:Nat)(et:TypeId)(sz:Nat)(enc:α→c6){L M:List α}{bytes:Nat}{new:h6}(b:new=M.map enc)(v:∀a,(enc a).length=sz)(u:fits (L.length+M.length) bytes=true)(h:Uc P n s o=some (d,id,et,sz,bytes,new,L.map enc):=by kernel_rfl):
  cc P n s o=some (g9 d id ⟨et,sz,(L++M).map enc⟩ s):=by
 unfold Uc at h;split at h
 case h_2=>cases h
 rename_i w x y T T' t g;split at h
 case h_2=>cases h
 rename_i f i j k;simp only[iO]at f;have r:=nx f.1;split at h
 case h_2=>cases h
 rename_i l;split at h
 case h_2=>cases h
 rename_i c;simp only[iO,acM]at c;have m:=nx c.1.1;have p:=nx c.1.2;have q:=c.2;simp only[th,BY]at h;obtain⟨rfl,rfl,rfl,rfl,rfl,rfl,rfl⟩:=h;have e:T=T':=r;subst e;subst m;subst p;exact aho enc L M T x y _ g t f.2 i j b l k v u q rfl rfl
def Lr(P:Program)(n:Nat)(s:AS)(o:Oper)(new:h6):Option AS:=match l7 n o with
 | true=>some (s.put o.dst (.sl new))
 | false=>none
theorem gt enc(M:List α){new}(a:new=M.map enc)(h:cc P n s o=Lr P n s o new:=by kernel_rfl)(b:l7 n o=true:=by kernel_rfl):cc P n s o=some (s.put o.dst (.sl (M.map enc))):=by
 grind[Lr]
def C4(n:Nat)(s:AS)(o:Oper):Option (BinOp×AV×AV):=match l7 n o,o.op with
 | true,.binOp op _ x y _=>match s.ev x,s.ev y with
  | some u,some v=>some (op,u,v)
  | _,_=>none
 | _,_=>none
theorem ZE k a{b}(c:(b != 0)=true)(h:C4 n s o=some (.quo,.int k a,.int k b):=by kernel_rfl):cc P n s o=some (s.put o.dst (.int k (k.wrap (a.tdiv b)))):=by
 grind[C4,q9,adJ]
theorem VK k a{b}(c:(b != 0)=true)(h:C4 n s o=some (.rem,.int k a,.int k b):=by kernel_rfl):cc P n s o=some (s.put o.dst (.int k (a.tmod b))):=by
 grind[C4,q9,Zj]
end
section
variable{a:Cx}{Q:AV→AS→Prop}{s:AS}{b:Func}
theorem bw{V}(h:gZ a.P s b.results.toList=some [V]:=by kernel_rfl):VE a (bodyPost a.P b (bI a.M a.w0 (fun v _=>v=V))) [] .ret s:=pY rfl h rfl
theorem jm{l}(h:gZ a.P s b.results.toList=some l:=by kernel_rfl)(c:re l=.tup l:=by kernel_rfl):VE a (bodyPost a.P b (bI a.M a.w0 (fun v _=>v=.tup l))) [] .ret s:=pY rfl h c
theorem fG{V}{id}{ar}(h:gZ a.P s b.results.toList=some [V]:=by kernel_rfl)(c:look id s.r=some ar:=by kernel_rfl):VE a (bodyPost a.P b (bI a.M a.w0 (fun v s=>v=V∧look id s.r=some ar))) [] .ret s:=pY rfl h ⟨rfl,c⟩
theorem pE{l}{id}{ar}(h:gZ a.P s b.results.toList=some l:=by kernel_rfl)(c:look id s.r=some ar:=by kernel_rfl)(d:re l=.tup l:=by kernel_rfl):VE a (bodyPost a.P b (bI a.M a.w0 (fun v s=>v=.tup l∧look id s.r=some ar))) [] .ret s :=by grind[pY]
end
def Ez(id:Nat)(s:AS):AS:=match look id s.r with|some ar=>s.cA id ar.l|none=>s
def vW(id:Nat)(s:AS):Bool:=match look id s.r with|some _=>!s.u.contains (da id)&&Nat.ble (id+1) TG|none=>false
theorem vL{b}{id}(h:(!b&&Nat.ble (id+1) TG)=true):b=false∧id<TG:=by
 rw[iO]at h;exact⟨by grind,kb h.2⟩
def O3(id a:Nat)(s:AS):AS:=match look id s.r with|some ar=>⟨qx id a s.t,rk id a s.o,bd a ar (era id s.r),a::s.u⟩|none=>s
def QY(k:Nat)(s:AS):AS:=match look k s.o with|some cs=>{ s with o:=bd k (cs.map fT) s.o }|none=>s
def DJ(d i n:Nat)(et:TypeId)(sz:Nat)(s:AS):AS:=match look i s.o with|some cs=>⟨s.t,bd i (cs.set n (.ref d)) s.o,bd d ⟨et,sz,[]⟩ s.r,d::s.u⟩|none=>s
def DZ(i n:Nat)(s:AS):Bool:=match look i s.o with|some cs=>(match cs[n]? with|some .nils=>true|_=>false)|none=>false
section
variable{c:Cx}{Q:Exit→Act→World→Prop}{g:dt}{e:Exit}{s:AS}{b:Array Oper}{l:List Oper}
theorem iz id(h:VE c Q g e (Ez id s))(b:vW id s=true:=by kernel_rfl):VE c Q g e s:=by
 unfold vW at b;unfold Ez at h;split at b
 ·rename_i ar a;rw[a]at h;exact aib id (vL b).2 a (vL b).1 h
 grind
theorem mM id(h:OT c Q g b l (Ez id s))(d:vW id s=true:=by kernel_rfl):OT c Q g b l s:=by
 unfold vW at d;unfold Ez at h;split at d
 ·rename_i ar a;rw[a]at h;exact Zm id (vL d).2 a (vL d).1 h
 grind
theorem ta id a(h:VE c Q g e (O3 id a s))(d:vW id s=true:=by kernel_rfl)(f:has s.u a=false:=by kernel_rfl):VE c Q g e s:=by
 unfold vW at d;unfold O3 at h;split at d
 ·rename_i ar b;rw[b]at h;exact ajT id a (vL d).2 b f (vL d).1 h
 grind
theorem nL k(h:VE c Q g e (QY k s)):VE c Q g e s:=by
 grind[QY,aam]
theorem Kg{b:Array Oper}{f:Func}{p:ed}{i:Nat}(T:TypeId)(d:Nat){e:TypeId}{sz:Nat}(k:OT c Q g b (aU f p (i+1)) (JK d ⟨e,sz,[]⟩ s))(l:aU f p i=aS f p i::aU f p (i+1):=by kernel_rfl)(j:cC b s (aS f p i)=true:=by kernel_rfl)(a:(aS f p i).op=.buildSlice T 0 #[]:=by kernel_rfl)(h:(aS f p i).dst=some d:=by kernel_rfl)(m:Nat.ble (d+1) c.n=true:=by kernel_rfl)
  (n:c.P.underlying T=some (.slice e):=by kernel_rfl) (q:cr c.P e=some sz:=by kernel_rfl) (o:has s.u d=false:=by kernel_rfl):OT c Q g b (aU f p i) s:=ahD _ T d l j a h m n q o k
theorem OS{b:Array Oper}{f:Func}{p:ed}{i:Nat}(T:TypeId)(h:Nat)(parts:Array (Nat×Operand))(d:Nat){e:TypeId}{sz:Nat}{l:h6}(k:OT c Q g b (aU f p (i+1)) (JK d ⟨e,sz,l⟩ s))(hl:aU f p i=aS f p i::aU f p (i+1):=by kernel_rfl)(hg:cC b s (aS f p i)=true:=by kernel_rfl)
  (J:(aS f p i).op=.buildSlice T h parts:=by kernel_rfl) (hd:(aS f p i).dst=some d:=by kernel_rfl) (hn:Nat.ble (d+1) c.n=true:=by kernel_rfl) (j:oE c.P s T h parts.toList=some (.sl l):=by kernel_rfl) (x:gA c.P T=some (e,sz):=by kernel_rfl) (hu:has s.u d=false:=by kernel_rfl):OT c Q g b (aU f p i) s:=by
 rw[hl];refine eU _ hg fun a w ι R=>?_;refine Ts rfl fun K hK=>?_;unfold oE at j;split at j
 case h_2=>cases j
 rename_i e1 A ps q L;split at j
 case h_2=>cases j
 rename_i l' H;split at j
 case isFalse=>cases j
 rename_i u;obtain⟨c1,U,c3,N⟩:=u;injection j with j;injection j with j;subst j
 rw[x]at q;injection q with q;injection q with h1 h2;subst h1;subst h2
 obtain⟨q1,q2⟩:=Cj R L;unfold gA at x;split at x
 case h_2=>cases x
 rename_i E M;cases o:c.P.info? E with
 | none=>simp[cr,o]at x
 | some t =>
  simp only[cr,o,aa3,th,BY]at x;obtain⟨rfl,r⟩:=x;have m:t.size=A+1:=r;clear r;unfold ey at N;cases D:t.zero with
  | none=>simp[o,D]at N
  | some z =>
   have I:(parts.map fun (y:Nat×Operand)=>(y.1,a.eval y.2)).toList=parts.toList.map fun y=>(y.1,a.eval y.2):=akW;obtain⟨B,S,F,V,W,X,Y,Z,f7⟩:=K3 (zs:=(Array.range (h*t.size)).map (z.cells[· % z.cells.size]!)) q1 q2 H (by simp[c1,m]);rw[←I]at F;have hy:B.toList=S:=by
    rw[V,c1];simp[m]
   have G:Instr.fill (fun i=>some (i*t.size,t.size)) ((Array.range (h*t.size)).map (z.cells[· % z.cells.size]!)) (parts.map fun (y:Nat×Operand)=>(y.1,a.eval y.2)).toList=some B:=by rw[m];rw[m]at F;exact F
   have O:0<h*t.size:=Nat.mul_pos U (by omega);have C:=run_buildSlice (P:=c.P) w T E h (parts.map fun (y:Nat×Operand)=>(y.1,a.eval y.2)) B t z M o D (by rw[m];omega) (by omega) G;have hm:h*1≤h*(A+1):=Nat.mul_le_mul_left _ (by omega);have v:=R.wQ (kb hn) hu (e:=E) (sz:=A+1) (n:=h) (l:=l') (vs:=S) (by rw[X,c1]) (by unfold maxLen;omega) (by rw[W,c1]) Y Z f7;unfold Oper.wp execOp;simp only[J,sj,C,u5,Qf];rw[hd];rw[←hy]at v;simp only[aiU]at v;exact hK _ _ (k _ _ _ v)
theorem n7{α:Type}(enc:α→c6)(h:α){b:Array Oper}{f:Func}{p:ed}{i:Nat}(T:TypeId)(x y:Operand)(d:Nat){e:TypeId}{sz:Nat}{zc:c6}{bytes:Nat}{n:Int}{kd kd':IntKind}(j:fw n bytes=true)(k:OT c Q g b (aU f p (i+1)) (JK d ⟨e,sz,List.map enc (List.replicate n.toNat h)⟩ s))
  (q:aU f p i=aS f p i::aU f p (i+1):=by kernel_rfl) (o:cC b s (aS f p i)=true:=by kernel_rfl) (a:(aS f p i).op=.makeSlice T x y:=by kernel_rfl) (l:(aS f p i).dst=some d:=by kernel_rfl) (r:Nat.ble (d+1) c.n=true:=by kernel_rfl) (v:s.ev x=some (.int kd n):=by kernel_rfl) (w:s.ev y=some (.int kd' n):=by kernel_rfl)
  (t:ja c.P T=some (e,sz,bytes):=by kernel_rfl) (z:ey c.P e=some zc:=by kernel_rfl) (m:zc.map fT=enc h:=by kernel_rfl) (u:has s.u d=false:=by kernel_rfl):OT c Q g b (aU f p i) s:=abz enc h _ T x y d q o a l r v w t z m u j k
theorem eW d k et sz(h:VE c Q g e (aj3 k d ⟨et,sz,[]⟩ s))(a:has s.u d=false:=by kernel_rfl)(b:look k s.t=some .nils:=by kernel_rfl):VE c Q g e s:=Yo d k et sz a b h
theorem Ca d i n et sz(h:VE c Q g e (DJ d i n et sz s))(a:has s.u d=false:=by kernel_rfl)(b:DZ i n s=true:=by kernel_rfl):VE c Q g e s:=by
 grind[DZ,DJ,Xb]
end
section
variable{P:Program}{n:Nat}{c:AS}{b:Array Oper}{K:Nat}{a:g7}{o:Oper}
theorem dp{m}{s'}(h:cc P n (nth a m) o=some s')(d:s'=nth a (m+1):=by kernel_rfl)(e:o.guard.isNone=true:=by kernel_rfl):fv P n c b K a o (.s (m+1)) :=by grind[MB]
theorem cg m(h:cc P n (nth a m) o=some (nth a (m+1)):=by kernel_rfl)(d:o.guard.isNone=true:=by kernel_rfl):fv P n c b K a o (.s (m+1)):=MB d h
theorem BJ{lo}{s'}(h:cc P n (nth a lo) o=some s')(d:s'=nth a lo:=by kernel_rfl)(e:cC b (nth a lo) o=true:=by kernel_rfl):fv P n c b K a o (.v lo 1) :=by grind[ii,dR,ep,iJ]
def CY(b:Array Oper)(a:g7)(o:Oper)(d:Nat):Nat→Nat→List (Bool×Option (FuncId×c6)×Option AV)
 | _,0=>[]
 | lo,k+1=>(cC b (nth a lo) o,d9 (nth a lo) o,look d (nth a lo).t)::CY b a o d (lo+1) k
def BZ(x:Bool×Option (FuncId×c6)×Option AV):Nat→List (Bool×Option (FuncId×c6)×Option AV)
 | 0=>[]
 | k+1=>x::BZ x k
theorem Sn{d}{f}{c}{V}:∀{k lo},CY b a o d lo k=BZ (true,some (f,c),some V) k→eB lo k fun j=>cC b (nth a j) o=true∧d9 (nth a j) o=some (f,c)∧look d (nth a j).t=some V
 | 0,_,_=>trivial
 | k+1,lo,h=>by
  simp only[CY,BZ,alm,BY]at h;exact⟨⟨h.1.1,h.1.2.1,h.1.2.2⟩,Sn h.2⟩
theorem cv(lo k d:Nat){f}{e}{V}(j:aY P f e (fun v _=>v=V))(g:cI P f=true:=by kernel_rfl)(m:V.de []=true:=by kernel_rfl)(l:o.dst=some d:=by kernel_rfl)(i:Nat.ble (d+1) n=true:=by kernel_rfl)
  (h:CY b a o d lo k=BZ (true,some (f,e),some V) k:=by kernel_rfl):fv P n c b K a o (.c lo k) :=by grind[k_c,Sn]
def B8(a:g7)(d:Nat):Nat→Nat→List (Option c6×Bool×Option AV×Bool)
 | _,0=>[]
 | lo,k+1=>(look d (nth a lo).o,(look d (nth a lo).r).isNone,look d (nth a lo).t,has (nth a lo).u d)::B8 a d (lo+1) k
def Eu(x:Option c6×Bool×Option AV×Bool):Nat→List (Option c6×Bool×Option AV×Bool)
 | 0=>[]
 | k+1=>x::Eu x k
theorem Q6{d}{cs}:∀{k lo},B8 a d lo k=Eu (some cs,true,some (.ptr d 0),true) k→eB lo k fun j=>look d (nth a j).o=some cs∧look d (nth a j).r=none∧look d (nth a j).t=some (.ptr d 0)∧has (nth a j).u d=true
 | 0,_,_=>trivial
 | k+1,lo,h=>by
  simp only[B8,Eu,alm,BY]at h;exact⟨⟨h.1.1,by simp_all,h.1.2.2.1,h.1.2.2.2⟩,Q6 h.2⟩
theorem rG(lo k T d:Nat) cs(i:o.guard.isNone=true:=by kernel_rfl)(f:o.op=.alloc T:=by kernel_rfl)(g:o.dst=some d:=by kernel_rfl)(e:Nat.ble (d+1) (min n 450000)=true:=by kernel_rfl)(l:ey P T=some cs:=by kernel_rfl)(j:has c.u d=false:=by kernel_rfl)
  (h:B8 a d lo k=Eu (some cs,true,some (.ptr d 0),true) k:=by kernel_rfl):fv P n c b K a o (.a lo k) :=by grind[k_a,Q6]
def EB(b:Array Oper)(a:g7)(o:Oper)(d:Nat):Nat→Nat→List (Bool×Option (FuncId×c6)×Option AV×Option cj×Bool×Bool)
 | _,0=>[]
 | lo,k+1=>(cC b (nth a lo) o,d9 (nth a lo) o,look d (nth a lo).t,look d (nth a lo).r,(look d (nth a lo).o).isNone,has (nth a lo).u d)::EB b a o d (lo+1) k
def DN(x:Bool×Option (FuncId×c6)×Option AV×Option cj×Bool×Bool):Nat→List (Bool×Option (FuncId×c6)×Option AV×Option cj×Bool×Bool)
 | 0=>[]
 | k+1=>x::DN x k
theorem Sb{d}{f}{c}{V}{ar}:∀{k lo},EB b a o d lo k=DN (true,some (f,c),some V,some ar,true,true) k→eB lo k fun j=>cC b (nth a j) o=true∧d9 (nth a j) o=some (f,c)∧look d (nth a j).t=some V∧look d (nth a j).r=some ar∧look d (nth a j).o=none∧has (nth a j).u d=true
 | 0,_,_=>trivial
 | k+1,lo,h=>by
  simp only[EB,DN,alm,BY]at h;exact⟨⟨h.1.1,h.1.2.1,h.1.2.2.1,h.1.2.2.2.1,by simp_all,h.1.2.2.2.2.2⟩,Sb h.2⟩
theorem FZ(lo k d:Nat){f}{e}{V}{id}{ar}(m:aY P f e (fun v r=>v=V∧look id r.r=some ar))(g:∀(N:Nat→Prop) w ι x,Rel N w ι V x→∃y,ι id=some y)(i:cI P f=true:=by kernel_rfl)
  (p:o.dst=some d:=by kernel_rfl) (j:Nat.ble (d+1) n=true:=by kernel_rfl) (q:has c.u d=false:=by kernel_rfl) (l:Nat.ble (id+1) TG=true:=by kernel_rfl) (h:EB b a o d lo k=DN (true,some (f,e),some (V.f9 id d),some ar,true,true) k:=by kernel_rfl):fv P n c b K a o (.o lo k):=Xf V d l m i g p j q (Sb h)
end
def aX(p:Nat×Nat):c6:=[.adr p.1 p.2]
def afR(k id g off:Nat)(s:AS):AS:={ s with t:=bd k (.pp id g off) s.t }
def kY(k:Nat)(v:AV)(s:AS):AS:={ s with t:=bd k v s.t }
theorem aV.jX{c:Cx}{s:AS}{a:Act}{w:World}{ι:Env}(h:aV c s a w ι){k}{v}(i:∀x,a.tmps[k]?=some x→Rel (NN c.M ι) w ι v x)(f:∃u,look k s.t=some u):aV c (kY k v s) a w ι:=by
 refine⟨⟨h.hs.below,h.hs.old,h.hs.use,h.hs.own,h.hs.inj,h.hs.ko,h.hs.kr,h.hs.objs,h.hs.arrs,h.hs.pin⟩,h.dfr,h.n,fun j y d=>?_⟩;have b:look j (bd k v s.t)=some y:=d;rw[cn]at b;split at b
 ·rename_i e;subst e;obtain⟨u,g⟩:=f;obtain⟨x,l,_⟩:=h.tmp j u g
  grind
 ·exact h.tmp j y b
section
variable{b:Cx}{Q:Exit→Act→World→Prop}{d:dt}{e:Exit}{s:AS}{c:Array Oper}{l:List Oper}
theorem UR k id off(h:∀g:Nat,VE b Q d e (afR k id g off s))(f:look k s.t=some (.ptr id off):=by kernel_rfl):VE b Q d e s:=fun a w ι i=>by
 obtain⟨x,m,l⟩:=i.tmp k _ f;cases l with
 | ptr _ _ _ g j=>exact h g a w ι (i.jX (v:=.pp id g off) (fun y c=>by rw[m]at c;injection c with c;subst c;exact .pp _ _ _ _ j) ⟨_,f⟩)
theorem aaa{a}{w}{ι}(e:aV b s a w ι){j k id g off o}(f:look j s.t=some (.adr g off))(i:look k s.t=some (.pp id g o)):aV b (kY j (.ptr id off) s) a w ι:=by
 obtain⟨x,m,l⟩:=e.tmp j _ f;obtain⟨y,n,d⟩:=e.tmp k _ i;refine e.jX (fun z c=>?_) ⟨_,f⟩;rw[m]at c;injection c with c;subst c
 cases l with
 | adr _ _ _ =>
  cases d with
  | pp _ _ _ _ h=>exact .ptr _ _ _ _ h
theorem cY j k id g off o(h:OT b Q d c l (kY j (.ptr id off) s))(e:look j s.t=some (.adr g off):=by kernel_rfl)(f:look k s.t=some (.pp id g o):=by kernel_rfl):OT b Q d c l s:=fun a w ι i=>h a w ι (aaa i e f)
end
end Go.Proofs.YtocgkfoifehcbaaGreat
