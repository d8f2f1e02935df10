/- Laws of single operations in short form: what the kernel computes of an operation is one premise. No program in sight. -/
import Derived.Test.YtocgkfoifehcbaaGreatRtVx
namespace Go.Proofs.YtocgkfoifehcbaaGreat
set_option linter.all false
open Go.RowKit
def ec(id:Nat)(ar:cg)(s:AS):AS:={ s with r:=bi id ar s.r }
def fS(d id:Nat)(ar:cg)(s:AS):AS:={ t:=bi d (.ref id) (dA id s.t),o:=eN id s.o,r:=bi id ar s.r,u:=s.u }
def GN(d:Nat)(ar:cg)(s:AS):AS:={ t:=bi d (.ref d) s.t,o:=s.o,r:=bi d ar s.r,u:=d::s.u }
def ahc(k d:Nat)(ar:cg)(s:AS):AS:=⟨bi k (.ref d) s.t,s.o,bi d ar s.r,d::s.u⟩
section
variable{P:Program}{n:Nat}{s:AS}{o:Oper}{α:Type}[Inhabited α]
def l6(n:Nat)(o:Oper):Bool:=match o.dst with|some d=>Nat.ble (d+1) n|none=>false
theorem n6(h:l6 n o=true):∃d,o.dst=some d∧Nat.ble (d+1) n=true:=by
 grind[l6]
def Th(P:Program)(n:Nat)(s:AS)(o:Oper):Option (h7×Int×Nat):=match l6 n o,o.op with
 | true,.indexAddr T x y=>match s.ev x,s.ev y,oO P T,gA P T with
  | some (.sl l),some (.int _ i),none,some (_,sz)=>some (l,i,sz)
  | _,_,_,_=>none
 | _,_=>none
theorem bB(enc b:α→c6){L:List α}{i:Int}{sz:Nat}(l:aM i L.length=true)(q:∀a,(enc a).length=sz)(m:∀a,enc a=b a)(h:Th P n s o=some (L.map enc,i,sz):=by kernel_rfl):ca P n s o=some (s.put o.dst (.cptr (b (L.getD i.toNat default)))):=by
 unfold Th at h;split at h
 case h_2=>cases h
 rename_i T x y c e;obtain⟨d,c,p⟩:=n6 c;split at h
 case h_2=>cases h
 rename_i f g j k;simp only[u5]at h;obtain⟨rfl,rfl,rfl⟩:=h;rw[c];exact ag4 enc b L _ T x y d e c p f g j k l q m
def KM(P:Program)(n:Nat)(s:AS)(o:Oper):Option (Nat×Nat×Int×h7):=match l6 n o,o.op with
 | true,.indexAddr T x y=>match s.ev x,s.ev y,oO P T,gA P T with
  | some (.ref id),some (.int _ i),none,some (_,sz)=>match look id s.r with
   | some ⟨_,a,l⟩=>match Nat.beq sz a with
    | true=>some (id,sz,i,l)
    | false=>none
   | none=>none
  | _,_,_,_=>none
 | _,_=>none
theorem cp(id sz:Nat)(enc:α→c6){L:List α}{i:Int}(l:aM i L.length=true)(h:KM P n s o=some (id,sz,i,L.map enc):=by kernel_rfl):ca P n s o=some (s.put o.dst (.eptr id sz i.toNat 0)):=by
 unfold KM at h;split at h
 case h_2=>cases h
 rename_i T x y a c;obtain⟨d,a,m⟩:=n6 a;split at h
 case h_2=>cases h
 rename_i e f g j;split at h
 case h_2=>cases h
 rename_i k;split at h
 case h_2=>cases h
 rename_i b;have b:=n3 b;simp only[u5,zt]at h;obtain⟨rfl,rfl,rfl,rfl⟩:=h;subst b;rw[a];exact ad9 enc L _ T x y d c a m e f k g j l
def TM(n:Nat)(s:AS)(o:Oper):Option (TypeId×Nat×Nat×h7):=match l6 n o,o.op with
 | true,.load T x=>match s.ev x with
  | some (.eptr id sz j off)=>match look id s.r with
   | some ⟨_,a,l⟩=>match Nat.beq sz a&&Nat.ble (id+1) TG with
    | true=>some (T,j,off,l)
    | false=>none
   | none=>none
  | _=>none
 | _,_=>none
def Z0:Option AV→AV
 | some v=>v
 | none=>.any
def aeL:Option AV→Bool
 | some _=>true
 | none=>false
theorem bI(T:TypeId)(off:Nat)(enc b:α→c6){L:List α}{j:Nat}(q:j<L.length)(p:∀a,enc a=b a)(h:TM n s o=some (T,j,off,L.map enc):=by kernel_rfl)(k:aeL (iL P T ((b (L.getD j default)).drop off))=true:=by kernel_rfl):
  ca P n s o=some (s.put o.dst (Z0 (iL P T ((b (L.getD j default)).drop off)))):=by
 unfold TM at h;split at h
 case h_2=>cases h
 rename_i T' x e f;obtain⟨d,e,r⟩:=n6 e;split at h
 case h_2=>cases h
 rename_i l;split at h
 case h_2=>cases h
 rename_i m;split at h
 case h_2=>cases h
 rename_i c;rw[iO]at c;have g:=j3 c.2;have c:=n3 c.1;simp only[u5,zt]at h;obtain⟨rfl,rfl,rfl,rfl⟩:=h;subst c;cases i:iL P T' ((b (L.getD _ default)).drop _) with
 | none=>rw[i]at k;cases k
 | some v =>
  rw[e];exact abV enc b L T' x d g f e r l m q p i
def Vk(P:Program)(s:AS)(o:Oper):Option (Nat×TypeId×Nat×Nat×Nat×h7):=match o.dst,o.op with
 | none,.store T x y=>match s.ev x,s.ev y with
  | some (.eptr id sz j off),some v=>match look id s.r,j0 v,cy P T with
   | some ⟨et,a,l⟩,some b,some k=>match Nat.beq sz a&&Nat.beq k b.length with
    | true=>some (id,et,sz,j,off,l)
    | false=>none
   | _,_,_=>none
  | _,_=>none
 | _,_=>none
def zE(s:AS)(o:Oper):c6:=match o.op with
 | .store _ _ y=>match s.ev y with
  | some v=>match j0 v with|some a=>a|none=>[]
  | none=>[]
 | _=>[]
theorem dz(id:Nat)(et:TypeId)(sz off:Nat)(enc b:α→c6){L:List α}{j:Nat}(new:α)(w:j<L.length)(u:∀a,enc a=b a)(h:Vk P s o=some (id,et,sz,j,off,L.map enc):=by kernel_rfl)
  (d:(Nat.ble (off+(zE s o).length) (b (L.getD j default)).length&&dZ [] (zE s o))=true:=by kernel_rfl) (g:jb off (zE s o) (b (L.getD j default))=b new:=by kernel_rfl) :
  ca P n s o=some (ec id ⟨et,sz,(L.set j new).map enc⟩ s):=by
 unfold Vk at h;split at h
 case h_2=>cases h
 rename_i T x y t c;split at h
 case h_2=>cases h
 rename_i v l f;split at h
 case h_2=>cases h
 rename_i A k m i z;split at h
 case h_2=>cases h
 rename_i e;simp only[iO]at e;have p:=n3 e.1;have q:=n3 e.2;simp only[u5,zt]at h;obtain⟨rfl,rfl,rfl,rfl,rfl,rfl⟩:=h;subst p;subst q;have r:zE s o=A:=by unfold zE;simp only[c,f,i]
 rw[r]at d g;simp only[iO]at d;exact Xi enc b L new T x y c t l f m w i z u d.1 d.2 g
def Le(P:Program)(n:Nat)(s:AS)(o:Oper):Option h7:=match l6 n o,o.op with
 | true,.call ⟨.builtin .len,⟨[x]⟩,⟨[T]⟩⟩=>match s.ev x,gA P T with
  | some (.sl l),some _=>some l
  | some (.ref id),some _=>match look id s.r with
   | some ⟨_,_,l⟩=>some l
   | none=>none
  | _,_=>none
 | _,_=>none
theorem bu enc(L:List α)(h:Le P n s o=some (L.map enc):=by kernel_rfl):ca P n s o=some (s.put o.dst (.int .i64 L.length)):=by
 grind[Le,n6,ahv,aaj]
def Qx(P:Program)(n:Nat)(s:AS)(o:Oper):Option (Nat×Nat×TypeId×Nat×Nat×h7×h7):=match o.dst,o.op with
 | some d,.call ⟨.builtin .append,⟨[x,y]⟩,⟨[T,T']⟩⟩=>match Nat.beq T T'&&Nat.ble (d+1) n,s.ev x,s.ev y,jg P T with
  | true,some (.ref id),some (.sl new),some (et,sz,bytes)=>match look id s.r with
   | some ⟨a,b,l⟩=>match (Nat.beq et a&&Nat.beq sz b)&&!s.u.contains (de id) with
    | true=>some (d,id,et,sz,bytes,new,l)
    | false=>none
   | none=>none
  | _,_,_,_=>none
 | _,_=>none
theorem cw(d id:Nat)(et:TypeId)(sz:Nat)(enc:α→c6){L M:List α}{bytes:Nat}{new:h7}(b:new=M.map enc)(v:∀a,(enc a).length=sz)(u:fits (L.length+M.length) bytes=true)(h:Qx P n s o=some (d,id,et,sz,bytes,new,L.map enc):=by kernel_rfl):
  ca P n s o=some (fS d id ⟨et,sz,(L++M).map enc⟩ s):=by
 unfold Qx at h;split at h
 case h_2=>cases h
 rename_i w x y T T' t g;split at h
 case h_2=>cases h
 rename_i f i j k;simp only[iO]at f;have r:=n3 f.1;split at h
 case h_2=>cases h
 rename_i l;split at h
 case h_2=>cases h
 rename_i c;simp only[iO,Qf]at c;have m:=n3 c.1.1;have p:=n3 c.1.2;have q:=c.2;simp only[u5,zt]at h;obtain⟨rfl,rfl,rfl,rfl,rfl,rfl,rfl⟩:=h;have e:T=T':=r;subst e;subst m;subst p;exact aeM enc L M T x y _ g t f.2 i j b l k v u q rfl rfl
def UM(P:Program)(n:Nat)(s:AS)(o:Oper)(new:h7):Option AS:=match l6 n o with
 | true=>some (s.put o.dst (.sl new))
 | false=>none
theorem gu enc(M:List α){new}(a:new=M.map enc)(h:ca P n s o=UM P n s o new:=by kernel_rfl)(b:l6 n o=true:=by kernel_rfl):ca P n s o=some (s.put o.dst (.sl (M.map enc))):=by
 grind[UM]
def vg(n:Nat)(s:AS)(o:Oper):Option (BinOp×AV×AV):=match l6 n o,o.op with
 | true,.binOp op _ x y _=>match s.ev x,s.ev y with
  | some u,some v=>some (op,u,v)
  | _,_=>none
 | _,_=>none
theorem afw k a{b}(c:(b != 0)=true)(h:vg n s o=some (.quo,.int k a,.int k b):=by kernel_rfl):ca P n s o=some (s.put o.dst (.int k (k.wrap (a.tdiv b)))):=by
 grind[vg,n6,ajQ]
theorem Hn k a{b}(c:(b != 0)=true)(h:vg n s o=some (.rem,.int k a,.int k b):=by kernel_rfl):ca P n s o=some (s.put o.dst (.int k (a.tmod b))):=by
 grind[vg,n6,Yg]
theorem W5{a b}(c:wx a b=true)(h:vg n s o=some (.add,.str a,.str b):=by kernel_rfl):ca P n s o=some (s.put o.dst (.str (a++b))):=by
 grind[vg,n6,acN]
end
section
variable{a:Cx}{Q:AV→AS→Prop}{s:AS}{b:Func}
theorem bE{V}(h:ii a.P s b.results.toList=some [V]:=by kernel_rfl):VE a (bodyPost a.P b (bP a.M a.w0 (fun v _=>v=V))) [] .ret s:=qo rfl h rfl
theorem jk{l}(h:ii a.P s b.results.toList=some l:=by kernel_rfl)(c:qU l=.tup l:=by kernel_rfl):VE a (bodyPost a.P b (bP a.M a.w0 (fun v _=>v=.tup l))) [] .ret s:=qo rfl h c
theorem eB{V}{id}{ar}(h:ii a.P s b.results.toList=some [V]:=by kernel_rfl)(c:look id s.r=some ar:=by kernel_rfl):VE a (bodyPost a.P b (bP a.M a.w0 (fun v s=>v=V∧look id s.r=some ar))) [] .ret s:=qo rfl h ⟨rfl,c⟩
theorem qt{l}{id}{ar}(h:ii a.P s b.results.toList=some l:=by kernel_rfl)(c:look id s.r=some ar:=by kernel_rfl)(d:qU l=.tup l:=by kernel_rfl):VE a (bodyPost a.P b (bP a.M a.w0 (fun v s=>v=.tup l∧look id s.r=some ar))) [] .ret s :=by grind[qo]
end
def Cd(id:Nat)(s:AS):AS:=match look id s.r with|some ar=>s.cz id ar.l|none=>s
def vS(id:Nat)(s:AS):Bool:=match look id s.r with|some _=>!s.u.contains (de id)&&Nat.ble (id+1) TG|none=>false
theorem t8{b}{id}(h:(!b&&Nat.ble (id+1) TG)=true):b=false∧id<TG:=by
 rw[iO]at h;exact⟨by grind,j3 h.2⟩
def MA(id a:Nat)(s:AS):AS:=match look id s.r with|some ar=>⟨pc id a s.t,qc id a s.o,bi a ar (era id s.r),a::s.u⟩|none=>s
def TA(k:Nat)(s:AS):AS:=match look k s.o with|some cs=>{ s with o:=bi k (cs.map iX) s.o }|none=>s
def Cn(d i n:Nat)(et:TypeId)(sz:Nat)(s:AS):AS:=match look i s.o with|some cs=>⟨s.t,bi i (cs.set n (.ref d)) s.o,bi d ⟨et,sz,[]⟩ s.r,d::s.u⟩|none=>s
def Ei(i n:Nat)(s:AS):Bool:=match look i s.o with|some cs=>(match cs[n]? with|some .nils=>true|_=>false)|none=>false
section
variable{c:Cx}{Q:Exit→Act→World→Prop}{g:dt}{e:Exit}{s:AS}{b:Array Oper}{l:List Oper}
theorem gq id(h:VE c Q g e (Cd id s))(b:vS id s=true:=by kernel_rfl):VE c Q g e s:=by
 unfold vS at b;unfold Cd at h;split at b
 ·rename_i ar a;rw[a]at h;exact afv id (t8 b).2 a (t8 b).1 h
 grind
theorem m7 id(h:OT c Q g b l (Cd id s))(d:vS id s=true:=by kernel_rfl):OT c Q g b l s:=by
 unfold vS at d;unfold Cd at h;split at d
 ·rename_i ar a;rw[a]at h;exact adq id (t8 d).2 a (t8 d).1 h
 grind
theorem pG id a(h:VE c Q g e (MA id a s))(d:vS id s=true:=by kernel_rfl)(f:has s.u a=false:=by kernel_rfl):VE c Q g e s:=by
 unfold vS at d;unfold MA at h;split at d
 ·rename_i ar b;rw[b]at h;exact ag8 id a (t8 d).2 b f (t8 d).1 h
 grind
theorem mJ k(h:VE c Q g e (TA k s)):VE c Q g e s:=by
 grind[TA,ZB]
theorem Cf{b:Array Oper}{f:Func}{p:ed}{i:Nat}(T:TypeId)(d:Nat){e:TypeId}{sz:Nat}(k:OT c Q g b (aR f p (i+1)) (GN d ⟨e,sz,[]⟩ s))(l:aR f p i=aW f p i::aR f p (i+1):=by kernel_rfl)(j:cE b s (aW f p i)=true:=by kernel_rfl)(a:(aW f p i).op=.buildSlice T 0 #[]:=by kernel_rfl)(h:(aW f p i).dst=some d:=by kernel_rfl)(m:Nat.ble (d+1) c.n=true:=by kernel_rfl)
  (n:c.P.underlying T=some (.slice e):=by kernel_rfl) (q:cy c.P e=some sz:=by kernel_rfl) (o:has s.u d=false:=by kernel_rfl):OT c Q g b (aR f p i) s:=WJ _ T d l j a h m n q o k
theorem PE{b:Array Oper}{f:Func}{p:ed}{i:Nat}(T:TypeId)(h:Nat)(parts:Array (Nat×Operand))(d:Nat){e:TypeId}{sz:Nat}{l:h7}(k:OT c Q g b (aR f p (i+1)) (GN d ⟨e,sz,l⟩ s))(hl:aR f p i=aW f p i::aR f p (i+1):=by kernel_rfl)(hg:cE b s (aW f p i)=true:=by kernel_rfl)
  (J:(aW f p i).op=.buildSlice T h parts:=by kernel_rfl) (hd:(aW f p i).dst=some d:=by kernel_rfl) (hn:Nat.ble (d+1) c.n=true:=by kernel_rfl) (j:oX c.P s T h parts.toList=some (.sl l):=by kernel_rfl) (x:gA c.P T=some (e,sz):=by kernel_rfl) (hu:has s.u d=false:=by kernel_rfl):OT c Q g b (aR f p i) s:=by
 rw[hl];refine eZ _ hg fun a w ι R=>?_;refine abM rfl fun K hK=>?_;unfold oX at j;split at j
 case h_2=>cases j
 rename_i e1 A ps q L;split at j
 case h_2=>cases j
 rename_i l' H;split at j
 case isFalse=>cases j
 rename_i u;obtain⟨c1,U,c3,N⟩:=u;injection j with j;injection j with j;subst j
 rw[x]at q;injection q with q;injection q with h1 h2;subst h1;subst h2
 obtain⟨q1,q2⟩:=BU R L;unfold gA at x;split at x
 case h_2=>cases x
 rename_i E M;cases o:c.P.info? E with
 | none=>simp[cy,o]at x
 | some t =>
  simp only[cy,o,Ts,u5,zt]at x;obtain⟨rfl,r⟩:=x;have m:t.size=A+1:=r;clear r;unfold fe at N;cases D:t.zero with
  | none=>simp[o,D]at N
  | some z =>
   have I:(parts.map fun (y:Nat×Operand)=>(y.1,a.eval y.2)).toList=parts.toList.map fun y=>(y.1,a.eval y.2):=akd;obtain⟨B,S,F,V,W,X,Y,Z,f7⟩:=HT (zs:=(Array.range (h*t.size)).map (z.cells[· % z.cells.size]!)) q1 q2 H (by simp[c1,m]);rw[←I]at F;have hy:B.toList=S:=by
    rw[V,c1];simp[m]
   have G:Instr.fill (fun i=>some (i*t.size,t.size)) ((Array.range (h*t.size)).map (z.cells[· % z.cells.size]!)) (parts.map fun (y:Nat×Operand)=>(y.1,a.eval y.2)).toList=some B:=by rw[m];rw[m]at F;exact F
   have O:0<h*t.size:=Nat.mul_pos U (by omega);have C:=run_buildSlice (P:=c.P) w T E h (parts.map fun (y:Nat×Operand)=>(y.1,a.eval y.2)) B t z M o D (by rw[m];omega) (by omega) G;have hm:h*1≤h*(A+1):=Nat.mul_le_mul_left _ (by omega);have v:=R.xW (j3 hn) hu (e:=E) (sz:=A+1) (n:=h) (l:=l') (vs:=S) (by rw[X,c1]) (by unfold maxLen;omega) (by rw[W,c1]) Y Z f7;unfold Oper.wp execOp;simp only[J,u3,C,u6,S2];rw[hd];rw[←hy]at v;simp only[ain]at v;exact hK _ _ (k _ _ _ v)
theorem oh{α:Type}(enc:α→c6)(h:α){b:Array Oper}{f:Func}{p:ed}{i:Nat}(T:TypeId)(x y:Operand)(d:Nat){e:TypeId}{sz:Nat}{zc:c6}{bytes:Nat}{n:Int}{kd kd':IntKind}(j:fB n bytes=true)(k:OT c Q g b (aR f p (i+1)) (GN d ⟨e,sz,List.map enc (List.replicate n.toNat h)⟩ s))
  (q:aR f p i=aW f p i::aR f p (i+1):=by kernel_rfl) (o:cE b s (aW f p i)=true:=by kernel_rfl) (a:(aW f p i).op=.makeSlice T x y:=by kernel_rfl) (l:(aW f p i).dst=some d:=by kernel_rfl) (r:Nat.ble (d+1) c.n=true:=by kernel_rfl) (v:s.ev x=some (.int kd n):=by kernel_rfl) (w:s.ev y=some (.int kd' n):=by kernel_rfl)
  (t:jg c.P T=some (e,sz,bytes):=by kernel_rfl) (z:fe c.P e=some zc:=by kernel_rfl) (m:zc.map iX=enc h:=by kernel_rfl) (u:has s.u d=false:=by kernel_rfl):OT c Q g b (aR f p i) s:=aea enc h _ T x y d q o a l r v w t z m u j k
theorem eQ d k et sz(h:VE c Q g e (ahc k d ⟨et,sz,[]⟩ s))(a:has s.u d=false:=by kernel_rfl)(b:look k s.t=some .nils:=by kernel_rfl):VE c Q g e s:=ae1 d k et sz a b h
theorem yB d i n et sz(h:VE c Q g e (Cn d i n et sz s))(a:has s.u d=false:=by kernel_rfl)(b:Ei i n s=true:=by kernel_rfl):VE c Q g e s:=by
 grind[Ei,Cn,afx]
end
section
variable{P:Program}{n:Nat}{c:AS}{b:Array Oper}{K:Nat}{a:g6}{o:Oper}
theorem dd{m}{s'}(h:ca P n (nth a m) o=some s')(d:s'=nth a (m+1):=by kernel_rfl)(e:o.guard.isNone=true:=by kernel_rfl):fC P n c b K a o (.s (m+1)) :=by grind[MW]
theorem cb m(h:ca P n (nth a m) o=some (nth a (m+1)):=by kernel_rfl)(d:o.guard.isNone=true:=by kernel_rfl):fC P n c b K a o (.s (m+1)):=MW d h
theorem DQ{lo}{s'}(h:ca P n (nth a lo) o=some s')(d:s'=nth a lo:=by kernel_rfl)(e:cE b (nth a lo) o=true:=by kernel_rfl):fC P n c b K a o (.v lo 1) :=by grind[fh,da,dc,ft]
def B6(b:Array Oper)(a:g6)(o:Oper)(d:Nat):Nat→Nat→List (Bool×Option (FuncId×c6)×Option AV)
 | _,0=>[]
 | lo,k+1=>(cE b (nth a lo) o,d8 (nth a lo) o,look d (nth a lo).t)::B6 b a o d (lo+1) k
def Cs(x:Bool×Option (FuncId×c6)×Option AV):Nat→List (Bool×Option (FuncId×c6)×Option AV)
 | 0=>[]
 | k+1=>x::Cs x k
theorem Tp{d}{f}{c}{V}:∀{k lo},B6 b a o d lo k=Cs (true,some (f,c),some V) k→eh lo k fun j=>cE b (nth a j) o=true∧d8 (nth a j) o=some (f,c)∧look d (nth a j).t=some V
 | 0,_,_=>trivial
 | k+1,lo,h=>by
  simp only[B6,Cs,aki,zt]at h;exact⟨⟨h.1.1,h.1.2.1,h.1.2.2⟩,Tp h.2⟩
theorem co(lo k d:Nat){f}{e}{V}(j:bc P f e (fun v _=>v=V))(g:cK P f=true:=by kernel_rfl)(m:V.di []=true:=by kernel_rfl)(l:o.dst=some d:=by kernel_rfl)(i:Nat.ble (d+1) n=true:=by kernel_rfl)
  (h:B6 b a o d lo k=Cs (true,some (f,e),some V) k:=by kernel_rfl):fC P n c b K a o (.c lo k) :=by grind[k_c,Tp]
def DM(a:g6)(d:Nat):Nat→Nat→List (Option c6×Bool×Option AV×Bool)
 | _,0=>[]
 | lo,k+1=>(look d (nth a lo).o,(look d (nth a lo).r).isNone,look d (nth a lo).t,has (nth a lo).u d)::DM a d (lo+1) k
def B5(x:Option c6×Bool×Option AV×Bool):Nat→List (Option c6×Bool×Option AV×Bool)
 | 0=>[]
 | k+1=>x::B5 x k
theorem OZ{d}{cs}:∀{k lo},DM a d lo k=B5 (some cs,true,some (.ptr d 0),true) k→eh lo k fun j=>look d (nth a j).o=some cs∧look d (nth a j).r=none∧look d (nth a j).t=some (.ptr d 0)∧has (nth a j).u d=true
 | 0,_,_=>trivial
 | k+1,lo,h=>by
  simp only[DM,B5,aki,zt]at h;exact⟨⟨h.1.1,by simp_all,h.1.2.2.1,h.1.2.2.2⟩,OZ h.2⟩
theorem py(lo k T d:Nat) cs(i:o.guard.isNone=true:=by kernel_rfl)(f:o.op=.alloc T:=by kernel_rfl)(g:o.dst=some d:=by kernel_rfl)(e:Nat.ble (d+1) (min n 450000)=true:=by kernel_rfl)(l:fe P T=some cs:=by kernel_rfl)(j:has c.u d=false:=by kernel_rfl)
  (h:DM a d lo k=B5 (some cs,true,some (.ptr d 0),true) k:=by kernel_rfl):fC P n c b K a o (.a lo k) :=by grind[k_a,OZ]
def Ef(b:Array Oper)(a:g6)(o:Oper)(d:Nat):Nat→Nat→List (Bool×Option AV×Option cg×Bool×Bool)
 | _,0=>[]
 | lo,k+1=>(cE b (nth a lo) o,look d (nth a lo).t,look d (nth a lo).r,(look d (nth a lo).o).isNone,has (nth a lo).u d)::Ef b a o d (lo+1) k
def Bx(x:Bool×Option AV×Option cg×Bool×Bool):Nat→List (Bool×Option AV×Option cg×Bool×Bool)
 | 0=>[]
 | k+1=>x::Bx x k
theorem Oo{d}{ar}:∀{k lo},Ef b a o d lo k=Bx (true,some (.ref d),some ar,true,true) k→eh lo k fun j=>cE b (nth a j) o=true∧look d (nth a j).t=some (.ref d)∧look d (nth a j).r=some ar∧look d (nth a j).o=none∧has (nth a j).u d=true
 | 0,_,_=>trivial
 | k+1,lo,h=>by
  simp only[Ef,Bx,aki,zt]at h;exact⟨⟨h.1.1,h.1.2.1,h.1.2.2.1,by simp_all,h.1.2.2.2.2⟩,Oo h.2⟩
theorem e_n(lo k T d e sz:Nat)(l:o.op=.buildSlice T 0 #[]:=by kernel_rfl)(g:o.dst=some d:=by kernel_rfl)(f:Nat.ble (d+1) n=true:=by kernel_rfl)(m:has c.u d=false:=by kernel_rfl)(p:P.underlying T=some (.slice e):=by kernel_rfl)(q:cy P e=some sz:=by kernel_rfl)
  (h:Ef b a o d lo k=Bx (true,some (.ref d),some ⟨e,sz,[]⟩,true,true) k:=by kernel_rfl):fC P n c b K a o (.o lo k):=by
 refine⟨d,g,j3 f,m,AF (fun j i=>⟨Bn i.1,?_⟩) (Oo h)⟩
 grind[xN]
def CT(b:Array Oper)(a:g6)(o:Oper)(d:Nat):Nat→Nat→List (Bool×Option (FuncId×c6)×Option AV×Option cg×Bool×Bool)
 | _,0=>[]
 | lo,k+1=>(cE b (nth a lo) o,d8 (nth a lo) o,look d (nth a lo).t,look d (nth a lo).r,(look d (nth a lo).o).isNone,has (nth a lo).u d)::CT b a o d (lo+1) k
def Bu(x:Bool×Option (FuncId×c6)×Option AV×Option cg×Bool×Bool):Nat→List (Bool×Option (FuncId×c6)×Option AV×Option cg×Bool×Bool)
 | 0=>[]
 | k+1=>x::Bu x k
theorem Uv{d}{f}{c}{V}{ar}:∀{k lo},CT b a o d lo k=Bu (true,some (f,c),some V,some ar,true,true) k→eh lo k fun j=>cE b (nth a j) o=true∧d8 (nth a j) o=some (f,c)∧look d (nth a j).t=some V∧look d (nth a j).r=some ar∧look d (nth a j).o=none∧has (nth a j).u d=true
 | 0,_,_=>trivial
 | k+1,lo,h=>by
  simp only[CT,Bu,aki,zt]at h;exact⟨⟨h.1.1,h.1.2.1,h.1.2.2.1,h.1.2.2.2.1,by simp_all,h.1.2.2.2.2.2⟩,Uv h.2⟩
theorem Jp(lo k d:Nat){f}{e}{V}{id}{ar}(m:bc P f e (fun v r=>v=V∧look id r.r=some ar))(g:∀(N:Nat→Prop) w ι x,Rel N w ι V x→∃y,ι id=some y)(i:cK P f=true:=by kernel_rfl)
  (p:o.dst=some d:=by kernel_rfl) (j:Nat.ble (d+1) n=true:=by kernel_rfl) (q:has c.u d=false:=by kernel_rfl) (l:Nat.ble (id+1) TG=true:=by kernel_rfl) (h:CT b a o d lo k=Bu (true,some (f,e),some (V.fZ id d),some ar,true,true) k:=by kernel_rfl):fC P n c b K a o (.o lo k):=k_o V d l m i g p j q (Uv h)
end
def aY(p:Nat×Nat):c6:=[.adr p.1 p.2]
def aa5(k id g off:Nat)(s:AS):AS:={ s with t:=bi k (.pp id g off) s.t }
def lB(k:Nat)(v:AV)(s:AS):AS:={ s with t:=bi k v s.t }
theorem aV.kq{c:Cx}{s:AS}{a:Act}{w:World}{ι:Env}(h:aV c s a w ι){k}{v}(i:∀x,a.tmps[k]?=some x→Rel (NN c.M ι) w ι v x)(f:∃u,look k s.t=some u):aV c (lB k v s) a w ι:=by
 refine⟨⟨h.hs.below,h.hs.old,h.hs.use,h.hs.own,h.hs.inj,h.hs.ko,h.hs.kr,h.hs.objs,h.hs.arrs,h.hs.pin⟩,h.dfr,h.n,fun j y d=>?_⟩;have b:look j (bi k v s.t)=some y:=d;rw[cq]at b;split at b
 ·rename_i e;subst e;obtain⟨u,g⟩:=f;obtain⟨x,l,_⟩:=h.tmp j u g
  grind
 ·exact h.tmp j y b
section
variable{b:Cx}{Q:Exit→Act→World→Prop}{d:dt}{e:Exit}{s:AS}{c:Array Oper}{l:List Oper}
theorem UT k id off(h:∀g:Nat,VE b Q d e (aa5 k id g off s))(f:look k s.t=some (.ptr id off):=by kernel_rfl):VE b Q d e s:=fun a w ι i=>by
 obtain⟨x,m,l⟩:=i.tmp k _ f;cases l with
 | ptr _ _ _ g j=>exact h g a w ι (i.kq (v:=.pp id g off) (fun y c=>by rw[m]at c;injection c with c;subst c;exact .pp _ _ _ _ j) ⟨_,f⟩)
theorem adi{a}{w}{ι}(e:aV b s a w ι){j k id g off o}(f:look j s.t=some (.adr g off))(i:look k s.t=some (.pp id g o)):aV b (lB j (.ptr id off) s) a w ι:=by
 obtain⟨x,m,l⟩:=e.tmp j _ f;obtain⟨y,n,d⟩:=e.tmp k _ i;refine e.kq (fun z c=>?_) ⟨_,f⟩;rw[m]at c;injection c with c;subst c
 cases l with
 | adr _ _ _ =>
  cases d with
  | pp _ _ _ _ h=>exact .ptr _ _ _ _ h
theorem c7 j k id g off o(h:OT b Q d c l (lB j (.ptr id off) s))(e:look j s.t=some (.adr g off):=by kernel_rfl)(f:look k s.t=some (.pp id g o):=by kernel_rfl):OT b Q d c l s:=fun a w ι i=>h a w ι (adi i e f)
end
end Go.Proofs.YtocgkfoifehcbaaGreat
