/- Laws of single operations in short form: what the kernel computes of an operation is one premise. No program in sight. -/
import Derived.Test.YtocgkfoifehcbaaGreatRkVx
namespace Go.Proofs.YtocgkfoifehcbaaGreat
set_option linter.all false
open Go.RowKit
def d9(id:Nat)(ar:co)(s:AS):AS:={ s with r:=bm id ar s.r }
def gA(d id:Nat)(ar:co)(s:AS):AS:={ t:=bm d (.ref id) (dF id s.t),o:=fK id s.o,r:=bm id ar s.r,u:=s.u }
def Jq(d:Nat)(ar:co)(s:AS):AS:={ t:=bm d (.ref d) s.t,o:=s.o,r:=bm d ar s.r,u:=d::s.u }
def ZG(k d:Nat)(ar:co)(s:AS):AS:=⟨bm k (.ref d) s.t,s.o,bm d ar s.r,d::s.u⟩
section
variable{P:Program}{n:Nat}{s:AS}{o:Oper}{α:Type}[Inhabited α]
def md(n:Nat)(o:Oper):Bool:=match o.dst with|some d=>Nat.ble (d+1) n|none=>false
theorem oW(h:md n o=true):∃d,o.dst=some d∧Nat.ble (d+1) n=true:=by
 grind[md]
def Mg(P:Program)(n:Nat)(s:AS)(o:Oper):Option (hZ×Int×Nat):=match md n o,o.op with
 | true,.indexAddr T x y=>match s.ev x,s.ev y,nK P T,gu P T with
  | some (.sl l),some (.int _ i),none,some (_,sz)=>some (l,i,sz)
  | _,_,_,_=>none
 | _,_=>none
theorem bE(enc b:α→c6){L:List α}{i:Int}{sz:Nat}(l:aP i L.length=true)(q:∀a,(enc a).length=sz)(m:∀a,enc a=b a)(h:Mg P n s o=some (L.map enc,i,sz):=by kernel_rfl):cb P n s o=some (s.put o.dst (.cptr (b (L.getD i.toNat default)))):=by
 unfold Mg at h;split at h
 case h_2=>cases h
 rename_i T x y c e;obtain⟨d,c,p⟩:=oW c;split at h
 case h_2=>cases h
 rename_i f g j k;simp only[rv]at h;obtain⟨rfl,rfl,rfl⟩:=h;rw[c];exact Z0 enc b L _ T x y d e c p f g j k l q m
def Jt(P:Program)(n:Nat)(s:AS)(o:Oper):Option (Nat×Nat×Int×hZ):=match md n o,o.op with
 | true,.indexAddr T x y=>match s.ev x,s.ev y,nK P T,gu P T with
  | some (.ref id),some (.int _ i),none,some (_,sz)=>match look id s.r with
   | some ⟨_,a,l⟩=>match Nat.beq sz a with
    | true=>some (id,sz,i,l)
    | false=>none
   | none=>none
  | _,_,_,_=>none
 | _,_=>none
theorem ct(id sz:Nat)(enc:α→c6){L:List α}{i:Int}(l:aP i L.length=true)(h:Jt P n s o=some (id,sz,i,L.map enc):=by kernel_rfl):cb P n s o=some (s.put o.dst (.eptr id sz i.toNat 0)):=by
 unfold Jt at h;split at h
 case h_2=>cases h
 rename_i T x y a c;obtain⟨d,a,m⟩:=oW a;split at h
 case h_2=>cases h
 rename_i e f g j;split at h
 case h_2=>cases h
 rename_i k;split at h
 case h_2=>cases h
 rename_i b;have b:=mo b;simp only[rv,w3]at h;obtain⟨rfl,rfl,rfl,rfl⟩:=h;subst b;rw[a];exact aer enc L _ T x y d c a m e f k g j l
def NG(n:Nat)(s:AS)(o:Oper):Option (TypeId×Nat×Nat×hZ):=match md n o,o.op with
 | true,.load T x=>match s.ev x with
  | some (.eptr id sz j off)=>match look id s.r with
   | some ⟨_,a,l⟩=>match Nat.beq sz a&&Nat.ble (id+1) TG with
    | true=>some (T,j,off,l)
    | false=>none
   | none=>none
  | _=>none
 | _,_=>none
def V9:Option AV→AV
 | some v=>v
 | none=>.any
def abQ:Option AV→Bool
 | some _=>true
 | none=>false
theorem bO(T:TypeId)(off:Nat)(enc b:α→c6){L:List α}{j:Nat}(q:j<L.length)(p:∀a,enc a=b a)(h:NG n s o=some (T,j,off,L.map enc):=by kernel_rfl)(k:abQ (iq P T ((b (L.getD j default)).drop off))=true:=by kernel_rfl):
  cb P n s o=some (s.put o.dst (V9 (iq P T ((b (L.getD j default)).drop off)))):=by
 unfold NG at h;split at h
 case h_2=>cases h
 rename_i T' x e f;obtain⟨d,e,r⟩:=oW e;split at h
 case h_2=>cases h
 rename_i l;split at h
 case h_2=>cases h
 rename_i m;split at h
 case h_2=>cases h
 rename_i c;rw[iN]at c;have g:=j3 c.2;have c:=mo c.1;simp only[rv,w3]at h;obtain⟨rfl,rfl,rfl,rfl⟩:=h;subst c;cases i:iq P T' ((b (L.getD _ default)).drop _) with
 | none=>rw[i]at k;cases k
 | some v =>
  rw[e];exact XP enc b L T' x d g f e r l m q p i
def L9(P:Program)(s:AS)(o:Oper):Option (Nat×TypeId×Nat×Nat×Nat×hZ):=match o.dst,o.op with
 | none,.store T x y=>match s.ev x,s.ev y with
  | some (.eptr id sz j off),some v=>match look id s.r,ke v,cC P T with
   | some ⟨b,a,l⟩,some c,some k=>match Nat.beq sz a&&Nat.beq k c.length with
    | true=>some (id,b,sz,j,off,l)
    | false=>none
   | _,_,_=>none
  | _,_=>none
 | _,_=>none
def AC(s:AS)(o:Oper):c6:=match o.op with
 | .store _ _ y=>match s.ev y with
  | some v=>match ke v with|some a=>a|none=>[]
  | none=>[]
 | _=>[]
theorem dC(id:Nat)(f:TypeId)(sz off:Nat)(enc b:α→c6){L:List α}{j:Nat}(new:α)(z:j<L.length)(w:∀a,enc a=b a)(h:L9 P s o=some (id,f,sz,j,off,L.map enc):=by kernel_rfl)
  (d:(Nat.ble (off+(AC s o).length) (b (L.getD j default)).length&&dW [] (AC s o))=true:=by kernel_rfl) (i:ja off (AC s o) (b (L.getD j default))=b new:=by kernel_rfl) :
  cb P n s o=some (d9 id ⟨f,sz,(L.set j new).map enc⟩ s):=by
 unfold L9 at h;split at h
 case h_2=>cases h
 rename_i T x y u c;split at h
 case h_2=>cases h
 rename_i v m g;split at h
 case h_2=>cases h
 rename_i B k p l A;split at h
 case h_2=>cases h
 rename_i e;simp only[iN]at e;have q:=mo e.1;have r:=mo e.2;simp only[rv,w3]at h;obtain⟨rfl,rfl,rfl,rfl,rfl,rfl⟩:=h;subst q;subst r;have t:AC s o=B:=by unfold AC;simp only[c,g,l]
 rw[t]at d i;simp only[iN]at d;exact ae4 enc b L new T x y c u m g p z l A w d.1 d.2 i
def Pr(P:Program)(n:Nat)(s:AS)(o:Oper):Option hZ:=match md n o,o.op with
 | true,.call ⟨.builtin .len,⟨[x]⟩,⟨[T]⟩⟩=>match s.ev x,gu P T with
  | some (.sl l),some _=>some l
  | some (.ref id),some _=>match look id s.r with
   | some ⟨_,_,l⟩=>some l
   | none=>none
  | _,_=>none
 | _,_=>none
theorem bA enc(L:List α)(h:Pr P n s o=some (L.map enc):=by kernel_rfl):cb P n s o=some (s.put o.dst (.int .i64 L.length)):=by
 grind[Pr,oW,ajT,Zu]
def QL(P:Program)(n:Nat)(s:AS)(o:Oper):Option (Nat×Nat×TypeId×Nat×Nat×hZ×hZ):=match o.dst,o.op with
 | some d,.call ⟨.builtin .append,⟨[x,y]⟩,⟨[T,T']⟩⟩=>match Nat.beq T T'&&Nat.ble (d+1) n,s.ev x,s.ev y,jS P T with
  | true,some (.ref id),some (.sl new),some (c,sz,bytes)=>match look id s.r with
   | some ⟨a,b,l⟩=>match (Nat.beq c a&&Nat.beq sz b)&&!s.u.contains (da id) with
    | true=>some (d,id,c,sz,bytes,new,l)
    | false=>none
   | none=>none
  | _,_,_,_=>none
 | _,_=>none
theorem cG(d id:Nat)(i:TypeId)(sz:Nat)(enc:α→c6){L M:List α}{bytes:Nat}{new:hZ}(b:new=M.map enc)(w:∀a,(enc a).length=sz)(v:fits (L.length+M.length) bytes=true)(h:QL P n s o=some (d,id,i,sz,bytes,new,L.map enc):=by kernel_rfl):
  cb P n s o=some (gA d id ⟨i,sz,(L++M).map enc⟩ s):=by
 unfold QL at h;split at h
 case h_2=>cases h
 rename_i z x y T T' u g;split at h
 case h_2=>cases h
 rename_i f j k l;simp only[iN]at f;have t:=mo f.1;split at h
 case h_2=>cases h
 rename_i m;split at h
 case h_2=>cases h
 rename_i c;simp only[iN,By]at c;have p:=mo c.1.1;have q:=mo c.1.2;have r:=c.2;simp only[rv,w3]at h;obtain⟨rfl,rfl,rfl,rfl,rfl,rfl,rfl⟩:=h;have e:T=T':=t;subst e;subst p;subst q;exact VV enc L M T x y _ g u f.2 j k b m l w v r rfl rfl
def P2(P:Program)(n:Nat)(s:AS)(o:Oper)(new:hZ):Option AS:=match md n o with
 | true=>some (s.put o.dst (.sl new))
 | false=>none
theorem gq enc(M:List α){new}(a:new=M.map enc)(h:cb P n s o=P2 P n s o new:=by kernel_rfl)(b:md n o=true:=by kernel_rfl):cb P n s o=some (s.put o.dst (.sl (M.map enc))):=by
 grind[P2]
def vC(n:Nat)(s:AS)(o:Oper):Option (BinOp×AV×AV):=match md n o,o.op with
 | true,.binOp op _ x y _=>match s.ev x,s.ev y with
  | some u,some v=>some (op,u,v)
  | _,_=>none
 | _,_=>none
theorem YR k a{b}(c:(b != 0)=true)(h:vC n s o=some (.quo,.int k a,.int k b):=by kernel_rfl):cb P n s o=some (s.put o.dst (.int k (k.wrap (a.tdiv b)))):=by
 grind[vC,oW,aaF]
theorem Um k a{b}(c:(b != 0)=true)(h:vC n s o=some (.rem,.int k a,.int k b):=by kernel_rfl):cb P n s o=some (s.put o.dst (.int k (a.tmod b))):=by
 grind[vC,oW,agi]
theorem aj8{a b}(c:rS a b=true)(h:vC n s o=some (.add,.str a,.str b):=by kernel_rfl):cb P n s o=some (s.put o.dst (.str (a++b))):=by
 grind[vC,oW,ahE]
end
section
variable{a:Cx}{Q:AV→AS→Prop}{s:AS}{b:Func}
theorem bv{V}(h:ij a.P s b.results.toList=some [V]:=by kernel_rfl):VE a (bodyPost a.P b (bJ a.M a.w0 (fun v _=>v=V))) [] .ret s:=rg rfl h rfl
theorem gx{l}(h:ij a.P s b.results.toList=some l:=by kernel_rfl)(c:pH l=.tup l:=by kernel_rfl):VE a (bodyPost a.P b (bJ a.M a.w0 (fun v _=>v=.tup l))) [] .ret s:=rg rfl h c
theorem fC{V}{id}{ar}(h:ij a.P s b.results.toList=some [V]:=by kernel_rfl)(c:look id s.r=some ar:=by kernel_rfl):VE a (bodyPost a.P b (bJ a.M a.w0 (fun v s=>v=V∧look id s.r=some ar))) [] .ret s:=rg rfl h ⟨rfl,c⟩
theorem pq{l}{id}{ar}(h:ij a.P s b.results.toList=some l:=by kernel_rfl)(c:look id s.r=some ar:=by kernel_rfl)(d:pH l=.tup l:=by kernel_rfl):VE a (bodyPost a.P b (bJ a.M a.w0 (fun v s=>v=.tup l∧look id s.r=some ar))) [] .ret s :=by grind[rg]
end
def DL(id:Nat)(s:AS):AS:=match look id s.r with|some ar=>s.cB id ar.l|none=>s
def vo(id:Nat)(s:AS):Bool:=match look id s.r with|some _=>!s.u.contains (da id)&&Nat.ble (id+1) TG|none=>false
theorem uQ{b}{id}(h:(!b&&Nat.ble (id+1) TG)=true):b=false∧id<TG:=by
 rw[iN]at h;exact⟨by grind,j3 h.2⟩
def PQ(id a:Nat)(s:AS):AS:=match look id s.r with|some ar=>⟨pf id a s.t,rI id a s.o,bm a ar (era id s.r),a::s.u⟩|none=>s
def SH(k:Nat)(s:AS):AS:=match look k s.o with|some cs=>{ s with o:=bm k (cs.map jg) s.o }|none=>s
def DZ(d i n:Nat)(a:TypeId)(sz:Nat)(s:AS):AS:=match look i s.o with|some cs=>⟨s.t,bm i (cs.set n (.ref d)) s.o,bm d ⟨a,sz,[]⟩ s.r,d::s.u⟩|none=>s
def C9(i n:Nat)(s:AS):Bool:=match look i s.o with|some cs=>(match cs[n]? with|some .nils=>true|_=>false)|none=>false
section
variable{c:Cx}{Q:Exit→Act→World→Prop}{g:dt}{e:Exit}{s:AS}{b:Array Oper}{l:List Oper}
theorem iR id(h:VE c Q g e (DL id s))(b:vo id s=true:=by kernel_rfl):VE c Q g e s:=by
 unfold vo at b;unfold DL at h;split at b
 ·rename_i ar a;rw[a]at h;exact afK id (uQ b).2 a (uQ b).1 h
 grind
theorem mN id(h:OT c Q g b l (DL id s))(d:vo id s=true:=by kernel_rfl):OT c Q g b l s:=by
 unfold vo at d;unfold DL at h;split at d
 ·rename_i ar a;rw[a]at h;exact YN id (uQ d).2 a (uQ d).1 h
 grind
theorem vH id a(h:VE c Q g e (PQ id a s))(d:vo id s=true:=by kernel_rfl)(f:has s.u a=false:=by kernel_rfl):VE c Q g e s:=by
 unfold vo at d;unfold PQ at h;split at d
 ·rename_i ar b;rw[b]at h;exact akh id a (uQ d).2 b f (uQ d).1 h
 grind
theorem nz k(h:VE c Q g e (SH k s)):VE c Q g e s:=by
 grind[SH,Xx]
theorem Ce{b:Array Oper}{f:Func}{p:eb}{i:Nat}(T:TypeId)(d:Nat){e:TypeId}{sz:Nat}(k:OT c Q g b (aV f p (i+1)) (Jq d ⟨e,sz,[]⟩ s))(l:aV f p i=aW f p i::aV f p (i+1):=by kernel_rfl)(j:cH b s (aW f p i)=true:=by kernel_rfl)(a:(aW f p i).op=.buildSlice T 0 #[]:=by kernel_rfl)(h:(aW f p i).dst=some d:=by kernel_rfl)(m:Nat.ble (d+1) c.n=true:=by kernel_rfl)
  (n:c.P.underlying T=some (.slice e):=by kernel_rfl) (q:cC c.P e=some sz:=by kernel_rfl) (o:has s.u d=false:=by kernel_rfl):OT c Q g b (aV f p i) s:=Zg _ T d l j a h m n q o k
theorem Sa{b:Array Oper}{f:Func}{p:eb}{i:Nat}(T:TypeId)(h:Nat)(parts:Array (Nat×Operand))(d:Nat){e:TypeId}{sz:Nat}{l:hZ}(k:OT c Q g b (aV f p (i+1)) (Jq d ⟨e,sz,l⟩ s))(hl:aV f p i=aW f p i::aV f p (i+1):=by kernel_rfl)(hg:cH b s (aW f p i)=true:=by kernel_rfl)
  (J:(aW f p i).op=.buildSlice T h parts:=by kernel_rfl) (hd:(aW f p i).dst=some d:=by kernel_rfl) (hn:Nat.ble (d+1) c.n=true:=by kernel_rfl) (j:n8 c.P s T h parts.toList=some (.sl l):=by kernel_rfl) (x:gu c.P T=some (e,sz):=by kernel_rfl) (hu:has s.u d=false:=by kernel_rfl):OT c Q g b (aV f p i) s:=by
 rw[hl];refine fu _ hg fun a w ι R=>?_;refine aa6 rfl fun K hK=>?_;unfold n8 at j;split at j
 case h_2=>cases j
 rename_i e1 A ps q L;split at j
 case h_2=>cases j
 rename_i l' H;split at j
 case isFalse=>cases j
 rename_i u;obtain⟨c1,U,c3,N⟩:=u;injection j with j;injection j with j;subst j
 rw[x]at q;injection q with q;injection q with h1 h2;subst h1;subst h2
 obtain⟨q1,q2⟩:=CL R L;unfold gu at x;split at x
 case h_2=>cases x
 rename_i E M;cases o:c.P.info? E with
 | none=>simp[cC,o]at x
 | some t =>
  simp only[cC,o,aaU,rv,w3]at x;obtain⟨rfl,r⟩:=x;have m:t.size=A+1:=r;clear r;unfold eZ at N;cases D:t.zero with
  | none=>simp[o,D]at N
  | some z =>
   have I:(parts.map fun (y:Nat×Operand)=>(y.1,a.eval y.2)).toList=parts.toList.map fun y=>(y.1,a.eval y.2):=aj6;obtain⟨B,S,F,V,W,X,Y,Z,f7⟩:=IZ (zs:=(Array.range (h*t.size)).map (z.cells[· % z.cells.size]!)) q1 q2 H (by simp[c1,m]);rw[←I]at F;have hy:B.toList=S:=by
    rw[V,c1];simp[m]
   have G:Instr.fill (fun i=>some (i*t.size,t.size)) ((Array.range (h*t.size)).map (z.cells[· % z.cells.size]!)) (parts.map fun (y:Nat×Operand)=>(y.1,a.eval y.2)).toList=some B:=by rw[m];rw[m]at F;exact F
   have O:0<h*t.size:=Nat.mul_pos U (by omega);have C:=run_buildSlice (P:=c.P) w T E h (parts.map fun (y:Nat×Operand)=>(y.1,a.eval y.2)) B t z M o D (by rw[m];omega) (by omega) G;have hm:h*1≤h*(A+1):=Nat.mul_le_mul_left _ (by omega);have v:=R.zG (j3 hn) hu (e:=E) (sz:=A+1) (n:=h) (l:=l') (vs:=S) (by rw[X,c1]) (by unfold maxLen;omega) (by rw[W,c1]) Y Z f7;unfold Oper.wp execOp;simp only[J,sj,C,u3,IT];rw[hd];rw[←hy]at v;simp only[afM]at v;exact hK _ _ (k _ _ _ v)
theorem oC{α:Type}(enc:α→c6)(h:α){b:Array Oper}{f:Func}{p:eb}{i:Nat}(T:TypeId)(x y:Operand)(d:Nat){e:TypeId}{sz:Nat}{zc:c6}{bytes:Nat}{n:Int}{kd kd':IntKind}(j:fA n bytes=true)(k:OT c Q g b (aV f p (i+1)) (Jq d ⟨e,sz,List.map enc (List.replicate n.toNat h)⟩ s))
  (q:aV f p i=aW f p i::aV f p (i+1):=by kernel_rfl) (o:cH b s (aW f p i)=true:=by kernel_rfl) (a:(aW f p i).op=.makeSlice T x y:=by kernel_rfl) (l:(aW f p i).dst=some d:=by kernel_rfl) (r:Nat.ble (d+1) c.n=true:=by kernel_rfl) (v:s.ev x=some (.int kd n):=by kernel_rfl) (w:s.ev y=some (.int kd' n):=by kernel_rfl)
  (t:jS c.P T=some (e,sz,bytes):=by kernel_rfl) (z:eZ c.P e=some zc:=by kernel_rfl) (m:zc.map jg=enc h:=by kernel_rfl) (u:has s.u d=false:=by kernel_rfl):OT c Q g b (aV f p i) s:=adD enc h _ T x y d q o a l r v w t z m u j k
theorem eL d k a sz(h:VE c Q g e (ZG k d ⟨a,sz,[]⟩ s))(b:has s.u d=false:=by kernel_rfl)(f:look k s.t=some .nils:=by kernel_rfl):VE c Q g e s:=VT d k a sz b f h
theorem Ed d i n a sz(h:VE c Q g e (DZ d i n a sz s))(b:has s.u d=false:=by kernel_rfl)(f:C9 i n s=true:=by kernel_rfl):VE c Q g e s:=by
 grind[C9,DZ,ac6]
end
section
variable{P:Program}{n:Nat}{c:AS}{b:Array Oper}{K:Nat}{a:g6}{o:Oper}
theorem dr{m}{s'}(h:cb P n (nth a m) o=some s')(d:s'=nth a (m+1):=by kernel_rfl)(e:o.guard.isNone=true:=by kernel_rfl):fv P n c b K a o (.s (m+1)) :=by grind[OW]
theorem ce m(h:cb P n (nth a m) o=some (nth a (m+1)):=by kernel_rfl)(d:o.guard.isNone=true:=by kernel_rfl):fv P n c b K a o (.s (m+1)):=OW d h
theorem Bl{lo}{s'}(h:cb P n (nth a lo) o=some s')(d:s'=nth a lo:=by kernel_rfl)(e:cH b (nth a lo) o=true:=by kernel_rfl):fv P n c b K a o (.v lo 1) :=by grind[gV,dZ,d8,iw]
def BD(b:Array Oper)(a:g6)(o:Oper)(d:Nat):Nat→Nat→List (Bool×Option (FuncId×c6)×Option AV)
 | _,0=>[]
 | lo,k+1=>(cH b (nth a lo) o,eh (nth a lo) o,look d (nth a lo).t)::BD b a o d (lo+1) k
def B6(x:Bool×Option (FuncId×c6)×Option AV):Nat→List (Bool×Option (FuncId×c6)×Option AV)
 | 0=>[]
 | k+1=>x::B6 x k
theorem LI{d}{f}{c}{V}:∀{k lo},BD b a o d lo k=B6 (true,some (f,c),some V) k→ey lo k fun j=>cH b (nth a j) o=true∧eh (nth a j) o=some (f,c)∧look d (nth a j).t=some V
 | 0,_,_=>trivial
 | k+1,lo,h=>by
  simp only[BD,B6,akM,w3]at h;exact⟨⟨h.1.1,h.1.2.1,h.1.2.2⟩,LI h.2⟩
theorem cq(lo k d:Nat){f}{e}{V}(j:aX P f e (fun v _=>v=V))(g:cF P f=true:=by kernel_rfl)(m:V.dg []=true:=by kernel_rfl)(l:o.dst=some d:=by kernel_rfl)(i:Nat.ble (d+1) n=true:=by kernel_rfl)
  (h:BD b a o d lo k=B6 (true,some (f,e),some V) k:=by kernel_rfl):fv P n c b K a o (.c lo k) :=by grind[Zt,LI]
def D9(a:g6)(d:Nat):Nat→Nat→List (Option c6×Bool×Option AV×Bool)
 | _,0=>[]
 | lo,k+1=>(look d (nth a lo).o,(look d (nth a lo).r).isNone,look d (nth a lo).t,has (nth a lo).u d)::D9 a d (lo+1) k
def Cn(x:Option c6×Bool×Option AV×Bool):Nat→List (Option c6×Bool×Option AV×Bool)
 | 0=>[]
 | k+1=>x::Cn x k
theorem Lg{d}{cs}:∀{k lo},D9 a d lo k=Cn (some cs,true,some (.ptr d 0),true) k→ey lo k fun j=>look d (nth a j).o=some cs∧look d (nth a j).r=none∧look d (nth a j).t=some (.ptr d 0)∧has (nth a j).u d=true
 | 0,_,_=>trivial
 | k+1,lo,h=>by
  simp only[D9,Cn,akM,w3]at h;exact⟨⟨h.1.1,by simp_all,h.1.2.2.1,h.1.2.2.2⟩,Lg h.2⟩
theorem nO(lo k T d:Nat) cs(i:o.guard.isNone=true:=by kernel_rfl)(f:o.op=.alloc T:=by kernel_rfl)(g:o.dst=some d:=by kernel_rfl)(e:Nat.ble (d+1) (min n 450000)=true:=by kernel_rfl)(l:eZ P T=some cs:=by kernel_rfl)(j:has c.u d=false:=by kernel_rfl)
  (h:D9 a d lo k=Cn (some cs,true,some (.ptr d 0),true) k:=by kernel_rfl):fv P n c b K a o (.a lo k) :=by grind[Wy,Lg]
def Ej(b:Array Oper)(a:g6)(o:Oper)(d:Nat):Nat→Nat→List (Bool×Option (FuncId×c6)×Option AV×Option co×Bool×Bool)
 | _,0=>[]
 | lo,k+1=>(cH b (nth a lo) o,eh (nth a lo) o,look d (nth a lo).t,look d (nth a lo).r,(look d (nth a lo).o).isNone,has (nth a lo).u d)::Ej b a o d (lo+1) k
def CB(x:Bool×Option (FuncId×c6)×Option AV×Option co×Bool×Bool):Nat→List (Bool×Option (FuncId×c6)×Option AV×Option co×Bool×Bool)
 | 0=>[]
 | k+1=>x::CB x k
theorem Mu{d}{f}{c}{V}{ar}:∀{k lo},Ej b a o d lo k=CB (true,some (f,c),some V,some ar,true,true) k→ey lo k fun j=>cH b (nth a j) o=true∧eh (nth a j) o=some (f,c)∧look d (nth a j).t=some V∧look d (nth a j).r=some ar∧look d (nth a j).o=none∧has (nth a j).u d=true
 | 0,_,_=>trivial
 | k+1,lo,h=>by
  simp only[Ej,CB,akM,w3]at h;exact⟨⟨h.1.1,h.1.2.1,h.1.2.2.1,h.1.2.2.2.1,by simp_all,h.1.2.2.2.2.2⟩,Mu h.2⟩
theorem Gf(lo k d:Nat){f}{e}{V}{id}{ar}(m:aX P f e (fun v r=>v=V∧look id r.r=some ar))(g:∀(N:Nat→Prop) w ι x,Rel N w ι V x→∃y,ι id=some y)(i:cF P f=true:=by kernel_rfl)
  (p:o.dst=some d:=by kernel_rfl) (j:Nat.ble (d+1) n=true:=by kernel_rfl) (q:has c.u d=false:=by kernel_rfl) (l:Nat.ble (id+1) TG=true:=by kernel_rfl) (h:Ej b a o d lo k=CB (true,some (f,e),some (V.fY id d),some ar,true,true) k:=by kernel_rfl):fv P n c b K a o (.o lo k):=k_o V d l m i g p j q (Mu h)
end
def aY(p:Nat×Nat):c6:=[.adr p.1 p.2]
def abR(k id g off:Nat)(s:AS):AS:={ s with t:=bm k (.pp id g off) s.t }
def kP(k:Nat)(v:AV)(s:AS):AS:={ s with t:=bm k v s.t }
theorem aU.kg{c:Cx}{s:AS}{a:Act}{w:World}{ι:Env}(h:aU c s a w ι){k}{v}(i:∀x,a.tmps[k]?=some x→Rel (NN c.M ι) w ι v x)(f:∃u,look k s.t=some u):aU c (kP k v s) a w ι:=by
 refine⟨⟨h.hs.below,h.hs.old,h.hs.use,h.hs.own,h.hs.inj,h.hs.ko,h.hs.kr,h.hs.objs,h.hs.arrs,h.hs.pin⟩,h.dfr,h.n,fun j y d=>?_⟩;have b:look j (bm k v s.t)=some y:=d;rw[cv]at b;split at b
 ·rename_i e;subst e;obtain⟨u,g⟩:=f;obtain⟨x,l,_⟩:=h.tmp j u g
  grind
 ·exact h.tmp j y b
section
variable{b:Cx}{Q:Exit→Act→World→Prop}{d:dt}{e:Exit}{s:AS}{c:Array Oper}{l:List Oper}
theorem Pu k id off(h:∀g:Nat,VE b Q d e (abR k id g off s))(f:look k s.t=some (.ptr id off):=by kernel_rfl):VE b Q d e s:=fun a w ι i=>by
 obtain⟨x,m,l⟩:=i.tmp k _ f;cases l with
 | ptr _ _ _ g j=>exact h g a w ι (i.kg (v:=.pp id g off) (fun y c=>by rw[m]at c;injection c with c;subst c;exact .pp _ _ _ _ j) ⟨_,f⟩)
theorem Wh{a}{w}{ι}(e:aU b s a w ι){j k id g off o}(f:look j s.t=some (.adr g off))(i:look k s.t=some (.pp id g o)):aU b (kP j (.ptr id off) s) a w ι:=by
 obtain⟨x,m,l⟩:=e.tmp j _ f;obtain⟨y,n,d⟩:=e.tmp k _ i;refine e.kg (fun z c=>?_) ⟨_,f⟩;rw[m]at c;injection c with c;subst c
 cases l with
 | adr _ _ _ =>
  cases d with
  | pp _ _ _ _ h=>exact .ptr _ _ _ _ h
theorem c7 j k id g off o(h:OT b Q d c l (kP j (.ptr id off) s))(e:look j s.t=some (.adr g off):=by kernel_rfl)(f:look k s.t=some (.pp id g o):=by kernel_rfl):OT b Q d c l s:=fun a w ι i=>h a w ι (Wh i e f)
end
end Go.Proofs.YtocgkfoifehcbaaGreat
