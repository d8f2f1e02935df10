/- Laws of single operations in short form: what the kernel computes of an operation is one premise. No program in sight. -/
import Derived.Test.YtolhpahjgddjkaaGreatCwVx
namespace Go.Proofs.YtolhpahjgddjkaaGreat
set_option linter.all false
open Go.RowKit
def cD(id:Nat)(ar:bD)(s:AS):AS:={ s with r:=bh id ar s.r }
def fZ(d id:Nat)(ar:bD)(s:AS):AS:={ t:=bh d (.ref id) (dR id s.t),o:=fy id s.o,r:=bh id ar s.r,u:=s.u }
def YQ(d:Nat)(ar:bD)(s:AS):AS:={ t:=bh d (.ref d) (dR d s.t),o:=fy d s.o,r:=bh d ar s.r,u:=d::s.u }
def Ds(d:Nat)(ar:bD)(s:AS):AS:={ t:=bh d (.ref d) s.t,o:=s.o,r:=bh d ar s.r,u:=d::s.u }
def VK(k d:Nat)(ar:bD)(s:AS):AS:=⟨bh k (.ref d) s.t,s.o,bh d ar s.r,d::s.u⟩
section
variable{P:Program}{n:Nat}{s:AS}{o:Oper}{α:Type}[Inhabited α]
def iX(n:Nat)(o:Oper):Bool:=match o.dst with|some d=>Nat.ble (d+1) n|none=>false
theorem kw(h:iX n o=true):∃d,o.dst=some d∧Nat.ble (d+1) n=true:=by
 unfold iX at h;split at h
 ·rename_i d hd;exact⟨d,hd,h⟩
 ·cases h
def Jm(P:Program)(n:Nat)(s:AS)(o:Oper):Option (List (List AV)×Int×Nat):=match iX n o,o.op with
 | true,.indexAddr T x y=>match s.ev x,s.ev y,jH P T,eV P T with
  | some (.sl l),some (.int _ i),none,some (_,sz)=>some (l,i,sz)
  | _,_,_,_=>none
 | _,_=>none
theorem cc(enc exp:α→List AV){L:List α}{i:Int}{sz:Nat}(hb:aB i L.length=true)(hz:∀a,(enc a).length=sz)(he:∀a,enc a=exp a)(h:Jm P n s o=some (L.map enc,i,sz):=by kernel_rfl):bG P n s o=some (s.put o.dst (.cptr (exp (L.getD i.toNat default)))):=by
 unfold Jm at h;split at h
 case h_2=>cases h
 rename_i T x y hd hop;obtain⟨d,hd,hn⟩:=kw hd;split at h
 case h_2=>cases h
 rename_i h1 h2 h3 h4;simp only[Option.some.injEq,Prod.mk.injEq]at h;obtain⟨rfl,rfl,rfl⟩:=h;rw[hd];exact VY enc exp L _ T x y d hop hd hn h1 h2 h3 h4 hb hz he
def vD(P:Program)(n:Nat)(s:AS)(o:Oper):Option (Nat×Nat×Int×List (List AV)):=match iX n o,o.op with
 | true,.indexAddr T x y=>match s.ev x,s.ev y,jH P T,eV P T with
  | some (.ref id),some (.int _ i),none,some (_,sz)=>match look id s.r with
   | some ⟨_,sz',l⟩=>match Nat.beq sz sz' with
    | true=>some (id,sz,i,l)
    | false=>none
   | none=>none
  | _,_,_,_=>none
 | _,_=>none
theorem bZ(id sz:Nat)(enc:α→List AV){L:List α}{i:Int}(hb:aB i L.length=true)(h:vD P n s o=some (id,sz,i,L.map enc):=by kernel_rfl):bG P n s o=some (s.put o.dst (.eptr id sz i.toNat 0)):=by
 unfold vD at h;split at h
 case h_2=>cases h
 rename_i T x y hd hop;obtain⟨d,hd,hn⟩:=kw hd;split at h
 case h_2=>cases h
 rename_i h1 h2 h3 h4;split at h
 case h_2=>cases h
 rename_i h5;split at h
 case h_2=>cases h
 rename_i h6;have h6:=Nat.eq_of_beq_eq_true h6;simp only[Option.some.injEq,Prod.mk.injEq]at h;obtain⟨rfl,rfl,rfl,rfl⟩:=h;subst h6;rw[hd];exact ab8 enc L _ T x y d hop hd hn h1 h2 h5 h3 h4 hb
def Nr(n:Nat)(s:AS)(o:Oper):Option (TypeId×Nat×Nat×List (List AV)):=match iX n o,o.op with
 | true,.load T x=>match s.ev x with
  | some (.eptr id sz j off)=>match look id s.r with
   | some ⟨_,sz',l⟩=>match Nat.beq sz sz'&&Nat.ble (id+1) TG with
    | true=>some (T,j,off,l)
    | false=>none
   | none=>none
  | _=>none
 | _,_=>none
def N3:Option AV→AV
 | some v=>v
 | none=>.any
def NI:Option AV→Bool
 | some _=>true
 | none=>false
theorem bE(T:TypeId)(off:Nat)(enc exp:α→List AV){L:List α}{j:Nat}(hj:j<L.length)(he:∀a,enc a=exp a)(h:Nr n s o=some (T,j,off,L.map enc):=by kernel_rfl)(hv:NI (fm P T ((exp (L.getD j default)).drop off))=true:=by kernel_rfl):
  bG P n s o=some (s.put o.dst (N3 (fm P T ((exp (L.getD j default)).drop off)))):=by
 unfold Nr at h;split at h
 case h_2=>cases h
 rename_i T' x hd hop;obtain⟨d,hd,hn⟩:=kw hd;split at h
 case h_2=>cases h
 rename_i h1;split at h
 case h_2=>cases h
 rename_i h5;split at h
 case h_2=>cases h
 rename_i h6;rw[Bool.and_eq_true]at h6;have htg:=Nat.le_of_ble_eq_true h6.2;have h6:=Nat.eq_of_beq_eq_true h6.1;simp only[Option.some.injEq,Prod.mk.injEq]at h;obtain⟨rfl,rfl,rfl,rfl⟩:=h;subst h6;cases hq:fm P T' ((exp (L.getD _ default)).drop _) with
 | none=>rw[hq]at hv;cases hv
 | some v =>
  rw[hd];exact XH enc exp L T' x d htg hop hd hn h1 h5 hj he hq
def rF(P:Program)(s:AS)(o:Oper):Option (Nat×TypeId×Nat×Nat×Nat×List (List AV)):=match o.dst,o.op with
 | none,.store T x y=>match s.ev x,s.ev y with
  | some (.eptr id sz j off),some v=>match look id s.r,ia v,cq P T with
   | some ⟨et,sz',l⟩,some nv,some k=>match Nat.beq sz sz'&&Nat.beq k nv.length with
    | true=>some (id,et,sz,j,off,l)
    | false=>none
   | _,_,_=>none
  | _,_=>none
 | _,_=>none
def ij(s:AS)(o:Oper):List AV:=match o.op with
 | .store _ _ y=>match s.ev y with
  | some v=>match ia v with|some nv=>nv|none=>[]
  | none=>[]
 | _=>[]
theorem du(id:Nat)(et:TypeId)(sz off:Nat)(enc exp:α→List AV){L:List α}{j:Nat}(new:α)(hj:j<L.length)(he:∀a,enc a=exp a)(h:rF P s o=some (id,et,sz,j,off,L.map enc):=by kernel_rfl)
  (hl:(Nat.ble (off+(ij s o).length) (exp (L.getD j default)).length&&dV [] (ij s o))=true:=by kernel_rfl) (hs:fb off (ij s o) (exp (L.getD j default))=exp new:=by kernel_rfl) :
  bG P n s o=some (cD id ⟨et,sz,(L.set j new).map enc⟩ s):=by
 unfold rF at h;split at h
 case h_2=>cases h
 rename_i T x y hd hop;split at h
 case h_2=>cases h
 rename_i v h1 h2;split at h
 case h_2=>cases h
 rename_i nv k h5 hv hz;split at h
 case h_2=>cases h
 rename_i h6;simp only[Bool.and_eq_true]at h6;have h7:=Nat.eq_of_beq_eq_true h6.1;have h8:=Nat.eq_of_beq_eq_true h6.2;simp only[Option.some.injEq,Prod.mk.injEq]at h;obtain⟨rfl,rfl,rfl,rfl,rfl,rfl⟩:=h;subst h7;subst h8;have hN:ij s o=nv:=by unfold ij;simp only[hop,h2,hv]
 rw[hN]at hl hs;simp only[Bool.and_eq_true]at hl;exact aav enc exp L new T x y hop hd h1 h2 h5 hj hv hz he hl.1 hl.2 hs
def Kb(P:Program)(n:Nat)(s:AS)(o:Oper):Option (Nat×Nat×Nat×Nat×Int):=match iX n o,o.op with
 | true,.indexAddr T x y=>match s.ev x,s.ev y,jH P T,eV P T with
  | some (.sref id sz off m),some (.int _ i),none,some (_,sz')=>match Nat.beq sz sz' with
   | true=>some (id,sz,off,m,i)
   | false=>none
  | _,_,_,_=>none
 | _,_=>none
theorem lW(id sz:Nat){off m:Nat}{i:Int}(hb:aB i m=true)(h:Kb P n s o=some (id,sz,off,m,i):=by kernel_rfl):bG P n s o=some (s.put o.dst (.eptr id sz (off+i.toNat) 0)):=by
 unfold Kb at h;split at h
 case h_2=>cases h
 rename_i T x y hd hop;obtain⟨d,hd,hn⟩:=kw hd;have hdn:d<n:=Nat.le_of_ble_eq_true hn;split at h
 case h_2=>cases h
 rename_i h1 h2 h3 h4;split at h
 case h_2=>cases h
 rename_i h5;have h5:=Nat.eq_of_beq_eq_true h5;simp only[Option.some.injEq,Prod.mk.injEq]at h;obtain⟨rfl,rfl,rfl,rfl,rfl⟩:=h;subst h5;obtain⟨g1,g2⟩:=aR hb;rw[hd];unfold bG;rw[if_pos (by rw[hd];simpa[dq]using hdn)];simp only[hop,mq,h1,h2,pa,g1,if_true,h3,h4,g2,and_self,hd]
def G6(P:Program)(n:Nat)(s:AS)(o:Oper):Option Nat:=match iX n o,o.op with
 | true,.call ⟨.builtin .len,⟨[x]⟩,⟨[T]⟩⟩=>match s.ev x,eV P T with
  | some (.sref _ _ _ m),some _=>some m
  | _,_=>none
 | _,_=>none
theorem P2{m:Nat}(h:G6 P n s o=some m:=by kernel_rfl):bG P n s o=some (s.put o.dst (.int .i64 m)):=by
 unfold G6 at h;split at h
 case h_2=>cases h
 rename_i x T hd hop;obtain⟨d,hd,hn⟩:=kw hd;have hdn:d<n:=Nat.le_of_ble_eq_true hn;split at h
 case h_2=>cases h
 rename_i h1 h2;injection h with h;subst h
 rw[hd];unfold bG;rw[if_pos (by rw[hd];simpa[dq]using hdn)];simp only[hop,lS,dX,h1,pW,h2,hd]
def JE(P:Program)(n:Nat)(s:AS)(o:Oper):Option (List (List AV)):=match iX n o,o.op with
 | true,.call ⟨.builtin .len,⟨[x]⟩,⟨[T]⟩⟩=>match s.ev x,eV P T with
  | some (.sl l),some _=>some l
  | some (.ref id),some _=>match look id s.r with
   | some ⟨_,_,l⟩=>some l
   | none=>none
  | _,_=>none
 | _,_=>none
theorem bK(enc:α→List AV)(L:List α)(h:JE P n s o=some (L.map enc):=by kernel_rfl):bG P n s o=some (s.put o.dst (.int .i64 L.length)):=by
 unfold JE at h;split at h
 case h_2=>cases h
 rename_i x T hd hop;obtain⟨d,hd,hn⟩:=kw hd;rw[hd];split at h
 ·rename_i h1 h2;injection h with h;subst h
  exact acq enc L T x d hop hd hn h1 h2
 ·rename_i h1 h2;split at h
  ·rename_i h3;injection h with h;subst h
   exact Z1 enc L T x d hop hd hn h1 h3 h2
  ·cases h
 ·cases h
def wI(P:Program)(n:Nat)(s:AS)(o:Oper):Option (Nat×Nat×TypeId×Nat×Nat×List (List AV)×List (List AV)):=match o.dst,o.op with
 | some d,.call ⟨.builtin .append,⟨[x,y]⟩,⟨[T,T']⟩⟩=>match Nat.beq T T'&&Nat.ble (d+1) n,s.ev x,s.ev y,gE P T with
  | true,some (.ref id),some (.sl new),some (et,sz,bytes)=>match look id s.r with
   | some ⟨et',sz',l⟩=>match (Nat.beq et et'&&Nat.beq sz sz')&&!s.u.contains (ey id) with
    | true=>some (d,id,et,sz,bytes,new,l)
    | false=>none
   | none=>none
  | _,_,_,_=>none
 | _,_=>none
theorem c6(d id:Nat)(et:TypeId)(sz:Nat)(enc:α→List AV){L M:List α}{bytes:Nat}{new:List (List AV)}(hnew:new=M.map enc)(hz:∀a,(enc a).length=sz)(hf:fits (L.length+M.length) bytes=true)(h:wI P n s o=some (d,id,et,sz,bytes,new,L.map enc):=by kernel_rfl):
  bG P n s o=some (fZ d id ⟨et,sz,(L++M).map enc⟩ s):=by
 unfold wI at h;split at h
 case h_2=>cases h
 rename_i d' x y T T' hd hop;split at h
 case h_2=>cases h
 rename_i hb h1 h2 h3;simp only[Bool.and_eq_true]at hb;have hT:=Nat.eq_of_beq_eq_true hb.1;split at h
 case h_2=>cases h
 rename_i h5;split at h
 case h_2=>cases h
 rename_i h6;simp only[Bool.and_eq_true,Bool.not_eq_true']at h6;have h7:=Nat.eq_of_beq_eq_true h6.1.1;have h8:=Nat.eq_of_beq_eq_true h6.1.2;have h9:=h6.2;simp only[Option.some.injEq,Prod.mk.injEq]at h;obtain⟨rfl,rfl,rfl,rfl,rfl,rfl,rfl⟩:=h;have hT':T=T':=hT;subst hT';subst h7;subst h8;exact R7 enc L M T x y _ hop hd hb.2 h1 h2 hnew h5 h3 hz hf h9 rfl rfl
def K9(P:Program)(n:Nat)(s:AS)(o:Oper):Option (Nat×TypeId×Nat×Nat×List (List AV)):=match o.dst,o.op with
 | some d,.call ⟨.builtin .append,⟨[x,y]⟩,⟨[T,T']⟩⟩=>match Nat.beq T T'&&(Nat.ble (d+1) n&&!has s.u d),s.ev x,s.ev y,gE P T with
  | true,some .nils,some (.sl new),some (et,sz,bytes)=>some (d,et,sz,bytes,new)
  | _,_,_,_=>none
 | _,_=>none
theorem aah(d:Nat)(et:TypeId)(sz:Nat)(enc:α→List AV){M:List α}{bytes:Nat}{new:List (List AV)}(hnew:new=M.map enc)(hz:∀a,(enc a).length=sz)(hf:fits M.length bytes=true)(h:K9 P n s o=some (d,et,sz,bytes,new):=by kernel_rfl):
  bG P n s o=some (YQ d ⟨et,sz,M.map enc⟩ s):=by
 unfold K9 at h;split at h
 case h_2=>cases h
 rename_i d' x y T T' hd hop;split at h
 case h_2=>cases h
 rename_i hb h1 h2 h3;simp only[Bool.and_eq_true,Bool.not_eq_true']at hb;have hT:=Nat.eq_of_beq_eq_true hb.1;simp only[Option.some.injEq,Prod.mk.injEq]at h;obtain⟨rfl,rfl,rfl,rfl,rfl⟩:=h;have hT':T=T':=hT;subst hT';exact VI enc M T x y _ hop hd hb.2.1 h1 h2 hnew hb.2.2 h3 hz hf rfl rfl
def Ni(P:Program)(n:Nat)(s:AS)(o:Oper)(new:List (List AV)):Option AS:=match iX n o with
 | true=>some (s.put o.dst (.sl new))
 | false=>none
theorem gV(enc:α→List AV)(M:List α){new:List (List AV)}(hnew:new=M.map enc)(h:bG P n s o=Ni P n s o new:=by kernel_rfl)(hd:iX n o=true:=by kernel_rfl):bG P n s o=some (s.put o.dst (.sl (M.map enc))):=by
 rw[h,Ni,hd,hnew]
def A5(n:Nat)(s:AS)(o:Oper):Option (BinOp×AV×AV):=match iX n o,o.op with
 | true,.binOp op _ x y _=>match s.ev x,s.ev y with
  | some u,some v=>some (op,u,v)
  | _,_=>none
 | _,_=>none
theorem MF(k:IntKind)(a:Int){b:Int}(hb:(b != 0)=true)(h:A5 n s o=some (.quo,.int k a,.int k b):=by kernel_rfl):bG P n s o=some (s.put o.dst (.int k (k.wrap (a.tdiv b)))):=by
 unfold A5 at h;split at h
 case h_2=>cases h
 rename_i hd hop;obtain⟨d,hd,hn⟩:=kw hd;split at h
 case h_2=>cases h
 rename_i h1 h2;simp only[Option.some.injEq,Prod.mk.injEq]at h;obtain⟨rfl,rfl,rfl⟩:=h;rw[hd];exact adf _ _ _ _ d hop hd hn h1 h2 hb
theorem Ex(k:IntKind)(a:Int){b:Int}(hb:(b != 0)=true)(h:A5 n s o=some (.rem,.int k a,.int k b):=by kernel_rfl):bG P n s o=some (s.put o.dst (.int k (a.tmod b))):=by
 unfold A5 at h;split at h
 case h_2=>cases h
 rename_i hd hop;obtain⟨d,hd,hn⟩:=kw hd;split at h
 case h_2=>cases h
 rename_i h1 h2;simp only[Option.some.injEq,Prod.mk.injEq]at h;obtain⟨rfl,rfl,rfl⟩:=h;rw[hd];exact Tm _ _ _ _ d hop hd hn h1 h2 hb
end
section
variable{cx:Cx}{Q:AV→AS→Prop}{s:AS}{fn:Func}
theorem bW{V:AV}(h:ja cx.P s fn.results.toList=some [V]:=by kernel_rfl):VE cx (bodyPost cx.P fn (bX cx.M cx.w0 (fun v _=>v=V))) [] .ret s:=Ai rfl h rfl
theorem eu{l:List AV}(h:ja cx.P s fn.results.toList=some l:=by kernel_rfl)(h2:zg l=.tup l:=by kernel_rfl):VE cx (bodyPost cx.P fn (bX cx.M cx.w0 (fun v _=>v=.tup l))) [] .ret s:=Ai rfl h h2
theorem d9{V:AV}{id:Nat}{ar:bD}(h:ja cx.P s fn.results.toList=some [V]:=by kernel_rfl)(h2:look id s.r=some ar:=by kernel_rfl):VE cx (bodyPost cx.P fn (bX cx.M cx.w0 (fun v s=>v=V∧look id s.r=some ar))) [] .ret s:=Ai rfl h ⟨rfl,h2⟩
theorem gz{l:List AV}{id:Nat}{ar:bD}(h:ja cx.P s fn.results.toList=some l:=by kernel_rfl)(h2:look id s.r=some ar:=by kernel_rfl)(h3:zg l=.tup l:=by kernel_rfl):VE cx (bodyPost cx.P fn (bX cx.M cx.w0 (fun v s=>v=.tup l∧look id s.r=some ar))) [] .ret s:=Ai rfl h ⟨h3,h2⟩
end
def AP(id:Nat)(s:AS):AS:=match look id s.r with|some ar=>s.cH id ar.l|none=>s
def mV(id:Nat)(s:AS):Bool:=match look id s.r with|some _=>!s.u.contains (ey id)&&Nat.ble (id+1) TG|none=>false
theorem mC{b:Bool}{id:Nat}(h:(!b&&Nat.ble (id+1) TG)=true):b=false∧id<TG:=by
 rw[Bool.and_eq_true]at h;exact⟨by simpa using h.1,Nat.le_of_ble_eq_true h.2⟩
def AC(id nid:Nat)(s:AS):AS:=match look id s.r with|some ar=>⟨lO id nid s.t,lK id nid s.o,bh nid ar (era id s.r),nid::s.u⟩|none=>s
def N0(d i n:Nat)(et:TypeId)(sz:Nat)(s:AS):AS:=match look i s.o with|some cs=>⟨s.t,bh i (cs.set n (.ref d)) s.o,bh d ⟨et,sz,[]⟩ s.r,d::s.u⟩|none=>s
def IZ(i n:Nat)(s:AS):Bool:=match look i s.o with|some cs=>(match cs[n]? with|some .nils=>true|_=>false)|none=>false
section
variable{cx:Cx}{Q:Exit→Act→World→Prop}{ks:List ao}{e:Exit}{s:AS}{all:Array Oper}{l:List Oper}
theorem ku(id:Nat)(h:VE cx Q ks e (AP id s))(ha:mV id s=true:=by kernel_rfl):VE cx Q ks e s:=by
 unfold mV at ha;unfold AP at h;split at ha
 ·rename_i ar har;rw[har]at h;exact SM id (mC ha).2 har (mC ha).1 h
 ·cases ha
theorem eO(id:Nat)(h:OT cx Q ks all l (AP id s))(ha:mV id s=true:=by kernel_rfl):OT cx Q ks all l s:=by
 unfold mV at ha;unfold AP at h;split at ha
 ·rename_i ar har;rw[har]at h;exact Qb id (mC ha).2 har (mC ha).1 h
 ·cases ha
theorem Cq(id nid:Nat)(h:VE cx Q ks e (AC id nid s))(ha:mV id s=true:=by kernel_rfl)(hn:has s.u nid=false:=by kernel_rfl):VE cx Q ks e s:=by
 unfold mV at ha;unfold AC at h;split at ha
 ·rename_i ar har;rw[har]at h;exact Zs id nid (mC ha).2 har hn (mC ha).1 h
 ·cases ha
theorem B6{all:Array Oper}{f:Func}{p:List Nat}{i:Nat}(T:TypeId)(d:Nat){e:TypeId}{sz:Nat}(k:OT cx Q ks all (bk f p (i+1)) (Ds d ⟨e,sz,[]⟩ s))(hl:bk f p i=bC f p i::bk f p (i+1):=by kernel_rfl)(hg:cN all s (bC f p i)=true:=by kernel_rfl)(hop:(bC f p i).op=.buildSlice T 0 #[]:=by kernel_rfl)(hd:(bC f p i).dst=some d:=by kernel_rfl)(hn:Nat.ble (d+1) cx.n=true:=by kernel_rfl)
  (ht:cx.P.underlying T=some (.slice e):=by kernel_rfl) (hz:cq cx.P e=some sz:=by kernel_rfl) (hu:has s.u d=false:=by kernel_rfl):OT cx Q ks all (bk f p i) s:=Wf _ T d hl hg hop hd hn ht hz hu k
theorem JX{all:Array Oper}{f:Func}{p:List Nat}{i:Nat}(T:TypeId)(len:Nat)(parts:Array (Nat×Operand))(d:Nat){e:TypeId}{sz:Nat}{l:List (List AV)}(k:OT cx Q ks all (bk f p (i+1)) (Ds d ⟨e,sz,l⟩ s))(hl:bk f p i=bC f p i::bk f p (i+1):=by kernel_rfl)(hg:cN all s (bC f p i)=true:=by kernel_rfl)
  (hop:(bC f p i).op=.buildSlice T len parts:=by kernel_rfl) (hd:(bC f p i).dst=some d:=by kernel_rfl) (hn:Nat.ble (d+1) cx.n=true:=by kernel_rfl) (hb:na cx.P s T len parts.toList=some (.sl l):=by kernel_rfl) (ht:eV cx.P T=some (e,sz):=by kernel_rfl) (hu:has s.u d=false:=by kernel_rfl):OT cx Q ks all (bk f p i) s:=by
 rw[hl];refine iK _ hg fun a w ι hs=>?_;refine wpList_plain rfl fun K hK=>?_;unfold na at hb;split at hb
 case h_2=>cases hb
 rename_i e1 sz' ps hts hps;split at hb
 case h_2=>cases hb
 rename_i l' hl';split at hb
 case isFalse=>cases hb
 rename_i hcond;obtain⟨c1,c2,c3,c4⟩:=hcond;injection hb with hb;injection hb with hb;subst hb
 rw[ht]at hts;injection hts with hts;injection hts with h1 h2;subst h1;subst h2
 obtain⟨q1,q2⟩:=Bb hs hps;unfold eV at ht;split at ht
 case h_2=>cases ht
 rename_i e' hu';cases hin:cx.P.info? e' with
 | none=>simp[cq,hin]at ht
 | some ie =>
  simp only[cq,hin,Option.map_some,Option.some.injEq,Prod.mk.injEq]at ht;obtain⟨rfl,hsz0⟩:=ht;have hsz:ie.size=sz'+1:=hsz0;clear hsz0;unfold fw at c4;cases hzz:ie.zero with
  | none=>simp[hin,hzz]at c4
  | some z =>
   have hl0:(parts.map fun (y:Nat×Operand)=>(y.1,a.eval y.2)).toList=parts.toList.map fun y=>(y.1,a.eval y.2):=Array.toList_map;obtain⟨zs',ys,f1,f2,f3,f4,f5,f6,f7⟩:=EU (zs:=(Array.range (len*ie.size)).map (z.cells[· % z.cells.size]!)) q1 q2 hl' (by simp[c1,hsz]);rw[←hl0]at f1;have hy:zs'.toList=ys:=by
    rw[f2,c1];simp[hsz]
   have f1':Instr.fill (fun i=>some (i*ie.size,ie.size)) ((Array.range (len*ie.size)).map (z.cells[· % z.cells.size]!)) (parts.map fun (y:Nat×Operand)=>(y.1,a.eval y.2)).toList=some zs':=by rw[hsz];rw[hsz]at f1;exact f1
   have hpos:0<len*ie.size:=Nat.mul_pos c2 (by omega);have hrun:=run_buildSlice (P:=cx.P) w T e' len (parts.map fun (y:Nat×Operand)=>(y.1,a.eval y.2)) zs' ie z hu' hin hzz (by rw[hsz];omega) (by omega) f1';have hm:len*1≤len*(sz'+1):=Nat.mul_le_mul_left _ (by omega);have hs2:=hs.tG (Nat.le_of_ble_eq_true hn) hu (e:=e') (sz:=sz'+1) (n:=len) (l:=l') (vs:=ys) (by rw[f4,c1]) (by unfold maxLen;omega) (by rw[f3,c1]) f5 f6 f7;unfold Oper.wp execOp;simp only[hop,Sem.run_bind,hrun,Result.andThen_ok,Sem.run_pure];rw[hd];rw[←hy]at hs2;simp only[Array.toArray_toList]at hs2;exact hK _ _ (k _ _ _ hs2)
theorem ii{α:Type}(enc:α→List AV)(zt:α){all:Array Oper}{f:Func}{p:List Nat}{i:Nat}(T:TypeId)(x y:Operand)(d:Nat){e:TypeId}{sz:Nat}{zc:List AV}{bytes:Nat}{n:Int}{kd kd':IntKind}(hb:eC n bytes=true)(k:OT cx Q ks all (bk f p (i+1)) (Ds d ⟨e,sz,List.map enc (List.replicate n.toNat zt)⟩ s))
  (hl:bk f p i=bC f p i::bk f p (i+1):=by kernel_rfl) (hg:cN all s (bC f p i)=true:=by kernel_rfl) (hop:(bC f p i).op=.makeSlice T x y:=by kernel_rfl) (hd:(bC f p i).dst=some d:=by kernel_rfl) (hn:Nat.ble (d+1) cx.n=true:=by kernel_rfl) (hx:s.ev x=some (.int kd n):=by kernel_rfl) (hy:s.ev y=some (.int kd' n):=by kernel_rfl)
  (ht:gE cx.P T=some (e,sz,bytes):=by kernel_rfl) (hz:fw cx.P e=some zc:=by kernel_rfl) (he:zc.map il=enc zt:=by kernel_rfl) (hu:has s.u d=false:=by kernel_rfl):OT cx Q ks all (bk f p i) s:=Yo enc zt _ T x y d hl hg hop hd hn hx hy ht hz he hu hb k
theorem eJ(d k:Nat)(et:TypeId)(sz:Nat)(h:VE cx Q ks e (VK k d ⟨et,sz,[]⟩ s))(hd:has s.u d=false:=by kernel_rfl)(hk:look k s.t=some .nils:=by kernel_rfl):VE cx Q ks e s:=acp d k et sz hd hk h
theorem oX(d i n:Nat)(et:TypeId)(sz:Nat)(h:VE cx Q ks e (N0 d i n et sz s))(hd:has s.u d=false:=by kernel_rfl)(hk:IZ i n s=true:=by kernel_rfl):VE cx Q ks e s:=by
 unfold IZ at hk;unfold N0 at h;split at hk
 ·rename_i cs hcs;rw[hcs]at h;split at hk
  ·rename_i hn;exact adq d i n et sz hd hcs hn h
  ·cases hk
 ·cases hk
end
section
variable{P:Program}{n:Nat}{s0:AS}{all:Array Oper}{K:Nat}{σs:List AS}{o:Oper}
theorem c7{m:Nat}{s':AS}(h:bG P n (nth σs m) o=some s')(he:s'=nth σs (m+1):=by kernel_rfl)(hg:o.guard.isNone=true:=by kernel_rfl):ff P n s0 all K σs o (.s (m+1)):=Mx hg (h.trans (congrArg some he))
theorem cG(m:Nat)(h:bG P n (nth σs m) o=some (nth σs (m+1)):=by kernel_rfl)(hg:o.guard.isNone=true:=by kernel_rfl):ff P n s0 all K σs o (.s (m+1)):=Mx hg h
theorem nc{lo:Nat}{s':AS}(h:bG P n (nth σs lo) o=some s')(he:s'=nth σs lo:=by kernel_rfl)(hg:cN all (nth σs lo) o=true:=by kernel_rfl):ff P n s0 all K σs o (.v lo 1):=d4 (cy ⟨hg,cE h he⟩ d8)
def zr(all:Array Oper)(σs:List AS)(o:Oper)(d:Nat):Nat→Nat→List (Bool×Option (FuncId×List AV)×Option AV)
 | _,0=>[]
 | lo,k+1=>(cN all (nth σs lo) o,gh (nth σs lo) o,look d (nth σs lo).t)::zr all σs o d (lo+1) k
def AA(x:Bool×Option (FuncId×List AV)×Option AV):Nat→List (Bool×Option (FuncId×List AV)×Option AV)
 | 0=>[]
 | k+1=>x::AA x k
theorem MN{d:Nat}{f:FuncId}{args:List AV}{V:AV}:∀{k lo:Nat},zr all σs o d lo k=AA (true,some (f,args),some V) k→ef lo k fun j=>cN all (nth σs j) o=true∧gh (nth σs j) o=some (f,args)∧look d (nth σs j).t=some V
 | 0,_,_=>trivial
 | k+1,lo,h=>by
  simp only[zr,AA,List.cons.injEq,Prod.mk.injEq]at h;exact⟨⟨h.1.1,h.1.2.1,h.1.2.2⟩,MN h.2⟩
theorem cM(lo k d:Nat){f:FuncId}{args:List AV}{V:AV}(hc:aQ P f args (fun v _=>v=V))(hcl:dD P f=true:=by kernel_rfl)(hv:V.dz []=true:=by kernel_rfl)(hd:o.dst=some d:=by kernel_rfl)(hdn:Nat.ble (d+1) n=true:=by kernel_rfl)
  (h:zr all σs o d lo k=AA (true,some (f,args),some V) k:=by kernel_rfl):ff P n s0 all K σs o (.c lo k):=Tq V hc hcl hv d hd hdn (MN h)
def DV(all:Array Oper)(σs:List AS)(o:Oper)(d:Nat):Nat→Nat→List (Bool×Option AV)
 | _,0=>[]
 | lo,k+1=>(cN all (nth σs lo) o,look d (nth σs lo).t)::DV all σs o d (lo+1) k
def Gl(q:Bool×Option AV):Nat→List (Bool×Option AV)
 | 0=>[]
 | k+1=>q::Gl q k
theorem Rx(lo d:Nat){f:FuncId}{args l:List AV}{V:AV}(hc:aQ P f args (fun v _=>v=V))(h1:je (nth σs lo) o=some (f,args,l))(hsr:jz (nth σs lo) l)(hcl:dD P f=true:=by kernel_rfl)(hv:V.vt=true:=by kernel_rfl)(hd:o.dst=some d:=by kernel_rfl)(hdn:Nat.ble (d+1) n=true:=by kernel_rfl)
  (h:DV all σs o d lo 1=Gl (true,some V) 1:=by kernel_rfl):ff P n s0 all K σs o (.c lo 1):=by
 simp only[DV,Gl,List.cons.injEq,Prod.mk.injEq]at h;exact⟨⟨qt h.1.1,.inr (.inl ⟨f,args,l,V,d,h1,hsr,hd,h.1.2,Nat.le_of_ble_eq_true hdn,hv,hcl,hc⟩)⟩,trivial⟩
def yK(σs:List AS)(d:Nat):Nat→Nat→List (Option (List AV)×Bool×Option AV×Bool)
 | _,0=>[]
 | lo,k+1=>(look d (nth σs lo).o,(look d (nth σs lo).r).isNone,look d (nth σs lo).t,has (nth σs lo).u d)::yK σs d (lo+1) k
def Ag(x:Option (List AV)×Bool×Option AV×Bool):Nat→List (Option (List AV)×Bool×Option AV×Bool)
 | 0=>[]
 | k+1=>x::Ag x k
theorem PX{d:Nat}{cs:List AV}:∀{k lo:Nat},yK σs d lo k=Ag (some cs,true,some (.ptr d 0),true) k→ef lo k fun j=>look d (nth σs j).o=some cs∧look d (nth σs j).r=none∧look d (nth σs j).t=some (.ptr d 0)∧has (nth σs j).u d=true
 | 0,_,_=>trivial
 | k+1,lo,h=>by
  simp only[yK,Ag,List.cons.injEq,Prod.mk.injEq]at h;exact⟨⟨h.1.1,by simpa using h.1.2.1,h.1.2.2.1,h.1.2.2.2⟩,PX h.2⟩
theorem Ak(lo k T d:Nat)(cs:List AV)(hg:o.guard.isNone=true:=by kernel_rfl)(hop:o.op=.alloc T:=by kernel_rfl)(hd:o.dst=some d:=by kernel_rfl)(hdn:Nat.ble (d+1) n=true:=by kernel_rfl)(hz:fw P T=some cs:=by kernel_rfl)(hu:has s0.u d=false:=by kernel_rfl)
  (h:yK σs d lo k=Ag (some cs,true,some (.ptr d 0),true) k:=by kernel_rfl):ff P n s0 all K σs o (.a lo k):=k_a T d cs hg hop hd hdn hz hu (PX h)
def zG(all:Array Oper)(σs:List AS)(o:Oper)(x y:Operand)(d:Nat):Nat→Nat→List (Bool×Option AV×Option AV×Option AV×Option bD×Bool×Bool)
 | _,0=>[]
 | lo,k+1=>(cN all (nth σs lo) o,(nth σs lo).ev x,(nth σs lo).ev y,look d (nth σs lo).t,look d (nth σs lo).r,(look d (nth σs lo).o).isNone,has (nth σs lo).u d)::zG all σs o x y d (lo+1) k
def AQ(q:Bool×Option AV×Option AV×Option AV×Option bD×Bool×Bool):Nat→List (Bool×Option AV×Option AV×Option AV×Option bD×Bool×Bool)
 | 0=>[]
 | k+1=>q::AQ q k
theorem Oy{x y:Operand}{d:Nat}{u v:AV}{ar:bD}:∀{k lo:Nat},zG all σs o x y d lo k=AQ (true,some u,some v,some (.ref d),some ar,true,true) k→ef lo k fun j=>cN all (nth σs j) o=true∧(nth σs j).ev x=some u∧(nth σs j).ev y=some v∧look d (nth σs j).t=some (.ref d)∧look d (nth σs j).r=some ar∧look d (nth σs j).o=none∧has (nth σs j).u d=true
 | 0,_,_=>trivial
 | k+1,lo,h=>by
  simp only[zG,AQ,List.cons.injEq,Prod.mk.injEq]at h;exact⟨⟨h.1.1,h.1.2.1,h.1.2.2.1,h.1.2.2.2.1,h.1.2.2.2.2.1,by simpa using h.1.2.2.2.2.2.1,h.1.2.2.2.2.2.2⟩,Oy h.2⟩
theorem Ls{α:Type}(enc:α→List AV)(zt:α)(lo k T:Nat)(x y:Operand)(d e sz bytes:Nat)(m:Int)(kd kd':IntKind)(zc:List AV)(hb:eC m bytes=true)(hop:o.op=.makeSlice T x y:=by kernel_rfl)(hd:o.dst=some d:=by kernel_rfl)(hdn:Nat.ble (d+1) n=true:=by kernel_rfl)
  (hu:has s0.u d=false:=by kernel_rfl) (ht:gE P T=some (e,sz,bytes):=by kernel_rfl) (hz:fw P e=some zc:=by kernel_rfl) (he:zc.map il=enc zt:=by kernel_rfl)
  (h:zG all σs o x y d lo k=AQ (true,some (.int kd m),some (.int kd' m),some (.ref d),some ⟨e,sz,List.map enc (List.replicate m.toNat zt)⟩,true,true) k:=by kernel_rfl):ff P n s0 all K σs o (.o lo k):=by
 refine⟨d,hd,Nat.le_of_ble_eq_true hdn,hu,xp (fun j hj=>⟨qt hj.1,?_⟩) (Oy h)⟩;obtain⟨_,h1,h2,h3,h4,h5,h6⟩:=hj;unfold vJ;rw[hop];exact⟨kd,kd',m,e,sz,bytes,zc,h1,h2,ht,hz,hb,h3,by rw[h4,List.map_replicate,he],h5,h6⟩
def y6(all:Array Oper)(σs:List AS)(o:Oper)(d:Nat):Nat→Nat→List (Bool×Option (FuncId×List AV)×Option AV×Option bD×Bool×Bool)
 | _,0=>[]
 | lo,k+1=>(cN all (nth σs lo) o,gh (nth σs lo) o,look d (nth σs lo).t,look d (nth σs lo).r,(look d (nth σs lo).o).isNone,has (nth σs lo).u d)::y6 all σs o d (lo+1) k
def yv(x:Bool×Option (FuncId×List AV)×Option AV×Option bD×Bool×Bool):Nat→List (Bool×Option (FuncId×List AV)×Option AV×Option bD×Bool×Bool)
 | 0=>[]
 | k+1=>x::yv x k
theorem Lr{d:Nat}{f:FuncId}{args:List AV}{V:AV}{ar:bD}:∀{k lo:Nat},y6 all σs o d lo k=yv (true,some (f,args),some V,some ar,true,true) k→ef lo k fun j=>cN all (nth σs j) o=true∧gh (nth σs j) o=some (f,args)∧look d (nth σs j).t=some V∧look d (nth σs j).r=some ar∧look d (nth σs j).o=none∧has (nth σs j).u d=true
 | 0,_,_=>trivial
 | k+1,lo,h=>by
  simp only[y6,yv,List.cons.injEq,Prod.mk.injEq]at h;exact⟨⟨h.1.1,h.1.2.1,h.1.2.2.1,h.1.2.2.2.1,by simpa using h.1.2.2.2.2.1,h.1.2.2.2.2.2⟩,Lr h.2⟩
theorem GA(lo k d:Nat){f:FuncId}{args:List AV}{V:AV}{id:Nat}{ar:bD}(hc:aQ P f args (fun v s1=>v=V∧look id s1.r=some ar))(hone:∀(N:Nat→Prop) w ι x,Rel N w ι V x→∃y,ι id=some y)(hcl:dD P f=true:=by kernel_rfl)
  (hd:o.dst=some d:=by kernel_rfl) (hdn:Nat.ble (d+1) n=true:=by kernel_rfl) (hu:has s0.u d=false:=by kernel_rfl) (htg:Nat.ble (id+1) TG=true:=by kernel_rfl) (h:y6 all σs o d lo k=yv (true,some (f,args),some (V.fX id d),some ar,true,true) k:=by kernel_rfl):ff P n s0 all K σs o (.o lo k):=YR V d htg hc hcl hone hd hdn hu (Lr h)
end
def aM(p:Nat×Nat):List AV:=[.adr p.1 p.2]
def Xr(k id g off:Nat)(s:AS):AS:={ s with t:=bh k (.pp id g off) s.t }
def FH(k:Nat)(v:AV)(s:AS):AS:={ s with t:=bh k v s.t }
theorem aX.q8{cx:Cx}{s:AS}{a:Act}{w:World}{ι:Env}(h:aX cx s a w ι){k:Nat}{v:AV}(hv:∀x,a.tmps[k]?=some x→Rel (NN cx.M ι) w ι v x)(hk:∃u,look k s.t=some u):aX cx (FH k v s) a w ι:=by
 refine⟨⟨h.hs.below,h.hs.old,h.hs.use,h.hs.own,h.hs.inj,h.hs.ko,h.hs.kr,h.hs.objs,h.hs.arrs,h.hs.pin⟩,h.dfr,h.n,fun j y hj=>?_⟩;have hj':look j (bh k v s.t)=some y:=hj;rw[cu]at hj';split at hj'
 ·rename_i e;subst e;injection hj' with hj';subst hj'
  obtain⟨u,hu⟩:=hk;obtain⟨x,hx,_⟩:=h.tmp j u hu;exact⟨x,hx,hv x hx⟩
 ·exact h.tmp j y hj'
section
variable{cx:Cx}{Q:Exit→Act→World→Prop}{ks:List ao}{e:Exit}{s:AS}{all:Array Oper}{l:List Oper}
theorem Mv(k id off:Nat)(h:∀g:Nat,VE cx Q ks e (Xr k id g off s))(hk:look k s.t=some (.ptr id off):=by kernel_rfl):VE cx Q ks e s:=fun a w ι hs=>by
 obtain⟨x,hx,hr⟩:=hs.tmp k _ hk;cases hr with
 | ptr _ _ _ g hg=>exact h g a w ι (hs.q8 (v:=.pp id g off) (fun y hy=>by rw[hx]at hy;injection hy with hy;subst hy;exact .pp _ _ _ _ hg) ⟨_,hk⟩)
theorem Qi{a:Act}{w:World}{ι:Env}(hs:aX cx s a w ι){j k id g off o:Nat}(hj:look j s.t=some (.adr g off))(hk:look k s.t=some (.pp id g o)):aX cx (FH j (.ptr id off) s) a w ι:=by
 obtain⟨x,hx,hr⟩:=hs.tmp j _ hj;obtain⟨y,hy,hr'⟩:=hs.tmp k _ hk;refine hs.q8 (fun z hz=>?_) ⟨_,hj⟩;rw[hx]at hz;injection hz with hz;subst hz
 cases hr with
 | adr _ _ _ =>
  cases hr' with
  | pp _ _ _ _ h2=>exact .ptr _ _ _ _ h2
theorem cZ(j k id g off o:Nat)(h:OT cx Q ks all l (FH j (.ptr id off) s))(hj:look j s.t=some (.adr g off):=by kernel_rfl)(hk:look k s.t=some (.pp id g o):=by kernel_rfl):OT cx Q ks all l s:=fun a w ι hs=>h a w ι (Qi hs hj hk)
end
end Go.Proofs.YtolhpahjgddjkaaGreat
