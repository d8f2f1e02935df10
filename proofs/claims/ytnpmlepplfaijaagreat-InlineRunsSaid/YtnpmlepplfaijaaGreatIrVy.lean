/- Laws of single operations in short form: what the kernel computes of an operation is one premise. No program in sight. -/
import Derived.Test.YtnpmlepplfaijaaGreatIrVx
namespace Go.Proofs.YtnpmlepplfaijaaGreat
set_option linter.all false
open Go.RowKit
def qx(id:Nat)(ar:bj)(s:AS):AS:={ s with r:=aR id ar s.r }
def gW(d id:Nat)(ar:bj)(s:AS):AS:={ t:=aR d (.ref id) (cC id s.t),o:=de id s.o,r:=aR id ar s.r,u:=s.u }
def CT(d:Nat)(ar:bj)(s:AS):AS:={ t:=aR d (.ref d) (cC d s.t),o:=de d s.o,r:=aR d ar s.r,u:=d::s.u }
def FY(d:Nat)(ar:bj)(s:AS):AS:={ t:=aR d (.ref d) s.t,o:=s.o,r:=aR d ar s.r,u:=d::s.u }
def PW(k d:Nat)(ar:bj)(s:AS):AS:=⟨aR k (.ref d) s.t,s.o,aR d ar s.r,d::s.u⟩
section
variable{P:Program}{n:Nat}{s:AS}{o:Oper}{α:Type}[Inhabited α]
def gG(n:Nat)(o:Oper):Bool:=match o.dst with|some d=>Nat.ble (d+1) n|none=>false
theorem kv(h:gG n o=true):∃d,o.dst=some d∧Nat.ble (d+1) n=true:=by
 unfold gG at h;split at h
 ·rename_i d hd;exact⟨d,hd,h⟩
 ·cases h
def G2(P:Program)(n:Nat)(s:AS)(o:Oper):Option (List (List AV)×Int×Nat):=match gG n o,o.op with
 | true,.indexAddr T x y=>match s.ev x,s.ev y,kg P T,er P T with
  | some (.sl l),some (.int _ i),none,some (_,sz)=>some (l,i,sz)
  | _,_,_,_=>none
 | _,_=>none
theorem bM(enc exp:α→List AV){L:List α}{i:Int}{sz:Nat}(hb:bi i L.length=true)(hz:∀a,(enc a).length=sz)(he:∀a,enc a=exp a)(h:G2 P n s o=some (L.map enc,i,sz):=by kernel_rfl):bn P n s o=some (s.put o.dst (.cptr (exp (L.getD i.toNat default)))):=by
 unfold G2 at h;split at h
 case h_2=>cases h
 rename_i T x y hd hop;obtain⟨d,hd,hn⟩:=kv hd;split at h
 case h_2=>cases h
 rename_i h1 h2 h3 h4;simp only[Option.some.injEq,Prod.mk.injEq]at h;obtain⟨rfl,rfl,rfl⟩:=h;rw[hd];exact M7 enc exp L _ T x y d hop hd hn h1 h2 h3 h4 hb hz he
def rx(P:Program)(n:Nat)(s:AS)(o:Oper):Option (Nat×Nat×Int×List (List AV)):=match gG n o,o.op with
 | true,.indexAddr T x y=>match s.ev x,s.ev y,kg P T,er P T with
  | some (.ref id),some (.int _ i),none,some (_,sz)=>match look id s.r with
   | some ⟨_,sz',l⟩=>match Nat.beq sz sz' with
    | true=>some (id,sz,i,l)
    | false=>none
   | none=>none
  | _,_,_,_=>none
 | _,_=>none
theorem c9(id sz:Nat)(enc:α→List AV){L:List α}{i:Int}(hb:bi i L.length=true)(h:rx P n s o=some (id,sz,i,L.map enc):=by kernel_rfl):bn P n s o=some (s.put o.dst (.eptr id sz i.toNat 0)):=by
 unfold rx at h;split at h
 case h_2=>cases h
 rename_i T x y hd hop;obtain⟨d,hd,hn⟩:=kv hd;split at h
 case h_2=>cases h
 rename_i h1 h2 h3 h4;split at h
 case h_2=>cases h
 rename_i h5;split at h
 case h_2=>cases h
 rename_i h6;have h6:=Nat.eq_of_beq_eq_true h6;simp only[Option.some.injEq,Prod.mk.injEq]at h;obtain⟨rfl,rfl,rfl,rfl⟩:=h;subst h6;rw[hd];exact Rl enc L _ T x y d hop hd hn h1 h2 h5 h3 h4 hb
def DH(n:Nat)(s:AS)(o:Oper):Option (TypeId×Nat×Nat×List (List AV)):=match gG n o,o.op with
 | true,.load T x=>match s.ev x with
  | some (.eptr id sz j off)=>match look id s.r with
   | some ⟨_,sz',l⟩=>match Nat.beq sz sz'&&Nat.ble (id+1) TG with
    | true=>some (T,j,off,l)
    | false=>none
   | none=>none
  | _=>none
 | _,_=>none
def UT:Option AV→AV
 | some v=>v
 | none=>.any
def Nj:Option AV→Bool
 | some _=>true
 | none=>false
theorem ci(T:TypeId)(off:Nat)(enc exp:α→List AV){L:List α}{j:Nat}(hj:j<L.length)(he:∀a,enc a=exp a)(h:DH n s o=some (T,j,off,L.map enc):=by kernel_rfl)(hv:Nj (ep P T ((exp (L.getD j default)).drop off))=true:=by kernel_rfl):
  bn P n s o=some (s.put o.dst (UT (ep P T ((exp (L.getD j default)).drop off)))):=by
 unfold DH at h;split at h
 case h_2=>cases h
 rename_i T' x hd hop;obtain⟨d,hd,hn⟩:=kv hd;split at h
 case h_2=>cases h
 rename_i h1;split at h
 case h_2=>cases h
 rename_i h5;split at h
 case h_2=>cases h
 rename_i h6;rw[Bool.and_eq_true]at h6;have htg:=Nat.le_of_ble_eq_true h6.2;have h6:=Nat.eq_of_beq_eq_true h6.1;simp only[Option.some.injEq,Prod.mk.injEq]at h;obtain⟨rfl,rfl,rfl,rfl⟩:=h;subst h6;cases hq:ep P T' ((exp (L.getD _ default)).drop _) with
 | none=>rw[hq]at hv;cases hv
 | some v =>
  rw[hd];exact N8 enc exp L T' x d htg hop hd hn h1 h5 hj he hq
def tB(P:Program)(s:AS)(o:Oper):Option (Nat×TypeId×Nat×Nat×Nat×List (List AV)):=match o.dst,o.op with
 | none,.store T x y=>match s.ev x,s.ev y with
  | some (.eptr id sz j off),some v=>match look id s.r,gc v,bR P T with
   | some ⟨et,sz',l⟩,some nv,some k=>match Nat.beq sz sz'&&Nat.beq k nv.length with
    | true=>some (id,et,sz,j,off,l)
    | false=>none
   | _,_,_=>none
  | _,_=>none
 | _,_=>none
def kq(s:AS)(o:Oper):List AV:=match o.op with
 | .store _ _ y=>match s.ev y with
  | some v=>match gc v with|some nv=>nv|none=>[]
  | none=>[]
 | _=>[]
theorem ug(id:Nat)(et:TypeId)(sz off:Nat)(enc exp:α→List AV){L:List α}{j:Nat}(new:α)(hj:j<L.length)(he:∀a,enc a=exp a)(h:tB P s o=some (id,et,sz,j,off,L.map enc):=by kernel_rfl)
  (hl:(Nat.ble (off+(kq s o).length) (exp (L.getD j default)).length&&cJ [] (kq s o))=true:=by kernel_rfl) (hs:ec off (kq s o) (exp (L.getD j default))=exp new:=by kernel_rfl) :
  bn P n s o=some (qx id ⟨et,sz,(L.set j new).map enc⟩ s):=by
 unfold tB at h;split at h
 case h_2=>cases h
 rename_i T x y hd hop;split at h
 case h_2=>cases h
 rename_i v h1 h2;split at h
 case h_2=>cases h
 rename_i nv k h5 hv hz;split at h
 case h_2=>cases h
 rename_i h6;simp only[Bool.and_eq_true]at h6;have h7:=Nat.eq_of_beq_eq_true h6.1;have h8:=Nat.eq_of_beq_eq_true h6.2;simp only[Option.some.injEq,Prod.mk.injEq]at h;obtain⟨rfl,rfl,rfl,rfl,rfl,rfl⟩:=h;subst h7;subst h8;have hN:kq s o=nv:=by unfold kq;simp only[hop,h2,hv]
 rw[hN]at hl hs;simp only[Bool.and_eq_true]at hl;exact PU enc exp L new T x y hop hd h1 h2 h5 hj hv hz he hl.1 hl.2 hs
def xY(P:Program)(n:Nat)(s:AS)(o:Oper):Option (List (List AV)):=match gG n o,o.op with
 | true,.call ⟨.builtin .len,⟨[x]⟩,⟨[T]⟩⟩=>match s.ev x,er P T with
  | some (.sl l),some _=>some l
  | some (.ref id),some _=>match look id s.r with
   | some ⟨_,_,l⟩=>some l
   | none=>none
  | _,_=>none
 | _,_=>none
theorem bz(enc:α→List AV)(L:List α)(h:xY P n s o=some (L.map enc):=by kernel_rfl):bn P n s o=some (s.put o.dst (.int .i64 L.length)):=by
 unfold xY at h;split at h
 case h_2=>cases h
 rename_i x T hd hop;obtain⟨d,hd,hn⟩:=kv hd;rw[hd];split at h
 ·rename_i h1 h2;injection h with h;subst h
  exact NS enc L T x d hop hd hn h1 h2
 ·rename_i h1 h2;split at h
  ·rename_i h3;injection h with h;subst h
   exact M1 enc L T x d hop hd hn h1 h3 h2
  ·cases h
 ·cases h
def rJ(P:Program)(n:Nat)(s:AS)(o:Oper):Option (Nat×Nat×TypeId×Nat×Nat×List (List AV)×List (List AV)):=match o.dst,o.op with
 | some d,.call ⟨.builtin .append,⟨[x,y]⟩,⟨[T,T']⟩⟩=>match Nat.beq T T'&&Nat.ble (d+1) n,s.ev x,s.ev y,gY P T with
  | true,some (.ref id),some (.sl new),some (et,sz,bytes)=>match look id s.r with
   | some ⟨et',sz',l⟩=>match (Nat.beq et et'&&Nat.beq sz sz')&&!s.u.contains (cE id) with
    | true=>some (d,id,et,sz,bytes,new,l)
    | false=>none
   | none=>none
  | _,_,_,_=>none
 | _,_=>none
theorem cy(d id:Nat)(et:TypeId)(sz:Nat)(enc:α→List AV){L M:List α}{bytes:Nat}{new:List (List AV)}(hnew:new=M.map enc)(hz:∀a,(enc a).length=sz)(hf:fits (L.length+M.length) bytes=true)(h:rJ P n s o=some (d,id,et,sz,bytes,new,L.map enc):=by kernel_rfl):
  bn P n s o=some (gW d id ⟨et,sz,(L++M).map enc⟩ s):=by
 unfold rJ at h;split at h
 case h_2=>cases h
 rename_i d' x y T T' hd hop;split at h
 case h_2=>cases h
 rename_i hb h1 h2 h3;simp only[Bool.and_eq_true]at hb;have hT:=Nat.eq_of_beq_eq_true hb.1;split at h
 case h_2=>cases h
 rename_i h5;split at h
 case h_2=>cases h
 rename_i h6;simp only[Bool.and_eq_true,Bool.not_eq_true']at h6;have h7:=Nat.eq_of_beq_eq_true h6.1.1;have h8:=Nat.eq_of_beq_eq_true h6.1.2;have h9:=h6.2;simp only[Option.some.injEq,Prod.mk.injEq]at h;obtain⟨rfl,rfl,rfl,rfl,rfl,rfl,rfl⟩:=h;have hT':T=T':=hT;subst hT';subst h7;subst h8;exact JY enc L M T x y _ hop hd hb.2 h1 h2 hnew h5 h3 hz hf h9 rfl rfl
def Dt(P:Program)(n:Nat)(s:AS)(o:Oper):Option (Nat×TypeId×Nat×Nat×List (List AV)):=match o.dst,o.op with
 | some d,.call ⟨.builtin .append,⟨[x,y]⟩,⟨[T,T']⟩⟩=>match Nat.beq T T'&&(Nat.ble (d+1) n&&!has s.u d),s.ev x,s.ev y,gY P T with
  | true,some .nils,some (.sl new),some (et,sz,bytes)=>some (d,et,sz,bytes,new)
  | _,_,_,_=>none
 | _,_=>none
theorem Bc(d:Nat)(et:TypeId)(sz:Nat)(enc:α→List AV){M:List α}{bytes:Nat}{new:List (List AV)}(hnew:new=M.map enc)(hz:∀a,(enc a).length=sz)(hf:fits M.length bytes=true)(h:Dt P n s o=some (d,et,sz,bytes,new):=by kernel_rfl):
  bn P n s o=some (CT d ⟨et,sz,M.map enc⟩ s):=by
 unfold Dt at h;split at h
 case h_2=>cases h
 rename_i d' x y T T' hd hop;split at h
 case h_2=>cases h
 rename_i hb h1 h2 h3;simp only[Bool.and_eq_true,Bool.not_eq_true']at hb;have hT:=Nat.eq_of_beq_eq_true hb.1;simp only[Option.some.injEq,Prod.mk.injEq]at h;obtain⟨rfl,rfl,rfl,rfl,rfl⟩:=h;have hT':T=T':=hT;subst hT';exact K1 enc M T x y _ hop hd hb.2.1 h1 h2 hnew hb.2.2 h3 hz hf rfl rfl
def Jc(P:Program)(n:Nat)(s:AS)(o:Oper)(new:List (List AV)):Option AS:=match gG n o with
 | true=>some (s.put o.dst (.sl new))
 | false=>none
theorem eV(enc:α→List AV)(M:List α){new:List (List AV)}(hnew:new=M.map enc)(h:bn P n s o=Jc P n s o new:=by kernel_rfl)(hd:gG n o=true:=by kernel_rfl):bn P n s o=some (s.put o.dst (.sl (M.map enc))):=by
 rw[h,Jc,hd,hnew]
def Cf(n:Nat)(s:AS)(o:Oper):Option (BinOp×AV×AV):=match gG n o,o.op with
 | true,.binOp op _ x y _=>match s.ev x,s.ev y with
  | some u,some v=>some (op,u,v)
  | _,_=>none
 | _,_=>none
theorem Ve{a b:ByteArray}(hb:sB a b=true)(h:Cf n s o=some (.add,.str a,.str b):=by kernel_rfl):bn P n s o=some (s.put o.dst (.str (a++b))):=by
 unfold Cf at h;split at h
 case h_2=>cases h
 rename_i hd hop;obtain⟨d,hd,hn⟩:=kv hd;split at h
 case h_2=>cases h
 rename_i h1 h2;simp only[Option.some.injEq,Prod.mk.injEq]at h;obtain⟨rfl,rfl,rfl⟩:=h;rw[hd];exact V7 _ _ _ _ d hop hd hn h1 h2 hb
end
section
variable{cx:Cx}{Q:AV→AS→Prop}{s:AS}{fn:Func}
theorem aU{V:AV}(h:fE cx.P s fn.results.toList=some [V]:=by kernel_rfl):VE cx (bodyPost cx.P fn (bq cx.M cx.w0 (fun v _=>v=V))) [] .ret s:=pK rfl h rfl
theorem dV{l:List AV}(h:fE cx.P s fn.results.toList=some l:=by kernel_rfl)(h2:tP l=.tup l:=by kernel_rfl):VE cx (bodyPost cx.P fn (bq cx.M cx.w0 (fun v _=>v=.tup l))) [] .ret s:=pK rfl h h2
theorem eg{V:AV}{id:Nat}{ar:bj}(h:fE cx.P s fn.results.toList=some [V]:=by kernel_rfl)(h2:look id s.r=some ar:=by kernel_rfl):VE cx (bodyPost cx.P fn (bq cx.M cx.w0 (fun v s=>v=V∧look id s.r=some ar))) [] .ret s:=pK rfl h ⟨rfl,h2⟩
theorem tm{l:List AV}{id:Nat}{ar:bj}(h:fE cx.P s fn.results.toList=some l:=by kernel_rfl)(h2:look id s.r=some ar:=by kernel_rfl)(h3:tP l=.tup l:=by kernel_rfl):VE cx (bodyPost cx.P fn (bq cx.M cx.w0 (fun v s=>v=.tup l∧look id s.r=some ar))) [] .ret s:=pK rfl h ⟨h3,h2⟩
end
def wW(id:Nat)(s:AS):AS:=match look id s.r with|some ar=>s.bQ id ar.l|none=>s
def pj(id:Nat)(s:AS):Bool:=match look id s.r with|some _=>!s.u.contains (cE id)&&Nat.ble (id+1) TG|none=>false
theorem qB{b:Bool}{id:Nat}(h:(!b&&Nat.ble (id+1) TG)=true):b=false∧id<TG:=by
 rw[Bool.and_eq_true]at h;exact⟨by simpa using h.1,Nat.le_of_ble_eq_true h.2⟩
def I9(id nid:Nat)(s:AS):AS:=match look id s.r with|some ar=>⟨jN id nid s.t,kp id nid s.o,aR nid ar (era id s.r),nid::s.u⟩|none=>s
def Hg(k:Nat)(s:AS):AS:=match look k s.o with|some cs=>{ s with o:=aR k (cs.map d4) s.o }|none=>s
def t9(d i n:Nat)(et:TypeId)(sz:Nat)(s:AS):AS:=match look i s.o with|some cs=>⟨s.t,aR i (cs.set n (.ref d)) s.o,aR d ⟨et,sz,[]⟩ s.r,d::s.u⟩|none=>s
def u0(i n:Nat)(s:AS):Bool:=match look i s.o with|some cs=>(match cs[n]? with|some .nils=>true|_=>false)|none=>false
section
variable{cx:Cx}{Q:Exit→Act→World→Prop}{ks:List av}{e:Exit}{s:AS}{all:Array Oper}{l:List Oper}
theorem sX(id:Nat)(h:VE cx Q ks e (wW id s))(ha:pj id s=true:=by kernel_rfl):VE cx Q ks e s:=by
 unfold pj at ha;unfold wW at h;split at ha
 ·rename_i ar har;rw[har]at h;exact O0 id (qB ha).2 har (qB ha).1 h
 ·cases ha
theorem kA(id:Nat)(h:OT cx Q ks all l (wW id s))(ha:pj id s=true:=by kernel_rfl):OT cx Q ks all l s:=by
 unfold pj at ha;unfold wW at h;split at ha
 ·rename_i ar har;rw[har]at h;exact Jy id (qB ha).2 har (qB ha).1 h
 ·cases ha
theorem GF(id nid:Nat)(h:VE cx Q ks e (I9 id nid s))(ha:pj id s=true:=by kernel_rfl)(hn:has s.u nid=false:=by kernel_rfl):VE cx Q ks e s:=by
 unfold pj at ha;unfold I9 at h;split at ha
 ·rename_i ar har;rw[har]at h;exact Mk id nid (qB ha).2 har hn (qB ha).1 h
 ·cases ha
theorem rM(k:Nat)(h:VE cx Q ks e (Hg k s)):VE cx Q ks e s:=by
 unfold Hg at h;split at h
 ·rename_i v hv;exact J8 k hv h
 ·exact h
theorem JC{all:Array Oper}{f:Func}{p:List Nat}{i:Nat}(T:TypeId)(d:Nat){e:TypeId}{sz:Nat}(k:OT cx Q ks all (aW f p (i+1)) (FY d ⟨e,sz,[]⟩ s))(hl:aW f p i=bh f p i::aW f p (i+1):=by kernel_rfl)(hg:cc all s (bh f p i)=true:=by kernel_rfl)(hop:(bh f p i).op=.buildSlice T 0 #[]:=by kernel_rfl)(hd:(bh f p i).dst=some d:=by kernel_rfl)(hn:Nat.ble (d+1) cx.n=true:=by kernel_rfl)
  (ht:cx.P.underlying T=some (.slice e):=by kernel_rfl) (hz:bR cx.P e=some sz:=by kernel_rfl) (hu:has s.u d=false:=by kernel_rfl):OT cx Q ks all (aW f p i) s:=VL _ T d hl hg hop hd hn ht hz hu k
theorem Q5{all:Array Oper}{f:Func}{p:List Nat}{i:Nat}(T:TypeId)(len:Nat)(parts:Array (Nat×Operand))(d:Nat){e:TypeId}{sz:Nat}{l:List (List AV)}(k:OT cx Q ks all (aW f p (i+1)) (FY d ⟨e,sz,l⟩ s))(hl:aW f p i=bh f p i::aW f p (i+1):=by kernel_rfl)(hg:cc all s (bh f p i)=true:=by kernel_rfl)
  (hop:(bh f p i).op=.buildSlice T len parts:=by kernel_rfl) (hd:(bh f p i).dst=some d:=by kernel_rfl) (hn:Nat.ble (d+1) cx.n=true:=by kernel_rfl) (hb:l9 cx.P s T len parts.toList=some (.sl l):=by kernel_rfl) (ht:er cx.P T=some (e,sz):=by kernel_rfl) (hu:has s.u d=false:=by kernel_rfl):OT cx Q ks all (aW f p i) s:=by
 rw[hl];refine gf _ hg fun a w ι hs=>?_;refine wpList_plain rfl fun K hK=>?_;unfold l9 at hb;split at hb
 case h_2=>cases hb
 rename_i e1 sz' ps hts hps;split at hb
 case h_2=>cases hb
 rename_i l' hl';split at hb
 case isFalse=>cases hb
 rename_i hcond;obtain⟨c1,c2,c3,c4⟩:=hcond;injection hb with hb;injection hb with hb;subst hb
 rw[ht]at hts;injection hts with hts;injection hts with h1 h2;subst h1;subst h2
 obtain⟨q1,q2⟩:=vm hs hps;unfold er at ht;split at ht
 case h_2=>cases ht
 rename_i e' hu';cases hin:cx.P.info? e' with
 | none=>simp[bR,hin]at ht
 | some ie =>
  simp only[bR,hin,Option.map_some,Option.some.injEq,Prod.mk.injEq]at ht;obtain⟨rfl,hsz0⟩:=ht;have hsz:ie.size=sz'+1:=hsz0;clear hsz0;unfold d5 at c4;cases hzz:ie.zero with
  | none=>simp[hin,hzz]at c4
  | some z =>
   have hl0:(parts.map fun (y:Nat×Operand)=>(y.1,a.eval y.2)).toList=parts.toList.map fun y=>(y.1,a.eval y.2):=Array.toList_map;obtain⟨zs',ys,f1,f2,f3,f4,f5,f6,f7⟩:=zX (zs:=(Array.range (len*ie.size)).map (z.cells[· % z.cells.size]!)) q1 q2 hl' (by simp[c1,hsz]);rw[←hl0]at f1;have hy:zs'.toList=ys:=by
    rw[f2,c1];simp[hsz]
   have f1':Instr.fill (fun i=>some (i*ie.size,ie.size)) ((Array.range (len*ie.size)).map (z.cells[· % z.cells.size]!)) (parts.map fun (y:Nat×Operand)=>(y.1,a.eval y.2)).toList=some zs':=by rw[hsz];rw[hsz]at f1;exact f1
   have hpos:0<len*ie.size:=Nat.mul_pos c2 (by omega);have hrun:=run_buildSlice (P:=cx.P) w T e' len (parts.map fun (y:Nat×Operand)=>(y.1,a.eval y.2)) zs' ie z hu' hin hzz (by rw[hsz];omega) (by omega) f1';have hm:len*1≤len*(sz'+1):=Nat.mul_le_mul_left _ (by omega);have hs2:=hs.u9 (Nat.le_of_ble_eq_true hn) hu (e:=e') (sz:=sz'+1) (n:=len) (l:=l') (vs:=ys) (by rw[f4,c1]) (by unfold maxLen;omega) (by rw[f3,c1]) f5 f6 f7;unfold Oper.wp execOp;simp only[hop,Sem.run_bind,hrun,Result.andThen_ok,Sem.run_pure];rw[hd];rw[←hy]at hs2;simp only[Array.toArray_toList]at hs2;exact hK _ _ (k _ _ _ hs2)
theorem fk(d k:Nat)(et:TypeId)(sz:Nat)(h:VE cx Q ks e (PW k d ⟨et,sz,[]⟩ s))(hd:has s.u d=false:=by kernel_rfl)(hk:look k s.t=some .nils:=by kernel_rfl):VE cx Q ks e s:=TY d k et sz hd hk h
theorem wu(d i n:Nat)(et:TypeId)(sz:Nat)(h:VE cx Q ks e (t9 d i n et sz s))(hd:has s.u d=false:=by kernel_rfl)(hk:u0 i n s=true:=by kernel_rfl):VE cx Q ks e s:=by
 unfold u0 at hk;unfold t9 at h;split at hk
 ·rename_i cs hcs;rw[hcs]at h;split at hk
  ·rename_i hn;exact TW d i n et sz hd hcs hn h
  ·cases hk
 ·cases hk
end
section
variable{P:Program}{n:Nat}{s0:AS}{all:Array Oper}{K:Nat}{σs:List AS}{o:Oper}
theorem gv{m:Nat}{s':AS}(h:bn P n (nth σs m) o=some s')(he:s'=nth σs (m+1):=by kernel_rfl)(hg:o.guard.isNone=true:=by kernel_rfl):dM P n s0 all K σs o (.s (m+1)):=I8 hg (h.trans (congrArg some he))
theorem bU(m:Nat)(h:bn P n (nth σs m) o=some (nth σs (m+1)):=by kernel_rfl)(hg:o.guard.isNone=true:=by kernel_rfl):dM P n s0 all K σs o (.s (m+1)):=I8 hg h
theorem Ua{lo:Nat}{s':AS}(h:bn P n (nth σs lo) o=some s')(he:s'=nth σs lo:=by kernel_rfl)(hg:cc all (nth σs lo) o=true:=by kernel_rfl):dM P n s0 all K σs o (.v lo 1):=hI (eo ⟨hg,eI h he⟩ iQ)
def uh(all:Array Oper)(σs:List AS)(o:Oper)(d:Nat):Nat→Nat→List (Bool×Option (FuncId×List AV)×Option AV)
 | _,0=>[]
 | lo,k+1=>(cc all (nth σs lo) o,eJ (nth σs lo) o,look d (nth σs lo).t)::uh all σs o d (lo+1) k
def wm(x:Bool×Option (FuncId×List AV)×Option AV):Nat→List (Bool×Option (FuncId×List AV)×Option AV)
 | 0=>[]
 | k+1=>x::wm x k
theorem GM{d:Nat}{f:FuncId}{args:List AV}{V:AV}:∀{k lo:Nat},uh all σs o d lo k=wm (true,some (f,args),some V) k→dd lo k fun j=>cc all (nth σs j) o=true∧eJ (nth σs j) o=some (f,args)∧look d (nth σs j).t=some V
 | 0,_,_=>trivial
 | k+1,lo,h=>by
  simp only[uh,wm,List.cons.injEq,Prod.mk.injEq]at h;exact⟨⟨h.1.1,h.1.2.1,h.1.2.2⟩,GM h.2⟩
theorem bL(lo k d:Nat){f:FuncId}{args:List AV}{V:AV}(hc:aN P f args (fun v _=>v=V))(hcl:cB P f=true:=by kernel_rfl)(hv:V.cu []=true:=by kernel_rfl)(hd:o.dst=some d:=by kernel_rfl)(hdn:Nat.ble (d+1) n=true:=by kernel_rfl)
  (h:uh all σs o d lo k=wm (true,some (f,args),some V) k:=by kernel_rfl):dM P n s0 all K σs o (.c lo k):=Oz V hc hcl hv d hd hdn (GM h)
def wU(σs:List AS)(d:Nat):Nat→Nat→List (Option (List AV)×Bool×Option AV×Bool)
 | _,0=>[]
 | lo,k+1=>(look d (nth σs lo).o,(look d (nth σs lo).r).isNone,look d (nth σs lo).t,has (nth σs lo).u d)::wU σs d (lo+1) k
def vY(x:Option (List AV)×Bool×Option AV×Bool):Nat→List (Option (List AV)×Bool×Option AV×Bool)
 | 0=>[]
 | k+1=>x::vY x k
theorem Iz{d:Nat}{cs:List AV}:∀{k lo:Nat},wU σs d lo k=vY (some cs,true,some (.ptr d 0),true) k→dd lo k fun j=>look d (nth σs j).o=some cs∧look d (nth σs j).r=none∧look d (nth σs j).t=some (.ptr d 0)∧has (nth σs j).u d=true
 | 0,_,_=>trivial
 | k+1,lo,h=>by
  simp only[wU,vY,List.cons.injEq,Prod.mk.injEq]at h;exact⟨⟨h.1.1,by simpa using h.1.2.1,h.1.2.2.1,h.1.2.2.2⟩,Iz h.2⟩
theorem nT(lo k T d:Nat)(cs:List AV)(hg:o.guard.isNone=true:=by kernel_rfl)(hop:o.op=.alloc T:=by kernel_rfl)(hd:o.dst=some d:=by kernel_rfl)(hdn:Nat.ble (d+1) (min n 450000)=true:=by kernel_rfl)(hz:d5 P T=some cs:=by kernel_rfl)(hu:has s0.u d=false:=by kernel_rfl)
  (h:wU σs d lo k=vY (some cs,true,some (.ptr d 0),true) k:=by kernel_rfl):dM P n s0 all K σs o (.a lo k):=TU T d cs hg hop hd hdn hz hu (Iz h)
def xp(all:Array Oper)(σs:List AS)(o:Oper)(d:Nat):Nat→Nat→List (Bool×Option (FuncId×List AV)×Option AV×Option bj×Bool×Bool)
 | _,0=>[]
 | lo,k+1=>(cc all (nth σs lo) o,eJ (nth σs lo) o,look d (nth σs lo).t,look d (nth σs lo).r,(look d (nth σs lo).o).isNone,has (nth σs lo).u d)::xp all σs o d (lo+1) k
def xa(x:Bool×Option (FuncId×List AV)×Option AV×Option bj×Bool×Bool):Nat→List (Bool×Option (FuncId×List AV)×Option AV×Option bj×Bool×Bool)
 | 0=>[]
 | k+1=>x::xa x k
theorem Fh{d:Nat}{f:FuncId}{args:List AV}{V:AV}{ar:bj}:∀{k lo:Nat},xp all σs o d lo k=xa (true,some (f,args),some V,some ar,true,true) k→dd lo k fun j=>cc all (nth σs j) o=true∧eJ (nth σs j) o=some (f,args)∧look d (nth σs j).t=some V∧look d (nth σs j).r=some ar∧look d (nth σs j).o=none∧has (nth σs j).u d=true
 | 0,_,_=>trivial
 | k+1,lo,h=>by
  simp only[xp,xa,List.cons.injEq,Prod.mk.injEq]at h;exact⟨⟨h.1.1,h.1.2.1,h.1.2.2.1,h.1.2.2.2.1,by simpa using h.1.2.2.2.2.1,h.1.2.2.2.2.2⟩,Fh h.2⟩
theorem xA(lo k d:Nat){f:FuncId}{args:List AV}{V:AV}{id:Nat}{ar:bj}(hc:aN P f args (fun v s1=>v=V∧look id s1.r=some ar))(hone:∀(N:Nat→Prop) w ι x,Rel N w ι V x→∃y,ι id=some y)(hcl:cB P f=true:=by kernel_rfl)
  (hd:o.dst=some d:=by kernel_rfl) (hdn:Nat.ble (d+1) n=true:=by kernel_rfl) (hu:has s0.u d=false:=by kernel_rfl) (htg:Nat.ble (id+1) TG=true:=by kernel_rfl) (h:xp all σs o d lo k=xa (true,some (f,args),some (V.d7 id d),some ar,true,true) k:=by kernel_rfl):dM P n s0 all K σs o (.o lo k):=JJ V d htg hc hcl hone hd hdn hu (Fh h)
end
def bt(p:Nat×Nat):List AV:=[.adr p.1 p.2]
def UZ(k id g off:Nat)(s:AS):AS:={ s with t:=aR k (.pp id g off) s.t }
def xx(k:Nat)(v:AV)(s:AS):AS:={ s with t:=aR k v s.t }
theorem aQ.qI{cx:Cx}{s:AS}{a:Act}{w:World}{ι:Env}(h:aQ cx s a w ι){k:Nat}{v:AV}(hv:∀x,a.tmps[k]?=some x→Rel (NN cx.M ι) w ι v x)(hk:∃u,look k s.t=some u):aQ cx (xx k v s) a w ι:=by
 refine⟨⟨h.hs.below,h.hs.old,h.hs.use,h.hs.own,h.hs.inj,h.hs.ko,h.hs.kr,h.hs.objs,h.hs.arrs,h.hs.pin⟩,h.dfr,h.n,fun j y hj=>?_⟩;have hj':look j (aR k v s.t)=some y:=hj;rw[bV]at hj';split at hj'
 ·rename_i e;subst e;injection hj' with hj';subst hj'
  obtain⟨u,hu⟩:=hk;obtain⟨x,hx,_⟩:=h.tmp j u hu;exact⟨x,hx,hv x hx⟩
 ·exact h.tmp j y hj'
section
variable{cx:Cx}{Q:Exit→Act→World→Prop}{ks:List av}{e:Exit}{s:AS}{all:Array Oper}{l:List Oper}
theorem O3(k id off:Nat)(h:∀g:Nat,VE cx Q ks e (UZ k id g off s))(hk:look k s.t=some (.ptr id off):=by kernel_rfl):VE cx Q ks e s:=fun a w ι hs=>by
 obtain⟨x,hx,hr⟩:=hs.tmp k _ hk;cases hr with
 | ptr _ _ _ g hg=>exact h g a w ι (hs.qI (v:=.pp id g off) (fun y hy=>by rw[hx]at hy;injection hy with hy;subst hy;exact .pp _ _ _ _ hg) ⟨_,hk⟩)
theorem Lv{a:Act}{w:World}{ι:Env}(hs:aQ cx s a w ι){j k id g off o:Nat}(hj:look j s.t=some (.adr g off))(hk:look k s.t=some (.pp id g o)):aQ cx (xx j (.ptr id off) s) a w ι:=by
 obtain⟨x,hx,hr⟩:=hs.tmp j _ hj;obtain⟨y,hy,hr'⟩:=hs.tmp k _ hk;refine hs.qI (fun z hz=>?_) ⟨_,hj⟩;rw[hx]at hz;injection hz with hz;subst hz
 cases hr with
 | adr _ _ _ =>
  cases hr' with
  | pp _ _ _ _ h2=>exact .ptr _ _ _ _ h2
theorem dB(j k id g off o:Nat)(h:OT cx Q ks all l (xx j (.ptr id off) s))(hj:look j s.t=some (.adr g off):=by kernel_rfl)(hk:look k s.t=some (.pp id g o):=by kernel_rfl):OT cx Q ks all l s:=fun a w ι hs=>h a w ι (Lv hs hj hk)
end
end Go.Proofs.YtnpmlepplfaijaaGreat
