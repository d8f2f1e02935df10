/- Laws of single operations in short form: what the kernel computes of an operation is one premise. No program in sight. -/
import Derived.Test.YtnpmlepplfaijaaGreatIwVx
namespace Go.Proofs.YtnpmlepplfaijaaGreat
set_option linter.all false
open Go.RowKit
def qX(id:Nat)(ar:bo)(s:AS):AS:={ s with r:=aU id ar s.r }
def iJ(d id:Nat)(ar:bo)(s:AS):AS:={ t:=aU d (.ref id) (cR id s.t),o:=dv id s.o,r:=aU id ar s.r,u:=s.u }
def NL(d:Nat)(ar:bo)(s:AS):AS:={ t:=aU d (.ref d) (cR d s.t),o:=dv d s.o,r:=aU d ar s.r,u:=d::s.u }
def Gq(d:Nat)(ar:bo)(s:AS):AS:={ t:=aU d (.ref d) s.t,o:=s.o,r:=aU d ar s.r,u:=d::s.u }
def aa8(k d:Nat)(ar:bo)(s:AS):AS:=⟨aU k (.ref d) s.t,s.o,aU d ar s.r,d::s.u⟩
section
variable{P:Program}{n:Nat}{s:AS}{o:Oper}{α:Type}[Inhabited α]
def iz(n:Nat)(o:Oper):Bool:=match o.dst with|some d=>Nat.ble (d+1) n|none=>false
theorem kJ(h:iz n o=true):∃d,o.dst=some d∧Nat.ble (d+1) n=true:=by
 unfold iz at h;split at h
 ·rename_i d hd;exact⟨d,hd,h⟩
 ·cases h
def NU(P:Program)(n:Nat)(s:AS)(o:Oper):Option (List (List AV)×Int×Nat):=match iz n o,o.op with
 | true,.indexAddr T x y=>match s.ev x,s.ev y,lL P T,eX P T with
  | some (.sl l),some (.int _ i),none,some (_,sz)=>some (l,i,sz)
  | _,_,_,_=>none
 | _,_=>none
theorem bw(enc exp:α→List AV){L:List α}{i:Int}{sz:Nat}(hb:aY i L.length=true)(hz:∀a,(enc a).length=sz)(he:∀a,enc a=exp a)(h:NU P n s o=some (L.map enc,i,sz):=by kernel_rfl):br P n s o=some (s.put o.dst (.cptr (exp (L.getD i.toNat default)))):=by
 unfold NU at h;split at h
 case h_2=>cases h
 rename_i T x y hd hop;obtain⟨d,hd,hn⟩:=kJ hd;split at h
 case h_2=>cases h
 rename_i h1 h2 h3 h4;simp only[Option.some.injEq,Prod.mk.injEq]at h;obtain⟨rfl,rfl,rfl⟩:=h;rw[hd];exact acy enc exp L _ T x y d hop hd hn h1 h2 h3 h4 hb hz he
def ug(P:Program)(n:Nat)(s:AS)(o:Oper):Option (Nat×Nat×Int×List (List AV)):=match iz n o,o.op with
 | true,.indexAddr T x y=>match s.ev x,s.ev y,lL P T,eX P T with
  | some (.ref id),some (.int _ i),none,some (_,sz)=>match look id s.r with
   | some ⟨_,sz',l⟩=>match Nat.beq sz sz' with
    | true=>some (id,sz,i,l)
    | false=>none
   | none=>none
  | _,_,_,_=>none
 | _,_=>none
theorem cS(id sz:Nat)(enc:α→List AV){L:List α}{i:Int}(hb:aY i L.length=true)(h:ug P n s o=some (id,sz,i,L.map enc):=by kernel_rfl):br P n s o=some (s.put o.dst (.eptr id sz i.toNat 0)):=by
 unfold ug at h;split at h
 case h_2=>cases h
 rename_i T x y hd hop;obtain⟨d,hd,hn⟩:=kJ hd;split at h
 case h_2=>cases h
 rename_i h1 h2 h3 h4;split at h
 case h_2=>cases h
 rename_i h5;split at h
 case h_2=>cases h
 rename_i h6;have h6:=Nat.eq_of_beq_eq_true h6;simp only[Option.some.injEq,Prod.mk.injEq]at h;obtain⟨rfl,rfl,rfl,rfl⟩:=h;subst h6;rw[hd];exact O9 enc L _ T x y d hop hd hn h1 h2 h5 h3 h4 hb
def Gk(n:Nat)(s:AS)(o:Oper):Option (TypeId×Nat×Nat×List (List AV)):=match iz n o,o.op with
 | true,.load T x=>match s.ev x with
  | some (.eptr id sz j off)=>match look id s.r with
   | some ⟨_,sz',l⟩=>match Nat.beq sz sz'&&Nat.ble (id+1) TG with
    | true=>some (T,j,off,l)
    | false=>none
   | none=>none
  | _=>none
 | _,_=>none
def YZ:Option AV→AV
 | some v=>v
 | none=>.any
def Th:Option AV→Bool
 | some _=>true
 | none=>false
theorem cp(T:TypeId)(off:Nat)(enc exp:α→List AV){L:List α}{j:Nat}(hj:j<L.length)(he:∀a,enc a=exp a)(h:Gk n s o=some (T,j,off,L.map enc):=by kernel_rfl)(hv:Th (eZ P T ((exp (L.getD j default)).drop off))=true:=by kernel_rfl):
  br P n s o=some (s.put o.dst (YZ (eZ P T ((exp (L.getD j default)).drop off)))):=by
 unfold Gk at h;split at h
 case h_2=>cases h
 rename_i T' x hd hop;obtain⟨d,hd,hn⟩:=kJ hd;split at h
 case h_2=>cases h
 rename_i h1;split at h
 case h_2=>cases h
 rename_i h5;split at h
 case h_2=>cases h
 rename_i h6;rw[Bool.and_eq_true]at h6;have htg:=Nat.le_of_ble_eq_true h6.2;have h6:=Nat.eq_of_beq_eq_true h6.1;simp only[Option.some.injEq,Prod.mk.injEq]at h;obtain⟨rfl,rfl,rfl,rfl⟩:=h;subst h6;cases hq:eZ P T' ((exp (L.getD _ default)).drop _) with
 | none=>rw[hq]at hv;cases hv
 | some v =>
  rw[hd];exact PC enc exp L T' x d htg hop hd hn h1 h5 hj he hq
def vh(P:Program)(s:AS)(o:Oper):Option (Nat×TypeId×Nat×Nat×Nat×List (List AV)):=match o.dst,o.op with
 | none,.store T x y=>match s.ev x,s.ev y with
  | some (.eptr id sz j off),some v=>match look id s.r,gR v,b8 P T with
   | some ⟨et,sz',l⟩,some nv,some k=>match Nat.beq sz sz'&&Nat.beq k nv.length with
    | true=>some (id,et,sz,j,off,l)
    | false=>none
   | _,_,_=>none
  | _,_=>none
 | _,_=>none
def kS(s:AS)(o:Oper):List AV:=match o.op with
 | .store _ _ y=>match s.ev y with
  | some v=>match gR v with|some nv=>nv|none=>[]
  | none=>[]
 | _=>[]
theorem tL(id:Nat)(et:TypeId)(sz off:Nat)(enc exp:α→List AV){L:List α}{j:Nat}(new:α)(hj:j<L.length)(he:∀a,enc a=exp a)(h:vh P s o=some (id,et,sz,j,off,L.map enc):=by kernel_rfl)
  (hl:(Nat.ble (off+(kS s o).length) (exp (L.getD j default)).length&&cZ [] (kS s o))=true:=by kernel_rfl) (hs:fg off (kS s o) (exp (L.getD j default))=exp new:=by kernel_rfl) :
  br P n s o=some (qX id ⟨et,sz,(L.set j new).map enc⟩ s):=by
 unfold vh at h;split at h
 case h_2=>cases h
 rename_i T x y hd hop;split at h
 case h_2=>cases h
 rename_i v h1 h2;split at h
 case h_2=>cases h
 rename_i nv k h5 hv hz;split at h
 case h_2=>cases h
 rename_i h6;simp only[Bool.and_eq_true]at h6;have h7:=Nat.eq_of_beq_eq_true h6.1;have h8:=Nat.eq_of_beq_eq_true h6.2;simp only[Option.some.injEq,Prod.mk.injEq]at h;obtain⟨rfl,rfl,rfl,rfl,rfl,rfl⟩:=h;subst h7;subst h8;have hN:kS s o=nv:=by unfold kS;simp only[hop,h2,hv]
 rw[hN]at hl hs;simp only[Bool.and_eq_true]at hl;exact abZ enc exp L new T x y hop hd h1 h2 h5 hj hv hz he hl.1 hl.2 hs
def Ba(P:Program)(n:Nat)(s:AS)(o:Oper):Option (List (List AV)):=match iz n o,o.op with
 | true,.call ⟨.builtin .len,⟨[x]⟩,⟨[T]⟩⟩=>match s.ev x,eX P T with
  | some (.sl l),some _=>some l
  | some (.ref id),some _=>match look id s.r with
   | some ⟨_,_,l⟩=>some l
   | none=>none
  | _,_=>none
 | _,_=>none
theorem bq(enc:α→List AV)(L:List α)(h:Ba P n s o=some (L.map enc):=by kernel_rfl):br P n s o=some (s.put o.dst (.int .i64 L.length)):=by
 unfold Ba at h;split at h
 case h_2=>cases h
 rename_i x T hd hop;obtain⟨d,hd,hn⟩:=kJ hd;rw[hd];split at h
 ·rename_i h1 h2;injection h with h;subst h
  exact acQ enc L T x d hop hd hn h1 h2
 ·rename_i h1 h2;split at h
  ·rename_i h3;injection h with h;subst h
   exact Ro enc L T x d hop hd hn h1 h3 h2
  ·cases h
 ·cases h
def vX(P:Program)(n:Nat)(s:AS)(o:Oper):Option (Nat×Nat×TypeId×Nat×Nat×List (List AV)×List (List AV)):=match o.dst,o.op with
 | some d,.call ⟨.builtin .append,⟨[x,y]⟩,⟨[T,T']⟩⟩=>match Nat.beq T T'&&Nat.ble (d+1) n,s.ev x,s.ev y,ja P T with
  | true,some (.ref id),some (.sl new),some (et,sz,bytes)=>match look id s.r with
   | some ⟨et',sz',l⟩=>match (Nat.beq et et'&&Nat.beq sz sz')&&!s.u.contains (cW id) with
    | true=>some (d,id,et,sz,bytes,new,l)
    | false=>none
   | none=>none
  | _,_,_,_=>none
 | _,_=>none
theorem cD(d id:Nat)(et:TypeId)(sz:Nat)(enc:α→List AV){L M:List α}{bytes:Nat}{new:List (List AV)}(hnew:new=M.map enc)(hz:∀a,(enc a).length=sz)(hf:fits (L.length+M.length) bytes=true)(h:vX P n s o=some (d,id,et,sz,bytes,new,L.map enc):=by kernel_rfl):
  br P n s o=some (iJ d id ⟨et,sz,(L++M).map enc⟩ s):=by
 unfold vX at h;split at h
 case h_2=>cases h
 rename_i d' x y T T' hd hop;split at h
 case h_2=>cases h
 rename_i hb h1 h2 h3;simp only[Bool.and_eq_true]at hb;have hT:=Nat.eq_of_beq_eq_true hb.1;split at h
 case h_2=>cases h
 rename_i h5;split at h
 case h_2=>cases h
 rename_i h6;simp only[Bool.and_eq_true,Bool.not_eq_true']at h6;have h7:=Nat.eq_of_beq_eq_true h6.1.1;have h8:=Nat.eq_of_beq_eq_true h6.1.2;have h9:=h6.2;simp only[Option.some.injEq,Prod.mk.injEq]at h;obtain⟨rfl,rfl,rfl,rfl,rfl,rfl,rfl⟩:=h;have hT':T=T':=hT;subst hT';subst h7;subst h8;exact VL enc L M T x y _ hop hd hb.2 h1 h2 hnew h5 h3 hz hf h9 rfl rfl
def Kc(P:Program)(n:Nat)(s:AS)(o:Oper):Option (Nat×TypeId×Nat×Nat×List (List AV)):=match o.dst,o.op with
 | some d,.call ⟨.builtin .append,⟨[x,y]⟩,⟨[T,T']⟩⟩=>match Nat.beq T T'&&(Nat.ble (d+1) n&&!has s.u d),s.ev x,s.ev y,ja P T with
  | true,some .nils,some (.sl new),some (et,sz,bytes)=>some (d,et,sz,bytes,new)
  | _,_,_,_=>none
 | _,_=>none
theorem CD(d:Nat)(et:TypeId)(sz:Nat)(enc:α→List AV){M:List α}{bytes:Nat}{new:List (List AV)}(hnew:new=M.map enc)(hz:∀a,(enc a).length=sz)(hf:fits M.length bytes=true)(h:Kc P n s o=some (d,et,sz,bytes,new):=by kernel_rfl):
  br P n s o=some (NL d ⟨et,sz,M.map enc⟩ s):=by
 unfold Kc at h;split at h
 case h_2=>cases h
 rename_i d' x y T T' hd hop;split at h
 case h_2=>cases h
 rename_i hb h1 h2 h3;simp only[Bool.and_eq_true,Bool.not_eq_true']at hb;have hT:=Nat.eq_of_beq_eq_true hb.1;simp only[Option.some.injEq,Prod.mk.injEq]at h;obtain⟨rfl,rfl,rfl,rfl,rfl⟩:=h;have hT':T=T':=hT;subst hT';exact Va enc M T x y _ hop hd hb.2.1 h1 h2 hnew hb.2.2 h3 hz hf rfl rfl
def Lv(P:Program)(n:Nat)(s:AS)(o:Oper)(new:List (List AV)):Option AS:=match iz n o with
 | true=>some (s.put o.dst (.sl new))
 | false=>none
theorem fB(enc:α→List AV)(M:List α){new:List (List AV)}(hnew:new=M.map enc)(h:br P n s o=Lv P n s o new:=by kernel_rfl)(hd:iz n o=true:=by kernel_rfl):br P n s o=some (s.put o.dst (.sl (M.map enc))):=by
 rw[h,Lv,hd,hnew]
def JR(n:Nat)(s:AS)(o:Oper):Option (BinOp×AV×AV):=match iz n o,o.op with
 | true,.binOp op _ x y _=>match s.ev x,s.ev y with
  | some u,some v=>some (op,u,v)
  | _,_=>none
 | _,_=>none
theorem YD{a b:ByteArray}(hb:tZ a b=true)(h:JR n s o=some (.add,.str a,.str b):=by kernel_rfl):br P n s o=some (s.put o.dst (.str (a++b))):=by
 unfold JR at h;split at h
 case h_2=>cases h
 rename_i hd hop;obtain⟨d,hd,hn⟩:=kJ hd;split at h
 case h_2=>cases h
 rename_i h1 h2;simp only[Option.some.injEq,Prod.mk.injEq]at h;obtain⟨rfl,rfl,rfl⟩:=h;rw[hd];exact Ss _ _ _ _ d hop hd hn h1 h2 hb
end
section
variable{cx:Cx}{Q:AV→AS→Prop}{s:AS}{fn:Func}
theorem ba{V:AV}(h:gu cx.P s fn.results.toList=some [V]:=by kernel_rfl):VE cx (bodyPost cx.P fn (bu cx.M cx.w0 (fun v _=>v=V))) [] .ret s:=tA rfl h rfl
theorem dS{l:List AV}(h:gu cx.P s fn.results.toList=some l:=by kernel_rfl)(h2:vg l=.tup l:=by kernel_rfl):VE cx (bodyPost cx.P fn (bu cx.M cx.w0 (fun v _=>v=.tup l))) [] .ret s:=tA rfl h h2
theorem fa{V:AV}{id:Nat}{ar:bo}(h:gu cx.P s fn.results.toList=some [V]:=by kernel_rfl)(h2:look id s.r=some ar:=by kernel_rfl):VE cx (bodyPost cx.P fn (bu cx.M cx.w0 (fun v s=>v=V∧look id s.r=some ar))) [] .ret s:=tA rfl h ⟨rfl,h2⟩
theorem vp{l:List AV}{id:Nat}{ar:bo}(h:gu cx.P s fn.results.toList=some l:=by kernel_rfl)(h2:look id s.r=some ar:=by kernel_rfl)(h3:vg l=.tup l:=by kernel_rfl):VE cx (bodyPost cx.P fn (bu cx.M cx.w0 (fun v s=>v=.tup l∧look id s.r=some ar))) [] .ret s:=tA rfl h ⟨h3,h2⟩
end
def yK(id:Nat)(s:AS):AS:=match look id s.r with|some ar=>s.bZ id ar.l|none=>s
def tG(id:Nat)(s:AS):Bool:=match look id s.r with|some _=>!s.u.contains (cW id)&&Nat.ble (id+1) TG|none=>false
theorem tJ{b:Bool}{id:Nat}(h:(!b&&Nat.ble (id+1) TG)=true):b=false∧id<TG:=by
 rw[Bool.and_eq_true]at h;exact⟨by simpa using h.1,Nat.le_of_ble_eq_true h.2⟩
def Hj(id nid:Nat)(s:AS):AS:=match look id s.r with|some ar=>⟨kI id nid s.t,lO id nid s.o,aU nid ar (era id s.r),nid::s.u⟩|none=>s
def Jz(k:Nat)(s:AS):AS:=match look k s.o with|some cs=>{ s with o:=aU k (cs.map eD) s.o }|none=>s
def xT(d i n:Nat)(et:TypeId)(sz:Nat)(s:AS):AS:=match look i s.o with|some cs=>⟨s.t,aU i (cs.set n (.ref d)) s.o,aU d ⟨et,sz,[]⟩ s.r,d::s.u⟩|none=>s
def zK(i n:Nat)(s:AS):Bool:=match look i s.o with|some cs=>(match cs[n]? with|some .nils=>true|_=>false)|none=>false
section
variable{cx:Cx}{Q:Exit→Act→World→Prop}{ks:List aq}{e:Exit}{s:AS}{all:Array Oper}{l:List Oper}
theorem kB(id:Nat)(h:VE cx Q ks e (yK id s))(ha:tG id s=true:=by kernel_rfl):VE cx Q ks e s:=by
 unfold tG at ha;unfold yK at h;split at ha
 ·rename_i ar har;rw[har]at h;exact Rj id (tJ ha).2 har (tJ ha).1 h
 ·cases ha
theorem lT(id:Nat)(h:OT cx Q ks all l (yK id s))(ha:tG id s=true:=by kernel_rfl):OT cx Q ks all l s:=by
 unfold tG at ha;unfold yK at h;split at ha
 ·rename_i ar har;rw[har]at h;exact Xa id (tJ ha).2 har (tJ ha).1 h
 ·cases ha
theorem HD(id nid:Nat)(h:VE cx Q ks e (Hj id nid s))(ha:tG id s=true:=by kernel_rfl)(hn:has s.u nid=false:=by kernel_rfl):VE cx Q ks e s:=by
 unfold tG at ha;unfold Hj at h;split at ha
 ·rename_i ar har;rw[har]at h;exact QL id nid (tJ ha).2 har hn (tJ ha).1 h
 ·cases ha
theorem kO(k:Nat)(h:VE cx Q ks e (Jz k s)):VE cx Q ks e s:=by
 unfold Jz at h;split at h
 ·rename_i v hv;exact TJ k hv h
 ·exact h
theorem Yu{all:Array Oper}{f:Func}{p:List Nat}{i:Nat}(T:TypeId)(d:Nat){e:TypeId}{sz:Nat}(k:OT cx Q ks all (aX f p (i+1)) (Gq d ⟨e,sz,[]⟩ s))(hl:aX f p i=bd f p i::aX f p (i+1):=by kernel_rfl)(hg:cw all s (bd f p i)=true:=by kernel_rfl)(hop:(bd f p i).op=.buildSlice T 0 #[]:=by kernel_rfl)(hd:(bd f p i).dst=some d:=by kernel_rfl)(hn:Nat.ble (d+1) cx.n=true:=by kernel_rfl)
  (ht:cx.P.underlying T=some (.slice e):=by kernel_rfl) (hz:b8 cx.P e=some sz:=by kernel_rfl) (hu:has s.u d=false:=by kernel_rfl):OT cx Q ks all (aX f p i) s:=abb _ T d hl hg hop hd hn ht hz hu k
theorem Xl{all:Array Oper}{f:Func}{p:List Nat}{i:Nat}(T:TypeId)(len:Nat)(parts:Array (Nat×Operand))(d:Nat){e:TypeId}{sz:Nat}{l:List (List AV)}(k:OT cx Q ks all (aX f p (i+1)) (Gq d ⟨e,sz,l⟩ s))(hl:aX f p i=bd f p i::aX f p (i+1):=by kernel_rfl)(hg:cw all s (bd f p i)=true:=by kernel_rfl)
  (hop:(bd f p i).op=.buildSlice T len parts:=by kernel_rfl) (hd:(bd f p i).dst=some d:=by kernel_rfl) (hn:Nat.ble (d+1) cx.n=true:=by kernel_rfl) (hb:mr cx.P s T len parts.toList=some (.sl l):=by kernel_rfl) (ht:eX cx.P T=some (e,sz):=by kernel_rfl) (hu:has s.u d=false:=by kernel_rfl):OT cx Q ks all (aX f p i) s:=by
 rw[hl];refine gf _ hg fun a w ι hs=>?_;refine wpList_plain rfl fun K hK=>?_;unfold mr at hb;split at hb
 case h_2=>cases hb
 rename_i e1 sz' ps hts hps;split at hb
 case h_2=>cases hb
 rename_i l' hl';split at hb
 case isFalse=>cases hb
 rename_i hcond;obtain⟨c1,c2,c3,c4⟩:=hcond;injection hb with hb;injection hb with hb;subst hb
 rw[ht]at hts;injection hts with hts;injection hts with h1 h2;subst h1;subst h2
 obtain⟨q1,q2⟩:=yq hs hps;unfold eX at ht;split at ht
 case h_2=>cases ht
 rename_i e' hu';cases hin:cx.P.info? e' with
 | none=>simp[b8,hin]at ht
 | some ie =>
  simp only[b8,hin,Option.map_some,Option.some.injEq,Prod.mk.injEq]at ht;obtain⟨rfl,hsz0⟩:=ht;have hsz:ie.size=sz'+1:=hsz0;clear hsz0;unfold eO at c4;cases hzz:ie.zero with
  | none=>simp[hin,hzz]at c4
  | some z =>
   have hl0:(parts.map fun (y:Nat×Operand)=>(y.1,a.eval y.2)).toList=parts.toList.map fun y=>(y.1,a.eval y.2):=Array.toList_map;obtain⟨zs',ys,f1,f2,f3,f4,f5,f6,f7⟩:=AL (zs:=(Array.range (len*ie.size)).map (z.cells[· % z.cells.size]!)) q1 q2 hl' (by simp[c1,hsz]);rw[←hl0]at f1;have hy:zs'.toList=ys:=by
    rw[f2,c1];simp[hsz]
   have f1':Instr.fill (fun i=>some (i*ie.size,ie.size)) ((Array.range (len*ie.size)).map (z.cells[· % z.cells.size]!)) (parts.map fun (y:Nat×Operand)=>(y.1,a.eval y.2)).toList=some zs':=by rw[hsz];rw[hsz]at f1;exact f1
   have hpos:0<len*ie.size:=Nat.mul_pos c2 (by omega);have hrun:=run_buildSlice (P:=cx.P) w T e' len (parts.map fun (y:Nat×Operand)=>(y.1,a.eval y.2)) zs' ie z hu' hin hzz (by rw[hsz];omega) (by omega) f1';have hm:len*1≤len*(sz'+1):=Nat.mul_le_mul_left _ (by omega);have hs2:=hs.yG (Nat.le_of_ble_eq_true hn) hu (e:=e') (sz:=sz'+1) (n:=len) (l:=l') (vs:=ys) (by rw[f4,c1]) (by unfold maxLen;omega) (by rw[f3,c1]) f5 f6 f7;unfold Oper.wp execOp;simp only[hop,Sem.run_bind,hrun,Result.andThen_ok,Sem.run_pure];rw[hd];rw[←hy]at hs2;simp only[Array.toArray_toList]at hs2;exact hK _ _ (k _ _ _ hs2)
theorem fh(d k:Nat)(et:TypeId)(sz:Nat)(h:VE cx Q ks e (aa8 k d ⟨et,sz,[]⟩ s))(hd:has s.u d=false:=by kernel_rfl)(hk:look k s.t=some .nils:=by kernel_rfl):VE cx Q ks e s:=Sd d k et sz hd hk h
theorem xZ(d i n:Nat)(et:TypeId)(sz:Nat)(h:VE cx Q ks e (xT d i n et sz s))(hd:has s.u d=false:=by kernel_rfl)(hk:zK i n s=true:=by kernel_rfl):VE cx Q ks e s:=by
 unfold zK at hk;unfold xT at h;split at hk
 ·rename_i cs hcs;rw[hcs]at h;split at hk
  ·rename_i hn;exact Se d i n et sz hd hcs hn h
  ·cases hk
 ·cases hk
end
section
variable{P:Program}{n:Nat}{s0:AS}{all:Array Oper}{K:Nat}{σs:List AS}{o:Oper}
theorem g9{m:Nat}{s':AS}(h:br P n (nth σs m) o=some s')(he:s'=nth σs (m+1):=by kernel_rfl)(hg:o.guard.isNone=true:=by kernel_rfl):eo P n s0 all K σs o (.s (m+1)):=I2 hg (h.trans (congrArg some he))
theorem bQ(m:Nat)(h:br P n (nth σs m) o=some (nth σs (m+1)):=by kernel_rfl)(hg:o.guard.isNone=true:=by kernel_rfl):eo P n s0 all K σs o (.s (m+1)):=I2 hg h
theorem WT{lo:Nat}{s':AS}(h:br P n (nth σs lo) o=some s')(he:s'=nth σs lo:=by kernel_rfl)(hg:cw all (nth σs lo) o=true:=by kernel_rfl):eo P n s0 all K σs o (.v lo 1):=jd (eT ⟨hg,ft h he⟩ jV)
def xk(all:Array Oper)(σs:List AS)(o:Oper)(d:Nat):Nat→Nat→List (Bool×Option (FuncId×List AV)×Option AV)
 | _,0=>[]
 | lo,k+1=>(cw all (nth σs lo) o,fv (nth σs lo) o,look d (nth σs lo).t)::xk all σs o d (lo+1) k
def Au(x:Bool×Option (FuncId×List AV)×Option AV):Nat→List (Bool×Option (FuncId×List AV)×Option AV)
 | 0=>[]
 | k+1=>x::Au x k
theorem IH{d:Nat}{f:FuncId}{args:List AV}{V:AV}:∀{k lo:Nat},xk all σs o d lo k=Au (true,some (f,args),some V) k→dr lo k fun j=>cw all (nth σs j) o=true∧fv (nth σs j) o=some (f,args)∧look d (nth σs j).t=some V
 | 0,_,_=>trivial
 | k+1,lo,h=>by
  simp only[xk,Au,List.cons.injEq,Prod.mk.injEq]at h;exact⟨⟨h.1.1,h.1.2.1,h.1.2.2⟩,IH h.2⟩
theorem cb(lo k d:Nat){f:FuncId}{args:List AV}{V:AV}(hc:aO P f args (fun v _=>v=V))(hcl:cN P f=true:=by kernel_rfl)(hv:V.cJ []=true:=by kernel_rfl)(hd:o.dst=some d:=by kernel_rfl)(hdn:Nat.ble (d+1) n=true:=by kernel_rfl)
  (h:xk all σs o d lo k=Au (true,some (f,args),some V) k:=by kernel_rfl):eo P n s0 all K σs o (.c lo k):=ZC V hc hcl hv d hd hdn (IH h)
def zM(σs:List AS)(d:Nat):Nat→Nat→List (Option (List AV)×Bool×Option AV×Bool)
 | _,0=>[]
 | lo,k+1=>(look d (nth σs lo).o,(look d (nth σs lo).r).isNone,look d (nth σs lo).t,has (nth σs lo).u d)::zM σs d (lo+1) k
def yZ(x:Option (List AV)×Bool×Option AV×Bool):Nat→List (Option (List AV)×Bool×Option AV×Bool)
 | 0=>[]
 | k+1=>x::yZ x k
theorem H0{d:Nat}{cs:List AV}:∀{k lo:Nat},zM σs d lo k=yZ (some cs,true,some (.ptr d 0),true) k→dr lo k fun j=>look d (nth σs j).o=some cs∧look d (nth σs j).r=none∧look d (nth σs j).t=some (.ptr d 0)∧has (nth σs j).u d=true
 | 0,_,_=>trivial
 | k+1,lo,h=>by
  simp only[zM,yZ,List.cons.injEq,Prod.mk.injEq]at h;exact⟨⟨h.1.1,by simpa using h.1.2.1,h.1.2.2.1,h.1.2.2.2⟩,H0 h.2⟩
theorem qh(lo k T d:Nat)(cs:List AV)(hg:o.guard.isNone=true:=by kernel_rfl)(hop:o.op=.alloc T:=by kernel_rfl)(hd:o.dst=some d:=by kernel_rfl)(hdn:Nat.ble (d+1) (min n 450000)=true:=by kernel_rfl)(hz:eO P T=some cs:=by kernel_rfl)(hu:has s0.u d=false:=by kernel_rfl)
  (h:zM σs d lo k=yZ (some cs,true,some (.ptr d 0),true) k:=by kernel_rfl):eo P n s0 all K σs o (.a lo k):=ZH T d cs hg hop hd hdn hz hu (H0 h)
def Ad(all:Array Oper)(σs:List AS)(o:Oper)(d:Nat):Nat→Nat→List (Bool×Option (FuncId×List AV)×Option AV×Option bo×Bool×Bool)
 | _,0=>[]
 | lo,k+1=>(cw all (nth σs lo) o,fv (nth σs lo) o,look d (nth σs lo).t,look d (nth σs lo).r,(look d (nth σs lo).o).isNone,has (nth σs lo).u d)::Ad all σs o d (lo+1) k
def Ax(x:Bool×Option (FuncId×List AV)×Option AV×Option bo×Bool×Bool):Nat→List (Bool×Option (FuncId×List AV)×Option AV×Option bo×Bool×Bool)
 | 0=>[]
 | k+1=>x::Ax x k
theorem M6{d:Nat}{f:FuncId}{args:List AV}{V:AV}{ar:bo}:∀{k lo:Nat},Ad all σs o d lo k=Ax (true,some (f,args),some V,some ar,true,true) k→dr lo k fun j=>cw all (nth σs j) o=true∧fv (nth σs j) o=some (f,args)∧look d (nth σs j).t=some V∧look d (nth σs j).r=some ar∧look d (nth σs j).o=none∧has (nth σs j).u d=true
 | 0,_,_=>trivial
 | k+1,lo,h=>by
  simp only[Ad,Ax,List.cons.injEq,Prod.mk.injEq]at h;exact⟨⟨h.1.1,h.1.2.1,h.1.2.2.1,h.1.2.2.2.1,by simpa using h.1.2.2.2.2.1,h.1.2.2.2.2.2⟩,M6 h.2⟩
theorem EL(lo k d:Nat){f:FuncId}{args:List AV}{V:AV}{id:Nat}{ar:bo}(hc:aO P f args (fun v s1=>v=V∧look id s1.r=some ar))(hone:∀(N:Nat→Prop) w ι x,Rel N w ι V x→∃y,ι id=some y)(hcl:cN P f=true:=by kernel_rfl)
  (hd:o.dst=some d:=by kernel_rfl) (hdn:Nat.ble (d+1) n=true:=by kernel_rfl) (hu:has s0.u d=false:=by kernel_rfl) (htg:Nat.ble (id+1) TG=true:=by kernel_rfl) (h:Ad all σs o d lo k=Ax (true,some (f,args),some (V.eL id d),some ar,true,true) k:=by kernel_rfl):eo P n s0 all K σs o (.o lo k):=Pt V d htg hc hcl hone hd hdn hu (M6 h)
end
def bD(p:Nat×Nat):List AV:=[.adr p.1 p.2]
def S3(k id g off:Nat)(s:AS):AS:={ s with t:=aU k (.pp id g off) s.t }
def F1(k:Nat)(v:AV)(s:AS):AS:={ s with t:=aU k v s.t }
theorem aR.oF{cx:Cx}{s:AS}{a:Act}{w:World}{ι:Env}(h:aR cx s a w ι){k:Nat}{v:AV}(hv:∀x,a.tmps[k]?=some x→Rel (NN cx.M ι) w ι v x)(hk:∃u,look k s.t=some u):aR cx (F1 k v s) a w ι:=by
 refine⟨⟨h.hs.below,h.hs.old,h.hs.use,h.hs.own,h.hs.inj,h.hs.ko,h.hs.kr,h.hs.objs,h.hs.arrs,h.hs.pin⟩,h.dfr,h.n,fun j y hj=>?_⟩;have hj':look j (aU k v s.t)=some y:=hj;rw[ce]at hj';split at hj'
 ·rename_i e;subst e;injection hj' with hj';subst hj'
  obtain⟨u,hu⟩:=hk;obtain⟨x,hx,_⟩:=h.tmp j u hu;exact⟨x,hx,hv x hx⟩
 ·exact h.tmp j y hj'
section
variable{cx:Cx}{Q:Exit→Act→World→Prop}{ks:List aq}{e:Exit}{s:AS}{all:Array Oper}{l:List Oper}
theorem Tg(k id off:Nat)(h:∀g:Nat,VE cx Q ks e (S3 k id g off s))(hk:look k s.t=some (.ptr id off):=by kernel_rfl):VE cx Q ks e s:=fun a w ι hs=>by
 obtain⟨x,hx,hr⟩:=hs.tmp k _ hk;cases hr with
 | ptr _ _ _ g hg=>exact h g a w ι (hs.oF (v:=.pp id g off) (fun y hy=>by rw[hx]at hy;injection hy with hy;subst hy;exact .pp _ _ _ _ hg) ⟨_,hk⟩)
theorem UM{a:Act}{w:World}{ι:Env}(hs:aR cx s a w ι){j k id g off o:Nat}(hj:look j s.t=some (.adr g off))(hk:look k s.t=some (.pp id g o)):aR cx (F1 j (.ptr id off) s) a w ι:=by
 obtain⟨x,hx,hr⟩:=hs.tmp j _ hj;obtain⟨y,hy,hr'⟩:=hs.tmp k _ hk;refine hs.oF (fun z hz=>?_) ⟨_,hj⟩;rw[hx]at hz;injection hz with hz;subst hz
 cases hr with
 | adr _ _ _ =>
  cases hr' with
  | pp _ _ _ _ h2=>exact .ptr _ _ _ _ h2
theorem dT(j k id g off o:Nat)(h:OT cx Q ks all l (F1 j (.ptr id off) s))(hj:look j s.t=some (.adr g off):=by kernel_rfl)(hk:look k s.t=some (.pp id g o):=by kernel_rfl):OT cx Q ks all l s:=fun a w ι hs=>h a w ι (UM hs hj hk)
end
end Go.Proofs.YtnpmlepplfaijaaGreat
