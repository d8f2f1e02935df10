/- Laws of single operations in short form: what the kernel computes of an operation is one premise. No program in sight. -/
import Derived.Test.YtocgkfoifehcbaaGreatRfVx
namespace Go.Proofs.YtocgkfoifehcbaaGreat
set_option linter.all false
open Go.RowKit
def oS(id:Nat)(ar:br)(s:AS):AS:={ s with r:=aZ id ar s.r }
def fB(d id:Nat)(ar:br)(s:AS):AS:={ t:=aZ d (.ref id) (cQ id s.t),o:=dJ id s.o,r:=aZ id ar s.r,u:=s.u }
def HB(d:Nat)(ar:br)(s:AS):AS:={ t:=aZ d (.ref d) s.t,o:=s.o,r:=aZ d ar s.r,u:=d::s.u }
def MR(k d:Nat)(ar:br)(s:AS):AS:=⟨aZ k (.ref d) s.t,s.o,aZ d ar s.r,d::s.u⟩
section
variable{P:Program}{n:Nat}{s:AS}{o:Oper}{α:Type}[Inhabited α]
def iy(n:Nat)(o:Oper):Bool:=match o.dst with|some d=>Nat.ble (d+1) n|none=>false
theorem lu(h:iy n o=true):∃d,o.dst=some d∧Nat.ble (d+1) n=true:=by
 unfold iy at h;split at h
 ·rename_i d hd;exact⟨d,hd,h⟩
 ·cases h
def ED(P:Program)(n:Nat)(s:AS)(o:Oper):Option (List (List AV)×Int×Nat):=match iy n o,o.op with
 | true,.indexAddr T x y=>match s.ev x,s.ev y,ke P T,eI P T with
  | some (.sl l),some (.int _ i),none,some (_,sz)=>some (l,i,sz)
  | _,_,_,_=>none
 | _,_=>none
theorem bi(enc exp:α→List AV){L:List α}{i:Int}{sz:Nat}(hb:aX i L.length=true)(hz:∀a,(enc a).length=sz)(he:∀a,enc a=exp a)(h:ED P n s o=some (L.map enc,i,sz):=by kernel_rfl):bE P n s o=some (s.put o.dst (.cptr (exp (L.getD i.toNat default)))):=by
 unfold ED at h;split at h
 case h_2=>cases h
 rename_i T x y hd hop;obtain⟨d,hd,hn⟩:=lu hd;split at h
 case h_2=>cases h
 rename_i h1 h2 h3 h4;simp only[Option.some.injEq,Prod.mk.injEq]at h;obtain⟨rfl,rfl,rfl⟩:=h;rw[hd];exact Sp enc exp L _ T x y d hop hd hn h1 h2 h3 h4 hb hz he
def Al(P:Program)(n:Nat)(s:AS)(o:Oper):Option (Nat×Nat×Int×List (List AV)):=match iy n o,o.op with
 | true,.indexAddr T x y=>match s.ev x,s.ev y,ke P T,eI P T with
  | some (.ref id),some (.int _ i),none,some (_,sz)=>match look id s.r with
   | some ⟨_,sz',l⟩=>match Nat.beq sz sz' with
    | true=>some (id,sz,i,l)
    | false=>none
   | none=>none
  | _,_,_,_=>none
 | _,_=>none
theorem cS(id sz:Nat)(enc:α→List AV){L:List α}{i:Int}(hb:aX i L.length=true)(h:Al P n s o=some (id,sz,i,L.map enc):=by kernel_rfl):bE P n s o=some (s.put o.dst (.eptr id sz i.toNat 0)):=by
 unfold Al at h;split at h
 case h_2=>cases h
 rename_i T x y hd hop;obtain⟨d,hd,hn⟩:=lu hd;split at h
 case h_2=>cases h
 rename_i h1 h2 h3 h4;split at h
 case h_2=>cases h
 rename_i h5;split at h
 case h_2=>cases h
 rename_i h6;have h6:=Nat.eq_of_beq_eq_true h6;simp only[Option.some.injEq,Prod.mk.injEq]at h;obtain⟨rfl,rfl,rfl,rfl⟩:=h;subst h6;rw[hd];exact Lh enc L _ T x y d hop hd hn h1 h2 h5 h3 h4 hb
def Dr(n:Nat)(s:AS)(o:Oper):Option (TypeId×Nat×Nat×List (List AV)):=match iy n o,o.op with
 | true,.load T x=>match s.ev x with
  | some (.eptr id sz j off)=>match look id s.r with
   | some ⟨_,sz',l⟩=>match Nat.beq sz sz'&&Nat.ble (id+1) TG with
    | true=>some (T,j,off,l)
    | false=>none
   | none=>none
  | _=>none
 | _,_=>none
def VK:Option AV→AV
 | some v=>v
 | none=>.any
def Rz:Option AV→Bool
 | some _=>true
 | none=>false
theorem cR(T:TypeId)(off:Nat)(enc exp:α→List AV){L:List α}{j:Nat}(hj:j<L.length)(he:∀a,enc a=exp a)(h:Dr n s o=some (T,j,off,L.map enc):=by kernel_rfl)(hv:Rz (fy P T ((exp (L.getD j default)).drop off))=true:=by kernel_rfl):
  bE P n s o=some (s.put o.dst (VK (fy P T ((exp (L.getD j default)).drop off)))):=by
 unfold Dr at h;split at h
 case h_2=>cases h
 rename_i T' x hd hop;obtain⟨d,hd,hn⟩:=lu hd;split at h
 case h_2=>cases h
 rename_i h1;split at h
 case h_2=>cases h
 rename_i h5;split at h
 case h_2=>cases h
 rename_i h6;rw[Bool.and_eq_true]at h6;have htg:=Nat.le_of_ble_eq_true h6.2;have h6:=Nat.eq_of_beq_eq_true h6.1;simp only[Option.some.injEq,Prod.mk.injEq]at h;obtain⟨rfl,rfl,rfl,rfl⟩:=h;subst h6;cases hq:fy P T' ((exp (L.getD _ default)).drop _) with
 | none=>rw[hq]at hv;cases hv
 | some v =>
  rw[hd];exact TY enc exp L T' x d htg hop hd hn h1 h5 hj he hq
def Hb(P:Program)(s:AS)(o:Oper):Option (Nat×TypeId×Nat×Nat×Nat×List (List AV)):=match o.dst,o.op with
 | none,.store T x y=>match s.ev x,s.ev y with
  | some (.eptr id sz j off),some v=>match look id s.r,gu v,bU P T with
   | some ⟨et,sz',l⟩,some nv,some k=>match Nat.beq sz sz'&&Nat.beq k nv.length with
    | true=>some (id,et,sz,j,off,l)
    | false=>none
   | _,_,_=>none
  | _,_=>none
 | _,_=>none
def tE(s:AS)(o:Oper):List AV:=match o.op with
 | .store _ _ y=>match s.ev y with
  | some v=>match gu v with|some nv=>nv|none=>[]
  | none=>[]
 | _=>[]
theorem fw(id:Nat)(et:TypeId)(sz off:Nat)(enc exp:α→List AV){L:List α}{j:Nat}(new:α)(hj:j<L.length)(he:∀a,enc a=exp a)(h:Hb P s o=some (id,et,sz,j,off,L.map enc):=by kernel_rfl)
  (hl:(Nat.ble (off+(tE s o).length) (exp (L.getD j default)).length&&db [] (tE s o))=true:=by kernel_rfl) (hs:fW off (tE s o) (exp (L.getD j default))=exp new:=by kernel_rfl) :
  bE P n s o=some (oS id ⟨et,sz,(L.set j new).map enc⟩ s):=by
 unfold Hb at h;split at h
 case h_2=>cases h
 rename_i T x y hd hop;split at h
 case h_2=>cases h
 rename_i v h1 h2;split at h
 case h_2=>cases h
 rename_i nv k h5 hv hz;split at h
 case h_2=>cases h
 rename_i h6;simp only[Bool.and_eq_true]at h6;have h7:=Nat.eq_of_beq_eq_true h6.1;have h8:=Nat.eq_of_beq_eq_true h6.2;simp only[Option.some.injEq,Prod.mk.injEq]at h;obtain⟨rfl,rfl,rfl,rfl,rfl,rfl⟩:=h;subst h7;subst h8;have hN:tE s o=nv:=by unfold tE;simp only[hop,h2,hv]
 rw[hN]at hl hs;simp only[Bool.and_eq_true]at hl;exact RY enc exp L new T x y hop hd h1 h2 h5 hj hv hz he hl.1 hl.2 hs
def DK(P:Program)(n:Nat)(s:AS)(o:Oper):Option (List (List AV)):=match iy n o,o.op with
 | true,.call ⟨.builtin .len,⟨[x]⟩,⟨[T]⟩⟩=>match s.ev x,eI P T with
  | some (.sl l),some _=>some l
  | some (.ref id),some _=>match look id s.r with
   | some ⟨_,_,l⟩=>some l
   | none=>none
  | _,_=>none
 | _,_=>none
theorem bu(enc:α→List AV)(L:List α)(h:DK P n s o=some (L.map enc):=by kernel_rfl):bE P n s o=some (s.put o.dst (.int .i64 L.length)):=by
 unfold DK at h;split at h
 case h_2=>cases h
 rename_i x T hd hop;obtain⟨d,hd,hn⟩:=lu hd;rw[hd];split at h
 ·rename_i h1 h2;injection h with h;subst h
  exact Rg enc L T x d hop hd hn h1 h2
 ·rename_i h1 h2;split at h
  ·rename_i h3;injection h with h;subst h
   exact Td enc L T x d hop hd hn h1 h3 h2
  ·cases h
 ·cases h
def ET(P:Program)(n:Nat)(s:AS)(o:Oper):Option (Nat×Nat×TypeId×Nat×Nat×List (List AV)×List (List AV)):=match o.dst,o.op with
 | some d,.call ⟨.builtin .append,⟨[x,y]⟩,⟨[T,T']⟩⟩=>match Nat.beq T T'&&Nat.ble (d+1) n,s.ev x,s.ev y,gZ P T with
  | true,some (.ref id),some (.sl new),some (et,sz,bytes)=>match look id s.r with
   | some ⟨et',sz',l⟩=>match (Nat.beq et et'&&Nat.beq sz sz')&&!s.u.contains (cK id) with
    | true=>some (d,id,et,sz,bytes,new,l)
    | false=>none
   | none=>none
  | _,_,_,_=>none
 | _,_=>none
theorem cy(d id:Nat)(et:TypeId)(sz:Nat)(enc:α→List AV){L M:List α}{bytes:Nat}{new:List (List AV)}(hnew:new=M.map enc)(hz:∀a,(enc a).length=sz)(hf:fits (L.length+M.length) bytes=true)(h:ET P n s o=some (d,id,et,sz,bytes,new,L.map enc):=by kernel_rfl):
  bE P n s o=some (fB d id ⟨et,sz,(L++M).map enc⟩ s):=by
 unfold ET at h;split at h
 case h_2=>cases h
 rename_i d' x y T T' hd hop;split at h
 case h_2=>cases h
 rename_i hb h1 h2 h3;simp only[Bool.and_eq_true]at hb;have hT:=Nat.eq_of_beq_eq_true hb.1;split at h
 case h_2=>cases h
 rename_i h5;split at h
 case h_2=>cases h
 rename_i h6;simp only[Bool.and_eq_true,Bool.not_eq_true']at h6;have h7:=Nat.eq_of_beq_eq_true h6.1.1;have h8:=Nat.eq_of_beq_eq_true h6.1.2;have h9:=h6.2;simp only[Option.some.injEq,Prod.mk.injEq]at h;obtain⟨rfl,rfl,rfl,rfl,rfl,rfl,rfl⟩:=h;have hT':T=T':=hT;subst hT';subst h7;subst h8;exact Nk enc L M T x y _ hop hd hb.2 h1 h2 hnew h5 h3 hz hf h9 rfl rfl
def IX(P:Program)(n:Nat)(s:AS)(o:Oper)(new:List (List AV)):Option AS:=match iy n o with
 | true=>some (s.put o.dst (.sl new))
 | false=>none
theorem fX(enc:α→List AV)(M:List α){new:List (List AV)}(hnew:new=M.map enc)(h:bE P n s o=IX P n s o new:=by kernel_rfl)(hd:iy n o=true:=by kernel_rfl):bE P n s o=some (s.put o.dst (.sl (M.map enc))):=by
 rw[h,IX,hd,hnew]
def vg(n:Nat)(s:AS)(o:Oper):Option (BinOp×AV×AV):=match iy n o,o.op with
 | true,.binOp op _ x y _=>match s.ev x,s.ev y with
  | some u,some v=>some (op,u,v)
  | _,_=>none
 | _,_=>none
theorem Ue(k:IntKind)(a:Int){b:Int}(hb:(b != 0)=true)(h:vg n s o=some (.rem,.int k a,.int k b):=by kernel_rfl):bE P n s o=some (s.put o.dst (.int k (a.tmod b))):=by
 unfold vg at h;split at h
 case h_2=>cases h
 rename_i hd hop;obtain⟨d,hd,hn⟩:=lu hd;split at h
 case h_2=>cases h
 rename_i h1 h2;simp only[Option.some.injEq,Prod.mk.injEq]at h;obtain⟨rfl,rfl,rfl⟩:=h;rw[hd];exact LK _ _ _ _ d hop hd hn h1 h2 hb
theorem Ld{a b:ByteArray}(hb:pQ a b=true)(h:vg n s o=some (.add,.str a,.str b):=by kernel_rfl):bE P n s o=some (s.put o.dst (.str (a++b))):=by
 unfold vg at h;split at h
 case h_2=>cases h
 rename_i hd hop;obtain⟨d,hd,hn⟩:=lu hd;split at h
 case h_2=>cases h
 rename_i h1 h2;simp only[Option.some.injEq,Prod.mk.injEq]at h;obtain⟨rfl,rfl,rfl⟩:=h;rw[hd];exact Up _ _ _ _ d hop hd hn h1 h2 hb
end
section
variable{cx:Cx}{Q:AV→AS→Prop}{s:AS}{fn:Func}
theorem bj{V:AV}(h:fC cx.P s fn.results.toList=some [V]:=by kernel_rfl):VE cx (bodyPost cx.P fn (bA cx.M cx.w0 (fun v _=>v=V))) [] .ret s:=oM rfl h rfl
theorem gn{l:List AV}(h:fC cx.P s fn.results.toList=some l:=by kernel_rfl)(h2:na l=.tup l:=by kernel_rfl):VE cx (bodyPost cx.P fn (bA cx.M cx.w0 (fun v _=>v=.tup l))) [] .ret s:=oM rfl h h2
theorem fd{V:AV}{id:Nat}{ar:br}(h:fC cx.P s fn.results.toList=some [V]:=by kernel_rfl)(h2:look id s.r=some ar:=by kernel_rfl):VE cx (bodyPost cx.P fn (bA cx.M cx.w0 (fun v s=>v=V∧look id s.r=some ar))) [] .ret s:=oM rfl h ⟨rfl,h2⟩
theorem vn{l:List AV}{id:Nat}{ar:br}(h:fC cx.P s fn.results.toList=some l:=by kernel_rfl)(h2:look id s.r=some ar:=by kernel_rfl)(h3:na l=.tup l:=by kernel_rfl):VE cx (bodyPost cx.P fn (bA cx.M cx.w0 (fun v s=>v=.tup l∧look id s.r=some ar))) [] .ret s:=oM rfl h ⟨h3,h2⟩
end
def uW(id:Nat)(s:AS):AS:=match look id s.r with|some ar=>s.bT id ar.l|none=>s
def oZ(id:Nat)(s:AS):Bool:=match look id s.r with|some _=>!s.u.contains (cK id)&&Nat.ble (id+1) TG|none=>false
theorem pO{b:Bool}{id:Nat}(h:(!b&&Nat.ble (id+1) TG)=true):b=false∧id<TG:=by
 rw[Bool.and_eq_true]at h;exact⟨by simpa using h.1,Nat.le_of_ble_eq_true h.2⟩
def F8(id nid:Nat)(s:AS):AS:=match look id s.r with|some ar=>⟨mq id nid s.t,mB id nid s.o,aZ nid ar (era id s.r),nid::s.u⟩|none=>s
def Kd(k:Nat)(s:AS):AS:=match look k s.o with|some cs=>{ s with o:=aZ k (cs.map fK) s.o }|none=>s
def vL(d i n:Nat)(et:TypeId)(sz:Nat)(s:AS):AS:=match look i s.o with|some cs=>⟨s.t,aZ i (cs.set n (.ref d)) s.o,aZ d ⟨et,sz,[]⟩ s.r,d::s.u⟩|none=>s
def wZ(i n:Nat)(s:AS):Bool:=match look i s.o with|some cs=>(match cs[n]? with|some .nils=>true|_=>false)|none=>false
section
variable{cx:Cx}{Q:Exit→Act→World→Prop}{ks:List aq}{e:Exit}{s:AS}{all:Array Oper}{l:List Oper}
theorem gb(id:Nat)(h:VE cx Q ks e (uW id s))(ha:oZ id s=true:=by kernel_rfl):VE cx Q ks e s:=by
 unfold oZ at ha;unfold uW at h;split at ha
 ·rename_i ar har;rw[har]at h;exact KI id (pO ha).2 har (pO ha).1 h
 ·cases ha
theorem vm(id:Nat)(h:OT cx Q ks all l (uW id s))(ha:oZ id s=true:=by kernel_rfl):OT cx Q ks all l s:=by
 unfold oZ at ha;unfold uW at h;split at ha
 ·rename_i ar har;rw[har]at h;exact Lb id (pO ha).2 har (pO ha).1 h
 ·cases ha
theorem z6(id nid:Nat)(h:VE cx Q ks e (F8 id nid s))(ha:oZ id s=true:=by kernel_rfl)(hn:has s.u nid=false:=by kernel_rfl):VE cx Q ks e s:=by
 unfold oZ at ha;unfold F8 at h;split at ha
 ·rename_i ar har;rw[har]at h;exact Rj id nid (pO ha).2 har hn (pO ha).1 h
 ·cases ha
theorem jF(k:Nat)(h:VE cx Q ks e (Kd k s)):VE cx Q ks e s:=by
 unfold Kd at h;split at h
 ·rename_i v hv;exact Oj k hv h
 ·exact h
theorem t9{all:Array Oper}{f:Func}{p:List Nat}{i:Nat}(T:TypeId)(d:Nat){e:TypeId}{sz:Nat}(k:OT cx Q ks all (aK f p (i+1)) (HB d ⟨e,sz,[]⟩ s))(hl:aK f p i=aQ f p i::aK f p (i+1):=by kernel_rfl)(hg:cd all s (aQ f p i)=true:=by kernel_rfl)(hop:(aQ f p i).op=.buildSlice T 0 #[]:=by kernel_rfl)(hd:(aQ f p i).dst=some d:=by kernel_rfl)(hn:Nat.ble (d+1) cx.n=true:=by kernel_rfl)
  (ht:cx.P.underlying T=some (.slice e):=by kernel_rfl) (hz:bU cx.P e=some sz:=by kernel_rfl) (hu:has s.u d=false:=by kernel_rfl):OT cx Q ks all (aK f p i) s:=Sw _ T d hl hg hop hd hn ht hz hu k
theorem SX{all:Array Oper}{f:Func}{p:List Nat}{i:Nat}(T:TypeId)(len:Nat)(parts:Array (Nat×Operand))(d:Nat){e:TypeId}{sz:Nat}{l:List (List AV)}(k:OT cx Q ks all (aK f p (i+1)) (HB d ⟨e,sz,l⟩ s))(hl:aK f p i=aQ f p i::aK f p (i+1):=by kernel_rfl)(hg:cd all s (aQ f p i)=true:=by kernel_rfl)
  (hop:(aQ f p i).op=.buildSlice T len parts:=by kernel_rfl) (hd:(aQ f p i).dst=some d:=by kernel_rfl) (hn:Nat.ble (d+1) cx.n=true:=by kernel_rfl) (hb:kA cx.P s T len parts.toList=some (.sl l):=by kernel_rfl) (ht:eI cx.P T=some (e,sz):=by kernel_rfl) (hu:has s.u d=false:=by kernel_rfl):OT cx Q ks all (aK f p i) s:=by
 rw[hl];refine ef _ hg fun a w ι hs=>?_;refine wpList_plain rfl fun K hK=>?_;unfold kA at hb;split at hb
 case h_2=>cases hb
 rename_i e1 sz' ps hts hps;split at hb
 case h_2=>cases hb
 rename_i l' hl';split at hb
 case isFalse=>cases hb
 rename_i hcond;obtain⟨c1,c2,c3,c4⟩:=hcond;injection hb with hb;injection hb with hb;subst hb
 rw[ht]at hts;injection hts with hts;injection hts with h1 h2;subst h1;subst h2
 obtain⟨q1,q2⟩:=w5 hs hps;unfold eI at ht;split at ht
 case h_2=>cases ht
 rename_i e' hu';cases hin:cx.P.info? e' with
 | none=>simp[bU,hin]at ht
 | some ie =>
  simp only[bU,hin,Option.map_some,Option.some.injEq,Prod.mk.injEq]at ht;obtain⟨rfl,hsz0⟩:=ht;have hsz:ie.size=sz'+1:=hsz0;clear hsz0;unfold eg at c4;cases hzz:ie.zero with
  | none=>simp[hin,hzz]at c4
  | some z =>
   have hl0:(parts.map fun (y:Nat×Operand)=>(y.1,a.eval y.2)).toList=parts.toList.map fun y=>(y.1,a.eval y.2):=Array.toList_map;obtain⟨zs',ys,f1,f2,f3,f4,f5,f6,f7⟩:=zK (zs:=(Array.range (len*ie.size)).map (z.cells[· % z.cells.size]!)) q1 q2 hl' (by simp[c1,hsz]);rw[←hl0]at f1;have hy:zs'.toList=ys:=by
    rw[f2,c1];simp[hsz]
   have f1':Instr.fill (fun i=>some (i*ie.size,ie.size)) ((Array.range (len*ie.size)).map (z.cells[· % z.cells.size]!)) (parts.map fun (y:Nat×Operand)=>(y.1,a.eval y.2)).toList=some zs':=by rw[hsz];rw[hsz]at f1;exact f1
   have hpos:0<len*ie.size:=Nat.mul_pos c2 (by omega);have hrun:=run_buildSlice (P:=cx.P) w T e' len (parts.map fun (y:Nat×Operand)=>(y.1,a.eval y.2)) zs' ie z hu' hin hzz (by rw[hsz];omega) (by omega) f1';have hm:len*1≤len*(sz'+1):=Nat.mul_le_mul_left _ (by omega);have hs2:=hs.vQ (Nat.le_of_ble_eq_true hn) hu (e:=e') (sz:=sz'+1) (n:=len) (l:=l') (vs:=ys) (by rw[f4,c1]) (by unfold maxLen;omega) (by rw[f3,c1]) f5 f6 f7;unfold Oper.wp execOp;simp only[hop,Sem.run_bind,hrun,Result.andThen_ok,Sem.run_pure];rw[hd];rw[←hy]at hs2;simp only[Array.toArray_toList]at hs2;exact hK _ _ (k _ _ _ hs2)
theorem gh(d k:Nat)(et:TypeId)(sz:Nat)(h:VE cx Q ks e (MR k d ⟨et,sz,[]⟩ s))(hd:has s.u d=false:=by kernel_rfl)(hk:look k s.t=some .nils:=by kernel_rfl):VE cx Q ks e s:=Qv d k et sz hd hk h
theorem ud(d i n:Nat)(et:TypeId)(sz:Nat)(h:VE cx Q ks e (vL d i n et sz s))(hd:has s.u d=false:=by kernel_rfl)(hk:wZ i n s=true:=by kernel_rfl):VE cx Q ks e s:=by
 unfold wZ at hk;unfold vL at h;split at hk
 ·rename_i cs hcs;rw[hcs]at h;split at hk
  ·rename_i hn;exact Vz d i n et sz hd hcs hn h
  ·cases hk
 ·cases hk
end
section
variable{P:Program}{n:Nat}{s0:AS}{all:Array Oper}{K:Nat}{σs:List AS}{o:Oper}
theorem ex{m:Nat}{s':AS}(h:bE P n (nth σs m) o=some s')(he:s'=nth σs (m+1):=by kernel_rfl)(hg:o.guard.isNone=true:=by kernel_rfl):dT P n s0 all K σs o (.s (m+1)):=Fy hg (h.trans (congrArg some he))
theorem bX(m:Nat)(h:bE P n (nth σs m) o=some (nth σs (m+1)):=by kernel_rfl)(hg:o.guard.isNone=true:=by kernel_rfl):dT P n s0 all K σs o (.s (m+1)):=Fy hg h
theorem RH{lo:Nat}{s':AS}(h:bE P n (nth σs lo) o=some s')(he:s'=nth σs lo:=by kernel_rfl)(hg:cd all (nth σs lo) o=true:=by kernel_rfl):dT P n s0 all K σs o (.v lo 1):=fk (c9 ⟨hg,dc h he⟩ fJ)
def vi(all:Array Oper)(σs:List AS)(o:Oper)(d:Nat):Nat→Nat→List (Bool×Option (FuncId×List AV)×Option AV)
 | _,0=>[]
 | lo,k+1=>(cd all (nth σs lo) o,df (nth σs lo) o,look d (nth σs lo).t)::vi all σs o d (lo+1) k
def uS(x:Bool×Option (FuncId×List AV)×Option AV):Nat→List (Bool×Option (FuncId×List AV)×Option AV)
 | 0=>[]
 | k+1=>x::uS x k
theorem Dl{d:Nat}{f:FuncId}{args:List AV}{V:AV}:∀{k lo:Nat},vi all σs o d lo k=uS (true,some (f,args),some V) k→de lo k fun j=>cd all (nth σs j) o=true∧df (nth σs j) o=some (f,args)∧look d (nth σs j).t=some V
 | 0,_,_=>trivial
 | k+1,lo,h=>by
  simp only[vi,uS,List.cons.injEq,Prod.mk.injEq]at h;exact⟨⟨h.1.1,h.1.2.1,h.1.2.2⟩,Dl h.2⟩
theorem cD(lo k d:Nat){f:FuncId}{args:List AV}{V:AV}(hc:aU P f args (fun v _=>v=V))(hcl:cf P f=true:=by kernel_rfl)(hv:V.cL []=true:=by kernel_rfl)(hd:o.dst=some d:=by kernel_rfl)(hdn:Nat.ble (d+1) n=true:=by kernel_rfl)
  (h:vi all σs o d lo k=uS (true,some (f,args),some V) k:=by kernel_rfl):dT P n s0 all K σs o (.c lo k):=OS V hc hcl hv d hd hdn (Dl h)
def vA(σs:List AS)(d:Nat):Nat→Nat→List (Option (List AV)×Bool×Option AV×Bool)
 | _,0=>[]
 | lo,k+1=>(look d (nth σs lo).o,(look d (nth σs lo).r).isNone,look d (nth σs lo).t,has (nth σs lo).u d)::vA σs d (lo+1) k
def ua(x:Option (List AV)×Bool×Option AV×Bool):Nat→List (Option (List AV)×Bool×Option AV×Bool)
 | 0=>[]
 | k+1=>x::ua x k
theorem Jg{d:Nat}{cs:List AV}:∀{k lo:Nat},vA σs d lo k=ua (some cs,true,some (.ptr d 0),true) k→de lo k fun j=>look d (nth σs j).o=some cs∧look d (nth σs j).r=none∧look d (nth σs j).t=some (.ptr d 0)∧has (nth σs j).u d=true
 | 0,_,_=>trivial
 | k+1,lo,h=>by
  simp only[vA,ua,List.cons.injEq,Prod.mk.injEq]at h;exact⟨⟨h.1.1,by simpa using h.1.2.1,h.1.2.2.1,h.1.2.2.2⟩,Jg h.2⟩
theorem pw(lo k T d:Nat)(cs:List AV)(hg:o.guard.isNone=true:=by kernel_rfl)(hop:o.op=.alloc T:=by kernel_rfl)(hd:o.dst=some d:=by kernel_rfl)(hdn:Nat.ble (d+1) (min n 450000)=true:=by kernel_rfl)(hz:eg P T=some cs:=by kernel_rfl)(hu:has s0.u d=false:=by kernel_rfl)
  (h:vA σs d lo k=ua (some cs,true,some (.ptr d 0),true) k:=by kernel_rfl):dT P n s0 all K σs o (.a lo k):=QY T d cs hg hop hd hdn hz hu (Jg h)
def tX(all:Array Oper)(σs:List AS)(o:Oper)(d:Nat):Nat→Nat→List (Bool×Option AV×Option br×Bool×Bool)
 | _,0=>[]
 | lo,k+1=>(cd all (nth σs lo) o,look d (nth σs lo).t,look d (nth σs lo).r,(look d (nth σs lo).o).isNone,has (nth σs lo).u d)::tX all σs o d (lo+1) k
def wg(x:Bool×Option AV×Option br×Bool×Bool):Nat→List (Bool×Option AV×Option br×Bool×Bool)
 | 0=>[]
 | k+1=>x::wg x k
theorem DQ{d:Nat}{ar:br}:∀{k lo:Nat},tX all σs o d lo k=wg (true,some (.ref d),some ar,true,true) k→de lo k fun j=>cd all (nth σs j) o=true∧look d (nth σs j).t=some (.ref d)∧look d (nth σs j).r=some ar∧look d (nth σs j).o=none∧has (nth σs j).u d=true
 | 0,_,_=>trivial
 | k+1,lo,h=>by
  simp only[tX,wg,List.cons.injEq,Prod.mk.injEq]at h;exact⟨⟨h.1.1,h.1.2.1,h.1.2.2.1,by simpa using h.1.2.2.2.1,h.1.2.2.2.2⟩,DQ h.2⟩
theorem K4(lo k T d e sz:Nat)(hop:o.op=.buildSlice T 0 #[]:=by kernel_rfl)(hd:o.dst=some d:=by kernel_rfl)(hdn:Nat.ble (d+1) n=true:=by kernel_rfl)(hu:has s0.u d=false:=by kernel_rfl)(ht:P.underlying T=some (.slice e):=by kernel_rfl)(hz:bU P e=some sz:=by kernel_rfl)
  (h:tX all σs o d lo k=wg (true,some (.ref d),some ⟨e,sz,[]⟩,true,true) k:=by kernel_rfl):dT P n s0 all K σs o (.o lo k):=by
 refine⟨d,hd,Nat.le_of_ble_eq_true hdn,hu,sd (fun j hj=>⟨wB hj.1,?_⟩) (DQ h)⟩;unfold qu;simp only[hop];exact⟨trivial,trivial,e,sz,ht,hz,hj.2⟩
def wW(all:Array Oper)(σs:List AS)(o:Oper)(d:Nat):Nat→Nat→List (Bool×Option (FuncId×List AV)×Option AV×Option br×Bool×Bool)
 | _,0=>[]
 | lo,k+1=>(cd all (nth σs lo) o,df (nth σs lo) o,look d (nth σs lo).t,look d (nth σs lo).r,(look d (nth σs lo).o).isNone,has (nth σs lo).u d)::wW all σs o d (lo+1) k
def wQ(x:Bool×Option (FuncId×List AV)×Option AV×Option br×Bool×Bool):Nat→List (Bool×Option (FuncId×List AV)×Option AV×Option br×Bool×Bool)
 | 0=>[]
 | k+1=>x::wQ x k
theorem J8{d:Nat}{f:FuncId}{args:List AV}{V:AV}{ar:br}:∀{k lo:Nat},wW all σs o d lo k=wQ (true,some (f,args),some V,some ar,true,true) k→de lo k fun j=>cd all (nth σs j) o=true∧df (nth σs j) o=some (f,args)∧look d (nth σs j).t=some V∧look d (nth σs j).r=some ar∧look d (nth σs j).o=none∧has (nth σs j).u d=true
 | 0,_,_=>trivial
 | k+1,lo,h=>by
  simp only[wW,wQ,List.cons.injEq,Prod.mk.injEq]at h;exact⟨⟨h.1.1,h.1.2.1,h.1.2.2.1,h.1.2.2.2.1,by simpa using h.1.2.2.2.2.1,h.1.2.2.2.2.2⟩,J8 h.2⟩
theorem y9(lo k d:Nat){f:FuncId}{args:List AV}{V:AV}{id:Nat}{ar:br}(hc:aU P f args (fun v s1=>v=V∧look id s1.r=some ar))(hone:∀(N:Nat→Prop) w ι x,Rel N w ι V x→∃y,ι id=some y)(hcl:cf P f=true:=by kernel_rfl)
  (hd:o.dst=some d:=by kernel_rfl) (hdn:Nat.ble (d+1) n=true:=by kernel_rfl) (hu:has s0.u d=false:=by kernel_rfl) (htg:Nat.ble (id+1) TG=true:=by kernel_rfl) (h:wW all σs o d lo k=wQ (true,some (f,args),some (V.eh id d),some ar,true,true) k:=by kernel_rfl):dT P n s0 all K σs o (.o lo k):=K0 V d htg hc hcl hone hd hdn hu (J8 h)
end
def bw(p:Nat×Nat):List AV:=[.adr p.1 p.2]
def My(k id g off:Nat)(s:AS):AS:={ s with t:=aZ k (.pp id g off) s.t }
def iS(k:Nat)(v:AV)(s:AS):AS:={ s with t:=aZ k v s.t }
theorem aN.jq{cx:Cx}{s:AS}{a:Act}{w:World}{ι:Env}(h:aN cx s a w ι){k:Nat}{v:AV}(hv:∀x,a.tmps[k]?=some x→Rel (NN cx.M ι) w ι v x)(hk:∃u,look k s.t=some u):aN cx (iS k v s) a w ι:=by
 refine⟨⟨h.hs.below,h.hs.old,h.hs.use,h.hs.own,h.hs.inj,h.hs.ko,h.hs.kr,h.hs.objs,h.hs.arrs,h.hs.pin⟩,h.dfr,h.n,fun j y hj=>?_⟩;have hj':look j (aZ k v s.t)=some y:=hj;rw[ca]at hj';split at hj'
 ·rename_i e;subst e;injection hj' with hj';subst hj'
  obtain⟨u,hu⟩:=hk;obtain⟨x,hx,_⟩:=h.tmp j u hu;exact⟨x,hx,hv x hx⟩
 ·exact h.tmp j y hj'
section
variable{cx:Cx}{Q:Exit→Act→World→Prop}{ks:List aq}{e:Exit}{s:AS}{all:Array Oper}{l:List Oper}
theorem M6(k id off:Nat)(h:∀g:Nat,VE cx Q ks e (My k id g off s))(hk:look k s.t=some (.ptr id off):=by kernel_rfl):VE cx Q ks e s:=fun a w ι hs=>by
 obtain⟨x,hx,hr⟩:=hs.tmp k _ hk;cases hr with
 | ptr _ _ _ g hg=>exact h g a w ι (hs.jq (v:=.pp id g off) (fun y hy=>by rw[hx]at hy;injection hy with hy;subst hy;exact .pp _ _ _ _ hg) ⟨_,hk⟩)
theorem Wb{a:Act}{w:World}{ι:Env}(hs:aN cx s a w ι){j k id g off o:Nat}(hj:look j s.t=some (.adr g off))(hk:look k s.t=some (.pp id g o)):aN cx (iS j (.ptr id off) s) a w ι:=by
 obtain⟨x,hx,hr⟩:=hs.tmp j _ hj;obtain⟨y,hy,hr'⟩:=hs.tmp k _ hk;refine hs.jq (fun z hz=>?_) ⟨_,hj⟩;rw[hx]at hz;injection hz with hz;subst hz
 cases hr with
 | adr _ _ _ =>
  cases hr' with
  | pp _ _ _ _ h2=>exact .ptr _ _ _ _ h2
theorem dI(j k id g off o:Nat)(h:OT cx Q ks all l (iS j (.ptr id off) s))(hj:look j s.t=some (.adr g off):=by kernel_rfl)(hk:look k s.t=some (.pp id g o):=by kernel_rfl):OT cx Q ks all l s:=fun a w ι hs=>h a w ι (Wb hs hj hk)
end
end Go.Proofs.YtocgkfoifehcbaaGreat
