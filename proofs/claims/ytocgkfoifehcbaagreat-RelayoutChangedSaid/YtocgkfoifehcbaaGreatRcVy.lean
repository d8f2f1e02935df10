/- Laws of single operations in short form: what the kernel computes of an operation is one premise. No program in sight. -/
import Derived.Test.YtocgkfoifehcbaaGreatRcVx
namespace Go.Proofs.YtocgkfoifehcbaaGreat
set_option linter.all false
open Go.RowKit
def cV(id:Nat)(ar:bE)(s:AS):AS:={ s with r:=bg id ar s.r }
def eb(d id:Nat)(ar:bE)(s:AS):AS:={ t:=bg d (.ref id) (cS id s.t),o:=dG id s.o,r:=bg id ar s.r,u:=s.u }
def Bv(d:Nat)(ar:bE)(s:AS):AS:={ t:=bg d (.ref d) s.t,o:=s.o,r:=bg d ar s.r,u:=d::s.u }
def YL(k d:Nat)(ar:bE)(s:AS):AS:=⟨bg k (.ref d) s.t,s.o,bg d ar s.r,d::s.u⟩
section
variable{P:Program}{n:Nat}{s:AS}{o:Oper}{α:Type}[Inhabited α]
def il(n:Nat)(o:Oper):Bool:=match o.dst with|some d=>Nat.ble (d+1) n|none=>false
theorem jX(h:il n o=true):∃d,o.dst=some d∧Nat.ble (d+1) n=true:=by
 unfold il at h;split at h
 ·rename_i d hd;exact⟨d,hd,h⟩
 ·cases h
def JD(P:Program)(n:Nat)(s:AS)(o:Oper):Option (List (List AV)×Int×Nat):=match il n o,o.op with
 | true,.indexAddr T x y=>match s.ev x,s.ev y,jW P T,eC P T with
  | some (.sl l),some (.int _ i),none,some (_,sz)=>some (l,i,sz)
  | _,_,_,_=>none
 | _,_=>none
theorem bu(enc exp:α→List AV){L:List α}{i:Int}{sz:Nat}(hb:aG i L.length=true)(hz:∀a,(enc a).length=sz)(he:∀a,enc a=exp a)(h:JD P n s o=some (L.map enc,i,sz):=by kernel_rfl):bT P n s o=some (s.put o.dst (.cptr (exp (L.getD i.toNat default)))):=by
 unfold JD at h;split at h
 case h_2=>cases h
 rename_i T x y hd hop;obtain⟨d,hd,hn⟩:=jX hd;split at h
 case h_2=>cases h
 rename_i h1 h2 h3 h4;simp only[Option.some.injEq,Prod.mk.injEq]at h;obtain⟨rfl,rfl,rfl⟩:=h;rw[hd];exact Yn enc exp L _ T x y d hop hd hn h1 h2 h3 h4 hb hz he
def z7(P:Program)(n:Nat)(s:AS)(o:Oper):Option (Nat×Nat×Int×List (List AV)):=match il n o,o.op with
 | true,.indexAddr T x y=>match s.ev x,s.ev y,jW P T,eC P T with
  | some (.ref id),some (.int _ i),none,some (_,sz)=>match look id s.r with
   | some ⟨_,sz',l⟩=>match Nat.beq sz sz' with
    | true=>some (id,sz,i,l)
    | false=>none
   | none=>none
  | _,_,_,_=>none
 | _,_=>none
theorem ca(id sz:Nat)(enc:α→List AV){L:List α}{i:Int}(hb:aG i L.length=true)(h:z7 P n s o=some (id,sz,i,L.map enc):=by kernel_rfl):bT P n s o=some (s.put o.dst (.eptr id sz i.toNat 0)):=by
 unfold z7 at h;split at h
 case h_2=>cases h
 rename_i T x y hd hop;obtain⟨d,hd,hn⟩:=jX hd;split at h
 case h_2=>cases h
 rename_i h1 h2 h3 h4;split at h
 case h_2=>cases h
 rename_i h5;split at h
 case h_2=>cases h
 rename_i h6;have h6:=Nat.eq_of_beq_eq_true h6;simp only[Option.some.injEq,Prod.mk.injEq]at h;obtain⟨rfl,rfl,rfl,rfl⟩:=h;subst h6;rw[hd];exact V0 enc L _ T x y d hop hd hn h1 h2 h5 h3 h4 hb
def Ok(n:Nat)(s:AS)(o:Oper):Option (TypeId×Nat×Nat×List (List AV)):=match il n o,o.op with
 | true,.load T x=>match s.ev x with
  | some (.eptr id sz j off)=>match look id s.r with
   | some ⟨_,sz',l⟩=>match Nat.beq sz sz'&&Nat.ble (id+1) TG with
    | true=>some (T,j,off,l)
    | false=>none
   | none=>none
  | _=>none
 | _,_=>none
def VX:Option AV→AV
 | some v=>v
 | none=>.any
def ON:Option AV→Bool
 | some _=>true
 | none=>false
theorem br(T:TypeId)(off:Nat)(enc exp:α→List AV){L:List α}{j:Nat}(hj:j<L.length)(he:∀a,enc a=exp a)(h:Ok n s o=some (T,j,off,L.map enc):=by kernel_rfl)(hv:ON (fk P T ((exp (L.getD j default)).drop off))=true:=by kernel_rfl):
  bT P n s o=some (s.put o.dst (VX (fk P T ((exp (L.getD j default)).drop off)))):=by
 unfold Ok at h;split at h
 case h_2=>cases h
 rename_i T' x hd hop;obtain⟨d,hd,hn⟩:=jX hd;split at h
 case h_2=>cases h
 rename_i h1;split at h
 case h_2=>cases h
 rename_i h5;split at h
 case h_2=>cases h
 rename_i h6;rw[Bool.and_eq_true]at h6;have htg:=Nat.le_of_ble_eq_true h6.2;have h6:=Nat.eq_of_beq_eq_true h6.1;simp only[Option.some.injEq,Prod.mk.injEq]at h;obtain⟨rfl,rfl,rfl,rfl⟩:=h;subst h6;cases hq:fk P T' ((exp (L.getD _ default)).drop _) with
 | none=>rw[hq]at hv;cases hv
 | some v =>
  rw[hd];exact PK enc exp L T' x d htg hop hd hn h1 h5 hj he hq
def Ml(P:Program)(s:AS)(o:Oper):Option (Nat×TypeId×Nat×Nat×Nat×List (List AV)):=match o.dst,o.op with
 | none,.store T x y=>match s.ev x,s.ev y with
  | some (.eptr id sz j off),some v=>match look id s.r,fT v,ch P T with
   | some ⟨et,sz',l⟩,some nv,some k=>match Nat.beq sz sz'&&Nat.beq k nv.length with
    | true=>some (id,et,sz,j,off,l)
    | false=>none
   | _,_,_=>none
  | _,_=>none
 | _,_=>none
def qK(s:AS)(o:Oper):List AV:=match o.op with
 | .store _ _ y=>match s.ev y with
  | some v=>match fT v with|some nv=>nv|none=>[]
  | none=>[]
 | _=>[]
theorem cJ(id:Nat)(et:TypeId)(sz off:Nat)(enc exp:α→List AV){L:List α}{j:Nat}(new:α)(hj:j<L.length)(he:∀a,enc a=exp a)(h:Ml P s o=some (id,et,sz,j,off,L.map enc):=by kernel_rfl)
  (hl:(Nat.ble (off+(qK s o).length) (exp (L.getD j default)).length&&dc [] (qK s o))=true:=by kernel_rfl) (hs:fB off (qK s o) (exp (L.getD j default))=exp new:=by kernel_rfl) :
  bT P n s o=some (cV id ⟨et,sz,(L.set j new).map enc⟩ s):=by
 unfold Ml at h;split at h
 case h_2=>cases h
 rename_i T x y hd hop;split at h
 case h_2=>cases h
 rename_i v h1 h2;split at h
 case h_2=>cases h
 rename_i nv k h5 hv hz;split at h
 case h_2=>cases h
 rename_i h6;simp only[Bool.and_eq_true]at h6;have h7:=Nat.eq_of_beq_eq_true h6.1;have h8:=Nat.eq_of_beq_eq_true h6.2;simp only[Option.some.injEq,Prod.mk.injEq]at h;obtain⟨rfl,rfl,rfl,rfl,rfl,rfl⟩:=h;subst h7;subst h8;have hN:qK s o=nv:=by unfold qK;simp only[hop,h2,hv]
 rw[hN]at hl hs;simp only[Bool.and_eq_true]at hl;exact Qw enc exp L new T x y hop hd h1 h2 h5 hj hv hz he hl.1 hl.2 hs
def Gc(P:Program)(n:Nat)(s:AS)(o:Oper):Option (List (List AV)):=match il n o,o.op with
 | true,.call ⟨.builtin .len,⟨[x]⟩,⟨[T]⟩⟩=>match s.ev x,eC P T with
  | some (.sl l),some _=>some l
  | some (.ref id),some _=>match look id s.r with
   | some ⟨_,_,l⟩=>some l
   | none=>none
  | _,_=>none
 | _,_=>none
theorem bj(enc:α→List AV)(L:List α)(h:Gc P n s o=some (L.map enc):=by kernel_rfl):bT P n s o=some (s.put o.dst (.int .i64 L.length)):=by
 unfold Gc at h;split at h
 case h_2=>cases h
 rename_i x T hd hop;obtain⟨d,hd,hn⟩:=jX hd;rw[hd];split at h
 ·rename_i h1 h2;injection h with h;subst h
  exact Z7 enc L T x d hop hd hn h1 h2
 ·rename_i h1 h2;split at h
  ·rename_i h3;injection h with h;subst h
   exact Ua enc L T x d hop hd hn h1 h3 h2
  ·cases h
 ·cases h
def GG(P:Program)(n:Nat)(s:AS)(o:Oper):Option (Nat×Nat×TypeId×Nat×Nat×List (List AV)×List (List AV)):=match o.dst,o.op with
 | some d,.call ⟨.builtin .append,⟨[x,y]⟩,⟨[T,T']⟩⟩=>match Nat.beq T T'&&Nat.ble (d+1) n,s.ev x,s.ev y,fK P T with
  | true,some (.ref id),some (.sl new),some (et,sz,bytes)=>match look id s.r with
   | some ⟨et',sz',l⟩=>match (Nat.beq et et'&&Nat.beq sz sz')&&!s.u.contains (cL id) with
    | true=>some (d,id,et,sz,bytes,new,l)
    | false=>none
   | none=>none
  | _,_,_,_=>none
 | _,_=>none
theorem cc(d id:Nat)(et:TypeId)(sz:Nat)(enc:α→List AV){L M:List α}{bytes:Nat}{new:List (List AV)}(hnew:new=M.map enc)(hz:∀a,(enc a).length=sz)(hf:fits (L.length+M.length) bytes=true)(h:GG P n s o=some (d,id,et,sz,bytes,new,L.map enc):=by kernel_rfl):
  bT P n s o=some (eb d id ⟨et,sz,(L++M).map enc⟩ s):=by
 unfold GG at h;split at h
 case h_2=>cases h
 rename_i d' x y T T' hd hop;split at h
 case h_2=>cases h
 rename_i hb h1 h2 h3;simp only[Bool.and_eq_true]at hb;have hT:=Nat.eq_of_beq_eq_true hb.1;split at h
 case h_2=>cases h
 rename_i h5;split at h
 case h_2=>cases h
 rename_i h6;simp only[Bool.and_eq_true,Bool.not_eq_true']at h6;have h7:=Nat.eq_of_beq_eq_true h6.1.1;have h8:=Nat.eq_of_beq_eq_true h6.1.2;have h9:=h6.2;simp only[Option.some.injEq,Prod.mk.injEq]at h;obtain⟨rfl,rfl,rfl,rfl,rfl,rfl,rfl⟩:=h;have hT':T=T':=hT;subst hT';subst h7;subst h8;exact Rb enc L M T x y _ hop hd hb.2 h1 h2 hnew h5 h3 hz hf h9 rfl rfl
def Oj(P:Program)(n:Nat)(s:AS)(o:Oper)(new:List (List AV)):Option AS:=match il n o with
 | true=>some (s.put o.dst (.sl new))
 | false=>none
theorem eJ(enc:α→List AV)(M:List α){new:List (List AV)}(hnew:new=M.map enc)(h:bT P n s o=Oj P n s o new:=by kernel_rfl)(hd:il n o=true:=by kernel_rfl):bT P n s o=some (s.put o.dst (.sl (M.map enc))):=by
 rw[h,Oj,hd,hnew]
def nH(n:Nat)(s:AS)(o:Oper):Option (BinOp×AV×AV):=match il n o,o.op with
 | true,.binOp op _ x y _=>match s.ev x,s.ev y with
  | some u,some v=>some (op,u,v)
  | _,_=>none
 | _,_=>none
theorem Uj(k:IntKind)(a:Int){b:Int}(hb:(b != 0)=true)(h:nH n s o=some (.quo,.int k a,.int k b):=by kernel_rfl):bT P n s o=some (s.put o.dst (.int k (k.wrap (a.tdiv b)))):=by
 unfold nH at h;split at h
 case h_2=>cases h
 rename_i hd hop;obtain⟨d,hd,hn⟩:=jX hd;split at h
 case h_2=>cases h
 rename_i h1 h2;simp only[Option.some.injEq,Prod.mk.injEq]at h;obtain⟨rfl,rfl,rfl⟩:=h;rw[hd];exact Yd _ _ _ _ d hop hd hn h1 h2 hb
theorem A1(k:IntKind)(a:Int){b:Int}(hb:(b != 0)=true)(h:nH n s o=some (.rem,.int k a,.int k b):=by kernel_rfl):bT P n s o=some (s.put o.dst (.int k (a.tmod b))):=by
 unfold nH at h;split at h
 case h_2=>cases h
 rename_i hd hop;obtain⟨d,hd,hn⟩:=jX hd;split at h
 case h_2=>cases h
 rename_i h1 h2;simp only[Option.some.injEq,Prod.mk.injEq]at h;obtain⟨rfl,rfl,rfl⟩:=h;rw[hd];exact Y8 _ _ _ _ d hop hd hn h1 h2 hb
theorem WF{a b:ByteArray}(hb:mz a b=true)(h:nH n s o=some (.add,.str a,.str b):=by kernel_rfl):bT P n s o=some (s.put o.dst (.str (a++b))):=by
 unfold nH at h;split at h
 case h_2=>cases h
 rename_i hd hop;obtain⟨d,hd,hn⟩:=jX hd;split at h
 case h_2=>cases h
 rename_i h1 h2;simp only[Option.some.injEq,Prod.mk.injEq]at h;obtain⟨rfl,rfl,rfl⟩:=h;rw[hd];exact Vh _ _ _ _ d hop hd hn h1 h2 hb
end
section
variable{cx:Cx}{Q:AV→AS→Prop}{s:AS}{fn:Func}
theorem bp{V:AV}(h:eT cx.P s fn.results.toList=some [V]:=by kernel_rfl):VE cx (bodyPost cx.P fn (bC cx.M cx.w0 (fun v _=>v=V))) [] .ret s:=j7 rfl h rfl
theorem fL{l:List AV}(h:eT cx.P s fn.results.toList=some l:=by kernel_rfl)(h2:kP l=.tup l:=by kernel_rfl):VE cx (bodyPost cx.P fn (bC cx.M cx.w0 (fun v _=>v=.tup l))) [] .ret s:=j7 rfl h h2
theorem dk{V:AV}{id:Nat}{ar:bE}(h:eT cx.P s fn.results.toList=some [V]:=by kernel_rfl)(h2:look id s.r=some ar:=by kernel_rfl):VE cx (bodyPost cx.P fn (bC cx.M cx.w0 (fun v s=>v=V∧look id s.r=some ar))) [] .ret s:=j7 rfl h ⟨rfl,h2⟩
theorem gc{l:List AV}{id:Nat}{ar:bE}(h:eT cx.P s fn.results.toList=some l:=by kernel_rfl)(h2:look id s.r=some ar:=by kernel_rfl)(h3:kP l=.tup l:=by kernel_rfl):VE cx (bodyPost cx.P fn (bC cx.M cx.w0 (fun v s=>v=.tup l∧look id s.r=some ar))) [] .ret s:=j7 rfl h ⟨h3,h2⟩
end
def rC(id:Nat)(s:AS):AS:=match look id s.r with|some ar=>s.cf id ar.l|none=>s
def mr(id:Nat)(s:AS):Bool:=match look id s.r with|some _=>!s.u.contains (cL id)&&Nat.ble (id+1) TG|none=>false
theorem md{b:Bool}{id:Nat}(h:(!b&&Nat.ble (id+1) TG)=true):b=false∧id<TG:=by
 rw[Bool.and_eq_true]at h;exact⟨by simpa using h.1,Nat.le_of_ble_eq_true h.2⟩
def I6(id nid:Nat)(s:AS):AS:=match look id s.r with|some ar=>⟨kR id nid s.t,lD id nid s.o,bg nid ar (era id s.r),nid::s.u⟩|none=>s
def FY(k:Nat)(s:AS):AS:=match look k s.o with|some cs=>{ s with o:=bg k (cs.map eV) s.o }|none=>s
def w6(d i n:Nat)(et:TypeId)(sz:Nat)(s:AS):AS:=match look i s.o with|some cs=>⟨s.t,bg i (cs.set n (.ref d)) s.o,bg d ⟨et,sz,[]⟩ s.r,d::s.u⟩|none=>s
def yB(i n:Nat)(s:AS):Bool:=match look i s.o with|some cs=>(match cs[n]? with|some .nils=>true|_=>false)|none=>false
section
variable{cx:Cx}{Q:Exit→Act→World→Prop}{ks:List ao}{e:Exit}{s:AS}{all:Array Oper}{l:List Oper}
theorem eX(id:Nat)(h:VE cx Q ks e (rC id s))(ha:mr id s=true:=by kernel_rfl):VE cx Q ks e s:=by
 unfold mr at ha;unfold rC at h;split at ha
 ·rename_i ar har;rw[har]at h;exact Yj id (md ha).2 har (md ha).1 h
 ·cases ha
theorem iV(id:Nat)(h:OT cx Q ks all l (rC id s))(ha:mr id s=true:=by kernel_rfl):OT cx Q ks all l s:=by
 unfold mr at ha;unfold rC at h;split at ha
 ·rename_i ar har;rw[har]at h;exact Sa id (md ha).2 har (md ha).1 h
 ·cases ha
theorem lx(id nid:Nat)(h:VE cx Q ks e (I6 id nid s))(ha:mr id s=true:=by kernel_rfl)(hn:has s.u nid=false:=by kernel_rfl):VE cx Q ks e s:=by
 unfold mr at ha;unfold I6 at h;split at ha
 ·rename_i ar har;rw[har]at h;exact Tq id nid (md ha).2 har hn (md ha).1 h
 ·cases ha
theorem jb(k:Nat)(h:VE cx Q ks e (FY k s)):VE cx Q ks e s:=by
 unfold FY at h;split at h
 ·rename_i v hv;exact Ye k hv h
 ·exact h
theorem xO{all:Array Oper}{f:Func}{p:List Nat}{i:Nat}(T:TypeId)(d:Nat){e:TypeId}{sz:Nat}(k:OT cx Q ks all (aN f p (i+1)) (Bv d ⟨e,sz,[]⟩ s))(hl:aN f p i=aQ f p i::aN f p (i+1):=by kernel_rfl)(hg:ci all s (aQ f p i)=true:=by kernel_rfl)(hop:(aQ f p i).op=.buildSlice T 0 #[]:=by kernel_rfl)(hd:(aQ f p i).dst=some d:=by kernel_rfl)(hn:Nat.ble (d+1) cx.n=true:=by kernel_rfl)
  (ht:cx.P.underlying T=some (.slice e):=by kernel_rfl) (hz:ch cx.P e=some sz:=by kernel_rfl) (hu:has s.u d=false:=by kernel_rfl):OT cx Q ks all (aN f p i) s:=Um _ T d hl hg hop hd hn ht hz hu k
theorem JU{all:Array Oper}{f:Func}{p:List Nat}{i:Nat}(T:TypeId)(len:Nat)(parts:Array (Nat×Operand))(d:Nat){e:TypeId}{sz:Nat}{l:List (List AV)}(k:OT cx Q ks all (aN f p (i+1)) (Bv d ⟨e,sz,l⟩ s))(hl:aN f p i=aQ f p i::aN f p (i+1):=by kernel_rfl)(hg:ci all s (aQ f p i)=true:=by kernel_rfl)
  (hop:(aQ f p i).op=.buildSlice T len parts:=by kernel_rfl) (hd:(aQ f p i).dst=some d:=by kernel_rfl) (hn:Nat.ble (d+1) cx.n=true:=by kernel_rfl) (hb:jr cx.P s T len parts.toList=some (.sl l):=by kernel_rfl) (ht:eC cx.P T=some (e,sz):=by kernel_rfl) (hu:has s.u d=false:=by kernel_rfl):OT cx Q ks all (aN f p i) s:=by
 rw[hl];refine dC _ hg fun a w ι hs=>?_;refine wpList_plain rfl fun K hK=>?_;unfold jr at hb;split at hb
 case h_2=>cases hb
 rename_i e1 sz' ps hts hps;split at hb
 case h_2=>cases hb
 rename_i l' hl';split at hb
 case isFalse=>cases hb
 rename_i hcond;obtain⟨c1,c2,c3,c4⟩:=hcond;injection hb with hb;injection hb with hb;subst hb
 rw[ht]at hts;injection hts with hts;injection hts with h1 h2;subst h1;subst h2
 obtain⟨q1,q2⟩:=ve hs hps;unfold eC at ht;split at ht
 case h_2=>cases ht
 rename_i e' hu';cases hin:cx.P.info? e' with
 | none=>simp[ch,hin]at ht
 | some ie =>
  simp only[ch,hin,Option.map_some,Option.some.injEq,Prod.mk.injEq]at ht;obtain⟨rfl,hsz0⟩:=ht;have hsz:ie.size=sz'+1:=hsz0;clear hsz0;unfold dL at c4;cases hzz:ie.zero with
  | none=>simp[hin,hzz]at c4
  | some z =>
   have hl0:(parts.map fun (y:Nat×Operand)=>(y.1,a.eval y.2)).toList=parts.toList.map fun y=>(y.1,a.eval y.2):=Array.toList_map;obtain⟨zs',ys,f1,f2,f3,f4,f5,f6,f7⟩:=Dx (zs:=(Array.range (len*ie.size)).map (z.cells[· % z.cells.size]!)) q1 q2 hl' (by simp[c1,hsz]);rw[←hl0]at f1;have hy:zs'.toList=ys:=by
    rw[f2,c1];simp[hsz]
   have f1':Instr.fill (fun i=>some (i*ie.size,ie.size)) ((Array.range (len*ie.size)).map (z.cells[· % z.cells.size]!)) (parts.map fun (y:Nat×Operand)=>(y.1,a.eval y.2)).toList=some zs':=by rw[hsz];rw[hsz]at f1;exact f1
   have hpos:0<len*ie.size:=Nat.mul_pos c2 (by omega);have hrun:=run_buildSlice (P:=cx.P) w T e' len (parts.map fun (y:Nat×Operand)=>(y.1,a.eval y.2)) zs' ie z hu' hin hzz (by rw[hsz];omega) (by omega) f1';have hm:len*1≤len*(sz'+1):=Nat.mul_le_mul_left _ (by omega);have hs2:=hs.qy (Nat.le_of_ble_eq_true hn) hu (e:=e') (sz:=sz'+1) (n:=len) (l:=l') (vs:=ys) (by rw[f4,c1]) (by unfold maxLen;omega) (by rw[f3,c1]) f5 f6 f7;unfold Oper.wp execOp;simp only[hop,Sem.run_bind,hrun,Result.andThen_ok,Sem.run_pure];rw[hd];rw[←hy]at hs2;simp only[Array.toArray_toList]at hs2;exact hK _ _ (k _ _ _ hs2)
theorem jQ{α:Type}(enc:α→List AV)(zt:α){all:Array Oper}{f:Func}{p:List Nat}{i:Nat}(T:TypeId)(x y:Operand)(d:Nat){e:TypeId}{sz:Nat}{zc:List AV}{bytes:Nat}{n:Int}{kd kd':IntKind}(hb:fq n bytes=true)(k:OT cx Q ks all (aN f p (i+1)) (Bv d ⟨e,sz,List.map enc (List.replicate n.toNat zt)⟩ s))
  (hl:aN f p i=aQ f p i::aN f p (i+1):=by kernel_rfl) (hg:ci all s (aQ f p i)=true:=by kernel_rfl) (hop:(aQ f p i).op=.makeSlice T x y:=by kernel_rfl) (hd:(aQ f p i).dst=some d:=by kernel_rfl) (hn:Nat.ble (d+1) cx.n=true:=by kernel_rfl) (hx:s.ev x=some (.int kd n):=by kernel_rfl) (hy:s.ev y=some (.int kd' n):=by kernel_rfl)
  (ht:fK cx.P T=some (e,sz,bytes):=by kernel_rfl) (hz:dL cx.P e=some zc:=by kernel_rfl) (he:zc.map eV=enc zt:=by kernel_rfl) (hu:has s.u d=false:=by kernel_rfl):OT cx Q ks all (aN f p i) s:=QG enc zt _ T x y d hl hg hop hd hn hx hy ht hz he hu hb k
theorem dw(d k:Nat)(et:TypeId)(sz:Nat)(h:VE cx Q ks e (YL k d ⟨et,sz,[]⟩ s))(hd:has s.u d=false:=by kernel_rfl)(hk:look k s.t=some .nils:=by kernel_rfl):VE cx Q ks e s:=YS d k et sz hd hk h
theorem yN(d i n:Nat)(et:TypeId)(sz:Nat)(h:VE cx Q ks e (w6 d i n et sz s))(hd:has s.u d=false:=by kernel_rfl)(hk:yB i n s=true:=by kernel_rfl):VE cx Q ks e s:=by
 unfold yB at hk;unfold w6 at h;split at hk
 ·rename_i cs hcs;rw[hcs]at h;split at hk
  ·rename_i hn;exact ZK d i n et sz hd hcs hn h
  ·cases hk
 ·cases hk
end
section
variable{P:Program}{n:Nat}{s0:AS}{all:Array Oper}{K:Nat}{σs:List AS}{o:Oper}
theorem cy{m:Nat}{s':AS}(h:bT P n (nth σs m) o=some s')(he:s'=nth σs (m+1):=by kernel_rfl)(hg:o.guard.isNone=true:=by kernel_rfl):dT P n s0 all K σs o (.s (m+1)):=Iz hg (h.trans (congrArg some he))
theorem bU(m:Nat)(h:bT P n (nth σs m) o=some (nth σs (m+1)):=by kernel_rfl)(hg:o.guard.isNone=true:=by kernel_rfl):dT P n s0 all K σs o (.s (m+1)):=Iz hg h
theorem lA{lo:Nat}{s':AS}(h:bT P n (nth σs lo) o=some s')(he:s'=nth σs lo:=by kernel_rfl)(hg:ci all (nth σs lo) o=true:=by kernel_rfl):dT P n s0 all K σs o (.v lo 1):=dm (cu ⟨hg,cw h he⟩ dp)
def yb(all:Array Oper)(σs:List AS)(o:Oper)(d:Nat):Nat→Nat→List (Bool×Option (FuncId×List AV)×Option AV)
 | _,0=>[]
 | lo,k+1=>(ci all (nth σs lo) o,df (nth σs lo) o,look d (nth σs lo).t)::yb all σs o d (lo+1) k
def t8(x:Bool×Option (FuncId×List AV)×Option AV):Nat→List (Bool×Option (FuncId×List AV)×Option AV)
 | 0=>[]
 | k+1=>x::t8 x k
theorem Ij{d:Nat}{f:FuncId}{args:List AV}{V:AV}:∀{k lo:Nat},yb all σs o d lo k=t8 (true,some (f,args),some V) k→de lo k fun j=>ci all (nth σs j) o=true∧df (nth σs j) o=some (f,args)∧look d (nth σs j).t=some V
 | 0,_,_=>trivial
 | k+1,lo,h=>by
  simp only[yb,t8,List.cons.injEq,Prod.mk.injEq]at h;exact⟨⟨h.1.1,h.1.2.1,h.1.2.2⟩,Ij h.2⟩
theorem bL(lo k d:Nat){f:FuncId}{args:List AV}{V:AV}(hc:aW P f args (fun v _=>v=V))(hcl:co P f=true:=by kernel_rfl)(hv:V.cK []=true:=by kernel_rfl)(hd:o.dst=some d:=by kernel_rfl)(hdn:Nat.ble (d+1) n=true:=by kernel_rfl)
  (h:yb all σs o d lo k=t8 (true,some (f,args),some V) k:=by kernel_rfl):dT P n s0 all K σs o (.c lo k):=Zj V hc hcl hv d hd hdn (Ij h)
def vd(σs:List AS)(d:Nat):Nat→Nat→List (Option (List AV)×Bool×Option AV×Bool)
 | _,0=>[]
 | lo,k+1=>(look d (nth σs lo).o,(look d (nth σs lo).r).isNone,look d (nth σs lo).t,has (nth σs lo).u d)::vd σs d (lo+1) k
def wz(x:Option (List AV)×Bool×Option AV×Bool):Nat→List (Option (List AV)×Bool×Option AV×Bool)
 | 0=>[]
 | k+1=>x::wz x k
theorem K2{d:Nat}{cs:List AV}:∀{k lo:Nat},vd σs d lo k=wz (some cs,true,some (.ptr d 0),true) k→de lo k fun j=>look d (nth σs j).o=some cs∧look d (nth σs j).r=none∧look d (nth σs j).t=some (.ptr d 0)∧has (nth σs j).u d=true
 | 0,_,_=>trivial
 | k+1,lo,h=>by
  simp only[vd,wz,List.cons.injEq,Prod.mk.injEq]at h;exact⟨⟨h.1.1,by simpa using h.1.2.1,h.1.2.2.1,h.1.2.2.2⟩,K2 h.2⟩
theorem i7(lo k T d:Nat)(cs:List AV)(hg:o.guard.isNone=true:=by kernel_rfl)(hop:o.op=.alloc T:=by kernel_rfl)(hd:o.dst=some d:=by kernel_rfl)(hdn:Nat.ble (d+1) (min n 450000)=true:=by kernel_rfl)(hz:dL P T=some cs:=by kernel_rfl)(hu:has s0.u d=false:=by kernel_rfl)
  (h:vd σs d lo k=wz (some cs,true,some (.ptr d 0),true) k:=by kernel_rfl):dT P n s0 all K σs o (.a lo k):=RQ T d cs hg hop hd hdn hz hu (K2 h)
def vZ(all:Array Oper)(σs:List AS)(o:Oper)(d:Nat):Nat→Nat→List (Bool×Option AV×Option bE×Bool×Bool)
 | _,0=>[]
 | lo,k+1=>(ci all (nth σs lo) o,look d (nth σs lo).t,look d (nth σs lo).r,(look d (nth σs lo).o).isNone,has (nth σs lo).u d)::vZ all σs o d (lo+1) k
def xi(x:Bool×Option AV×Option bE×Bool×Bool):Nat→List (Bool×Option AV×Option bE×Bool×Bool)
 | 0=>[]
 | k+1=>x::xi x k
theorem Gg{d:Nat}{ar:bE}:∀{k lo:Nat},vZ all σs o d lo k=xi (true,some (.ref d),some ar,true,true) k→de lo k fun j=>ci all (nth σs j) o=true∧look d (nth σs j).t=some (.ref d)∧look d (nth σs j).r=some ar∧look d (nth σs j).o=none∧has (nth σs j).u d=true
 | 0,_,_=>trivial
 | k+1,lo,h=>by
  simp only[vZ,xi,List.cons.injEq,Prod.mk.injEq]at h;exact⟨⟨h.1.1,h.1.2.1,h.1.2.2.1,by simpa using h.1.2.2.2.1,h.1.2.2.2.2⟩,Gg h.2⟩
theorem X8(lo k T d e sz:Nat)(hop:o.op=.buildSlice T 0 #[]:=by kernel_rfl)(hd:o.dst=some d:=by kernel_rfl)(hdn:Nat.ble (d+1) n=true:=by kernel_rfl)(hu:has s0.u d=false:=by kernel_rfl)(ht:P.underlying T=some (.slice e):=by kernel_rfl)(hz:ch P e=some sz:=by kernel_rfl)
  (h:vZ all σs o d lo k=xi (true,some (.ref d),some ⟨e,sz,[]⟩,true,true) k:=by kernel_rfl):dT P n s0 all K σs o (.o lo k):=by
 refine⟨d,hd,Nat.le_of_ble_eq_true hdn,hu,qx (fun j hj=>⟨vm hj.1,?_⟩) (Gg h)⟩;unfold pX;simp only[hop];exact⟨trivial,trivial,e,sz,ht,hz,hj.2⟩
def wM(all:Array Oper)(σs:List AS)(o:Oper)(d:Nat):Nat→Nat→List (Bool×Option (FuncId×List AV)×Option AV×Option bE×Bool×Bool)
 | _,0=>[]
 | lo,k+1=>(ci all (nth σs lo) o,df (nth σs lo) o,look d (nth σs lo).t,look d (nth σs lo).r,(look d (nth σs lo).o).isNone,has (nth σs lo).u d)::wM all σs o d (lo+1) k
def xu(x:Bool×Option (FuncId×List AV)×Option AV×Option bE×Bool×Bool):Nat→List (Bool×Option (FuncId×List AV)×Option AV×Option bE×Bool×Bool)
 | 0=>[]
 | k+1=>x::xu x k
theorem MG{d:Nat}{f:FuncId}{args:List AV}{V:AV}{ar:bE}:∀{k lo:Nat},wM all σs o d lo k=xu (true,some (f,args),some V,some ar,true,true) k→de lo k fun j=>ci all (nth σs j) o=true∧df (nth σs j) o=some (f,args)∧look d (nth σs j).t=some V∧look d (nth σs j).r=some ar∧look d (nth σs j).o=none∧has (nth σs j).u d=true
 | 0,_,_=>trivial
 | k+1,lo,h=>by
  simp only[wM,xu,List.cons.injEq,Prod.mk.injEq]at h;exact⟨⟨h.1.1,h.1.2.1,h.1.2.2.1,h.1.2.2.2.1,by simpa using h.1.2.2.2.2.1,h.1.2.2.2.2.2⟩,MG h.2⟩
theorem rq(lo k d:Nat){f:FuncId}{args:List AV}{V:AV}{id:Nat}{ar:bE}(hc:aW P f args (fun v s1=>v=V∧look id s1.r=some ar))(hone:∀(N:Nat→Prop) w ι x,Rel N w ι V x→∃y,ι id=some y)(hcl:co P f=true:=by kernel_rfl)
  (hd:o.dst=some d:=by kernel_rfl) (hdn:Nat.ble (d+1) n=true:=by kernel_rfl) (hu:has s0.u d=false:=by kernel_rfl) (htg:Nat.ble (id+1) TG=true:=by kernel_rfl) (h:wM all σs o d lo k=xu (true,some (f,args),some (V.ek id d),some ar,true,true) k:=by kernel_rfl):dT P n s0 all K σs o (.o lo k):=Rs V d htg hc hcl hone hd hdn hu (MG h)
end
def aV(p:Nat×Nat):List AV:=[.adr p.1 p.2]
def Wk(k id g off:Nat)(s:AS):AS:={ s with t:=bg k (.pp id g off) s.t }
def ik(k:Nat)(v:AV)(s:AS):AS:={ s with t:=bg k v s.t }
theorem aU.gz{cx:Cx}{s:AS}{a:Act}{w:World}{ι:Env}(h:aU cx s a w ι){k:Nat}{v:AV}(hv:∀x,a.tmps[k]?=some x→Rel (NN cx.M ι) w ι v x)(hk:∃u,look k s.t=some u):aU cx (ik k v s) a w ι:=by
 refine⟨⟨h.hs.below,h.hs.old,h.hs.use,h.hs.own,h.hs.inj,h.hs.ko,h.hs.kr,h.hs.objs,h.hs.arrs,h.hs.pin⟩,h.dfr,h.n,fun j y hj=>?_⟩;have hj':look j (bg k v s.t)=some y:=hj;rw[ce]at hj';split at hj'
 ·rename_i e;subst e;injection hj' with hj';subst hj'
  obtain⟨u,hu⟩:=hk;obtain⟨x,hx,_⟩:=h.tmp j u hu;exact⟨x,hx,hv x hx⟩
 ·exact h.tmp j y hj'
section
variable{cx:Cx}{Q:Exit→Act→World→Prop}{ks:List ao}{e:Exit}{s:AS}{all:Array Oper}{l:List Oper}
theorem Mv(k id off:Nat)(h:∀g:Nat,VE cx Q ks e (Wk k id g off s))(hk:look k s.t=some (.ptr id off):=by kernel_rfl):VE cx Q ks e s:=fun a w ι hs=>by
 obtain⟨x,hx,hr⟩:=hs.tmp k _ hk;cases hr with
 | ptr _ _ _ g hg=>exact h g a w ι (hs.gz (v:=.pp id g off) (fun y hy=>by rw[hx]at hy;injection hy with hy;subst hy;exact .pp _ _ _ _ hg) ⟨_,hk⟩)
theorem aae{a:Act}{w:World}{ι:Env}(hs:aU cx s a w ι){j k id g off o:Nat}(hj:look j s.t=some (.adr g off))(hk:look k s.t=some (.pp id g o)):aU cx (ik j (.ptr id off) s) a w ι:=by
 obtain⟨x,hx,hr⟩:=hs.tmp j _ hj;obtain⟨y,hy,hr'⟩:=hs.tmp k _ hk;refine hs.gz (fun z hz=>?_) ⟨_,hj⟩;rw[hx]at hz;injection hz with hz;subst hz
 cases hr with
 | adr _ _ _ =>
  cases hr' with
  | pp _ _ _ _ h2=>exact .ptr _ _ _ _ h2
theorem cF(j k id g off o:Nat)(h:OT cx Q ks all l (ik j (.ptr id off) s))(hj:look j s.t=some (.adr g off):=by kernel_rfl)(hk:look k s.t=some (.pp id g o):=by kernel_rfl):OT cx Q ks all l s:=fun a w ι hs=>h a w ι (aae hs hj hk)
end
end Go.Proofs.YtocgkfoifehcbaaGreat
