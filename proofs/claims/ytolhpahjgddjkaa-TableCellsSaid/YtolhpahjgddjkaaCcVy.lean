/- Laws of single operations in short form: what the kernel computes of an operation is one premise. No program in sight. -/
import Derived.Test.YtolhpahjgddjkaaCcVx
namespace Go.Proofs.Ytolhpahjgddjkaa
set_option linter.all false
open Go.RowKit
def strS (id:Nat) (ar:Arr) (s:AS):AS:={ s with r:=upd id ar s.r }
def appS (d id:Nat) (ar:Arr) (s:AS):AS:={ t:=upd d (.ref id) (killT id s.t),o:=killO id s.o,r:=upd id ar s.r,u:=s.u }
def apnS (d:Nat) (ar:Arr) (s:AS):AS:={ t:=upd d (.ref d) (killT d s.t),o:=killO d s.o,r:=upd d ar s.r,u:=d::s.u }
def newS (d:Nat) (ar:Arr) (s:AS):AS:={ t:=upd d (.ref d) s.t,o:=s.o,r:=upd d ar s.r,u:=d::s.u }
def ownS (k d:Nat) (ar:Arr) (s:AS):AS:=⟨upd k (.ref d) s.t,s.o,upd d ar s.r,d::s.u⟩
section
variable {P:Program} {n:Nat} {s:AS} {o:Oper} {α:Type} [Inhabited α]
def dOk (n:Nat) (o:Oper):Bool:=match o.dst with | some d=>Nat.ble (d+1) n | none=>false
theorem ge (h:dOk n o=true):∃ d,o.dst=some d∧Nat.ble (d+1) n=true:=by
  unfold dOk at h
  split at h
  · rename_i d hd; exact ⟨d,hd,h⟩
  · cases h
def ixsI (P:Program) (n:Nat) (s:AS) (o:Oper):Option (List (List AV)×Int×Nat):=match dOk n o,o.op with
  | true,.indexAddr T x y=>match s.ev x,s.ev y,tarr P T,tsl P T with
    | some (.sl l),some (.int _ i),none,some (_,sz)=>some (l,i,sz)
    | _,_,_,_=>none
  | _,_=>none
theorem bL (enc exp:α→List AV) {L:List α} {i:Int} {sz:Nat} (hb:inb i L.length=true) (hz:∀ a,(enc a).length=sz) (he:∀ a,enc a=exp a) (h:ixsI P n s o=some (L.map enc,i,sz):=by kernel_rfl):aop P n s o=some (s.put o.dst (.cptr (exp (L.getD i.toNat default)))):=by
  unfold ixsI at h
  split at h
  case h_2=>cases h
  rename_i T x y hd hop
  obtain ⟨d,hd,hn⟩:=ge hd
  split at h
  case h_2=>cases h
  rename_i h1 h2 h3 h4
  simp only [Option.some.injEq,Prod.mk.injEq] at h
  obtain ⟨rfl,rfl,rfl⟩:=h
  rw [hd]
  exact aop_ix_sl enc exp L _ T x y d hop hd hn h1 h2 h3 h4 hb hz he
def ixrI (P:Program) (n:Nat) (s:AS) (o:Oper):Option (Nat×Nat×Int×List (List AV)):=match dOk n o,o.op with
  | true,.indexAddr T x y=>match s.ev x,s.ev y,tarr P T,tsl P T with
    | some (.ref id),some (.int _ i),none,some (_,sz)=>match look id s.r with
      | some ⟨_,sz',l⟩=>match Nat.beq sz sz' with
        | true=>some (id,sz,i,l)
        | false=>none
      | none=>none
    | _,_,_,_=>none
  | _,_=>none
theorem bM (id sz:Nat) (enc:α→List AV) {L:List α} {i:Int} (hb:inb i L.length=true) (h:ixrI P n s o=some (id,sz,i,L.map enc):=by kernel_rfl):aop P n s o=some (s.put o.dst (.eptr id sz i.toNat 0)):=by
  unfold ixrI at h
  split at h
  case h_2=>cases h
  rename_i T x y hd hop
  obtain ⟨d,hd,hn⟩:=ge hd
  split at h
  case h_2=>cases h
  rename_i h1 h2 h3 h4
  split at h
  case h_2=>cases h
  rename_i h5
  split at h
  case h_2=>cases h
  rename_i h6
  have h6:=Nat.eq_of_beq_eq_true h6
  simp only [Option.some.injEq,Prod.mk.injEq] at h
  obtain ⟨rfl,rfl,rfl,rfl⟩:=h
  subst h6
  rw [hd]
  exact aop_ix_ref enc L _ T x y d hop hd hn h1 h2 h5 h3 h4 hb
def ldrI (n:Nat) (s:AS) (o:Oper):Option (TypeId×Nat×Nat×List (List AV)):=match dOk n o,o.op with
  | true,.load T x=>match s.ev x with
    | some (.eptr id sz j off)=>match look id s.r with
      | some ⟨_,sz',l⟩=>match Nat.beq sz sz' && Nat.ble (id+1) TG with
        | true=>some (T,j,off,l)
        | false=>none
      | none=>none
    | _=>none
  | _,_=>none
def valD:Option AV→AV
  | some v=>v
  | none=>.any
def valB:Option AV→Bool
  | some _=>true
  | none=>false
theorem bj (T:TypeId) (off:Nat) (enc exp:α→List AV) {L:List α} {j:Nat} (hj:j<L.length) (he:∀ a,enc a=exp a) (h:ldrI n s o=some (T,j,off,L.map enc):=by kernel_rfl) (hv:valB (ald P T ((exp (L.getD j default)).drop off))=true:=by kernel_rfl) :
    aop P n s o=some (s.put o.dst (valD (ald P T ((exp (L.getD j default)).drop off)))):=by
  unfold ldrI at h
  split at h
  case h_2=>cases h
  rename_i T' x hd hop
  obtain ⟨d,hd,hn⟩:=ge hd
  split at h
  case h_2=>cases h
  rename_i h1
  split at h
  case h_2=>cases h
  rename_i h5
  split at h
  case h_2=>cases h
  rename_i h6
  rw [Bool.and_eq_true] at h6
  have htg:=Nat.le_of_ble_eq_true h6.2
  have h6:=Nat.eq_of_beq_eq_true h6.1
  simp only [Option.some.injEq,Prod.mk.injEq] at h
  obtain ⟨rfl,rfl,rfl,rfl⟩:=h
  subst h6
  cases hq:ald P T' ((exp (L.getD _ default)).drop _) with
  | none=>rw [hq] at hv; cases hv
  | some v =>
    rw [hd]
    exact aop_ld_ref enc exp L T' x d htg hop hd hn h1 h5 hj he hq
def strI (P:Program) (s:AS) (o:Oper):Option (Nat×TypeId×Nat×Nat×Nat×List (List AV)):=match o.dst,o.op with
  | none,.store T x y=>match s.ev x,s.ev y with
    | some (.eptr id sz j off),some v=>match look id s.r,acells v,tsz P T with
      | some ⟨et,sz',l⟩,some nv,some k=>match Nat.beq sz sz' && Nat.beq k nv.length with
        | true=>some (id,et,sz,j,off,l)
        | false=>none
      | _,_,_=>none
    | _,_=>none
  | _,_=>none
def strN (s:AS) (o:Oper):List AV:=match o.op with
  | .store _ _ y=>match s.ev y with
    | some v=>match acells v with | some nv=>nv | none=>[]
    | none=>[]
  | _=>[]
theorem cq (id:Nat) (et:TypeId) (sz off:Nat) (enc exp:α→List AV) {L:List α} {j:Nat} (new:α) (hj:j<L.length) (he:∀ a,enc a=exp a) (h:strI P s o=some (id,et,sz,j,off,L.map enc):=by kernel_rfl)
    (hl:(Nat.ble (off+(strN s o).length) (exp (L.getD j default)).length && inUs [] (strN s o))=true:=by kernel_rfl) (hs:splice off (strN s o) (exp (L.getD j default))=exp new:=by kernel_rfl) :
    aop P n s o=some (strS id ⟨et,sz,(L.set j new).map enc⟩ s):=by
  unfold strI at h
  split at h
  case h_2=>cases h
  rename_i T x y hd hop
  split at h
  case h_2=>cases h
  rename_i v h1 h2
  split at h
  case h_2=>cases h
  rename_i nv k h5 hv hz
  split at h
  case h_2=>cases h
  rename_i h6
  simp only [Bool.and_eq_true] at h6
  have h7:=Nat.eq_of_beq_eq_true h6.1
  have h8:=Nat.eq_of_beq_eq_true h6.2
  simp only [Option.some.injEq,Prod.mk.injEq] at h
  obtain ⟨rfl,rfl,rfl,rfl,rfl,rfl⟩:=h
  subst h7; subst h8
  have hN:strN s o=nv:=by unfold strN; simp only [hop,h2,hv]
  rw [hN] at hl hs
  simp only [Bool.and_eq_true] at hl
  exact aop_st_ref enc exp L new T x y hop hd h1 h2 h5 hj hv hz he hl.1 hl.2 hs
def sriI (P:Program) (n:Nat) (s:AS) (o:Oper):Option (Nat×Nat×Nat×Nat×Int):=match dOk n o,o.op with
  | true,.indexAddr T x y=>match s.ev x,s.ev y,tarr P T,tsl P T with
    | some (.sref id sz off m),some (.int _ i),none,some (_,sz')=>match Nat.beq sz sz' with
      | true=>some (id,sz,off,m,i)
      | false=>none
    | _,_,_,_=>none
  | _,_=>none
theorem gO (id sz:Nat) {off m:Nat} {i:Int} (hb:inb i m=true) (h:sriI P n s o=some (id,sz,off,m,i):=by kernel_rfl):aop P n s o=some (s.put o.dst (.eptr id sz (off+i.toNat) 0)):=by
  unfold sriI at h
  split at h
  case h_2=>cases h
  rename_i T x y hd hop
  obtain ⟨d,hd,hn⟩:=ge hd
  have hdn:d<n:=Nat.le_of_ble_eq_true hn
  split at h
  case h_2=>cases h
  rename_i h1 h2 h3 h4
  split at h
  case h_2=>cases h
  rename_i h5
  have h5:=Nat.eq_of_beq_eq_true h5
  simp only [Option.some.injEq,Prod.mk.injEq] at h
  obtain ⟨rfl,rfl,rfl,rfl,rfl⟩:=h
  subst h5
  obtain ⟨g1,g2⟩:=aI hb
  rw [hd]
  unfold aop
  rw [if_pos (by rw [hd]; simpa [dstOk] using hdn)]
  simp only [hop,aix,h1,h2,aidx,g1,if_true,h3,h4,g2,and_self,hd]
def lnvI (P:Program) (n:Nat) (s:AS) (o:Oper):Option Nat:=match dOk n o,o.op with
  | true,.call ⟨.builtin .len,⟨[x]⟩,⟨[T]⟩⟩=>match s.ev x,tsl P T with
    | some (.sref _ _ _ m),some _=>some m
    | _,_=>none
  | _,_=>none
theorem y_lnv {m:Nat} (h:lnvI P n s o=some m:=by kernel_rfl):aop P n s o=some (s.put o.dst (.int .i64 m)):=by
  unfold lnvI at h
  split at h
  case h_2=>cases h
  rename_i x T hd hop
  obtain ⟨d,hd,hn⟩:=ge hd
  have hdn:d<n:=Nat.le_of_ble_eq_true hn
  split at h
  case h_2=>cases h
  rename_i h1 h2
  injection h with h; subst h
  rw [hd]
  unfold aop
  rw [if_pos (by rw [hd]; simpa [dstOk] using hdn)]
  simp only [hop,acall,evs,h1,alen,h2,hd]
def lenI (P:Program) (n:Nat) (s:AS) (o:Oper):Option (List (List AV)):=match dOk n o,o.op with
  | true,.call ⟨.builtin .len,⟨[x]⟩,⟨[T]⟩⟩=>match s.ev x,tsl P T with
    | some (.sl l),some _=>some l
    | some (.ref id),some _=>match look id s.r with
      | some ⟨_,_,l⟩=>some l
      | none=>none
    | _,_=>none
  | _,_=>none
theorem aZ (enc:α→List AV) (L:List α) (h:lenI P n s o=some (L.map enc):=by kernel_rfl):aop P n s o=some (s.put o.dst (.int .i64 L.length)):=by
  unfold lenI at h
  split at h
  case h_2=>cases h
  rename_i x T hd hop
  obtain ⟨d,hd,hn⟩:=ge hd
  rw [hd]
  split at h
  · rename_i h1 h2
    injection h with h; subst h
    exact aop_len_sl enc L T x d hop hd hn h1 h2
  · rename_i h1 h2
    split at h
    · rename_i h3
      injection h with h; subst h
      exact aop_len_ref enc L T x d hop hd hn h1 h3 h2
    · cases h
  · cases h
def apprI (P:Program) (n:Nat) (s:AS) (o:Oper):Option (Nat×Nat×TypeId×Nat×Nat×List (List AV)×List (List AV)):=match o.dst,o.op with
  | some d,.call ⟨.builtin .append,⟨[x,y]⟩,⟨[T,T']⟩⟩=>match Nat.beq T T' && Nat.ble (d+1) n,s.ev x,s.ev y,tapp P T with
    | true,some (.ref id),some (.sl new),some (et,sz,bytes)=>match look id s.r with
      | some ⟨et',sz',l⟩=>match (Nat.beq et et' && Nat.beq sz sz') && !s.u.contains (pinN id) with
        | true=>some (d,id,et,sz,bytes,new,l)
        | false=>none
      | none=>none
    | _,_,_,_=>none
  | _,_=>none
theorem cE (d id:Nat) (et:TypeId) (sz:Nat) (enc:α→List AV) {L M:List α} {bytes:Nat} {new:List (List AV)} (hnew:new=M.map enc) (hz:∀ a,(enc a).length=sz) (hf:fits (L.length+M.length) bytes=true) (h:apprI P n s o=some (d,id,et,sz,bytes,new,L.map enc):=by kernel_rfl) :
    aop P n s o=some (appS d id ⟨et,sz,(L++M).map enc⟩ s):=by
  unfold apprI at h
  split at h
  case h_2=>cases h
  rename_i d' x y T T' hd hop
  split at h
  case h_2=>cases h
  rename_i hb h1 h2 h3
  simp only [Bool.and_eq_true] at hb
  have hT:=Nat.eq_of_beq_eq_true hb.1
  split at h
  case h_2=>cases h
  rename_i h5
  split at h
  case h_2=>cases h
  rename_i h6
  simp only [Bool.and_eq_true,Bool.not_eq_true'] at h6
  have h7:=Nat.eq_of_beq_eq_true h6.1.1
  have h8:=Nat.eq_of_beq_eq_true h6.1.2
  have h9:=h6.2
  simp only [Option.some.injEq,Prod.mk.injEq] at h
  obtain ⟨rfl,rfl,rfl,rfl,rfl,rfl,rfl⟩:=h
  have hT':T=T':=hT
  subst hT'
  subst h7; subst h8
  exact aop_app_ref enc L M T x y _ hop hd hb.2 h1 h2 hnew h5 h3 hz hf h9 rfl rfl
def appnI (P:Program) (n:Nat) (s:AS) (o:Oper):Option (Nat×TypeId×Nat×Nat×List (List AV)):=match o.dst,o.op with
  | some d,.call ⟨.builtin .append,⟨[x,y]⟩,⟨[T,T']⟩⟩=>match Nat.beq T T' && (Nat.ble (d+1) n && !has s.u d),s.ev x,s.ev y,tapp P T with
    | true,some .nils,some (.sl new),some (et,sz,bytes)=>some (d,et,sz,bytes,new)
    | _,_,_,_=>none
  | _,_=>none
theorem y_apn (d:Nat) (et:TypeId) (sz:Nat) (enc:α→List AV) {M:List α} {bytes:Nat} {new:List (List AV)} (hnew:new=M.map enc) (hz:∀ a,(enc a).length=sz) (hf:fits M.length bytes=true) (h:appnI P n s o=some (d,et,sz,bytes,new):=by kernel_rfl) :
    aop P n s o=some (apnS d ⟨et,sz,M.map enc⟩ s):=by
  unfold appnI at h
  split at h
  case h_2=>cases h
  rename_i d' x y T T' hd hop
  split at h
  case h_2=>cases h
  rename_i hb h1 h2 h3
  simp only [Bool.and_eq_true,Bool.not_eq_true'] at hb
  have hT:=Nat.eq_of_beq_eq_true hb.1
  simp only [Option.some.injEq,Prod.mk.injEq] at h
  obtain ⟨rfl,rfl,rfl,rfl,rfl⟩:=h
  have hT':T=T':=hT
  subst hT'
  exact aop_app_nil enc M T x y _ hop hd hb.2.1 h1 h2 hnew hb.2.2 h3 hz hf rfl rfl
def bslI (P:Program) (n:Nat) (s:AS) (o:Oper) (new:List (List AV)):Option AS:=match dOk n o with
  | true=>some (s.put o.dst (.sl new))
  | false=>none
theorem fc (enc:α→List AV) (M:List α) {new:List (List AV)} (hnew:new=M.map enc) (h:aop P n s o=bslI P n s o new:=by kernel_rfl) (hd:dOk n o=true:=by kernel_rfl):aop P n s o=some (s.put o.dst (.sl (M.map enc))):=by
  rw [h,bslI,hd,hnew]
def binI (n:Nat) (s:AS) (o:Oper):Option (BinOp×AV×AV):=match dOk n o,o.op with
  | true,.binOp op _ x y _=>match s.ev x,s.ev y with
    | some u,some v=>some (op,u,v)
    | _,_=>none
  | _,_=>none
theorem y_quo (k:IntKind) (a:Int) {b:Int} (hb:(b != 0)=true) (h:binI n s o=some (.quo,.int k a,.int k b):=by kernel_rfl):aop P n s o=some (s.put o.dst (.int k (k.wrap (a.tdiv b)))):=by
  unfold binI at h
  split at h
  case h_2=>cases h
  rename_i hd hop
  obtain ⟨d,hd,hn⟩:=ge hd
  split at h
  case h_2=>cases h
  rename_i h1 h2
  simp only [Option.some.injEq,Prod.mk.injEq] at h
  obtain ⟨rfl,rfl,rfl⟩:=h
  rw [hd]
  exact aop_quo _ _ _ _ d hop hd hn h1 h2 hb
theorem y_rem (k:IntKind) (a:Int) {b:Int} (hb:(b != 0)=true) (h:binI n s o=some (.rem,.int k a,.int k b):=by kernel_rfl):aop P n s o=some (s.put o.dst (.int k (a.tmod b))):=by
  unfold binI at h
  split at h
  case h_2=>cases h
  rename_i hd hop
  obtain ⟨d,hd,hn⟩:=ge hd
  split at h
  case h_2=>cases h
  rename_i h1 h2
  simp only [Option.some.injEq,Prod.mk.injEq] at h
  obtain ⟨rfl,rfl,rfl⟩:=h
  rw [hd]
  exact aop_rem _ _ _ _ d hop hd hn h1 h2 hb
end
section
variable {cx:Cx} {Q:AV→AS→Prop} {s:AS} {fn:Func}
theorem bF {V:AV} (h:ares cx.P s fn.results.toList=some [V]:=by kernel_rfl):VE cx (bodyPost cx.P fn (RetQ cx.M cx.w0 (fun v _=>v=V))) [] .ret s:=qk rfl h rfl
theorem dW {l:List AV} (h:ares cx.P s fn.results.toList=some l:=by kernel_rfl) (h2:aret l = .tup l:=by kernel_rfl):VE cx (bodyPost cx.P fn (RetQ cx.M cx.w0 (fun v _=>v = .tup l))) [] .ret s:=qk rfl h h2
theorem cO {V:AV} {id:Nat} {ar:Arr} (h:ares cx.P s fn.results.toList=some [V]:=by kernel_rfl) (h2:look id s.r=some ar:=by kernel_rfl):VE cx (bodyPost cx.P fn (RetQ cx.M cx.w0 (fun v s=>v=V∧look id s.r=some ar))) [] .ret s:=qk rfl h ⟨rfl,h2⟩
theorem eI {l:List AV} {id:Nat} {ar:Arr} (h:ares cx.P s fn.results.toList=some l:=by kernel_rfl) (h2:look id s.r=some ar:=by kernel_rfl) (h3:aret l = .tup l:=by kernel_rfl):VE cx (bodyPost cx.P fn (RetQ cx.M cx.w0 (fun v s=>v = .tup l∧look id s.r=some ar))) [] .ret s:=qk rfl h ⟨h3,h2⟩
end
def frzS (id:Nat) (s:AS):AS:=match look id s.r with | some ar=>s.frz id ar.l | none=>s
def hasR (id:Nat) (s:AS):Bool:=match look id s.r with | some _=>!s.u.contains (pinN id) && Nat.ble (id+1) TG | none=>false
theorem iQ {b:Bool} {id:Nat} (h:(!b && Nat.ble (id+1) TG)=true):b=false∧id<TG:=by
  rw [Bool.and_eq_true] at h; exact ⟨by simpa using h.1,Nat.le_of_ble_eq_true h.2⟩
def mvS (id nid:Nat) (s:AS):AS:=match look id s.r with | some ar=>⟨mvT id nid s.t,mvO id nid s.o,upd nid ar (era id s.r),nid::s.u⟩ | none=>s
def onoS (d i n:Nat) (et:TypeId) (sz:Nat) (s:AS):AS:=match look i s.o with | some cs=>⟨s.t,upd i (cs.set n (.ref d)) s.o,upd d ⟨et,sz,[]⟩ s.r,d::s.u⟩ | none=>s
def onoB (i n:Nat) (s:AS):Bool:=match look i s.o with | some cs=>(match cs[n]? with | some .nils=>true | _=>false) | none=>false
section
variable {cx:Cx} {Q:Exit→Act→World→Prop} {ks:List Kont} {e:Exit} {s:AS} {all:Array Oper} {l:List Oper}
theorem iJ (id:Nat) (h:VE cx Q ks e (frzS id s)) (ha:hasR id s=true:=by kernel_rfl):VE cx Q ks e s:=by
  unfold hasR at ha; unfold frzS at h
  split at ha
  · rename_i ar har; rw [har] at h; exact ve_frz id (iQ ha).2 har (iQ ha).1 h
  · cases ha
theorem dV (id:Nat) (h:OT cx Q ks all l (frzS id s)) (ha:hasR id s=true:=by kernel_rfl):OT cx Q ks all l s:=by
  unfold hasR at ha; unfold frzS at h
  split at ha
  · rename_i ar har; rw [har] at h; exact ot_frz id (iQ ha).2 har (iQ ha).1 h
  · cases ha
theorem ve_m (id nid:Nat) (h:VE cx Q ks e (mvS id nid s)) (ha:hasR id s=true:=by kernel_rfl) (hn:has s.u nid=false:=by kernel_rfl):VE cx Q ks e s:=by
  unfold hasR at ha; unfold mvS at h
  split at ha
  · rename_i ar har; rw [har] at h; exact ve_mv id nid (iQ ha).2 har hn (iQ ha).1 h
  · cases ha
theorem ot_bs {all:Array Oper} {f:Func} {p:List Nat} {i:Nat} (T:TypeId) (d:Nat) {e:TypeId} {sz:Nat} (k:OT cx Q ks all (restAt f p (i+1)) (newS d ⟨e,sz,[]⟩ s)) (hl:restAt f p i=opAt f p i::restAt f p (i+1):=by kernel_rfl) (hg:gon all s (opAt f p i)=true:=by kernel_rfl) (hop:(opAt f p i).op = .buildSlice T 0 #[]:=by kernel_rfl) (hd:(opAt f p i).dst=some d:=by kernel_rfl) (hn:Nat.ble (d+1) cx.n=true:=by kernel_rfl)
    (ht:cx.P.underlying T=some (.slice e):=by kernel_rfl) (hz:tsz cx.P e=some sz:=by kernel_rfl) (hu:has s.u d=false:=by kernel_rfl):OT cx Q ks all (restAt f p i) s:=ot_bs0 _ T d hl hg hop hd hn ht hz hu k
theorem ot_bsn {all:Array Oper} {f:Func} {p:List Nat} {i:Nat} (T:TypeId) (len:Nat) (parts:Array (Nat×Operand)) (d:Nat) {e:TypeId} {sz:Nat} {l:List (List AV)} (k:OT cx Q ks all (restAt f p (i+1)) (newS d ⟨e,sz,l⟩ s)) (hl:restAt f p i=opAt f p i::restAt f p (i+1):=by kernel_rfl) (hg:gon all s (opAt f p i)=true:=by kernel_rfl)
    (hop:(opAt f p i).op = .buildSlice T len parts:=by kernel_rfl) (hd:(opAt f p i).dst=some d:=by kernel_rfl) (hn:Nat.ble (d+1) cx.n=true:=by kernel_rfl) (hb:abslice cx.P s T len parts.toList=some (.sl l):=by kernel_rfl) (ht:tsl cx.P T=some (e,sz):=by kernel_rfl) (hu:has s.u d=false:=by kernel_rfl):OT cx Q ks all (restAt f p i) s:=by
  rw [hl]
  refine fO _ hg fun a w ι hs=>?_
  refine wpList_plain rfl fun K hK=>?_
  unfold abslice at hb
  split at hb
  case h_2=>cases hb
  rename_i e1 sz' ps hts hps
  split at hb
  case h_2=>cases hb
  rename_i l' hl'
  split at hb
  case isFalse=>cases hb
  rename_i hcond
  obtain ⟨c1,c2,c3,c4⟩:=hcond
  injection hb with hb; injection hb with hb; subst hb
  rw [ht] at hts
  injection hts with hts; injection hts with h1 h2; subst h1; subst h2
  obtain ⟨q1,q2⟩:=qD hs hps
  unfold tsl at ht
  split at ht
  case h_2=>cases ht
  rename_i e' hu'
  cases hin:cx.P.info? e' with
  | none=>simp [tsz,hin] at ht
  | some ie =>
    simp only [tsz,hin,Option.map_some,Option.some.injEq,Prod.mk.injEq] at ht
    obtain ⟨rfl,hsz0⟩:=ht
    have hsz:ie.size=sz'+1:=hsz0
    clear hsz0
    unfold tzero at c4
    cases hzz:ie.zero with
    | none=>simp [hin,hzz] at c4
    | some z =>
      have hl0:(parts.map fun (y:Nat×Operand)=>(y.1,a.eval y.2)).toList=parts.toList.map fun y=>(y.1,a.eval y.2):=Array.toList_map
      obtain ⟨zs',ys,f1,f2,f3,f4,f5,f6,f7⟩:=sh (zs:=(Array.range (len*ie.size)).map (z.cells[· % z.cells.size]!)) q1 q2 hl' (by simp [c1,hsz])
      rw [←hl0] at f1
      have hy:zs'.toList=ys:=by
        rw [f2,c1]
        simp [hsz]
      have f1':Instr.fill (fun i=>some (i*ie.size,ie.size)) ((Array.range (len*ie.size)).map (z.cells[· % z.cells.size]!)) (parts.map fun (y:Nat×Operand)=>(y.1,a.eval y.2)).toList=some zs':=by rw [hsz]; rw [hsz] at f1; exact f1
      have hpos:0<len*ie.size:=Nat.mul_pos c2 (by omega)
      have hrun:=run_buildSlice (P:=cx.P) w T e' len (parts.map fun (y:Nat×Operand)=>(y.1,a.eval y.2)) zs' ie z hu' hin hzz (by rw [hsz]; omega) (by omega) f1'
      have hm:len*1≤len*(sz'+1):=Nat.mul_le_mul_left _ (by omega)
      have hs2:=hs.newArr (Nat.le_of_ble_eq_true hn) hu (e:=e') (sz:=sz'+1) (n:=len) (l:=l') (vs:=ys) (by rw [f4,c1]) (by unfold maxLen; omega) (by rw [f3,c1]) f5 f6 f7
      unfold Oper.wp execOp
      simp only [hop,Sem.run_bind,hrun,Result.andThen_ok,Sem.run_pure]
      rw [hd]
      rw [←hy] at hs2
      simp only [Array.toArray_toList] at hs2
      exact hK _ _ (k _ _ _ hs2)
theorem fV {α:Type} (enc:α→List AV) (zt:α) {all:Array Oper} {f:Func} {p:List Nat} {i:Nat} (T:TypeId) (x y:Operand) (d:Nat) {e:TypeId} {sz:Nat} {zc:List AV} {bytes:Nat} {n:Int} {kd kd':IntKind} (hb:mkb n bytes=true) (k:OT cx Q ks all (restAt f p (i+1)) (newS d ⟨e,sz,List.map enc (List.replicate n.toNat zt)⟩ s))
    (hl:restAt f p i=opAt f p i::restAt f p (i+1):=by kernel_rfl) (hg:gon all s (opAt f p i)=true:=by kernel_rfl) (hop:(opAt f p i).op = .makeSlice T x y:=by kernel_rfl) (hd:(opAt f p i).dst=some d:=by kernel_rfl) (hn:Nat.ble (d+1) cx.n=true:=by kernel_rfl) (hx:s.ev x=some (.int kd n):=by kernel_rfl) (hy:s.ev y=some (.int kd' n):=by kernel_rfl)
    (ht:tapp cx.P T=some (e,sz,bytes):=by kernel_rfl) (hz:tzero cx.P e=some zc:=by kernel_rfl) (he:zc.map pzc=enc zt:=by kernel_rfl) (hu:has s.u d=false:=by kernel_rfl):OT cx Q ks all (restAt f p i) s:=ot_mks enc zt _ T x y d hl hg hop hd hn hx hy ht hz he hu hb k
theorem dF (d k:Nat) (et:TypeId) (sz:Nat) (h:VE cx Q ks e (ownS k d ⟨et,sz,[]⟩ s)) (hd:has s.u d=false:=by kernel_rfl) (hk:look k s.t=some .nils:=by kernel_rfl):VE cx Q ks e s:=ve_own d k et sz hd hk h
theorem ve_wo (d i n:Nat) (et:TypeId) (sz:Nat) (h:VE cx Q ks e (onoS d i n et sz s)) (hd:has s.u d=false:=by kernel_rfl) (hk:onoB i n s=true:=by kernel_rfl):VE cx Q ks e s:=by
  unfold onoB at hk; unfold onoS at h
  split at hk
  · rename_i cs hcs
    rw [hcs] at h
    split at hk
    · rename_i hn; exact ve_owno d i n et sz hd hcs hn h
    · cases hk
  · cases hk
end
section
variable {P:Program} {n:Nat} {s0:AS} {all:Array Oper} {K:Nat} {σs:List AS} {o:Oper}
theorem e_s {m:Nat} {s':AS} (h:aop P n (nth σs m) o=some s') (he:s'=nth σs (m+1):=by kernel_rfl) (hg:o.guard.isNone=true:=by kernel_rfl):chk1 P n s0 all K σs o (.s (m+1)):=k_s hg (h.trans (congrArg some he))
theorem e_d (m:Nat) (h:aop P n (nth σs m) o=some (nth σs (m+1)):=by kernel_rfl) (hg:o.guard.isNone=true:=by kernel_rfl):chk1 P n s0 all K σs o (.s (m+1)):=k_s hg h
theorem e_v {lo:Nat} {s':AS} (h:aop P n (nth σs lo) o=some s') (he:s'=nth σs lo:=by kernel_rfl) (hg:gon all (nth σs lo) o=true:=by kernel_rfl):chk1 P n s0 all K σs o (.v lo 1):=k_v (bW ⟨hg,cc h he⟩ dd)
def ecL (all:Array Oper) (σs:List AS) (o:Oper) (d:Nat):Nat→Nat→List (Bool×Option (FuncId×List AV)×Option AV)
  | _,0=>[]
  | lo,k+1=>(gon all (nth σs lo) o,callArgs (nth σs lo) o,look d (nth σs lo).t)::ecL all σs o d (lo+1) k
def ecR (x:Bool×Option (FuncId×List AV)×Option AV):Nat→List (Bool×Option (FuncId×List AV)×Option AV)
  | 0=>[]
  | k+1=>x::ecR x k
theorem ec_all {d:Nat} {f:FuncId} {args:List AV} {V:AV}:∀ {k lo:Nat},ecL all σs o d lo k=ecR (true,some (f,args),some V) k→kall lo k fun j=>gon all (nth σs j) o=true∧callArgs (nth σs j) o=some (f,args)∧look d (nth σs j).t=some V
  | 0,_,_=>trivial
  | k+1,lo,h=>by
    simp only [ecL,ecR,List.cons.injEq,Prod.mk.injEq] at h
    exact ⟨⟨h.1.1,h.1.2.1,h.1.2.2⟩,ec_all h.2⟩
theorem e_c (lo k d:Nat) {f:FuncId} {args:List AV} {V:AV} (hc:ACalls P f args (fun v _=>v=V)) (hcl:callable P f=true:=by kernel_rfl) (hv:V.inU []=true:=by kernel_rfl) (hd:o.dst=some d:=by kernel_rfl) (hdn:Nat.ble (d+1) n=true:=by kernel_rfl)
    (h:ecL all σs o d lo k=ecR (true,some (f,args),some V) k:=by kernel_rfl):chk1 P n s0 all K σs o (.c lo k):=k_c V hc hcl hv d hd hdn (ec_all h)
def exL (all:Array Oper) (σs:List AS) (o:Oper) (d:Nat):Nat→Nat→List (Bool×Option AV)
  | _,0=>[]
  | lo,k+1=>(gon all (nth σs lo) o,look d (nth σs lo).t)::exL all σs o d (lo+1) k
def exR (q:Bool×Option AV):Nat→List (Bool×Option AV)
  | 0=>[]
  | k+1=>q::exR q k
theorem e_x (lo d:Nat) {f:FuncId} {args l:List AV} {V:AV} (hc:ACalls P f args (fun v _=>v=V)) (h1:callArgsLx (nth σs lo) o=some (f,args,l)) (hsr:srOk (nth σs lo) l) (hcl:callable P f=true:=by kernel_rfl) (hv:V.scal=true:=by kernel_rfl) (hd:o.dst=some d:=by kernel_rfl) (hdn:Nat.ble (d+1) n=true:=by kernel_rfl)
    (h:exL all σs o d lo 1=exR (true,some V) 1:=by kernel_rfl):chk1 P n s0 all K σs o (.c lo 1):=by
  simp only [exL,exR,List.cons.injEq,Prod.mk.injEq] at h
  exact ⟨⟨lS h.1.1,.inr (.inl ⟨f,args,l,V,d,h1,hsr,hd,h.1.2,Nat.le_of_ble_eq_true hdn,hv,hcl,hc⟩)⟩,trivial⟩
def eaL (σs:List AS) (d:Nat):Nat→Nat→List (Option (List AV)×Bool×Option AV×Bool)
  | _,0=>[]
  | lo,k+1=>(look d (nth σs lo).o,(look d (nth σs lo).r).isNone,look d (nth σs lo).t,has (nth σs lo).u d)::eaL σs d (lo+1) k
def eaR (x:Option (List AV)×Bool×Option AV×Bool):Nat→List (Option (List AV)×Bool×Option AV×Bool)
  | 0=>[]
  | k+1=>x::eaR x k
theorem ea_all {d:Nat} {cs:List AV}:∀ {k lo:Nat},eaL σs d lo k=eaR (some cs,true,some (.ptr d 0),true) k→kall lo k fun j=>look d (nth σs j).o=some cs∧look d (nth σs j).r=none∧look d (nth σs j).t=some (.ptr d 0)∧has (nth σs j).u d=true
  | 0,_,_=>trivial
  | k+1,lo,h=>by
    simp only [eaL,eaR,List.cons.injEq,Prod.mk.injEq] at h
    exact ⟨⟨h.1.1,by simpa using h.1.2.1,h.1.2.2.1,h.1.2.2.2⟩,ea_all h.2⟩
theorem e_a (lo k T d:Nat) (cs:List AV) (hg:o.guard.isNone=true:=by kernel_rfl) (hop:o.op = .alloc T:=by kernel_rfl) (hd:o.dst=some d:=by kernel_rfl) (hdn:Nat.ble (d+1) n=true:=by kernel_rfl) (hz:tzero P T=some cs:=by kernel_rfl) (hu:has s0.u d=false:=by kernel_rfl)
    (h:eaL σs d lo k=eaR (some cs,true,some (.ptr d 0),true) k:=by kernel_rfl):chk1 P n s0 all K σs o (.a lo k):=k_a T d cs hg hop hd hdn hz hu (ea_all h)
def emL (all:Array Oper) (σs:List AS) (o:Oper) (x y:Operand) (d:Nat):Nat→Nat→List (Bool×Option AV×Option AV×Option AV×Option Arr×Bool×Bool)
  | _,0=>[]
  | lo,k+1=>(gon all (nth σs lo) o,(nth σs lo).ev x,(nth σs lo).ev y,look d (nth σs lo).t,look d (nth σs lo).r,(look d (nth σs lo).o).isNone,has (nth σs lo).u d)::emL all σs o x y d (lo+1) k
def emR (q:Bool×Option AV×Option AV×Option AV×Option Arr×Bool×Bool):Nat→List (Bool×Option AV×Option AV×Option AV×Option Arr×Bool×Bool)
  | 0=>[]
  | k+1=>q::emR q k
theorem em_all {x y:Operand} {d:Nat} {u v:AV} {ar:Arr}:∀ {k lo:Nat},emL all σs o x y d lo k=emR (true,some u,some v,some (.ref d),some ar,true,true) k→kall lo k fun j=>gon all (nth σs j) o=true∧(nth σs j).ev x=some u∧(nth σs j).ev y=some v∧look d (nth σs j).t=some (.ref d)∧look d (nth σs j).r=some ar∧look d (nth σs j).o=none∧has (nth σs j).u d=true
  | 0,_,_=>trivial
  | k+1,lo,h=>by
    simp only [emL,emR,List.cons.injEq,Prod.mk.injEq] at h
    exact ⟨⟨h.1.1,h.1.2.1,h.1.2.2.1,h.1.2.2.2.1,h.1.2.2.2.2.1,by simpa using h.1.2.2.2.2.2.1,h.1.2.2.2.2.2.2⟩,em_all h.2⟩
theorem e_m {α:Type} (enc:α→List AV) (zt:α) (lo k T:Nat) (x y:Operand) (d e sz bytes:Nat) (m:Int) (kd kd':IntKind) (zc:List AV) (hb:mkb m bytes=true) (hop:o.op = .makeSlice T x y:=by kernel_rfl) (hd:o.dst=some d:=by kernel_rfl) (hdn:Nat.ble (d+1) n=true:=by kernel_rfl)
    (hu:has s0.u d=false:=by kernel_rfl) (ht:tapp P T=some (e,sz,bytes):=by kernel_rfl) (hz:tzero P e=some zc:=by kernel_rfl) (he:zc.map pzc=enc zt:=by kernel_rfl)
    (h:emL all σs o x y d lo k=emR (true,some (.int kd m),some (.int kd' m),some (.ref d),some ⟨e,sz,List.map enc (List.replicate m.toNat zt)⟩,true,true) k:=by kernel_rfl):chk1 P n s0 all K σs o (.o lo k):=by
  refine ⟨d,hd,Nat.le_of_ble_eq_true hdn,hu,ns (fun j hj=>⟨lS hj.1,?_⟩) (em_all h)⟩
  obtain ⟨_,h1,h2,h3,h4,h5,h6⟩:=hj
  unfold callOkO
  rw [hop]
  exact ⟨kd,kd',m,e,sz,bytes,zc,h1,h2,ht,hz,hb,h3,by rw [h4,List.map_replicate,he],h5,h6⟩
def eoL (all:Array Oper) (σs:List AS) (o:Oper) (d:Nat):Nat→Nat→List (Bool×Option (FuncId×List AV)×Option AV×Option Arr×Bool×Bool)
  | _,0=>[]
  | lo,k+1=>(gon all (nth σs lo) o,callArgs (nth σs lo) o,look d (nth σs lo).t,look d (nth σs lo).r,(look d (nth σs lo).o).isNone,has (nth σs lo).u d)::eoL all σs o d (lo+1) k
def eoR (x:Bool×Option (FuncId×List AV)×Option AV×Option Arr×Bool×Bool):Nat→List (Bool×Option (FuncId×List AV)×Option AV×Option Arr×Bool×Bool)
  | 0=>[]
  | k+1=>x::eoR x k
theorem eo_all {d:Nat} {f:FuncId} {args:List AV} {V:AV} {ar:Arr}:∀ {k lo:Nat},eoL all σs o d lo k=eoR (true,some (f,args),some V,some ar,true,true) k→kall lo k fun j=>gon all (nth σs j) o=true∧callArgs (nth σs j) o=some (f,args)∧look d (nth σs j).t=some V∧look d (nth σs j).r=some ar∧look d (nth σs j).o=none∧has (nth σs j).u d=true
  | 0,_,_=>trivial
  | k+1,lo,h=>by
    simp only [eoL,eoR,List.cons.injEq,Prod.mk.injEq] at h
    exact ⟨⟨h.1.1,h.1.2.1,h.1.2.2.1,h.1.2.2.2.1,by simpa using h.1.2.2.2.2.1,h.1.2.2.2.2.2⟩,eo_all h.2⟩
theorem e_o (lo k d:Nat) {f:FuncId} {args:List AV} {V:AV} {id:Nat} {ar:Arr} (hc:ACalls P f args (fun v s1=>v=V∧look id s1.r=some ar)) (hone:∀ (N:Nat→Prop) w ι x,Rel N w ι V x→∃ y,ι id=some y) (hcl:callable P f=true:=by kernel_rfl)
    (hd:o.dst=some d:=by kernel_rfl) (hdn:Nat.ble (d+1) n=true:=by kernel_rfl) (hu:has s0.u d=false:=by kernel_rfl) (htg:Nat.ble (id+1) TG=true:=by kernel_rfl) (h:eoL all σs o d lo k=eoR (true,some (f,args),some (V.ren id d),some ar,true,true) k:=by kernel_rfl):chk1 P n s0 all K σs o (.o lo k):=k_o V d htg hc hcl hone hd hdn hu (eo_all h)
end
def eAdr (p:Nat×Nat):List AV:=[.adr p.1 p.2]
def revS (k id g off:Nat) (s:AS):AS:={ s with t:=upd k (.pp id g off) s.t }
def sayS (k:Nat) (v:AV) (s:AS):AS:={ s with t:=upd k v s.t }
theorem Sim.say {cx:Cx} {s:AS} {a:Act} {w:World} {ι:Env} (h:Sim cx s a w ι) {k:Nat} {v:AV} (hv:∀ x,a.tmps[k]?=some x→Rel (NN cx.M ι) w ι v x) (hk:∃ u,look k s.t=some u):Sim cx (sayS k v s) a w ι:=by
  refine ⟨⟨h.hs.below,h.hs.old,h.hs.use,h.hs.own,h.hs.inj,h.hs.ko,h.hs.kr,h.hs.objs,h.hs.arrs,h.hs.pin⟩,h.dfr,h.n,fun j y hj=>?_⟩
  have hj':look j (upd k v s.t)=some y:=hj
  rw [bD] at hj'
  split at hj'
  · rename_i e; subst e; injection hj' with hj'; subst hj'
    obtain ⟨u,hu⟩:=hk
    obtain ⟨x,hx,_⟩:=h.tmp j u hu
    exact ⟨x,hx,hv x hx⟩
  · exact h.tmp j y hj'
section
variable {cx:Cx} {Q:Exit→Act→World→Prop} {ks:List Kont} {e:Exit} {s:AS} {all:Array Oper} {l:List Oper}
theorem ve_rev (k id off:Nat) (h:∀ g:Nat,VE cx Q ks e (revS k id g off s)) (hk:look k s.t=some (.ptr id off):=by kernel_rfl):VE cx Q ks e s:=fun a w ι hs=>by
  obtain ⟨x,hx,hr⟩:=hs.tmp k _ hk
  cases hr with
  | ptr _ _ _ g hg=>exact h g a w ι (hs.say (v:=.pp id g off) (fun y hy=>by rw [hx] at hy; injection hy with hy; subst hy; exact .pp _ _ _ _ hg) ⟨_,hk⟩)
theorem sim_ptr {a:Act} {w:World} {ι:Env} (hs:Sim cx s a w ι) {j k id g off o:Nat} (hj:look j s.t=some (.adr g off)) (hk:look k s.t=some (.pp id g o)):Sim cx (sayS j (.ptr id off) s) a w ι:=by
  obtain ⟨x,hx,hr⟩:=hs.tmp j _ hj
  obtain ⟨y,hy,hr'⟩:=hs.tmp k _ hk
  refine hs.say (fun z hz=>?_) ⟨_,hj⟩
  rw [hx] at hz; injection hz with hz; subst hz
  cases hr with
  | adr _ _ _ =>
    cases hr' with
    | pp _ _ _ _ h2=>exact .ptr _ _ _ _ h2
theorem cV (j k id g off o:Nat) (h:OT cx Q ks all l (sayS j (.ptr id off) s)) (hj:look j s.t=some (.adr g off):=by kernel_rfl) (hk:look k s.t=some (.pp id g o):=by kernel_rfl):OT cx Q ks all l s:=fun a w ι hs=>h a w ι (sim_ptr hs hj hk)
end
end Go.Proofs.Ytolhpahjgddjkaa
