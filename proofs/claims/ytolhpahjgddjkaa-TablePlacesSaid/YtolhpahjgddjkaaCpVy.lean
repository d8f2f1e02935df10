/- Laws of single operations in short form: what the kernel computes of an operation is one premise. No program in sight. -/
import Derived.Test.YtolhpahjgddjkaaCpVx
namespace Go.Proofs.Ytolhpahjgddjkaa
set_option linter.all false
open Go.RowKit
def strS (id:Nat) (ar:Arr) (s:AS):AS:={ s with r:=upd id ar s.r }
def appS (d id:Nat) (ar:Arr) (s:AS):AS:={ t:=upd d (.ref id) (killT id s.t),o:=killO id s.o,r:=upd id ar s.r,u:=s.u }
def newS (d:Nat) (ar:Arr) (s:AS):AS:={ t:=upd d (.ref d) s.t,o:=s.o,r:=upd d ar s.r,u:=d::s.u }
def ownS (k d:Nat) (ar:Arr) (s:AS):AS:=⟨upd k (.ref d) s.t,s.o,upd d ar s.r,d::s.u⟩
section
variable {P:Program} {n:Nat} {s:AS} {o:Oper} {α:Type} [Inhabited α]
def dOk (n:Nat) (o:Oper):Bool:=match o.dst with | some d=>Nat.ble (d+1) n | none=>false
theorem dM (h:dOk n o=true):∃ d,o.dst=some d∧Nat.ble (d+1) n=true:=by
  unfold dOk at h
  split at h
  · rename_i d hd; exact ⟨d,hd,h⟩
  · cases h
def ixsI (P:Program) (n:Nat) (s:AS) (o:Oper):Option (List (List AV)×Int×Nat):=match dOk n o,o.op with
  | true,.indexAddr T x y=>match s.ev x,s.ev y,tarr P T,tsl P T with
    | some (.sl l),some (.int _ i),none,some (_,sz)=>some (l,i,sz)
    | _,_,_,_=>none
  | _,_=>none
theorem aV (enc exp:α→List AV) {L:List α} {i:Int} {sz:Nat} (hb:inb i L.length=true) (hz:∀ a,(enc a).length=sz) (he:∀ a,enc a=exp a) (h:ixsI P n s o=some (L.map enc,i,sz):=by kernel_rfl):aop P n s o=some (s.put o.dst (.cptr (exp (L.getD i.toNat default)))):=by
  unfold ixsI at h
  split at h
  case h_2=>cases h
  rename_i T x y hd hop
  obtain ⟨d,hd,hn⟩:=dM hd
  split at h
  case h_2=>cases h
  rename_i h1 h2 h3 h4
  simp only [Option.some.injEq,Prod.mk.injEq] at h
  obtain ⟨rfl,rfl,rfl⟩:=h
  rw [hd]
  exact aop_ix_sl enc exp L _ T x y d hop hd hn h1 h2 h3 h4 hb hz he
def ixrI (P:Program) (n:Nat) (s:AS) (o:Oper):Option (Nat×Nat×Int×List (List AV)):=match dOk n o,o.op with
  | true,.indexAddr T x y=>match s.ev x,s.ev y,tarr P T,tsl P T with
    | some (.ref id),some (.int _ i),none,some (_,sz)=>match look id s.r with
      | some ⟨_,sz',l⟩=>match Nat.beq sz sz' with
        | true=>some (id,sz,i,l)
        | false=>none
      | none=>none
    | _,_,_,_=>none
  | _,_=>none
theorem bd (id sz:Nat) (enc:α→List AV) {L:List α} {i:Int} (hb:inb i L.length=true) (h:ixrI P n s o=some (id,sz,i,L.map enc):=by kernel_rfl):aop P n s o=some (s.put o.dst (.eptr id sz i.toNat 0)):=by
  unfold ixrI at h
  split at h
  case h_2=>cases h
  rename_i T x y hd hop
  obtain ⟨d,hd,hn⟩:=dM hd
  split at h
  case h_2=>cases h
  rename_i h1 h2 h3 h4
  split at h
  case h_2=>cases h
  rename_i h5
  split at h
  case h_2=>cases h
  rename_i h6
  have h6:=Nat.eq_of_beq_eq_true h6
  simp only [Option.some.injEq,Prod.mk.injEq] at h
  obtain ⟨rfl,rfl,rfl,rfl⟩:=h
  subst h6
  rw [hd]
  exact aop_ix_ref enc L _ T x y d hop hd hn h1 h2 h5 h3 h4 hb
def ldrI (n:Nat) (s:AS) (o:Oper):Option (TypeId×Nat×Nat×List (List AV)):=match dOk n o,o.op with
  | true,.load T x=>match s.ev x with
    | some (.eptr id sz j off)=>match look id s.r with
      | some ⟨_,sz',l⟩=>match Nat.beq sz sz' && Nat.ble (id+1) TG with
        | true=>some (T,j,off,l)
        | false=>none
      | none=>none
    | _=>none
  | _,_=>none
def valD:Option AV→AV
  | some v=>v
  | none=>.any
def valB:Option AV→Bool
  | some _=>true
  | none=>false
theorem aD (T:TypeId) (off:Nat) (enc exp:α→List AV) {L:List α} {j:Nat} (hj:j<L.length) (he:∀ a,enc a=exp a) (h:ldrI n s o=some (T,j,off,L.map enc):=by kernel_rfl) (hv:valB (ald P T ((exp (L.getD j default)).drop off))=true:=by kernel_rfl) :
    aop P n s o=some (s.put o.dst (valD (ald P T ((exp (L.getD j default)).drop off)))):=by
  unfold ldrI at h
  split at h
  case h_2=>cases h
  rename_i T' x hd hop
  obtain ⟨d,hd,hn⟩:=dM hd
  split at h
  case h_2=>cases h
  rename_i h1
  split at h
  case h_2=>cases h
  rename_i h5
  split at h
  case h_2=>cases h
  rename_i h6
  rw [Bool.and_eq_true] at h6
  have htg:=Nat.le_of_ble_eq_true h6.2
  have h6:=Nat.eq_of_beq_eq_true h6.1
  simp only [Option.some.injEq,Prod.mk.injEq] at h
  obtain ⟨rfl,rfl,rfl,rfl⟩:=h
  subst h6
  cases hq:ald P T' ((exp (L.getD _ default)).drop _) with
  | none=>rw [hq] at hv; cases hv
  | some v =>
    rw [hd]
    exact aop_ld_ref enc exp L T' x d htg hop hd hn h1 h5 hj he hq
def strI (P:Program) (s:AS) (o:Oper):Option (Nat×TypeId×Nat×Nat×Nat×List (List AV)):=match o.dst,o.op with
  | none,.store T x y=>match s.ev x,s.ev y with
    | some (.eptr id sz j off),some v=>match look id s.r,acells v,tsz P T with
      | some ⟨et,sz',l⟩,some nv,some k=>match Nat.beq sz sz' && Nat.beq k nv.length with
        | true=>some (id,et,sz,j,off,l)
        | false=>none
      | _,_,_=>none
    | _,_=>none
  | _,_=>none
def strN (s:AS) (o:Oper):List AV:=match o.op with
  | .store _ _ y=>match s.ev y with
    | some v=>match acells v with | some nv=>nv | none=>[]
    | none=>[]
  | _=>[]
theorem bx (id:Nat) (et:TypeId) (sz off:Nat) (enc exp:α→List AV) {L:List α} {j:Nat} (new:α) (hj:j<L.length) (he:∀ a,enc a=exp a) (h:strI P s o=some (id,et,sz,j,off,L.map enc):=by kernel_rfl)
    (hl:(Nat.ble (off+(strN s o).length) (exp (L.getD j default)).length && inUs [] (strN s o))=true:=by kernel_rfl) (hs:splice off (strN s o) (exp (L.getD j default))=exp new:=by kernel_rfl) :
    aop P n s o=some (strS id ⟨et,sz,(L.set j new).map enc⟩ s):=by
  unfold strI at h
  split at h
  case h_2=>cases h
  rename_i T x y hd hop
  split at h
  case h_2=>cases h
  rename_i v h1 h2
  split at h
  case h_2=>cases h
  rename_i nv k h5 hv hz
  split at h
  case h_2=>cases h
  rename_i h6
  simp only [Bool.and_eq_true] at h6
  have h7:=Nat.eq_of_beq_eq_true h6.1
  have h8:=Nat.eq_of_beq_eq_true h6.2
  simp only [Option.some.injEq,Prod.mk.injEq] at h
  obtain ⟨rfl,rfl,rfl,rfl,rfl,rfl⟩:=h
  subst h7; subst h8
  have hN:strN s o=nv:=by unfold strN; simp only [hop,h2,hv]
  rw [hN] at hl hs
  simp only [Bool.and_eq_true] at hl
  exact aop_st_ref enc exp L new T x y hop hd h1 h2 h5 hj hv hz he hl.1 hl.2 hs
def lenI (P:Program) (n:Nat) (s:AS) (o:Oper):Option (List (List AV)):=match dOk n o,o.op with
  | true,.call ⟨.builtin .len,⟨[x]⟩,⟨[T]⟩⟩=>match s.ev x,tsl P T with
    | some (.sl l),some _=>some l
    | some (.ref id),some _=>match look id s.r with
      | some ⟨_,_,l⟩=>some l
      | none=>none
    | _,_=>none
  | _,_=>none
theorem aA (enc:α→List AV) (L:List α) (h:lenI P n s o=some (L.map enc):=by kernel_rfl):aop P n s o=some (s.put o.dst (.int .i64 L.length)):=by
  unfold lenI at h
  split at h
  case h_2=>cases h
  rename_i x T hd hop
  obtain ⟨d,hd,hn⟩:=dM hd
  rw [hd]
  split at h
  · rename_i h1 h2
    injection h with h; subst h
    exact aop_len_sl enc L T x d hop hd hn h1 h2
  · rename_i h1 h2
    split at h
    · rename_i h3
      injection h with h; subst h
      exact aop_len_ref enc L T x d hop hd hn h1 h3 h2
    · cases h
  · cases h
def apprI (P:Program) (n:Nat) (s:AS) (o:Oper):Option (Nat×Nat×TypeId×Nat×Nat×List (List AV)×List (List AV)):=match o.dst,o.op with
  | some d,.call ⟨.builtin .append,⟨[x,y]⟩,⟨[T,T']⟩⟩=>match Nat.beq T T' && Nat.ble (d+1) n,s.ev x,s.ev y,tapp P T with
    | true,some (.ref id),some (.sl new),some (et,sz,bytes)=>match look id s.r with
      | some ⟨et',sz',l⟩=>match (Nat.beq et et' && Nat.beq sz sz') && !s.u.contains (pinN id) with
        | true=>some (d,id,et,sz,bytes,new,l)
        | false=>none
      | none=>none
    | _,_,_,_=>none
  | _,_=>none
theorem dU (d id:Nat) (et:TypeId) (sz:Nat) (enc:α→List AV) {L M:List α} {bytes:Nat} {new:List (List AV)} (hnew:new=M.map enc) (hz:∀ a,(enc a).length=sz) (hf:fits (L.length+M.length) bytes=true) (h:apprI P n s o=some (d,id,et,sz,bytes,new,L.map enc):=by kernel_rfl) :
    aop P n s o=some (appS d id ⟨et,sz,(L++M).map enc⟩ s):=by
  unfold apprI at h
  split at h
  case h_2=>cases h
  rename_i d' x y T T' hd hop
  split at h
  case h_2=>cases h
  rename_i hb h1 h2 h3
  simp only [Bool.and_eq_true] at hb
  have hT:=Nat.eq_of_beq_eq_true hb.1
  split at h
  case h_2=>cases h
  rename_i h5
  split at h
  case h_2=>cases h
  rename_i h6
  simp only [Bool.and_eq_true,Bool.not_eq_true'] at h6
  have h7:=Nat.eq_of_beq_eq_true h6.1.1
  have h8:=Nat.eq_of_beq_eq_true h6.1.2
  have h9:=h6.2
  simp only [Option.some.injEq,Prod.mk.injEq] at h
  obtain ⟨rfl,rfl,rfl,rfl,rfl,rfl,rfl⟩:=h
  have hT':T=T':=hT
  subst hT'
  subst h7; subst h8
  exact aop_app_ref enc L M T x y _ hop hd hb.2 h1 h2 hnew h5 h3 hz hf h9 rfl rfl
def binI (n:Nat) (s:AS) (o:Oper):Option (BinOp×AV×AV):=match dOk n o,o.op with
  | true,.binOp op _ x y _=>match s.ev x,s.ev y with
    | some u,some v=>some (op,u,v)
    | _,_=>none
  | _,_=>none
theorem y_quo (k:IntKind) (a:Int) {b:Int} (hb:(b != 0)=true) (h:binI n s o=some (.quo,.int k a,.int k b):=by kernel_rfl):aop P n s o=some (s.put o.dst (.int k (k.wrap (a.tdiv b)))):=by
  unfold binI at h
  split at h
  case h_2=>cases h
  rename_i hd hop
  obtain ⟨d,hd,hn⟩:=dM hd
  split at h
  case h_2=>cases h
  rename_i h1 h2
  simp only [Option.some.injEq,Prod.mk.injEq] at h
  obtain ⟨rfl,rfl,rfl⟩:=h
  rw [hd]
  exact aop_quo _ _ _ _ d hop hd hn h1 h2 hb
theorem y_rem (k:IntKind) (a:Int) {b:Int} (hb:(b != 0)=true) (h:binI n s o=some (.rem,.int k a,.int k b):=by kernel_rfl):aop P n s o=some (s.put o.dst (.int k (a.tmod b))):=by
  unfold binI at h
  split at h
  case h_2=>cases h
  rename_i hd hop
  obtain ⟨d,hd,hn⟩:=dM hd
  split at h
  case h_2=>cases h
  rename_i h1 h2
  simp only [Option.some.injEq,Prod.mk.injEq] at h
  obtain ⟨rfl,rfl,rfl⟩:=h
  rw [hd]
  exact aop_rem _ _ _ _ d hop hd hn h1 h2 hb
end
section
variable {cx:Cx} {Q:AV→AS→Prop} {s:AS} {fn:Func}
theorem aX {V:AV} (h:ares cx.P s fn.results.toList=some [V]:=by kernel_rfl):VE cx (bodyPost cx.P fn (RetQ cx.M cx.w0 (fun v _=>v=V))) [] .ret s:=eY rfl h rfl
theorem ve_dt {l:List AV} (h:ares cx.P s fn.results.toList=some l:=by kernel_rfl) (h2:aret l = .tup l:=by kernel_rfl):VE cx (bodyPost cx.P fn (RetQ cx.M cx.w0 (fun v _=>v = .tup l))) [] .ret s:=eY rfl h h2
theorem dS {V:AV} {id:Nat} {ar:Arr} (h:ares cx.P s fn.results.toList=some [V]:=by kernel_rfl) (h2:look id s.r=some ar:=by kernel_rfl):VE cx (bodyPost cx.P fn (RetQ cx.M cx.w0 (fun v s=>v=V∧look id s.r=some ar))) [] .ret s:=eY rfl h ⟨rfl,h2⟩
theorem ci {l:List AV} {id:Nat} {ar:Arr} (h:ares cx.P s fn.results.toList=some l:=by kernel_rfl) (h2:look id s.r=some ar:=by kernel_rfl) (h3:aret l = .tup l:=by kernel_rfl):VE cx (bodyPost cx.P fn (RetQ cx.M cx.w0 (fun v s=>v = .tup l∧look id s.r=some ar))) [] .ret s:=eY rfl h ⟨h3,h2⟩
end
def frzS (id:Nat) (s:AS):AS:=match look id s.r with | some ar=>s.frz id ar.l | none=>s
def hasR (id:Nat) (s:AS):Bool:=match look id s.r with | some _=>!s.u.contains (pinN id) && Nat.ble (id+1) TG | none=>false
theorem cF {b:Bool} {id:Nat} (h:(!b && Nat.ble (id+1) TG)=true):b=false∧id<TG:=by
  rw [Bool.and_eq_true] at h; exact ⟨by simpa using h.1,Nat.le_of_ble_eq_true h.2⟩
def mvS (id nid:Nat) (s:AS):AS:=match look id s.r with | some ar=>⟨mvT id nid s.t,mvO id nid s.o,upd nid ar (era id s.r),nid::s.u⟩ | none=>s
section
variable {cx:Cx} {Q:Exit→Act→World→Prop} {ks:List Kont} {e:Exit} {s:AS} {all:Array Oper} {l:List Oper}
theorem ve_f (id:Nat) (h:VE cx Q ks e (frzS id s)) (ha:hasR id s=true:=by kernel_rfl):VE cx Q ks e s:=by
  unfold hasR at ha; unfold frzS at h
  split at ha
  · rename_i ar har; rw [har] at h; exact ve_frz id (cF ha).2 har (cF ha).1 h
  · cases ha
theorem ot_f (id:Nat) (h:OT cx Q ks all l (frzS id s)) (ha:hasR id s=true:=by kernel_rfl):OT cx Q ks all l s:=by
  unfold hasR at ha; unfold frzS at h
  split at ha
  · rename_i ar har; rw [har] at h; exact ot_frz id (cF ha).2 har (cF ha).1 h
  · cases ha
theorem ve_m (id nid:Nat) (h:VE cx Q ks e (mvS id nid s)) (ha:hasR id s=true:=by kernel_rfl) (hn:has s.u nid=false:=by kernel_rfl):VE cx Q ks e s:=by
  unfold hasR at ha; unfold mvS at h
  split at ha
  · rename_i ar har; rw [har] at h; exact ve_mv id nid (cF ha).2 har hn (cF ha).1 h
  · cases ha
theorem cH {α:Type} (enc:α→List AV) (zt:α) {all:Array Oper} {f:Func} {p:List Nat} {i:Nat} (T:TypeId) (x y:Operand) (d:Nat) {e:TypeId} {sz:Nat} {zc:List AV} {bytes:Nat} {n:Int} {kd kd':IntKind} (hb:mkb n bytes=true) (k:OT cx Q ks all (restAt f p (i+1)) (newS d ⟨e,sz,List.map enc (List.replicate n.toNat zt)⟩ s))
    (hl:restAt f p i=opAt f p i::restAt f p (i+1):=by kernel_rfl) (hg:gon all s (opAt f p i)=true:=by kernel_rfl) (hop:(opAt f p i).op = .makeSlice T x y:=by kernel_rfl) (hd:(opAt f p i).dst=some d:=by kernel_rfl) (hn:Nat.ble (d+1) cx.n=true:=by kernel_rfl) (hx:s.ev x=some (.int kd n):=by kernel_rfl) (hy:s.ev y=some (.int kd' n):=by kernel_rfl)
    (ht:tapp cx.P T=some (e,sz,bytes):=by kernel_rfl) (hz:tzero cx.P e=some zc:=by kernel_rfl) (he:zc.map pzc=enc zt:=by kernel_rfl) (hu:has s.u d=false:=by kernel_rfl):OT cx Q ks all (restAt f p i) s:=ot_mks enc zt _ T x y d hl hg hop hd hn hx hy ht hz he hu hb k
theorem ve_w (d k:Nat) (et:TypeId) (sz:Nat) (h:VE cx Q ks e (ownS k d ⟨et,sz,[]⟩ s)) (hd:has s.u d=false:=by kernel_rfl) (hk:look k s.t=some .nils:=by kernel_rfl):VE cx Q ks e s:=ve_own d k et sz hd hk h
end
section
variable {P:Program} {n:Nat} {s0:AS} {all:Array Oper} {K:Nat} {σs:List AS} {o:Oper}
theorem e_s {m:Nat} {s':AS} (h:aop P n (nth σs m) o=some s') (he:s'=nth σs (m+1):=by kernel_rfl) (hg:o.guard.isNone=true:=by kernel_rfl):chk1 P n s0 all K σs o (.s (m+1)):=k_s hg (h.trans (congrArg some he))
theorem e_d (m:Nat) (h:aop P n (nth σs m) o=some (nth σs (m+1)):=by kernel_rfl) (hg:o.guard.isNone=true:=by kernel_rfl):chk1 P n s0 all K σs o (.s (m+1)):=k_s hg h
theorem e_v {lo:Nat} {s':AS} (h:aop P n (nth σs lo) o=some s') (he:s'=nth σs lo:=by kernel_rfl) (hg:gon all (nth σs lo) o=true:=by kernel_rfl):chk1 P n s0 all K σs o (.v lo 1):=k_v (bV ⟨hg,b7 h he⟩ de)
def ecL (all:Array Oper) (σs:List AS) (o:Oper) (d:Nat):Nat→Nat→List (Bool×Option (FuncId×List AV)×Option AV)
  | _,0=>[]
  | lo,k+1=>(gon all (nth σs lo) o,callArgs (nth σs lo) o,look d (nth σs lo).t)::ecL all σs o d (lo+1) k
def ecR (x:Bool×Option (FuncId×List AV)×Option AV):Nat→List (Bool×Option (FuncId×List AV)×Option AV)
  | 0=>[]
  | k+1=>x::ecR x k
theorem ec_all {d:Nat} {f:FuncId} {args:List AV} {V:AV}:∀ {k lo:Nat},ecL all σs o d lo k=ecR (true,some (f,args),some V) k→kall lo k fun j=>gon all (nth σs j) o=true∧callArgs (nth σs j) o=some (f,args)∧look d (nth σs j).t=some V
  | 0,_,_=>trivial
  | k+1,lo,h=>by
    simp only [ecL,ecR,List.cons.injEq,Prod.mk.injEq] at h
    exact ⟨⟨h.1.1,h.1.2.1,h.1.2.2⟩,ec_all h.2⟩
theorem e_c (lo k d:Nat) {f:FuncId} {args:List AV} {V:AV} (hc:ACalls P f args (fun v _=>v=V)) (hcl:callable P f=true:=by kernel_rfl) (hv:V.inU []=true:=by kernel_rfl) (hd:o.dst=some d:=by kernel_rfl) (hdn:Nat.ble (d+1) n=true:=by kernel_rfl)
    (h:ecL all σs o d lo k=ecR (true,some (f,args),some V) k:=by kernel_rfl):chk1 P n s0 all K σs o (.c lo k):=k_c V hc hcl hv d hd hdn (ec_all h)
end
end Go.Proofs.Ytolhpahjgddjkaa
