/- The rules in short form: states that need not be written out, premises that the kernel computes. No program in sight. -/
import Derived.Test.YtolhpahjgddjkaaCcVe
namespace Go.Proofs.Ytolhpahjgddjkaa
set_option linter.all false
open Go.RowKit
def ones:Nat→List Nat→List Nat
  | 0,l=>l
  | k+1,l=>1::ones k l
def keys {α:Type}:List (Nat×α)→List Nat
  | []=>[]
  | (k,_)::r=>k::keys r
def vrunS (P:Program) (n k:Nat) (ks:List Kont) (e:Exit) (s:AS):AS:=match vrun P n k ks e s with
  | some (_,_,s')=>s'
  | none=>s
def vrunK (P:Program) (n k:Nat) (ks:List Kont) (e:Exit) (s:AS):Option (List Kont×Exit):=match vrun P n k ks e s with
  | some (ks',e',_)=>some (ks',e')
  | none=>none
def pickS (s:AS) (ts os rs:List Nat):AS:=match s.pick ts os rs with | some s'=>s' | none=>s
def pickB (s:AS) (ts os rs:List Nat):Bool:=match s.pick ts os rs with | some _=>true | none=>false
def arunS (P:Program) (n:Nat) (all:Array Oper) (k:Nat) (l:List Oper) (s:AS):AS:=match arun P n all k l s with
  | some (_,s')=>s'
  | none=>s
def arunL (P:Program) (n:Nat) (all:Array Oper) (k:Nat) (l:List Oper) (s:AS):Option (List Oper):=match arun P n all k l s with
  | some (l',_)=>some l'
  | none=>none
def scanSS (s:AS):List (AS→AS)→List AS
  | []=>[]
  | g::r=>g s::scanSS (g s) r
def setB (k:Nat) (b:Bool) (s:AS):AS:={ s with t:=upd k (.bool b) s.t }
def coS (nid:Nat) (ar:Arr) (s:AS):AS:={ s with r:=upd nid ar s.r,u:=nid::s.u }
def drL (s0:AS) (rv:List (Nat×AV)) (al:List (Nat×List AV)) (rl:List (Nat×Arr)) (tl:List (AS→AS)):List AS:=dstart s0 rv al rl::scanSS (dstart s0 rv al rl) tl
def drS (s0:AS) (rv:List (Nat×AV)) (al:List (Nat×List AV)) (rl:List (Nat×Arr)) (tl:List (AS→AS)) (K:Nat):AS:=nth (drL s0 rv al rl tl) K
def regOk (f:Func) (p:List Nat):Bool:=match cat f p with | .region _ _ false=>true | _=>false
section
variable {cx:Cx} {Q:Exit→Act→World→Prop} {ks ks':List Kont} {e e':Exit} {s s':AS} {f:Func} {p:List Nat} {all:Array Oper} {i:Nat}
theorem ah (k:Nat) (hk:VE cx Q ks' e' s') (h:vrunp cx.P cx.n k (keys s'.t) (keys s'.o) (keys s'.r) ks e s=some (ks',e',s'):=by kernel_rfl):VE cx Q ks e s:=ve_run k _ _ _ h hk
theorem bq (k:Nat) (s':AS) (hk:VE cx Q ks' .normal s') (h:vrunp cx.P cx.n k (keys s'.t) (keys s'.o) (keys s'.r) ks e s=some (ks',.normal,s'):=by kernel_rfl):VE cx Q ks e s:=ve_run k _ _ _ h hk
theorem ac (k:Nat) (hk:VE cx Q ks' .normal (vrunS cx.P cx.n k ks e s)) (h:vrunK cx.P cx.n k ks e s=some (ks',.normal):=by kernel_rfl):VE cx Q ks e s:=by
  unfold vrunK at h
  split at h
  · rename_i k1 e1 s1 h1
    simp only [Option.some.injEq,Prod.mk.injEq] at h
    obtain ⟨rfl,rfl⟩:=h
    refine ve_vrun _ _ _ _ h1 ?_
    unfold vrunS at hk
    rw [h1] at hk; exact hk
  · cases h
theorem aQ (k:Nat) (hk:VE cx Q [] .ret (vrunS cx.P cx.n k ks e s)) (h:vrunK cx.P cx.n k ks e s=some ([],.ret):=by kernel_rfl):VE cx Q ks e s:=by
  unfold vrunK at h
  split at h
  · rename_i k1 e1 s1 h1
    simp only [Option.some.injEq,Prod.mk.injEq] at h
    obtain ⟨rfl,rfl⟩:=h
    refine ve_vrun _ _ _ _ h1 ?_
    unfold vrunS at hk
    rw [h1] at hk; exact hk
  · cases h
theorem bt (ts os rs:List Nat) (hk:VE cx Q ks e (pickS s ts os rs)) (h:pickB s ts os rs=true:=by kernel_rfl):VE cx Q ks e s:=by
  unfold pickB at h
  split at h
  · rename_i s1 h1
    unfold pickS at hk
    rw [h1] at hk
    exact ve_sub _ (pick_sub h1) hk
  · cases h
theorem ai (n:Nat) (hk:OT cx Q ks (opsAt f p) (restAt f p n) (arunS cx.P cx.n (opsAt f p) n (restAt f p 0) s)) (h:regOk f p=true:=by kernel_rfl) (h2:arunL cx.P cx.n (opsAt f p) n (restAt f p 0) s=some (restAt f p n):=by kernel_rfl):VE cx Q (.c (cat f p)::ks) .normal s:=by
  have hl:restAt f p 0=(opsAt f p).toList:=by simp [restAt]
  cases hc:cat f p with
  | region id ops b =>
    cases b with
    | true=>unfold regOk at h; rw [hc] at h; cases h
    | false =>
      have ho:opsAt f p=ops:=by unfold opsAt; rw [hc]; rfl
      unfold arunL at h2
      split at h2
      · rename_i l1 s1 h1
        injection h2 with h2; subst h2
        unfold arunS at hk
        rw [h1] at hk
        rw [hl,ho] at h1; rw [ho] at hk
        exact ve_reg (nG _ _ _ h1 hk)
      · cases h2
  | _=>unfold regOk at h; rw [hc] at h; cases h
theorem aV (j k:Nat) (hk:OT cx Q ks all (restAt f p j) (arunS cx.P cx.n all k (restAt f p i) s)) (h2:arunL cx.P cx.n all k (restAt f p i) s=some (restAt f p j):=by kernel_rfl):OT cx Q ks all (restAt f p i) s:=by
  unfold arunL at h2
  split at h2
  · rename_i l1 s1 h1
    injection h2 with h2; subst h2
    unfold arunS at hk
    rw [h1] at hk
    exact nG _ _ _ h1 hk
  · cases h2
theorem ag (hk:VE cx Q ks .normal (arunS cx.P cx.n all 10000 (restAt f p i) s)) (h2:arunL cx.P cx.n all 10000 (restAt f p i) s=some []:=by kernel_rfl):OT cx Q ks all (restAt f p i) s:=by
  unfold arunL at h2
  split at h2
  · rename_i l1 s1 h1
    injection h2 with h2; subst h2
    unfold arunS at hk
    rw [h1] at hk
    exact nG _ _ _ h1 (ot_nil hk)
  · cases h2
theorem aq (h:aop cx.P cx.n s (opAt f p i)=some s') (k:OT cx Q ks all (restAt f p (i+1)) s') (hl:restAt f p i=opAt f p i::restAt f p (i+1):=by kernel_rfl) (hg:gon all s (opAt f p i)=true:=by kernel_rfl):OT cx Q ks all (restAt f p i) s:=ot_by _ hl (aone_gon hg h) k
theorem ak (k:Nat) {b b':Bool} (he:b=b') (h:VE cx Q ks e (setB k b' s)) (hv:look k s.t=some (.bool b):=by kernel_rfl):VE cx Q ks e s:=ve_slotb k he hv h
theorem aL {l:List Oper} (k:Nat) {b b':Bool} (he:b=b') (h:OT cx Q ks all l (setB k b' s)) (hv:look k s.t=some (.bool b):=by kernel_rfl):OT cx Q ks all l s:=ot_slotb k he hv h
theorem aR {g:FuncId} {args:List AV} {V:AV} (hc:ACalls cx.P g args (fun v _=>v=V)) (k:OT cx Q ks all (restAt f p (i+1)) (s.put (opAt f p i).dst V)) (hl:restAt f p i=opAt f p i::restAt f p (i+1):=by kernel_rfl) (hg:gon all s (opAt f p i)=true:=by kernel_rfl) (hcl:callable cx.P g=true:=by kernel_rfl)
    (h1:callArgs s (opAt f p i)=some (g,args):=by kernel_rfl) (hv:(dstOk cx.n (opAt f p i).dst && V.inU [])=true:=by kernel_rfl):OT cx Q ks all (restAt f p i) s:=ot_calls _ hl hg hc hcl h1 hv k
theorem i8 {g:FuncId} {args:List AV} {V:AV} (hc:callable cx.P g=true∧ACalls cx.P g args (fun v _=>v=V)) (k:OT cx Q ks all (restAt f p (i+1)) (s.put (opAt f p i).dst V)) (hl:restAt f p i=opAt f p i::restAt f p (i+1):=by kernel_rfl) (hg:gon all s (opAt f p i)=true:=by kernel_rfl)
    (h1:callArgs s (opAt f p i)=some (g,args):=by kernel_rfl) (hv:(dstOk cx.n (opAt f p i).dst && V.inU [])=true:=by kernel_rfl):OT cx Q ks all (restAt f p i) s:=ot_calls _ hl hg hc.2 hc.1 h1 hv k
theorem cZ (nid:Nat) {id:Nat} {g:FuncId} {args:List AV} {V:AV} {ar:Arr} (hc:ACalls cx.P g args (fun v s1=>v=V∧look id s1.r=some ar)) (hone:∀ (N:Nat→Prop) w ι x,Rel N w ι V x→∃ y,ι id=some y)
    (k:OT cx Q ks all (restAt f p (i+1)) ((coS nid ar s).put (opAt f p i).dst (V.ren id nid))) (hl:restAt f p i=opAt f p i::restAt f p (i+1):=by kernel_rfl) (hg:gon all s (opAt f p i)=true:=by kernel_rfl) (hcl:callable cx.P g=true:=by kernel_rfl)
    (h1:callArgs s (opAt f p i)=some (g,args):=by kernel_rfl) (hd:dstOk cx.n (opAt f p i).dst=true:=by kernel_rfl) (hid:V.inU []=false:=by kernel_rfl) (hn:has s.u nid=false:=by kernel_rfl) (htg:Nat.ble (id+1) TG=true:=by kernel_rfl):OT cx Q ks all (restAt f p i) s:=ot_callso _ id nid hl hg hc hcl hone h1 hd hid hn rfl k htg
theorem bz {f:Func} {p q:List Nat} (m:Nat) (h:LP cx Q ks (cat f q) m s) (hc:cat f p = .loop (cat f q):=by kernel_rfl):VE cx Q (.c (cat f p)::ks) .normal s:=mL m hc h
def dvL (P:Program) (n:Nat) (all:Array Oper) (σs:List AS) (o:Oper):Nat→Nat→List (Bool×Option AS)
  | _,0=>[]
  | lo,k+1=>(gon all (nth σs lo) o,aop P n (nth σs lo) o)::dvL P n all σs o (lo+1) k
def dvR (σs:List AS):Nat→Nat→List (Bool×Option AS)
  | _,0=>[]
  | lo,k+1=>(true,some (nth σs lo))::dvR σs (lo+1) k
def dvsL (P:Program) (n:Nat) (all:Array Oper) (σs:List AS):List Oper→List Tag→List (List (Bool×Option AS))
  | o::r,.v lo k::ts=>dvL P n all σs o lo k::dvsL P n all σs r ts
  | _,_=>[]
def dvsR (σs:List AS):List Tag→List (List (Bool×Option AS))
  | []=>[]
  | .v lo k::ts=>dvR σs lo k::dvsR σs ts
  | _::ts=>[]::dvsR σs ts
end
section
variable {P:Program} {n:Nat} {s0:AS} {all:Array Oper} {K:Nat} {σs:List AS} {f:Func} {p:List Nat} {i:Nat}
theorem dv_one {o:Oper}:∀ {k lo:Nat},dvL P n all σs o lo k=dvR σs lo k→kall lo k fun j=>gon all (nth σs j) o=true∧aop P n (nth σs j) o=some (nth σs j)
  | 0,_,_=>trivial
  | k+1,lo,h=>by
    simp only [dvL,dvR,List.cons.injEq,Prod.mk.injEq] at h
    exact ⟨h.1,dv_one h.2⟩
theorem dvs_all:∀ {ts:List Tag} {l:List Oper} {us:List Tag},dvsL P n all σs l ts=dvsR σs ts→dchk P n s0 all K σs (l.drop ts.length) us→dchk P n s0 all K σs l (ts++us)
  | [],l,us,_,h=>by simpa using h
  | t::ts,[],us,h,_=>by cases t<;>simp [dvsL,dvsR] at h
  | t::ts,o::r,us,h,h2=>by
    cases t with
    | v lo k =>
      simp only [dvsL,dvsR,List.cons.injEq] at h
      exact ⟨k_v (dv_one h.1),dvs_all h.2 (by simpa using h2)⟩
    | _=>simp [dvsL,dvsR] at h
theorem az (ts:List Tag) {us:List Tag} (h2:dchk P n s0 all K σs (restAt f p (i+ts.length)) us) (h:dvsL P n all σs (restAt f p i) ts=dvsR σs ts:=by kernel_rfl):dchk P n s0 all K σs (restAt f p i) (ts++us):=by
  refine dvs_all h ?_
  have:(restAt f p i).drop ts.length=restAt f p (i+ts.length):=by simp [restAt,List.drop_drop,Nat.add_comm]
  rw [this]; exact h2
theorem aj {t:Tag} {ts:List Tag} (h:chk1 P n s0 all K σs (opAt f p i) t) (h2:dchk P n s0 all K σs (restAt f p (i+1)) ts) (hl:restAt f p i=opAt f p i::restAt f p (i+1):=by kernel_rfl):dchk P n s0 all K σs (restAt f p i) (t::ts):=d_cons hl h h2
theorem bC (hl:restAt f p i=[]:=by kernel_rfl):dchk P n s0 all K σs (restAt f p i) []:=d_nil hl
def stp (P:Program) (n:Nat) (f:Func) (p:List Nat) (i:Nat) (s:AS):AS:=match aop P n s (opAt f p i) with | some s'=>s' | none=>s
def drwOk (f:Func) (p:List Nat):Bool:=match cat f p with | .region _ _ true=>true | _=>false
end
theorem d_nz {P:Program} {n:Nat} {s0:AS} {all:Array Oper} {K:Nat} {σs:List AS} {l:List Oper}:dchk P n s0 all K σs l []:=by cases l<;>trivial
theorem bE {cx:Cx} {Q:Exit→Act→World→Prop} {ks:List Kont} {f:Func} {p:List Nat} {s0:AS} {tags:List Tag} (K:Nat) (rv:List (Nat×AV)) (al:List (Nat×List AV)) (rl:List (Nat×Arr)) (tl:List (AS→AS))
    (h3:dchk cx.P cx.n s0 (opsAt f p) K (drL s0 rv al rl tl) (restAt f p 0) tags) (h:VE cx Q ks .normal (drS s0 rv al rl tl K))
    (hc:drwOk f p=true:=by kernel_rfl) (hm:cx.P.follows .mixedOrders=true:=by kernel_rfl) (hs:dstat (opsAt f p) tags K=true:=by kernel_rfl) (hl:dlast tags K=true:=by kernel_rfl) (hkey:keysOk (restAt f p 0) tags rv=true:=by kernel_rfl) (hfr:freshB s0.u al=true:=by kernel_rfl) (hfr2:freshB s0.u rl=true:=by kernel_rfl):VE cx Q (.c (cat f p)::ks) .normal s0:=by
  have e0:restAt f p 0=(opsAt f p).toList:=by simp [restAt]
  cases hcc:cat f p with
  | region id ops b =>
    cases b with
    | false=>unfold drwOk at hc; rw [hcc] at hc; cases hc
    | true =>
      have ho:opsAt f p=ops:=by unfold opsAt; rw [hcc]; rfl
      rw [e0] at h3 hkey
      rw [ho] at h3 hkey hs
      exact ve_draw3 (id:=id) tags K rv al rl (scanSS (dstart s0 rv al rl) tl) rfl hm hs hl hkey hfr hfr2 h3 h
  | _=>unfold drwOk at hc; rw [hcc] at hc; cases hc
end Go.Proofs.Ytolhpahjgddjkaa
