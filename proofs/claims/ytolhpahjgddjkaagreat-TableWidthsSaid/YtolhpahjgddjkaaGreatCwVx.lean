/- The rules in short form: states that need not be written out, premises that the kernel computes. No program in sight. -/
import Derived.Test.YtolhpahjgddjkaaGreatCwVe
namespace Go.Proofs.YtolhpahjgddjkaaGreat
set_option linter.all false
open Go.RowKit
def keys{α:Type}:List (Nat×α)→List Nat
 | []=>[]
 | (k,_)::r=>k::keys r
def fT(P:Program)(n k:Nat)(ks:List ao)(e:Exit)(s:AS):AS:=match pi P n k ks e s with
 | some (_,_,s')=>s'
 | none=>s
def fP(P:Program)(n k:Nat)(ks:List ao)(e:Exit)(s:AS):Option (List ao×Exit):=match pi P n k ks e s with
 | some (ks',e',_)=>some (ks',e')
 | none=>none
def Nm(s:AS)(ts os rs:List Nat):AS:=match s.pick ts os rs with|some s'=>s'|none=>s
def LV(s:AS)(ts os rs:List Nat):Bool:=match s.pick ts os rs with|some _=>true|none=>false
def qJ(P:Program)(n:Nat)(all:Array Oper)(k:Nat)(l:List Oper)(s:AS):AS:=match mQ P n all k l s with
 | some (_,s')=>s'
 | none=>s
def sy(P:Program)(n:Nat)(all:Array Oper)(k:Nat)(l:List Oper)(s:AS):Option (List Oper):=match mQ P n all k l s with
 | some (l',_)=>some l'
 | none=>none
def Fd(s:AS):List (AS→AS)→List AS
 | []=>[]
 | g::r=>g s::Fd (g s) r
def PC(k:Nat)(b:Bool)(s:AS):AS:={ s with t:=bh k (.bool b) s.t }
def HA(nid:Nat)(ar:bD)(s:AS):AS:={ s with r:=bh nid ar s.r,u:=nid::s.u }
def mc(s0:AS)(rv:List (Nat×AV))(al:List (Nat×List AV))(rl:List (Nat×bD))(tl:List (AS→AS)):List AS:=lX s0 rv al rl::Fd (lX s0 rv al rl) tl
def EK(s0:AS)(rv:List (Nat×AV))(al:List (Nat×List AV))(rl:List (Nat×bD))(tl:List (AS→AS))(K:Nat):AS:=nth (mc s0 rv al rl tl) K
def CP(f:Func)(p:List Nat):Bool:=match cat f p with|.region _ _ false=>true|_=>false
section
variable{cx:Cx}{Q:Exit→Act→World→Prop}{ks ks':List ao}{e e':Exit}{s s':AS}{f:Func}{p:List Nat}{all:Array Oper}{i:Nat}
theorem aj(k:Nat)(hk:VE cx Q ks' e' s')(h:AY cx.P cx.n k (keys s'.t) (keys s'.o) (keys s'.r) ks e s=some (ks',e',s'):=by kernel_rfl):VE cx Q ks e s:=JZ k _ _ _ h hk
theorem bq(k:Nat)(s':AS)(hk:VE cx Q ks' .normal s')(h:AY cx.P cx.n k (keys s'.t) (keys s'.o) (keys s'.r) ks e s=some (ks',.normal,s'):=by kernel_rfl):VE cx Q ks e s:=JZ k _ _ _ h hk
theorem df(k:Nat)(hk:VE cx Q ks' .normal (fT cx.P cx.n k ks e s))(h:fP cx.P cx.n k ks e s=some (ks',.normal):=by kernel_rfl):VE cx Q ks e s:=by
 unfold fP at h;split at h
 ·rename_i k1 e1 s1 h1;simp only[Option.some.injEq,Prod.mk.injEq]at h;obtain⟨rfl,rfl⟩:=h;refine CF _ _ _ _ h1 ?_;unfold fT at hk;rw[h1]at hk;exact hk
 ·cases h
theorem aW(k:Nat)(hk:VE cx Q [] .ret (fT cx.P cx.n k ks e s))(h:fP cx.P cx.n k ks e s=some ([],.ret):=by kernel_rfl):VE cx Q ks e s:=by
 unfold fP at h;split at h
 ·rename_i k1 e1 s1 h1;simp only[Option.some.injEq,Prod.mk.injEq]at h;obtain⟨rfl,rfl⟩:=h;refine CF _ _ _ _ h1 ?_;unfold fT at hk;rw[h1]at hk;exact hk
 ·cases h
theorem bI(ts os rs:List Nat)(hk:VE cx Q ks e (Nm s ts os rs))(h:LV s ts os rs=true:=by kernel_rfl):VE cx Q ks e s:=by
 unfold LV at h;split at h
 ·rename_i s1 h1;unfold Nm at hk;rw[h1]at hk;exact MH _ (Pi h1) hk
 ·cases h
theorem ai(n:Nat)(hk:OT cx Q ks (cW f p) (bk f p n) (qJ cx.P cx.n (cW f p) n (bk f p 0) s))(h:CP f p=true:=by kernel_rfl)(h2:sy cx.P cx.n (cW f p) n (bk f p 0) s=some (bk f p n):=by kernel_rfl):VE cx Q (.c (cat f p)::ks) .normal s:=by
 have hl:bk f p 0=(cW f p).toList:=by simp[bk]
 cases hc:cat f p with
 | region id ops b =>
  cases b with
  | true=>unfold CP at h;rw[hc]at h;cases h
  | false =>
   have ho:cW f p=ops:=by unfold cW;rw[hc];rfl
   unfold sy at h2;split at h2
   ·rename_i l1 s1 h1;injection h2 with h2;subst h2
    unfold qJ at hk;rw[h1]at hk;rw[hl,ho]at h1;rw[ho]at hk;exact OF (wN _ _ _ h1 hk)
   ·cases h2
 | _=>unfold CP at h;rw[hc]at h;cases h
theorem br(j k:Nat)(hk:OT cx Q ks all (bk f p j) (qJ cx.P cx.n all k (bk f p i) s))(h2:sy cx.P cx.n all k (bk f p i) s=some (bk f p j):=by kernel_rfl):OT cx Q ks all (bk f p i) s:=by
 unfold sy at h2;split at h2
 ·rename_i l1 s1 h1;injection h2 with h2;subst h2
  unfold qJ at hk;rw[h1]at hk;exact wN _ _ _ h1 hk
 ·cases h2
theorem ae(hk:VE cx Q ks .normal (qJ cx.P cx.n all 10000 (bk f p i) s))(h2:sy cx.P cx.n all 10000 (bk f p i) s=some []:=by kernel_rfl):OT cx Q ks all (bk f p i) s:=by
 unfold sy at h2;split at h2
 ·rename_i l1 s1 h1;injection h2 with h2;subst h2
  unfold qJ at hk;rw[h1]at hk;exact wN _ _ _ h1 (Lm hk)
 ·cases h2
theorem ap(h:bG cx.P cx.n s (bC f p i)=some s')(k:OT cx Q ks all (bk f p (i+1)) s')(hl:bk f p i=bC f p i::bk f p (i+1):=by kernel_rfl)(hg:cN all s (bC f p i)=true:=by kernel_rfl):OT cx Q ks all (bk f p i) s:=RZ _ hl (Vj hg h) k
theorem ak(k:Nat){b b':Bool}(he:b=b')(h:VE cx Q ks e (PC k b' s))(hv:look k s.t=some (.bool b):=by kernel_rfl):VE cx Q ks e s:=WC k he hv h
theorem aY{l:List Oper}(k:Nat){b b':Bool}(he:b=b')(h:OT cx Q ks all l (PC k b' s))(hv:look k s.t=some (.bool b):=by kernel_rfl):OT cx Q ks all l s:=Tl k he hv h
theorem aK{g:FuncId}{args:List AV}{V:AV}(hc:aQ cx.P g args (fun v _=>v=V))(k:OT cx Q ks all (bk f p (i+1)) (s.put (bC f p i).dst V))(hl:bk f p i=bC f p i::bk f p (i+1):=by kernel_rfl)(hg:cN all s (bC f p i)=true:=by kernel_rfl)(hcl:dD cx.P g=true:=by kernel_rfl)
  (h1:gh s (bC f p i)=some (g,args):=by kernel_rfl) (hv:(dq cx.n (bC f p i).dst&&V.dz [])=true:=by kernel_rfl):OT cx Q ks all (bk f p i) s:=Ia _ hl hg hc hcl h1 hv k
theorem oy{g:FuncId}{args:List AV}{V:AV}(hc:dD cx.P g=true∧aQ cx.P g args (fun v _=>v=V))(k:OT cx Q ks all (bk f p (i+1)) (s.put (bC f p i).dst V))(hl:bk f p i=bC f p i::bk f p (i+1):=by kernel_rfl)(hg:cN all s (bC f p i)=true:=by kernel_rfl)
  (h1:gh s (bC f p i)=some (g,args):=by kernel_rfl) (hv:(dq cx.n (bC f p i).dst&&V.dz [])=true:=by kernel_rfl):OT cx Q ks all (bk f p i) s:=Ia _ hl hg hc.2 hc.1 h1 hv k
theorem d5(nid:Nat){id:Nat}{g:FuncId}{args:List AV}{V:AV}{ar:bD}(hc:aQ cx.P g args (fun v s1=>v=V∧look id s1.r=some ar))(hone:∀(N:Nat→Prop) w ι x,Rel N w ι V x→∃y,ι id=some y)
  (k:OT cx Q ks all (bk f p (i+1)) ((HA nid ar s).put (bC f p i).dst (V.fX id nid))) (hl:bk f p i=bC f p i::bk f p (i+1):=by kernel_rfl) (hg:cN all s (bC f p i)=true:=by kernel_rfl) (hcl:dD cx.P g=true:=by kernel_rfl)
  (h1:gh s (bC f p i)=some (g,args):=by kernel_rfl) (hd:dq cx.n (bC f p i).dst=true:=by kernel_rfl) (hid:V.dz []=false:=by kernel_rfl) (hn:has s.u nid=false:=by kernel_rfl) (htg:Nat.ble (id+1) TG=true:=by kernel_rfl):OT cx Q ks all (bk f p i) s:=ac5 _ id nid hl hg hc hcl hone h1 hd hid hn rfl k htg
theorem bP{f:Func}{p q:List Nat}(m:Nat)(h:LP cx Q ks (cat f q) m s)(hc:cat f p=.loop (cat f q):=by kernel_rfl):VE cx Q (.c (cat f p)::ks) .normal s:=kz m hc h
def Bq(P:Program)(n:Nat)(all:Array Oper)(σs:List AS)(o:Oper):Nat→Nat→List (Bool×Option AS)
 | _,0=>[]
 | lo,k+1=>(cN all (nth σs lo) o,bG P n (nth σs lo) o)::Bq P n all σs o (lo+1) k
def y7(σs:List AS):Nat→Nat→List (Bool×Option AS)
 | _,0=>[]
 | lo,k+1=>(true,some (nth σs lo))::y7 σs (lo+1) k
def te(P:Program)(n:Nat)(all:Array Oper)(σs:List AS):List Oper→List Tag→List (List (Bool×Option AS))
 | o::r,.v lo k::ts=>Bq P n all σs o lo k::te P n all σs r ts
 | _,_=>[]
def o6(σs:List AS):List Tag→List (List (Bool×Option AS))
 | []=>[]
 | .v lo k::ts=>y7 σs lo k::o6 σs ts
 | _::ts=>[]::o6 σs ts
end
section
variable{P:Program}{n:Nat}{s0:AS}{all:Array Oper}{K:Nat}{σs:List AS}{f:Func}{p:List Nat}{i:Nat}
theorem HJ{o:Oper}:∀{k lo:Nat},Bq P n all σs o lo k=y7 σs lo k→ef lo k fun j=>cN all (nth σs j) o=true∧bG P n (nth σs j) o=some (nth σs j)
 | 0,_,_=>trivial
 | k+1,lo,h=>by
  simp only[Bq,y7,List.cons.injEq,Prod.mk.injEq]at h;exact⟨h.1,HJ h.2⟩
theorem IR:∀{ts:List Tag} {l:List Oper} {us:List Tag},te P n all σs l ts=o6 σs ts→fx P n s0 all K σs (l.drop ts.length) us→fx P n s0 all K σs l (ts++us)
 | [],l,us,_,h=>by simpa using h
 | t::ts,[],us,h,_=>by cases t<;>simp[te,o6]at h
 | t::ts,o::r,us,h,h2=>by
  cases t with
  | v lo k =>
   simp only[te,o6,List.cons.injEq]at h;exact⟨d4 (HJ h.1),IR h.2 (by simpa using h2)⟩
  | _=>simp[te,o6]at h
theorem aF(ts:List Tag){us:List Tag}(h2:fx P n s0 all K σs (bk f p (i+ts.length)) us)(h:te P n all σs (bk f p i) ts=o6 σs ts:=by kernel_rfl):fx P n s0 all K σs (bk f p i) (ts++us):=by
 refine IR h ?_;have:(bk f p i).drop ts.length=bk f p (i+ts.length):=by simp[bk,List.drop_drop,Nat.add_comm]
 rw[this];exact h2
theorem aC{t:Tag}{ts:List Tag}(h:ff P n s0 all K σs (bC f p i) t)(h2:fx P n s0 all K σs (bk f p (i+1)) ts)(hl:bk f p i=bC f p i::bk f p (i+1):=by kernel_rfl):fx P n s0 all K σs (bk f p i) (t::ts):=aaD hl h h2
theorem cp(hl:bk f p i=[]:=by kernel_rfl):fx P n s0 all K σs (bk f p i) []:=Tg hl
def cw(P:Program)(n:Nat)(f:Func)(p:List Nat)(i:Nat)(s:AS):AS:=match bG P n s (bC f p i) with|some s'=>s'|none=>s
def jr(f:Func)(p:List Nat):Bool:=match cat f p with|.region _ _ true=>true|_=>false
end
theorem sj{P:Program}{n:Nat}{s0:AS}{all:Array Oper}{K:Nat}{σs:List AS}{l:List Oper}:fx P n s0 all K σs l []:=by cases l<;>trivial
theorem co{cx:Cx}{Q:Exit→Act→World→Prop}{ks:List ao}{f:Func}{p:List Nat}{s0:AS}{tags:List Tag}(K:Nat)(rv:List (Nat×AV))(al:List (Nat×List AV))(rl:List (Nat×bD))(tl:List (AS→AS))
  (h3:fx cx.P cx.n s0 (cW f p) K (mc s0 rv al rl tl) (bk f p 0) tags) (h:VE cx Q ks .normal (EK s0 rv al rl tl K))
  (hc:jr f p=true:=by kernel_rfl) (hm:cx.P.follows .mixedOrders=true:=by kernel_rfl) (hs:wV (cW f p) tags K=true:=by kernel_rfl) (hl:kX tags K=true:=by kernel_rfl) (hkey:lQ (bk f p 0) tags rv=true:=by kernel_rfl) (hfr:gF s0.u al=true:=by kernel_rfl) (hfr2:gF s0.u rl=true:=by kernel_rfl):VE cx Q (.c (cat f p)::ks) .normal s0:=by
 have e0:bk f p 0=(cW f p).toList:=by simp[bk]
 cases hcc:cat f p with
 | region id ops b =>
  cases b with
  | false=>unfold jr at hc;rw[hcc]at hc;cases hc
  | true =>
   have ho:cW f p=ops:=by unfold cW;rw[hcc];rfl
   rw[e0]at h3 hkey;rw[ho]at h3 hkey hs;exact UO (id:=id) tags K rv al rl (Fd (lX s0 rv al rl) tl) rfl hm hs hl hkey hfr hfr2 h3 h
 | _=>unfold jr at hc;rw[hcc]at hc;cases hc
end Go.Proofs.YtolhpahjgddjkaaGreat
