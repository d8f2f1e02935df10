/- The rules in short form: states that need not be written out, premises that the kernel computes. No program in sight. -/
import Derived.Test.YtnpmlepplfaijaaDoorInVe
namespace Go.Proofs.YtnpmlepplfaijaaDoor
set_option linter.all false
open Go.RowKit
def keys{α:Type}:List (Nat×α)→List Nat
 | []=>[]
 | (k,_)::r=>k::keys r
def ed(P:Program)(n k:Nat)(ks:List av)(e:Exit)(s:AS):AS:=match jE P n k ks e s with
 | some (_,_,s')=>s'
 | none=>s
def d4(P:Program)(n k:Nat)(ks:List av)(e:Exit)(s:AS):Option (List av×Exit):=match jE P n k ks e s with
 | some (ks',e',_)=>some (ks',e')
 | none=>none
def zw(s:AS)(ts os rs:List Nat):AS:=match s.pick ts os rs with|some s'=>s'|none=>s
def xr(s:AS)(ts os rs:List Nat):Bool:=match s.pick ts os rs with|some _=>true|none=>false
def lN(P:Program)(n:Nat)(all:Array Oper)(k:Nat)(l:List Oper)(s:AS):AS:=match hH P n all k l s with
 | some (_,s')=>s'
 | none=>s
def lF(P:Program)(n:Nat)(all:Array Oper)(k:Nat)(l:List Oper)(s:AS):Option (List Oper):=match hH P n all k l s with
 | some (l',_)=>some l'
 | none=>none
def vQ(s:AS):List (AS→AS)→List AS
 | []=>[]
 | g::r=>g s::vQ (g s) r
def Ap(k:Nat)(b:Bool)(s:AS):AS:={ s with t:=aQ k (.bool b) s.t }
def JS(nid:Nat)(ar:bn)(s:AS):AS:={ s with r:=aQ nid ar s.r,u:=nid::s.u }
def m5(s0:AS)(rv:List (Nat×AV))(al:List (Nat×List AV))(rl:List (Nat×bn))(tl:List (AS→AS)):List AS:=iV s0 rv al rl::vQ (iV s0 rv al rl) tl
def Cf(s0:AS)(rv:List (Nat×AV))(al:List (Nat×List AV))(rl:List (Nat×bn))(tl:List (AS→AS))(K:Nat):AS:=nth (m5 s0 rv al rl tl) K
def uX(f:Func)(p:List Nat):Bool:=match cat f p with|.region _ _ false=>true|_=>false
section
variable{cx:Cx}{Q:Exit→Act→World→Prop}{ks ks':List av}{e e':Exit}{s s':AS}{f:Func}{p:List Nat}{all:Array Oper}{i:Nat}
theorem ah(k:Nat)(hk:VE cx Q ks' e' s')(h:rC cx.P cx.n k (keys s'.t) (keys s'.o) (keys s'.r) ks e s=some (ks',e',s'):=by kernel_rfl):VE cx Q ks e s:=Aj k _ _ _ h hk
theorem bC(k:Nat)(s':AS)(hk:VE cx Q ks' .normal s')(h:rC cx.P cx.n k (keys s'.t) (keys s'.o) (keys s'.r) ks e s=some (ks',.normal,s'):=by kernel_rfl):VE cx Q ks e s:=Aj k _ _ _ h hk
theorem cC(k:Nat)(hk:VE cx Q ks' .normal (ed cx.P cx.n k ks e s))(h:d4 cx.P cx.n k ks e s=some (ks',.normal):=by kernel_rfl):VE cx Q ks e s:=by
 unfold d4 at h;split at h
 ·rename_i k1 e1 s1 h1;simp only[Option.some.injEq,Prod.mk.injEq]at h;obtain⟨rfl,rfl⟩:=h;refine t6 _ _ _ _ h1 ?_;unfold ed at hk;rw[h1]at hk;exact hk
 ·cases h
theorem aJ(k:Nat)(hk:VE cx Q [] .ret (ed cx.P cx.n k ks e s))(h:d4 cx.P cx.n k ks e s=some ([],.ret):=by kernel_rfl):VE cx Q ks e s:=by
 unfold d4 at h;split at h
 ·rename_i k1 e1 s1 h1;simp only[Option.some.injEq,Prod.mk.injEq]at h;obtain⟨rfl,rfl⟩:=h;refine t6 _ _ _ _ h1 ?_;unfold ed at hk;rw[h1]at hk;exact hk
 ·cases h
theorem bU(ts os rs:List Nat)(hk:VE cx Q ks e (zw s ts os rs))(h:xr s ts os rs=true:=by kernel_rfl):VE cx Q ks e s:=by
 unfold xr at h;split at h
 ·rename_i s1 h1;unfold zw at hk;rw[h1]at hk;exact xq _ (B8 h1) hk
 ·cases h
theorem am(n:Nat)(hk:OT cx Q ks (dA f p) (aL f p n) (lN cx.P cx.n (dA f p) n (aL f p 0) s))(h:uX f p=true:=by kernel_rfl)(h2:lF cx.P cx.n (dA f p) n (aL f p 0) s=some (aL f p n):=by kernel_rfl):VE cx Q (.c (cat f p)::ks) .normal s:=by
 have hl:aL f p 0=(dA f p).toList:=by simp[aL]
 cases hc:cat f p with
 | region id ops b =>
  cases b with
  | true=>unfold uX at h;rw[hc]at h;cases h
  | false =>
   have ho:dA f p=ops:=by unfold dA;rw[hc];rfl
   unfold lF at h2;split at h2
   ·rename_i l1 s1 h1;injection h2 with h2;subst h2
    unfold lN at hk;rw[h1]at hk;rw[hl,ho]at h1;rw[ho]at hk;exact Al (ny _ _ _ h1 hk)
   ·cases h2
 | _=>unfold uX at h;rw[hc]at h;cases h
theorem aN(j k:Nat)(hk:OT cx Q ks all (aL f p j) (lN cx.P cx.n all k (aL f p i) s))(h2:lF cx.P cx.n all k (aL f p i) s=some (aL f p j):=by kernel_rfl):OT cx Q ks all (aL f p i) s:=by
 unfold lF at h2;split at h2
 ·rename_i l1 s1 h1;injection h2 with h2;subst h2
  unfold lN at hk;rw[h1]at hk;exact ny _ _ _ h1 hk
 ·cases h2
theorem ac(hk:VE cx Q ks .normal (lN cx.P cx.n all 10000 (aL f p i) s))(h2:lF cx.P cx.n all 10000 (aL f p i) s=some []:=by kernel_rfl):OT cx Q ks all (aL f p i) s:=by
 unfold lF at h2;split at h2
 ·rename_i l1 s1 h1;injection h2 with h2;subst h2
  unfold lN at hk;rw[h1]at hk;exact ny _ _ _ h1 (BR hk)
 ·cases h2
theorem aF(h:bj cx.P cx.n s (aV f p i)=some s')(k:OT cx Q ks all (aL f p (i+1)) s')(hl:aL f p i=aV f p i::aL f p (i+1):=by kernel_rfl)(hg:bP all s (aV f p i)=true:=by kernel_rfl):OT cx Q ks all (aL f p i) s:=E9 _ hl (Dj hg h) k
theorem ai(k:Nat){b b':Bool}(he:b=b')(h:VE cx Q ks e (Ap k b' s))(hv:look k s.t=some (.bool b):=by kernel_rfl):VE cx Q ks e s:=CX k he hv h
theorem ay{l:List Oper}(k:Nat){b b':Bool}(he:b=b')(h:OT cx Q ks all l (Ap k b' s))(hv:look k s.t=some (.bool b):=by kernel_rfl):OT cx Q ks all l s:=HI k he hv h
theorem aO{g:FuncId}{args:List AV}{V:AV}(hc:aS cx.P g args (fun v _=>v=V))(k:OT cx Q ks all (aL f p (i+1)) (s.put (aV f p i).dst V))(hl:aL f p i=aV f p i::aL f p (i+1):=by kernel_rfl)(hg:bP all s (aV f p i)=true:=by kernel_rfl)(hcl:cc cx.P g=true:=by kernel_rfl)
  (h1:dt s (aV f p i)=some (g,args):=by kernel_rfl) (hv:(ci cx.n (aV f p i).dst&&V.ca [])=true:=by kernel_rfl):OT cx Q ks all (aL f p i) s:=BF _ hl hg hc hcl h1 hv k
theorem kL{g:FuncId}{args:List AV}{V:AV}(hc:cc cx.P g=true∧aS cx.P g args (fun v _=>v=V))(k:OT cx Q ks all (aL f p (i+1)) (s.put (aV f p i).dst V))(hl:aL f p i=aV f p i::aL f p (i+1):=by kernel_rfl)(hg:bP all s (aV f p i)=true:=by kernel_rfl)
  (h1:dt s (aV f p i)=some (g,args):=by kernel_rfl) (hv:(ci cx.n (aV f p i).dst&&V.ca [])=true:=by kernel_rfl):OT cx Q ks all (aL f p i) s:=BF _ hl hg hc.2 hc.1 h1 hv k
theorem gS(nid:Nat){id:Nat}{g:FuncId}{args:List AV}{V:AV}{ar:bn}(hc:aS cx.P g args (fun v s1=>v=V∧look id s1.r=some ar))(hone:∀(N:Nat→Prop) w ι x,Rel N w ι V x→∃y,ι id=some y)
  (k:OT cx Q ks all (aL f p (i+1)) ((JS nid ar s).put (aV f p i).dst (V.dN id nid))) (hl:aL f p i=aV f p i::aL f p (i+1):=by kernel_rfl) (hg:bP all s (aV f p i)=true:=by kernel_rfl) (hcl:cc cx.P g=true:=by kernel_rfl)
  (h1:dt s (aV f p i)=some (g,args):=by kernel_rfl) (hd:ci cx.n (aV f p i).dst=true:=by kernel_rfl) (hid:V.ca []=false:=by kernel_rfl) (hn:has s.u nid=false:=by kernel_rfl) (htg:Nat.ble (id+1) TG=true:=by kernel_rfl):OT cx Q ks all (aL f p i) s:=Lp _ id nid hl hg hc hcl hone h1 hd hid hn rfl k htg
theorem cH{f:Func}{p q:List Nat}(m:Nat)(h:LP cx Q ks (cat f q) m s)(hc:cat f p=.loop (cat f q):=by kernel_rfl):VE cx Q (.c (cat f p)::ks) .normal s:=mU m hc h
def qd(P:Program)(n:Nat)(all:Array Oper)(σs:List AS)(o:Oper):Nat→Nat→List (Bool×Option AS)
 | _,0=>[]
 | lo,k+1=>(bP all (nth σs lo) o,bj P n (nth σs lo) o)::qd P n all σs o (lo+1) k
def qr(σs:List AS):Nat→Nat→List (Bool×Option AS)
 | _,0=>[]
 | lo,k+1=>(true,some (nth σs lo))::qr σs (lo+1) k
def kU(P:Program)(n:Nat)(all:Array Oper)(σs:List AS):List Oper→List Tag→List (List (Bool×Option AS))
 | o::r,.v lo k::ts=>qd P n all σs o lo k::kU P n all σs r ts
 | _,_=>[]
def jU(σs:List AS):List Tag→List (List (Bool×Option AS))
 | []=>[]
 | .v lo k::ts=>qr σs lo k::jU σs ts
 | _::ts=>[]::jU σs ts
end
section
variable{P:Program}{n:Nat}{s0:AS}{all:Array Oper}{K:Nat}{σs:List AS}{f:Func}{p:List Nat}{i:Nat}
theorem Af{o:Oper}:∀{k lo:Nat},qd P n all σs o lo k=qr σs lo k→cL lo k fun j=>bP all (nth σs j) o=true∧bj P n (nth σs j) o=some (nth σs j)
 | 0,_,_=>trivial
 | k+1,lo,h=>by
  simp only[qd,qr,List.cons.injEq,Prod.mk.injEq]at h;exact⟨h.1,Af h.2⟩
theorem AM:∀{ts:List Tag} {l:List Oper} {us:List Tag},kU P n all σs l ts=jU σs ts→dC P n s0 all K σs (l.drop ts.length) us→dC P n s0 all K σs l (ts++us)
 | [],l,us,_,h=>by simpa using h
 | t::ts,[],us,h,_=>by cases t<;>simp[kU,jU]at h
 | t::ts,o::r,us,h,h2=>by
  cases t with
  | v lo k =>
   simp only[kU,jU,List.cons.injEq]at h;exact⟨j7 (Af h.1),AM h.2 (by simpa using h2)⟩
  | _=>simp[kU,jU]at h
theorem aB(ts:List Tag){us:List Tag}(h2:dC P n s0 all K σs (aL f p (i+ts.length)) us)(h:kU P n all σs (aL f p i) ts=jU σs ts:=by kernel_rfl):dC P n s0 all K σs (aL f p i) (ts++us):=by
 refine AM h ?_;have:(aL f p i).drop ts.length=aL f p (i+ts.length):=by simp[aL,List.drop_drop,Nat.add_comm]
 rw[this];exact h2
theorem aj{t:Tag}{ts:List Tag}(h:dP P n s0 all K σs (aV f p i) t)(h2:dC P n s0 all K σs (aL f p (i+1)) ts)(hl:aL f p i=aV f p i::aL f p (i+1):=by kernel_rfl):dC P n s0 all K σs (aL f p i) (t::ts):=CW hl h h2
theorem bW(hl:aL f p i=[]:=by kernel_rfl):dC P n s0 all K σs (aL f p i) []:=Ks hl
def bL(P:Program)(n:Nat)(f:Func)(p:List Nat)(i:Nat)(s:AS):AS:=match bj P n s (aV f p i) with|some s'=>s'|none=>s
def ln(f:Func)(p:List Nat):Bool:=match cat f p with|.region _ _ true=>true|_=>false
end
theorem Fz{P:Program}{n:Nat}{s0:AS}{all:Array Oper}{K:Nat}{σs:List AS}{l:List Oper}:dC P n s0 all K σs l []:=by cases l<;>trivial
theorem bZ{cx:Cx}{Q:Exit→Act→World→Prop}{ks:List av}{f:Func}{p:List Nat}{s0:AS}{tags:List Tag}(K:Nat)(rv:List (Nat×AV))(al:List (Nat×List AV))(rl:List (Nat×bn))(tl:List (AS→AS))
  (h3:dC cx.P cx.n s0 (dA f p) K (m5 s0 rv al rl tl) (aL f p 0) tags) (h:VE cx Q ks .normal (Cf s0 rv al rl tl K))
  (hc:ln f p=true:=by kernel_rfl) (hm:cx.P.follows .mixedOrders=true:=by kernel_rfl) (hs:nx (dA f p) tags K=true:=by kernel_rfl) (hl:iy tags K=true:=by kernel_rfl) (hkey:iX (aL f p 0) tags rv=true:=by kernel_rfl) (hfr:eZ s0.u al=true:=by kernel_rfl) (hfr2:eZ s0.u rl=true:=by kernel_rfl):VE cx Q (.c (cat f p)::ks) .normal s0:=by
 have e0:aL f p 0=(dA f p).toList:=by simp[aL]
 cases hcc:cat f p with
 | region id ops b =>
  cases b with
  | false=>unfold ln at hc;rw[hcc]at hc;cases hc
  | true =>
   have ho:dA f p=ops:=by unfold dA;rw[hcc];rfl
   rw[e0]at h3 hkey;rw[ho]at h3 hkey hs;exact JT (id:=id) tags K rv al rl (vQ (iV s0 rv al rl) tl) rfl hm hs hl hkey hfr hfr2 h3 h
 | _=>unfold ln at hc;rw[hcc]at hc;cases hc
end Go.Proofs.YtnpmlepplfaijaaDoor
