/- The rules in short form: states that need not be written out, premises that the kernel computes. No program in sight. -/
import Derived.Test.YtnpmlepplfaijaaIsVe
namespace Go.Proofs.Ytnpmlepplfaijaa
set_option linter.all false
open Go.RowKit
def keys{α:Type}:List (Nat×α)→List Nat
 | []=>[]
 | (k,_)::r=>k::keys r
def cZ(P:Program)(n k:Nat)(ks:List ak)(e:Exit)(s:AS):AS:=match gC P n k ks e s with
 | some (_,_,s')=>s'
 | none=>s
def c6(P:Program)(n k:Nat)(ks:List ak)(e:Exit)(s:AS):Option (List ak×Exit):=match gC P n k ks e s with
 | some (ks',e',_)=>some (ks',e')
 | none=>none
def uC(s:AS)(ts os rs:List Nat):AS:=match s.pick ts os rs with|some s'=>s'|none=>s
def tq(s:AS)(ts os rs:List Nat):Bool:=match s.pick ts os rs with|some _=>true|none=>false
def hI(P:Program)(n:Nat)(all:Array Oper)(k:Nat)(l:List Oper)(s:AS):AS:=match fL P n all k l s with
 | some (_,s')=>s'
 | none=>s
def hZ(P:Program)(n:Nat)(all:Array Oper)(k:Nat)(l:List Oper)(s:AS):Option (List Oper):=match fL P n all k l s with
 | some (l',_)=>some l'
 | none=>none
def rz(s:AS):List (AS→AS)→List AS
 | []=>[]
 | g::r=>g s::rz (g s) r
def wN(k:Nat)(b:Bool)(s:AS):AS:={ s with t:=aL k (.bool b) s.t }
def yY(nid:Nat)(ar:bb)(s:AS):AS:={ s with r:=aL nid ar s.r,u:=nid::s.u }
def jX(s0:AS)(rv:List (Nat×AV))(al:List (Nat×List AV))(rl:List (Nat×bb))(tl:List (AS→AS)):List AS:=fE s0 rv al rl::rz (fE s0 rv al rl) tl
def xx(s0:AS)(rv:List (Nat×AV))(al:List (Nat×List AV))(rl:List (Nat×bb))(tl:List (AS→AS))(K:Nat):AS:=nth (jX s0 rv al rl tl) K
def o7(f:Func)(p:List Nat):Bool:=match cat f p with|.region _ _ false=>true|_=>false
section
variable{cx:Cx}{Q:Exit→Act→World→Prop}{ks ks':List ak}{e e':Exit}{s s':AS}{f:Func}{p:List Nat}{all:Array Oper}{i:Nat}
theorem ab(k:Nat)(hk:VE cx Q ks' e' s')(h:my cx.P cx.n k (keys s'.t) (keys s'.o) (keys s'.r) ks e s=some (ks',e',s'):=by kernel_rfl):VE cx Q ks e s:=xf k _ _ _ h hk
theorem bq(k:Nat)(s':AS)(hk:VE cx Q ks' .normal s')(h:my cx.P cx.n k (keys s'.t) (keys s'.o) (keys s'.r) ks e s=some (ks',.normal,s'):=by kernel_rfl):VE cx Q ks e s:=xf k _ _ _ h hk
theorem bX(k:Nat)(hk:VE cx Q ks' .normal (cZ cx.P cx.n k ks e s))(h:c6 cx.P cx.n k ks e s=some (ks',.normal):=by kernel_rfl):VE cx Q ks e s:=by
 unfold c6 at h;split at h
 ·rename_i k1 e1 s1 h1;simp only[Option.some.injEq,Prod.mk.injEq]at h;obtain⟨rfl,rfl⟩:=h;refine pP _ _ _ _ h1 ?_;unfold cZ at hk;rw[h1]at hk;exact hk
 ·cases h
theorem aC(k:Nat)(hk:VE cx Q [] .ret (cZ cx.P cx.n k ks e s))(h:c6 cx.P cx.n k ks e s=some ([],.ret):=by kernel_rfl):VE cx Q ks e s:=by
 unfold c6 at h;split at h
 ·rename_i k1 e1 s1 h1;simp only[Option.some.injEq,Prod.mk.injEq]at h;obtain⟨rfl,rfl⟩:=h;refine pP _ _ _ _ h1 ?_;unfold cZ at hk;rw[h1]at hk;exact hk
 ·cases h
theorem bE(ts os rs:List Nat)(hk:VE cx Q ks e (uC s ts os rs))(h:tq s ts os rs=true:=by kernel_rfl):VE cx Q ks e s:=by
 unfold tq at h;split at h
 ·rename_i s1 h1;unfold uC at hk;rw[h1]at hk;exact xm _ (tr h1) hk
 ·cases h
theorem ai(n:Nat)(hk:OT cx Q ks (cG f p) (aM f p n) (hI cx.P cx.n (cG f p) n (aM f p 0) s))(h:o7 f p=true:=by kernel_rfl)(h2:hZ cx.P cx.n (cG f p) n (aM f p 0) s=some (aM f p n):=by kernel_rfl):VE cx Q (.c (cat f p)::ks) .normal s:=by
 have hl:aM f p 0=(cG f p).toList:=by simp[aM]
 cases hc:cat f p with
 | region id ops b =>
  cases b with
  | true=>unfold o7 at h;rw[hc]at h;cases h
  | false =>
   have ho:cG f p=ops:=by unfold cG;rw[hc];rfl
   unfold hZ at h2;split at h2
   ·rename_i l1 s1 h1;injection h2 with h2;subst h2
    unfold hI at hk;rw[h1]at hk;rw[hl,ho]at h1;rw[ho]at hk;exact xC (kn _ _ _ h1 hk)
   ·cases h2
 | _=>unfold o7 at h;rw[hc]at h;cases h
theorem aN(j k:Nat)(hk:OT cx Q ks all (aM f p j) (hI cx.P cx.n all k (aM f p i) s))(h2:hZ cx.P cx.n all k (aM f p i) s=some (aM f p j):=by kernel_rfl):OT cx Q ks all (aM f p i) s:=by
 unfold hZ at h2;split at h2
 ·rename_i l1 s1 h1;injection h2 with h2;subst h2
  unfold hI at hk;rw[h1]at hk;exact kn _ _ _ h1 hk
 ·cases h2
theorem aa(hk:VE cx Q ks .normal (hI cx.P cx.n all 10000 (aM f p i) s))(h2:hZ cx.P cx.n all 10000 (aM f p i) s=some []:=by kernel_rfl):OT cx Q ks all (aM f p i) s:=by
 unfold hZ at h2;split at h2
 ·rename_i l1 s1 h1;injection h2 with h2;subst h2
  unfold hI at hk;rw[h1]at hk;exact kn _ _ _ h1 (tY hk)
 ·cases h2
theorem ax(h:ba cx.P cx.n s (aP f p i)=some s')(k:OT cx Q ks all (aM f p (i+1)) s')(hl:aM f p i=aP f p i::aM f p (i+1):=by kernel_rfl)(hg:bC all s (aP f p i)=true:=by kernel_rfl):OT cx Q ks all (aM f p i) s:=CL _ hl (BI hg h) k
theorem ac(k:Nat){b b':Bool}(he:b=b')(h:VE cx Q ks e (wN k b' s))(hv:look k s.t=some (.bool b):=by kernel_rfl):VE cx Q ks e s:=AU k he hv h
theorem ap{l:List Oper}(k:Nat){b b':Bool}(he:b=b')(h:OT cx Q ks all l (wN k b' s))(hv:look k s.t=some (.bool b):=by kernel_rfl):OT cx Q ks all l s:=DA k he hv h
theorem aD{g:FuncId}{args:List AV}{V:AV}(hc:aI cx.P g args (fun v _=>v=V))(k:OT cx Q ks all (aM f p (i+1)) (s.put (aP f p i).dst V))(hl:aM f p i=aP f p i::aM f p (i+1):=by kernel_rfl)(hg:bC all s (aP f p i)=true:=by kernel_rfl)(hcl:bM cx.P g=true:=by kernel_rfl)
  (h1:c7 s (aP f p i)=some (g,args):=by kernel_rfl) (hv:(bR cx.n (aP f p i).dst&&V.bL [])=true:=by kernel_rfl):OT cx Q ks all (aM f p i) s:=sG _ hl hg hc hcl h1 hv k
theorem gK{g:FuncId}{args:List AV}{V:AV}(hc:bM cx.P g=true∧aI cx.P g args (fun v _=>v=V))(k:OT cx Q ks all (aM f p (i+1)) (s.put (aP f p i).dst V))(hl:aM f p i=aP f p i::aM f p (i+1):=by kernel_rfl)(hg:bC all s (aP f p i)=true:=by kernel_rfl)
  (h1:c7 s (aP f p i)=some (g,args):=by kernel_rfl) (hv:(bR cx.n (aP f p i).dst&&V.bL [])=true:=by kernel_rfl):OT cx Q ks all (aM f p i) s:=sG _ hl hg hc.2 hc.1 h1 hv k
theorem eF(nid:Nat){id:Nat}{g:FuncId}{args:List AV}{V:AV}{ar:bb}(hc:aI cx.P g args (fun v s1=>v=V∧look id s1.r=some ar))(hone:∀(N:Nat→Prop) w ι x,Rel N w ι V x→∃y,ι id=some y)
  (k:OT cx Q ks all (aM f p (i+1)) ((yY nid ar s).put (aP f p i).dst (V.cM id nid))) (hl:aM f p i=aP f p i::aM f p (i+1):=by kernel_rfl) (hg:bC all s (aP f p i)=true:=by kernel_rfl) (hcl:bM cx.P g=true:=by kernel_rfl)
  (h1:c7 s (aP f p i)=some (g,args):=by kernel_rfl) (hd:bR cx.n (aP f p i).dst=true:=by kernel_rfl) (hid:V.bL []=false:=by kernel_rfl) (hn:has s.u nid=false:=by kernel_rfl) (htg:Nat.ble (id+1) TG=true:=by kernel_rfl):OT cx Q ks all (aM f p i) s:=BG _ id nid hl hg hc hcl hone h1 hd hid hn rfl k htg
theorem ce{f:Func}{p q:List Nat}(m:Nat)(h:LP cx Q ks (cat f q) m s)(hc:cat f p=.loop (cat f q):=by kernel_rfl):VE cx Q (.c (cat f p)::ks) .normal s:=jq m hc h
def mX(P:Program)(n:Nat)(all:Array Oper)(σs:List AS)(o:Oper):Nat→Nat→List (Bool×Option AS)
 | _,0=>[]
 | lo,k+1=>(bC all (nth σs lo) o,ba P n (nth σs lo) o)::mX P n all σs o (lo+1) k
def me(σs:List AS):Nat→Nat→List (Bool×Option AS)
 | _,0=>[]
 | lo,k+1=>(true,some (nth σs lo))::me σs (lo+1) k
def ib(P:Program)(n:Nat)(all:Array Oper)(σs:List AS):List Oper→List Tag→List (List (Bool×Option AS))
 | o::r,.v lo k::ts=>mX P n all σs o lo k::ib P n all σs r ts
 | _,_=>[]
def gm(σs:List AS):List Tag→List (List (Bool×Option AS))
 | []=>[]
 | .v lo k::ts=>me σs lo k::gm σs ts
 | _::ts=>[]::gm σs ts
end
section
variable{P:Program}{n:Nat}{s0:AS}{all:Array Oper}{K:Nat}{σs:List AS}{f:Func}{p:List Nat}{i:Nat}
theorem vh{o:Oper}:∀{k lo:Nat},mX P n all σs o lo k=me σs lo k→cb lo k fun j=>bC all (nth σs j) o=true∧ba P n (nth σs j) o=some (nth σs j)
 | 0,_,_=>trivial
 | k+1,lo,h=>by
  simp only[mX,me,List.cons.injEq,Prod.mk.injEq]at h;exact⟨h.1,vh h.2⟩
theorem ui:∀{ts:List Tag} {l:List Oper} {us:List Tag},ib P n all σs l ts=gm σs ts→cF P n s0 all K σs (l.drop ts.length) us→cF P n s0 all K σs l (ts++us)
 | [],l,us,_,h=>by simpa using h
 | t::ts,[],us,h,_=>by cases t<;>simp[ib,gm]at h
 | t::ts,o::r,us,h,h2=>by
  cases t with
  | v lo k =>
   simp only[ib,gm,List.cons.injEq]at h;exact⟨ii (vh h.1),ui h.2 (by simpa using h2)⟩
  | _=>simp[ib,gm]at h
theorem ay(ts:List Tag){us:List Tag}(h2:cF P n s0 all K σs (aM f p (i+ts.length)) us)(h:ib P n all σs (aM f p i) ts=gm σs ts:=by kernel_rfl):cF P n s0 all K σs (aM f p i) (ts++us):=by
 refine ui h ?_;have:(aM f p i).drop ts.length=aM f p (i+ts.length):=by simp[aM,List.drop_drop,Nat.add_comm]
 rw[this];exact h2
theorem ag{t:Tag}{ts:List Tag}(h:cL P n s0 all K σs (aP f p i) t)(h2:cF P n s0 all K σs (aM f p (i+1)) ts)(hl:aM f p i=aP f p i::aM f p (i+1):=by kernel_rfl):cF P n s0 all K σs (aM f p i) (t::ts):=Am hl h h2
theorem bG(hl:aM f p i=[]:=by kernel_rfl):cF P n s0 all K σs (aM f p i) []:=C1 hl
def bz(P:Program)(n:Nat)(f:Func)(p:List Nat)(i:Nat)(s:AS):AS:=match ba P n s (aP f p i) with|some s'=>s'|none=>s
def gO(f:Func)(p:List Nat):Bool:=match cat f p with|.region _ _ true=>true|_=>false
end
theorem yq{P:Program}{n:Nat}{s0:AS}{all:Array Oper}{K:Nat}{σs:List AS}{l:List Oper}:cF P n s0 all K σs l []:=by cases l<;>trivial
theorem bJ{cx:Cx}{Q:Exit→Act→World→Prop}{ks:List ak}{f:Func}{p:List Nat}{s0:AS}{tags:List Tag}(K:Nat)(rv:List (Nat×AV))(al:List (Nat×List AV))(rl:List (Nat×bb))(tl:List (AS→AS))
  (h3:cF cx.P cx.n s0 (cG f p) K (jX s0 rv al rl tl) (aM f p 0) tags) (h:VE cx Q ks .normal (xx s0 rv al rl tl K))
  (hc:gO f p=true:=by kernel_rfl) (hm:cx.P.follows .mixedOrders=true:=by kernel_rfl) (hs:kg (cG f p) tags K=true:=by kernel_rfl) (hl:fC tags K=true:=by kernel_rfl) (hkey:fG (aM f p 0) tags rv=true:=by kernel_rfl) (hfr:dC s0.u al=true:=by kernel_rfl) (hfr2:dC s0.u rl=true:=by kernel_rfl):VE cx Q (.c (cat f p)::ks) .normal s0:=by
 have e0:aM f p 0=(cG f p).toList:=by simp[aM]
 cases hcc:cat f p with
 | region id ops b =>
  cases b with
  | false=>unfold gO at hc;rw[hcc]at hc;cases hc
  | true =>
   have ho:cG f p=ops:=by unfold cG;rw[hcc];rfl
   rw[e0]at h3 hkey;rw[ho]at h3 hkey hs;exact BK (id:=id) tags K rv al rl (rz (fE s0 rv al rl) tl) rfl hm hs hl hkey hfr hfr2 h3 h
 | _=>unfold gO at hc;rw[hcc]at hc;cases hc
end Go.Proofs.Ytnpmlepplfaijaa
