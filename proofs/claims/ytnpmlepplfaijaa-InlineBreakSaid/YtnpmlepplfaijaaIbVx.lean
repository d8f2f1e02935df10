/- The rules in short form: states that need not be written out, premises that the kernel computes. No program in sight. -/
import Derived.Test.YtnpmlepplfaijaaIbVe
namespace Go.Proofs.Ytnpmlepplfaijaa
set_option linter.all false
open Go.RowKit
def keys{α:Type}:List (Nat×α)→List Nat
 | []=>[]
 | (k,_)::r=>k::keys r
def cS(P:Program)(n k:Nat)(ks:List aj)(e:Exit)(s:AS):AS:=match f8 P n k ks e s with
 | some (_,_,s')=>s'
 | none=>s
def cR(P:Program)(n k:Nat)(ks:List aj)(e:Exit)(s:AS):Option (List aj×Exit):=match f8 P n k ks e s with
 | some (ks',e',_)=>some (ks',e')
 | none=>none
def t7(s:AS)(ts os rs:List Nat):AS:=match s.pick ts os rs with|some s'=>s'|none=>s
def wi(s:AS)(ts os rs:List Nat):Bool:=match s.pick ts os rs with|some _=>true|none=>false
def ij(P:Program)(n:Nat)(all:Array Oper)(k:Nat)(l:List Oper)(s:AS):AS:=match fd P n all k l s with
 | some (_,s')=>s'
 | none=>s
def ii(P:Program)(n:Nat)(all:Array Oper)(k:Nat)(l:List Oper)(s:AS):Option (List Oper):=match fd P n all k l s with
 | some (l',_)=>some l'
 | none=>none
def sG(s:AS):List (AS→AS)→List AS
 | []=>[]
 | g::r=>g s::sG (g s) r
def xE(k:Nat)(b:Bool)(s:AS):AS:={ s with t:=aH k (.bool b) s.t }
def Dh(nid:Nat)(ar:bf)(s:AS):AS:={ s with r:=aH nid ar s.r,u:=nid::s.u }
def i8(s0:AS)(rv:List (Nat×AV))(al:List (Nat×List AV))(rl:List (Nat×bf))(tl:List (AS→AS)):List AS:=fg s0 rv al rl::sG (fg s0 rv al rl) tl
def yn(s0:AS)(rv:List (Nat×AV))(al:List (Nat×List AV))(rl:List (Nat×bf))(tl:List (AS→AS))(K:Nat):AS:=nth (i8 s0 rv al rl tl) K
def qq(f:Func)(p:List Nat):Bool:=match cat f p with|.region _ _ false=>true|_=>false
section
variable{cx:Cx}{Q:Exit→Act→World→Prop}{ks ks':List aj}{e e':Exit}{s s':AS}{f:Func}{p:List Nat}{all:Array Oper}{i:Nat}
theorem ac(k:Nat)(hk:VE cx Q ks' e' s')(h:nD cx.P cx.n k (keys s'.t) (keys s'.o) (keys s'.r) ks e s=some (ks',e',s'):=by kernel_rfl):VE cx Q ks e s:=ul k _ _ _ h hk
theorem bv(k:Nat)(s':AS)(hk:VE cx Q ks' .normal s')(h:nD cx.P cx.n k (keys s'.t) (keys s'.o) (keys s'.r) ks e s=some (ks',.normal,s'):=by kernel_rfl):VE cx Q ks e s:=ul k _ _ _ h hk
theorem bV(k:Nat)(hk:VE cx Q ks' .normal (cS cx.P cx.n k ks e s))(h:cR cx.P cx.n k ks e s=some (ks',.normal):=by kernel_rfl):VE cx Q ks e s:=by
 unfold cR at h;split at h
 ·rename_i k1 e1 s1 h1;simp only[Option.some.injEq,Prod.mk.injEq]at h;obtain⟨rfl,rfl⟩:=h;refine sJ _ _ _ _ h1 ?_;unfold cS at hk;rw[h1]at hk;exact hk
 ·cases h
theorem aI(k:Nat)(hk:VE cx Q [] .ret (cS cx.P cx.n k ks e s))(h:cR cx.P cx.n k ks e s=some ([],.ret):=by kernel_rfl):VE cx Q ks e s:=by
 unfold cR at h;split at h
 ·rename_i k1 e1 s1 h1;simp only[Option.some.injEq,Prod.mk.injEq]at h;obtain⟨rfl,rfl⟩:=h;refine sJ _ _ _ _ h1 ?_;unfold cS at hk;rw[h1]at hk;exact hk
 ·cases h
theorem bB(ts os rs:List Nat)(hk:VE cx Q ks e (t7 s ts os rs))(h:wi s ts os rs=true:=by kernel_rfl):VE cx Q ks e s:=by
 unfold wi at h;split at h
 ·rename_i s1 h1;unfold t7 at hk;rw[h1]at hk;exact un _ (vK h1) hk
 ·cases h
theorem ag(n:Nat)(hk:OT cx Q ks (cy f p) (aF f p n) (ij cx.P cx.n (cy f p) n (aF f p 0) s))(h:qq f p=true:=by kernel_rfl)(h2:ii cx.P cx.n (cy f p) n (aF f p 0) s=some (aF f p n):=by kernel_rfl):VE cx Q (.c (cat f p)::ks) .normal s:=by
 have hl:aF f p 0=(cy f p).toList:=by simp[aF]
 cases hc:cat f p with
 | region id ops b =>
  cases b with
  | true=>unfold qq at h;rw[hc]at h;cases h
  | false =>
   have ho:cy f p=ops:=by unfold cy;rw[hc];rfl
   unfold ii at h2;split at h2
   ·rename_i l1 s1 h1;injection h2 with h2;subst h2
    unfold ij at hk;rw[h1]at hk;rw[hl,ho]at h1;rw[ho]at hk;exact xR (jv _ _ _ h1 hk)
   ·cases h2
 | _=>unfold qq at h;rw[hc]at h;cases h
theorem aU(j k:Nat)(hk:OT cx Q ks all (aF f p j) (ij cx.P cx.n all k (aF f p i) s))(h2:ii cx.P cx.n all k (aF f p i) s=some (aF f p j):=by kernel_rfl):OT cx Q ks all (aF f p i) s:=by
 unfold ii at h2;split at h2
 ·rename_i l1 s1 h1;injection h2 with h2;subst h2
  unfold ij at hk;rw[h1]at hk;exact jv _ _ _ h1 hk
 ·cases h2
theorem aa(hk:VE cx Q ks .normal (ij cx.P cx.n all 10000 (aF f p i) s))(h2:ii cx.P cx.n all 10000 (aF f p i) s=some []:=by kernel_rfl):OT cx Q ks all (aF f p i) s:=by
 unfold ii at h2;split at h2
 ·rename_i l1 s1 h1;injection h2 with h2;subst h2
  unfold ij at hk;rw[h1]at hk;exact jv _ _ _ h1 (u9 hk)
 ·cases h2
theorem ap(h:bc cx.P cx.n s (aP f p i)=some s')(k:OT cx Q ks all (aF f p (i+1)) s')(hl:aF f p i=aP f p i::aF f p (i+1):=by kernel_rfl)(hg:bD all s (aP f p i)=true:=by kernel_rfl):OT cx Q ks all (aF f p i) s:=Cr _ hl (EA hg h) k
theorem ab(k:Nat){b b':Bool}(he:b=b')(h:VE cx Q ks e (xE k b' s))(hv:look k s.t=some (.bool b):=by kernel_rfl):VE cx Q ks e s:=AI k he hv h
theorem ay{l:List Oper}(k:Nat){b b':Bool}(he:b=b')(h:OT cx Q ks all l (xE k b' s))(hv:look k s.t=some (.bool b):=by kernel_rfl):OT cx Q ks all l s:=BN k he hv h
theorem aL{g:FuncId}{args:List AV}{V:AV}(hc:aJ cx.P g args (fun v _=>v=V))(k:OT cx Q ks all (aF f p (i+1)) (s.put (aP f p i).dst V))(hl:aF f p i=aP f p i::aF f p (i+1):=by kernel_rfl)(hg:bD all s (aP f p i)=true:=by kernel_rfl)(hcl:bT cx.P g=true:=by kernel_rfl)
  (h1:cX s (aP f p i)=some (g,args):=by kernel_rfl) (hv:(bZ cx.n (aP f p i).dst&&V.bQ [])=true:=by kernel_rfl):OT cx Q ks all (aF f p i) s:=tY _ hl hg hc hcl h1 hv k
theorem im{g:FuncId}{args:List AV}{V:AV}(hc:bT cx.P g=true∧aJ cx.P g args (fun v _=>v=V))(k:OT cx Q ks all (aF f p (i+1)) (s.put (aP f p i).dst V))(hl:aF f p i=aP f p i::aF f p (i+1):=by kernel_rfl)(hg:bD all s (aP f p i)=true:=by kernel_rfl)
  (h1:cX s (aP f p i)=some (g,args):=by kernel_rfl) (hv:(bZ cx.n (aP f p i).dst&&V.bQ [])=true:=by kernel_rfl):OT cx Q ks all (aF f p i) s:=tY _ hl hg hc.2 hc.1 h1 hv k
theorem d3(nid:Nat){id:Nat}{g:FuncId}{args:List AV}{V:AV}{ar:bf}(hc:aJ cx.P g args (fun v s1=>v=V∧look id s1.r=some ar))(hone:∀(N:Nat→Prop) w ι x,Rel N w ι V x→∃y,ι id=some y)
  (k:OT cx Q ks all (aF f p (i+1)) ((Dh nid ar s).put (aP f p i).dst (V.cF id nid))) (hl:aF f p i=aP f p i::aF f p (i+1):=by kernel_rfl) (hg:bD all s (aP f p i)=true:=by kernel_rfl) (hcl:bT cx.P g=true:=by kernel_rfl)
  (h1:cX s (aP f p i)=some (g,args):=by kernel_rfl) (hd:bZ cx.n (aP f p i).dst=true:=by kernel_rfl) (hid:V.bQ []=false:=by kernel_rfl) (hn:has s.u nid=false:=by kernel_rfl) (htg:Nat.ble (id+1) TG=true:=by kernel_rfl):OT cx Q ks all (aF f p i) s:=CN _ id nid hl hg hc hcl hone h1 hd hid hn rfl k htg
theorem bW{f:Func}{p q:List Nat}(m:Nat)(h:LP cx Q ks (cat f q) m s)(hc:cat f p=.loop (cat f q):=by kernel_rfl):VE cx Q (.c (cat f p)::ks) .normal s:=lu m hc h
def mr(P:Program)(n:Nat)(all:Array Oper)(σs:List AS)(o:Oper):Nat→Nat→List (Bool×Option AS)
 | _,0=>[]
 | lo,k+1=>(bD all (nth σs lo) o,bc P n (nth σs lo) o)::mr P n all σs o (lo+1) k
def mX(σs:List AS):Nat→Nat→List (Bool×Option AS)
 | _,0=>[]
 | lo,k+1=>(true,some (nth σs lo))::mX σs (lo+1) k
def iv(P:Program)(n:Nat)(all:Array Oper)(σs:List AS):List Oper→List Tag→List (List (Bool×Option AS))
 | o::r,.v lo k::ts=>mr P n all σs o lo k::iv P n all σs r ts
 | _,_=>[]
def fS(σs:List AS):List Tag→List (List (Bool×Option AS))
 | []=>[]
 | .v lo k::ts=>mX σs lo k::fS σs ts
 | _::ts=>[]::fS σs ts
end
section
variable{P:Program}{n:Nat}{s0:AS}{all:Array Oper}{K:Nat}{σs:List AS}{f:Func}{p:List Nat}{i:Nat}
theorem xQ{o:Oper}:∀{k lo:Nat},mr P n all σs o lo k=mX σs lo k→cd lo k fun j=>bD all (nth σs j) o=true∧bc P n (nth σs j) o=some (nth σs j)
 | 0,_,_=>trivial
 | k+1,lo,h=>by
  simp only[mr,mX,List.cons.injEq,Prod.mk.injEq]at h;exact⟨h.1,xQ h.2⟩
theorem xy:∀{ts:List Tag} {l:List Oper} {us:List Tag},iv P n all σs l ts=fS σs ts→cw P n s0 all K σs (l.drop ts.length) us→cw P n s0 all K σs l (ts++us)
 | [],l,us,_,h=>by simpa using h
 | t::ts,[],us,h,_=>by cases t<;>simp[iv,fS]at h
 | t::ts,o::r,us,h,h2=>by
  cases t with
  | v lo k =>
   simp only[iv,fS,List.cons.injEq]at h;exact⟨g8 (xQ h.1),xy h.2 (by simpa using h2)⟩
  | _=>simp[iv,fS]at h
theorem aB(ts:List Tag){us:List Tag}(h2:cw P n s0 all K σs (aF f p (i+ts.length)) us)(h:iv P n all σs (aF f p i) ts=fS σs ts:=by kernel_rfl):cw P n s0 all K σs (aF f p i) (ts++us):=by
 refine xy h ?_;have:(aF f p i).drop ts.length=aF f p (i+ts.length):=by simp[aF,List.drop_drop,Nat.add_comm]
 rw[this];exact h2
theorem ak{t:Tag}{ts:List Tag}(h:cG P n s0 all K σs (aP f p i) t)(h2:cw P n s0 all K σs (aF f p (i+1)) ts)(hl:aF f p i=aP f p i::aF f p (i+1):=by kernel_rfl):cw P n s0 all K σs (aF f p i) (t::ts):=C7 hl h h2
theorem bO(hl:aF f p i=[]:=by kernel_rfl):cw P n s0 all K σs (aF f p i) []:=DY hl
def bF(P:Program)(n:Nat)(f:Func)(p:List Nat)(i:Nat)(s:AS):AS:=match bc P n s (aP f p i) with|some s'=>s'|none=>s
def g6(f:Func)(p:List Nat):Bool:=match cat f p with|.region _ _ true=>true|_=>false
end
theorem yJ{P:Program}{n:Nat}{s0:AS}{all:Array Oper}{K:Nat}{σs:List AS}{l:List Oper}:cw P n s0 all K σs l []:=by cases l<;>trivial
theorem bL{cx:Cx}{Q:Exit→Act→World→Prop}{ks:List aj}{f:Func}{p:List Nat}{s0:AS}{tags:List Tag}(K:Nat)(rv:List (Nat×AV))(al:List (Nat×List AV))(rl:List (Nat×bf))(tl:List (AS→AS))
  (h3:cw cx.P cx.n s0 (cy f p) K (i8 s0 rv al rl tl) (aF f p 0) tags) (h:VE cx Q ks .normal (yn s0 rv al rl tl K))
  (hc:g6 f p=true:=by kernel_rfl) (hm:cx.P.follows .mixedOrders=true:=by kernel_rfl) (hs:kE (cy f p) tags K=true:=by kernel_rfl) (hl:fE tags K=true:=by kernel_rfl) (hkey:fx (aF f p 0) tags rv=true:=by kernel_rfl) (hfr:dD s0.u al=true:=by kernel_rfl) (hfr2:dD s0.u rl=true:=by kernel_rfl):VE cx Q (.c (cat f p)::ks) .normal s0:=by
 have e0:aF f p 0=(cy f p).toList:=by simp[aF]
 cases hcc:cat f p with
 | region id ops b =>
  cases b with
  | false=>unfold g6 at hc;rw[hcc]at hc;cases hc
  | true =>
   have ho:cy f p=ops:=by unfold cy;rw[hcc];rfl
   rw[e0]at h3 hkey;rw[ho]at h3 hkey hs;exact CE (id:=id) tags K rv al rl (sG (fg s0 rv al rl) tl) rfl hm hs hl hkey hfr hfr2 h3 h
 | _=>unfold g6 at hc;rw[hcc]at hc;cases hc
end Go.Proofs.Ytnpmlepplfaijaa
