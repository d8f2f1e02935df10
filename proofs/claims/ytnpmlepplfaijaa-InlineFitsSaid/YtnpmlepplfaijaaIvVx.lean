/- The rules in short form: states that need not be written out, premises that the kernel computes. No program in sight. -/
import Derived.Test.YtnpmlepplfaijaaIvVe
namespace Go.Proofs.Ytnpmlepplfaijaa
set_option linter.all false
open Go.RowKit
def keys{α:Type}:List (Nat×α)→List Nat
 | []=>[]
 | (k,_)::r=>k::keys r
def dz(P:Program)(n k:Nat)(ks:List ak)(e:Exit)(s:AS):AS:=match jB P n k ks e s with
 | some (_,_,s')=>s'
 | none=>s
def dx(P:Program)(n k:Nat)(ks:List ak)(e:Exit)(s:AS):Option (List ak×Exit):=match jB P n k ks e s with
 | some (ks',e',_)=>some (ks',e')
 | none=>none
def vt(s:AS)(ts os rs:List Nat):AS:=match s.pick ts os rs with|some s'=>s'|none=>s
def wg(s:AS)(ts os rs:List Nat):Bool:=match s.pick ts os rs with|some _=>true|none=>false
def kR(P:Program)(n:Nat)(all:Array Oper)(k:Nat)(l:List Oper)(s:AS):AS:=match gz P n all k l s with
 | some (_,s')=>s'
 | none=>s
def k9(P:Program)(n:Nat)(all:Array Oper)(k:Nat)(l:List Oper)(s:AS):Option (List Oper):=match gz P n all k l s with
 | some (l',_)=>some l'
 | none=>none
def rk(s:AS):List (AS→AS)→List AS
 | []=>[]
 | g::r=>g s::rk (g s) r
def zz(k:Nat)(b:Bool)(s:AS):AS:={ s with t:=aH k (.bool b) s.t }
def Cp(nid:Nat)(ar:bf)(s:AS):AS:={ s with r:=aH nid ar s.r,u:=nid::s.u }
def mY(s0:AS)(rv:List (Nat×AV))(al:List (Nat×List AV))(rl:List (Nat×bf))(tl:List (AS→AS)):List AS:=hH s0 rv al rl::rk (hH s0 rv al rl) tl
def vn(s0:AS)(rv:List (Nat×AV))(al:List (Nat×List AV))(rl:List (Nat×bf))(tl:List (AS→AS))(K:Nat):AS:=nth (mY s0 rv al rl tl) K
def se(f:Func)(p:List Nat):Bool:=match cat f p with|.region _ _ false=>true|_=>false
section
variable{cx:Cx}{Q:Exit→Act→World→Prop}{ks ks':List ak}{e e':Exit}{s s':AS}{f:Func}{p:List Nat}{all:Array Oper}{i:Nat}
theorem ac(k:Nat)(hk:VE cx Q ks' e' s')(h:o7 cx.P cx.n k (keys s'.t) (keys s'.o) (keys s'.r) ks e s=some (ks',e',s'):=by kernel_rfl):VE cx Q ks e s:=zg k _ _ _ h hk
theorem bt(k:Nat)(s':AS)(hk:VE cx Q ks' .normal s')(h:o7 cx.P cx.n k (keys s'.t) (keys s'.o) (keys s'.r) ks e s=some (ks',.normal,s'):=by kernel_rfl):VE cx Q ks e s:=zg k _ _ _ h hk
theorem b8(k:Nat)(hk:VE cx Q ks' .normal (dz cx.P cx.n k ks e s))(h:dx cx.P cx.n k ks e s=some (ks',.normal):=by kernel_rfl):VE cx Q ks e s:=by
 unfold dx at h;split at h
 ·rename_i k1 e1 s1 h1;simp only[Option.some.injEq,Prod.mk.injEq]at h;obtain⟨rfl,rfl⟩:=h;refine uX _ _ _ _ h1 ?_;unfold dz at hk;rw[h1]at hk;exact hk
 ·cases h
theorem aD(k:Nat)(hk:VE cx Q [] .ret (dz cx.P cx.n k ks e s))(h:dx cx.P cx.n k ks e s=some ([],.ret):=by kernel_rfl):VE cx Q ks e s:=by
 unfold dx at h;split at h
 ·rename_i k1 e1 s1 h1;simp only[Option.some.injEq,Prod.mk.injEq]at h;obtain⟨rfl,rfl⟩:=h;refine uX _ _ _ _ h1 ?_;unfold dz at hk;rw[h1]at hk;exact hk
 ·cases h
theorem bJ(ts os rs:List Nat)(hk:VE cx Q ks e (vt s ts os rs))(h:wg s ts os rs=true:=by kernel_rfl):VE cx Q ks e s:=by
 unfold wg at h;split at h
 ·rename_i s1 h1;unfold vt at hk;rw[h1]at hk;exact zT _ (wv h1) hk
 ·cases h
theorem ag(n:Nat)(hk:OT cx Q ks (cZ f p) (aI f p n) (kR cx.P cx.n (cZ f p) n (aI f p 0) s))(h:se f p=true:=by kernel_rfl)(h2:k9 cx.P cx.n (cZ f p) n (aI f p 0) s=some (aI f p n):=by kernel_rfl):VE cx Q (.c (cat f p)::ks) .normal s:=by
 have hl:aI f p 0=(cZ f p).toList:=by simp[aI]
 cases hc:cat f p with
 | region id ops b =>
  cases b with
  | true=>unfold se at h;rw[hc]at h;cases h
  | false =>
   have ho:cZ f p=ops:=by unfold cZ;rw[hc];rfl
   unfold k9 at h2;split at h2
   ·rename_i l1 s1 h1;injection h2 with h2;subst h2
    unfold kR at hk;rw[h1]at hk;rw[hl,ho]at h1;rw[ho]at hk;exact AZ (nB _ _ _ h1 hk)
   ·cases h2
 | _=>unfold se at h;rw[hc]at h;cases h
theorem aE(j k:Nat)(hk:OT cx Q ks all (aI f p j) (kR cx.P cx.n all k (aI f p i) s))(h2:k9 cx.P cx.n all k (aI f p i) s=some (aI f p j):=by kernel_rfl):OT cx Q ks all (aI f p i) s:=by
 unfold k9 at h2;split at h2
 ·rename_i l1 s1 h1;injection h2 with h2;subst h2
  unfold kR at hk;rw[h1]at hk;exact nB _ _ _ h1 hk
 ·cases h2
theorem ab(hk:VE cx Q ks .normal (kR cx.P cx.n all 10000 (aI f p i) s))(h2:k9 cx.P cx.n all 10000 (aI f p i) s=some []:=by kernel_rfl):OT cx Q ks all (aI f p i) s:=by
 unfold k9 at h2;split at h2
 ·rename_i l1 s1 h1;injection h2 with h2;subst h2
  unfold kR at hk;rw[h1]at hk;exact nB _ _ _ h1 (yd hk)
 ·cases h2
theorem ax(h:bc cx.P cx.n s (aR f p i)=some s')(k:OT cx Q ks all (aI f p (i+1)) s')(hl:aI f p i=aR f p i::aI f p (i+1):=by kernel_rfl)(hg:bK all s (aR f p i)=true:=by kernel_rfl):OT cx Q ks all (aI f p i) s:=H3 _ hl (HP hg h) k
theorem ae(k:Nat){b b':Bool}(he:b=b')(h:VE cx Q ks e (zz k b' s))(hv:look k s.t=some (.bool b):=by kernel_rfl):VE cx Q ks e s:=Es k he hv h
theorem au{l:List Oper}(k:Nat){b b':Bool}(he:b=b')(h:OT cx Q ks all l (zz k b' s))(hv:look k s.t=some (.bool b):=by kernel_rfl):OT cx Q ks all l s:=HJ k he hv h
theorem aG{g:FuncId}{args:List AV}{V:AV}(hc:aN cx.P g args (fun v _=>v=V))(k:OT cx Q ks all (aI f p (i+1)) (s.put (aR f p i).dst V))(hl:aI f p i=aR f p i::aI f p (i+1):=by kernel_rfl)(hg:bK all s (aR f p i)=true:=by kernel_rfl)(hcl:bZ cx.P g=true:=by kernel_rfl)
  (h1:dr s (aR f p i)=some (g,args):=by kernel_rfl) (hv:(cb cx.n (aR f p i).dst&&V.bU [])=true:=by kernel_rfl):OT cx Q ks all (aI f p i) s:=zw _ hl hg hc hcl h1 hv k
theorem jR{g:FuncId}{args:List AV}{V:AV}(hc:bZ cx.P g=true∧aN cx.P g args (fun v _=>v=V))(k:OT cx Q ks all (aI f p (i+1)) (s.put (aR f p i).dst V))(hl:aI f p i=aR f p i::aI f p (i+1):=by kernel_rfl)(hg:bK all s (aR f p i)=true:=by kernel_rfl)
  (h1:dr s (aR f p i)=some (g,args):=by kernel_rfl) (hv:(cb cx.n (aR f p i).dst&&V.bU [])=true:=by kernel_rfl):OT cx Q ks all (aI f p i) s:=zw _ hl hg hc.2 hc.1 h1 hv k
theorem eh(nid:Nat){id:Nat}{g:FuncId}{args:List AV}{V:AV}{ar:bf}(hc:aN cx.P g args (fun v s1=>v=V∧look id s1.r=some ar))(hone:∀(N:Nat→Prop) w ι x,Rel N w ι V x→∃y,ι id=some y)
  (k:OT cx Q ks all (aI f p (i+1)) ((Cp nid ar s).put (aR f p i).dst (V.c8 id nid))) (hl:aI f p i=aR f p i::aI f p (i+1):=by kernel_rfl) (hg:bK all s (aR f p i)=true:=by kernel_rfl) (hcl:bZ cx.P g=true:=by kernel_rfl)
  (h1:dr s (aR f p i)=some (g,args):=by kernel_rfl) (hd:cb cx.n (aR f p i).dst=true:=by kernel_rfl) (hid:V.bU []=false:=by kernel_rfl) (hn:has s.u nid=false:=by kernel_rfl) (htg:Nat.ble (id+1) TG=true:=by kernel_rfl):OT cx Q ks all (aI f p i) s:=HB _ id nid hl hg hc hcl hone h1 hd hid hn rfl k htg
theorem cf{f:Func}{p q:List Nat}(m:Nat)(h:LP cx Q ks (cat f q) m s)(hc:cat f p=.loop (cat f q):=by kernel_rfl):VE cx Q (.c (cat f p)::ks) .normal s:=mD m hc h
def pT(P:Program)(n:Nat)(all:Array Oper)(σs:List AS)(o:Oper):Nat→Nat→List (Bool×Option AS)
 | _,0=>[]
 | lo,k+1=>(bK all (nth σs lo) o,bc P n (nth σs lo) o)::pT P n all σs o (lo+1) k
def oL(σs:List AS):Nat→Nat→List (Bool×Option AS)
 | _,0=>[]
 | lo,k+1=>(true,some (nth σs lo))::oL σs (lo+1) k
def kN(P:Program)(n:Nat)(all:Array Oper)(σs:List AS):List Oper→List Tag→List (List (Bool×Option AS))
 | o::r,.v lo k::ts=>pT P n all σs o lo k::kN P n all σs r ts
 | _,_=>[]
def jA(σs:List AS):List Tag→List (List (Bool×Option AS))
 | []=>[]
 | .v lo k::ts=>oL σs lo k::jA σs ts
 | _::ts=>[]::jA σs ts
end
section
variable{P:Program}{n:Nat}{s0:AS}{all:Array Oper}{K:Nat}{σs:List AS}{f:Func}{p:List Nat}{i:Nat}
theorem xT{o:Oper}:∀{k lo:Nat},pT P n all σs o lo k=oL σs lo k→cy lo k fun j=>bK all (nth σs j) o=true∧bc P n (nth σs j) o=some (nth σs j)
 | 0,_,_=>trivial
 | k+1,lo,h=>by
  simp only[pT,oL,List.cons.injEq,Prod.mk.injEq]at h;exact⟨h.1,xT h.2⟩
theorem AE:∀{ts:List Tag} {l:List Oper} {us:List Tag},kN P n all σs l ts=jA σs ts→c7 P n s0 all K σs (l.drop ts.length) us→c7 P n s0 all K σs l (ts++us)
 | [],l,us,_,h=>by simpa using h
 | t::ts,[],us,h,_=>by cases t<;>simp[kN,jA]at h
 | t::ts,o::r,us,h,h2=>by
  cases t with
  | v lo k =>
   simp only[kN,jA,List.cons.injEq]at h;exact⟨im (xT h.1),AE h.2 (by simpa using h2)⟩
  | _=>simp[kN,jA]at h
theorem aL(ts:List Tag){us:List Tag}(h2:c7 P n s0 all K σs (aI f p (i+ts.length)) us)(h:kN P n all σs (aI f p i) ts=jA σs ts:=by kernel_rfl):c7 P n s0 all K σs (aI f p i) (ts++us):=by
 refine AE h ?_;have:(aI f p i).drop ts.length=aI f p (i+ts.length):=by simp[aI,List.drop_drop,Nat.add_comm]
 rw[this];exact h2
theorem am{t:Tag}{ts:List Tag}(h:da P n s0 all K σs (aR f p i) t)(h2:c7 P n s0 all K σs (aI f p (i+1)) ts)(hl:aI f p i=aR f p i::aI f p (i+1):=by kernel_rfl):c7 P n s0 all K σs (aI f p i) (t::ts):=Br hl h h2
theorem bV(hl:aI f p i=[]:=by kernel_rfl):c7 P n s0 all K σs (aI f p i) []:=Bt hl
def bN(P:Program)(n:Nat)(f:Func)(p:List Nat)(i:Nat)(s:AS):AS:=match bc P n s (aR f p i) with|some s'=>s'|none=>s
def jW(f:Func)(p:List Nat):Bool:=match cat f p with|.region _ _ true=>true|_=>false
end
theorem FI{P:Program}{n:Nat}{s0:AS}{all:Array Oper}{K:Nat}{σs:List AS}{l:List Oper}:c7 P n s0 all K σs l []:=by cases l<;>trivial
theorem bT{cx:Cx}{Q:Exit→Act→World→Prop}{ks:List ak}{f:Func}{p:List Nat}{s0:AS}{tags:List Tag}(K:Nat)(rv:List (Nat×AV))(al:List (Nat×List AV))(rl:List (Nat×bf))(tl:List (AS→AS))
  (h3:c7 cx.P cx.n s0 (cZ f p) K (mY s0 rv al rl tl) (aI f p 0) tags) (h:VE cx Q ks .normal (vn s0 rv al rl tl K))
  (hc:jW f p=true:=by kernel_rfl) (hm:cx.P.follows .mixedOrders=true:=by kernel_rfl) (hs:nr (cZ f p) tags K=true:=by kernel_rfl) (hl:hF tags K=true:=by kernel_rfl) (hkey:gY (aI f p 0) tags rv=true:=by kernel_rfl) (hfr:ep s0.u al=true:=by kernel_rfl) (hfr2:ep s0.u rl=true:=by kernel_rfl):VE cx Q (.c (cat f p)::ks) .normal s0:=by
 have e0:aI f p 0=(cZ f p).toList:=by simp[aI]
 cases hcc:cat f p with
 | region id ops b =>
  cases b with
  | false=>unfold jW at hc;rw[hcc]at hc;cases hc
  | true =>
   have ho:cZ f p=ops:=by unfold cZ;rw[hcc];rfl
   rw[e0]at h3 hkey;rw[ho]at h3 hkey hs;exact Eb (id:=id) tags K rv al rl (rk (hH s0 rv al rl) tl) rfl hm hs hl hkey hfr hfr2 h3 h
 | _=>unfold jW at hc;rw[hcc]at hc;cases hc
end Go.Proofs.Ytnpmlepplfaijaa
