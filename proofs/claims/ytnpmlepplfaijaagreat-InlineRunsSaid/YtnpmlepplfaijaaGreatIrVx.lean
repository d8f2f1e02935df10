/- The rules in short form: states that need not be written out, premises that the kernel computes. No program in sight. -/
import Derived.Test.YtnpmlepplfaijaaGreatIrVe
namespace Go.Proofs.YtnpmlepplfaijaaGreat
set_option linter.all false
open Go.RowKit
def keys{α:Type}:List (Nat×α)→List Nat
 | []=>[]
 | (k,_)::r=>k::keys r
def d8(P:Program)(n k:Nat)(ks:List av)(e:Exit)(s:AS):AS:=match om P n k ks e s with
 | some (_,_,s')=>s'
 | none=>s
def dX(P:Program)(n k:Nat)(ks:List av)(e:Exit)(s:AS):Option (List av×Exit):=match om P n k ks e s with
 | some (ks',e',_)=>some (ks',e')
 | none=>none
def Dr(s:AS)(ts os rs:List Nat):AS:=match s.pick ts os rs with|some s'=>s'|none=>s
def DY(s:AS)(ts os rs:List Nat):Bool:=match s.pick ts os rs with|some _=>true|none=>false
def pQ(P:Program)(n:Nat)(all:Array Oper)(k:Nat)(l:List Oper)(s:AS):AS:=match kQ P n all k l s with
 | some (_,s')=>s'
 | none=>s
def pG(P:Program)(n:Nat)(all:Array Oper)(k:Nat)(l:List Oper)(s:AS):Option (List Oper):=match kQ P n all k l s with
 | some (l',_)=>some l'
 | none=>none
def xU(s:AS):List (AS→AS)→List AS
 | []=>[]
 | g::r=>g s::xU (g s) r
def DV(k:Nat)(b:Bool)(s:AS):AS:={ s with t:=aR k (.bool b) s.t }
def Pu(nid:Nat)(ar:bj)(s:AS):AS:={ s with r:=aR nid ar s.r,u:=nid::s.u }
def lE(s0:AS)(rv:List (Nat×AV))(al:List (Nat×List AV))(rl:List (Nat×bj))(tl:List (AS→AS)):List AS:=le s0 rv al rl::xU (le s0 rv al rl) tl
def Bv(s0:AS)(rv:List (Nat×AV))(al:List (Nat×List AV))(rl:List (Nat×bj))(tl:List (AS→AS))(K:Nat):AS:=nth (lE s0 rv al rl tl) K
def yW(f:Func)(p:List Nat):Bool:=match cat f p with|.region _ _ false=>true|_=>false
section
variable{cx:Cx}{Q:Exit→Act→World→Prop}{ks ks':List av}{e e':Exit}{s s':AS}{f:Func}{p:List Nat}{all:Array Oper}{i:Nat}
theorem ag(k:Nat)(hk:VE cx Q ks' e' s')(h:wA cx.P cx.n k (keys s'.t) (keys s'.o) (keys s'.r) ks e s=some (ks',e',s'):=by kernel_rfl):VE cx Q ks e s:=FJ k _ _ _ h hk
theorem bB(k:Nat)(s':AS)(hk:VE cx Q ks' .normal s')(h:wA cx.P cx.n k (keys s'.t) (keys s'.o) (keys s'.r) ks e s=some (ks',.normal,s'):=by kernel_rfl):VE cx Q ks e s:=FJ k _ _ _ h hk
theorem cr(k:Nat)(hk:VE cx Q ks' .normal (d8 cx.P cx.n k ks e s))(h:dX cx.P cx.n k ks e s=some (ks',.normal):=by kernel_rfl):VE cx Q ks e s:=by
 unfold dX at h;split at h
 ·rename_i k1 e1 s1 h1;simp only[Option.some.injEq,Prod.mk.injEq]at h;obtain⟨rfl,rfl⟩:=h;refine yN _ _ _ _ h1 ?_;unfold d8 at hk;rw[h1]at hk;exact hk
 ·cases h
theorem aG(k:Nat)(hk:VE cx Q [] .ret (d8 cx.P cx.n k ks e s))(h:dX cx.P cx.n k ks e s=some ([],.ret):=by kernel_rfl):VE cx Q ks e s:=by
 unfold dX at h;split at h
 ·rename_i k1 e1 s1 h1;simp only[Option.some.injEq,Prod.mk.injEq]at h;obtain⟨rfl,rfl⟩:=h;refine yN _ _ _ _ h1 ?_;unfold d8 at hk;rw[h1]at hk;exact hk
 ·cases h
theorem bJ(ts os rs:List Nat)(hk:VE cx Q ks e (Dr s ts os rs))(h:DY s ts os rs=true:=by kernel_rfl):VE cx Q ks e s:=by
 unfold DY at h;split at h
 ·rename_i s1 h1;unfold Dr at hk;rw[h1]at hk;exact Gf _ (Ch h1) hk
 ·cases h
theorem ak(n:Nat)(hk:OT cx Q ks (cW f p) (aW f p n) (pQ cx.P cx.n (cW f p) n (aW f p 0) s))(h:yW f p=true:=by kernel_rfl)(h2:pG cx.P cx.n (cW f p) n (aW f p 0) s=some (aW f p n):=by kernel_rfl):VE cx Q (.c (cat f p)::ks) .normal s:=by
 have hl:aW f p 0=(cW f p).toList:=by simp[aW]
 cases hc:cat f p with
 | region id ops b =>
  cases b with
  | true=>unfold yW at h;rw[hc]at h;cases h
  | false =>
   have ho:cW f p=ops:=by unfold cW;rw[hc];rfl
   unfold pG at h2;split at h2
   ·rename_i l1 s1 h1;injection h2 with h2;subst h2
    unfold pQ at hk;rw[h1]at hk;rw[hl,ho]at h1;rw[ho]at hk;exact GL (tU _ _ _ h1 hk)
   ·cases h2
 | _=>unfold yW at h;rw[hc]at h;cases h
theorem aL(j k:Nat)(hk:OT cx Q ks all (aW f p j) (pQ cx.P cx.n all k (aW f p i) s))(h2:pG cx.P cx.n all k (aW f p i) s=some (aW f p j):=by kernel_rfl):OT cx Q ks all (aW f p i) s:=by
 unfold pG at h2;split at h2
 ·rename_i l1 s1 h1;injection h2 with h2;subst h2
  unfold pQ at hk;rw[h1]at hk;exact tU _ _ _ h1 hk
 ·cases h2
theorem ac(hk:VE cx Q ks .normal (pQ cx.P cx.n all 10000 (aW f p i) s))(h2:pG cx.P cx.n all 10000 (aW f p i) s=some []:=by kernel_rfl):OT cx Q ks all (aW f p i) s:=by
 unfold pG at h2;split at h2
 ·rename_i l1 s1 h1;injection h2 with h2;subst h2
  unfold pQ at hk;rw[h1]at hk;exact tU _ _ _ h1 (Hp hk)
 ·cases h2
theorem aA(h:bn cx.P cx.n s (bh f p i)=some s')(k:OT cx Q ks all (aW f p (i+1)) s')(hl:aW f p i=bh f p i::aW f p (i+1):=by kernel_rfl)(hg:cc all s (bh f p i)=true:=by kernel_rfl):OT cx Q ks all (aW f p i) s:=JE _ hl (Ny hg h) k
theorem ai(k:Nat){b b':Bool}(he:b=b')(h:VE cx Q ks e (DV k b' s))(hv:look k s.t=some (.bool b):=by kernel_rfl):VE cx Q ks e s:=MX k he hv h
theorem ay{l:List Oper}(k:Nat){b b':Bool}(he:b=b')(h:OT cx Q ks all l (DV k b' s))(hv:look k s.t=some (.bool b):=by kernel_rfl):OT cx Q ks all l s:=Wf k he hv h
theorem aB{g:FuncId}{args:List AV}{V:AV}(hc:aN cx.P g args (fun v _=>v=V))(k:OT cx Q ks all (aW f p (i+1)) (s.put (bh f p i).dst V))(hl:aW f p i=bh f p i::aW f p (i+1):=by kernel_rfl)(hg:cc all s (bh f p i)=true:=by kernel_rfl)(hcl:cB cx.P g=true:=by kernel_rfl)
  (h1:eJ s (bh f p i)=some (g,args):=by kernel_rfl) (hv:(ct cx.n (bh f p i).dst&&V.cu [])=true:=by kernel_rfl):OT cx Q ks all (aW f p i) s:=Ha _ hl hg hc hcl h1 hv k
theorem pc{g:FuncId}{args:List AV}{V:AV}(hc:cB cx.P g=true∧aN cx.P g args (fun v _=>v=V))(k:OT cx Q ks all (aW f p (i+1)) (s.put (bh f p i).dst V))(hl:aW f p i=bh f p i::aW f p (i+1):=by kernel_rfl)(hg:cc all s (bh f p i)=true:=by kernel_rfl)
  (h1:eJ s (bh f p i)=some (g,args):=by kernel_rfl) (hv:(ct cx.n (bh f p i).dst&&V.cu [])=true:=by kernel_rfl):OT cx Q ks all (aW f p i) s:=Ha _ hl hg hc.2 hc.1 h1 hv k
theorem dE(nid:Nat){id:Nat}{g:FuncId}{args:List AV}{V:AV}{ar:bj}(hc:aN cx.P g args (fun v s1=>v=V∧look id s1.r=some ar))(hone:∀(N:Nat→Prop) w ι x,Rel N w ι V x→∃y,ι id=some y)
  (k:OT cx Q ks all (aW f p (i+1)) ((Pu nid ar s).put (bh f p i).dst (V.d7 id nid))) (hl:aW f p i=bh f p i::aW f p (i+1):=by kernel_rfl) (hg:cc all s (bh f p i)=true:=by kernel_rfl) (hcl:cB cx.P g=true:=by kernel_rfl)
  (h1:eJ s (bh f p i)=some (g,args):=by kernel_rfl) (hd:ct cx.n (bh f p i).dst=true:=by kernel_rfl) (hid:V.cu []=false:=by kernel_rfl) (hn:has s.u nid=false:=by kernel_rfl) (htg:Nat.ble (id+1) TG=true:=by kernel_rfl):OT cx Q ks all (aW f p i) s:=RG _ id nid hl hg hc hcl hone h1 hd hid hn rfl k htg
theorem cm{f:Func}{p q:List Nat}(m:Nat)(h:LP cx Q ks (cat f q) m s)(hc:cat f p=.loop (cat f q):=by kernel_rfl):VE cx Q (.c (cat f p)::ks) .normal s:=nR m hc h
def un(P:Program)(n:Nat)(all:Array Oper)(σs:List AS)(o:Oper):Nat→Nat→List (Bool×Option AS)
 | _,0=>[]
 | lo,k+1=>(cc all (nth σs lo) o,bn P n (nth σs lo) o)::un P n all σs o (lo+1) k
def wo(σs:List AS):Nat→Nat→List (Bool×Option AS)
 | _,0=>[]
 | lo,k+1=>(true,some (nth σs lo))::wo σs (lo+1) k
def pq(P:Program)(n:Nat)(all:Array Oper)(σs:List AS):List Oper→List Tag→List (List (Bool×Option AS))
 | o::r,.v lo k::ts=>un P n all σs o lo k::pq P n all σs r ts
 | _,_=>[]
def nA(σs:List AS):List Tag→List (List (Bool×Option AS))
 | []=>[]
 | .v lo k::ts=>wo σs lo k::nA σs ts
 | _::ts=>[]::nA σs ts
end
section
variable{P:Program}{n:Nat}{s0:AS}{all:Array Oper}{K:Nat}{σs:List AS}{f:Func}{p:List Nat}{i:Nat}
theorem FA{o:Oper}:∀{k lo:Nat},un P n all σs o lo k=wo σs lo k→dd lo k fun j=>cc all (nth σs j) o=true∧bn P n (nth σs j) o=some (nth σs j)
 | 0,_,_=>trivial
 | k+1,lo,h=>by
  simp only[un,wo,List.cons.injEq,Prod.mk.injEq]at h;exact⟨h.1,FA h.2⟩
theorem EL:∀{ts:List Tag} {l:List Oper} {us:List Tag},pq P n all σs l ts=nA σs ts→dK P n s0 all K σs (l.drop ts.length) us→dK P n s0 all K σs l (ts++us)
 | [],l,us,_,h=>by simpa using h
 | t::ts,[],us,h,_=>by cases t<;>simp[pq,nA]at h
 | t::ts,o::r,us,h,h2=>by
  cases t with
  | v lo k =>
   simp only[pq,nA,List.cons.injEq]at h;exact⟨hI (FA h.1),EL h.2 (by simpa using h2)⟩
  | _=>simp[pq,nA]at h
theorem ao(ts:List Tag){us:List Tag}(h2:dK P n s0 all K σs (aW f p (i+ts.length)) us)(h:pq P n all σs (aW f p i) ts=nA σs ts:=by kernel_rfl):dK P n s0 all K σs (aW f p i) (ts++us):=by
 refine EL h ?_;have:(aW f p i).drop ts.length=aW f p (i+ts.length):=by simp[aW,List.drop_drop,Nat.add_comm]
 rw[this];exact h2
theorem aa{t:Tag}{ts:List Tag}(h:dM P n s0 all K σs (bh f p i) t)(h2:dK P n s0 all K σs (aW f p (i+1)) ts)(hl:aW f p i=bh f p i::aW f p (i+1):=by kernel_rfl):dK P n s0 all K σs (aW f p i) (t::ts):=O4 hl h h2
theorem bE(hl:aW f p i=[]:=by kernel_rfl):dK P n s0 all K σs (aW f p i) []:=SU hl
def bT(P:Program)(n:Nat)(f:Func)(p:List Nat)(i:Nat)(s:AS):AS:=match bn P n s (bh f p i) with|some s'=>s'|none=>s
def kF(f:Func)(p:List Nat):Bool:=match cat f p with|.region _ _ true=>true|_=>false
end
theorem xL{P:Program}{n:Nat}{s0:AS}{all:Array Oper}{K:Nat}{σs:List AS}{l:List Oper}:dK P n s0 all K σs l []:=by cases l<;>trivial
theorem bD{cx:Cx}{Q:Exit→Act→World→Prop}{ks:List av}{f:Func}{p:List Nat}{s0:AS}{tags:List Tag}(K:Nat)(rv:List (Nat×AV))(al:List (Nat×List AV))(rl:List (Nat×bj))(tl:List (AS→AS))
  (h3:dK cx.P cx.n s0 (cW f p) K (lE s0 rv al rl tl) (aW f p 0) tags) (h:VE cx Q ks .normal (Bv s0 rv al rl tl K))
  (hc:kF f p=true:=by kernel_rfl) (hm:cx.P.follows .mixedOrders=true:=by kernel_rfl) (hs:tF (cW f p) tags K=true:=by kernel_rfl) (hl:jT tags K=true:=by kernel_rfl) (hkey:jK (aW f p 0) tags rv=true:=by kernel_rfl) (hfr:fr s0.u al=true:=by kernel_rfl) (hfr2:fr s0.u rl=true:=by kernel_rfl):VE cx Q (.c (cat f p)::ks) .normal s0:=by
 have e0:aW f p 0=(cW f p).toList:=by simp[aW]
 cases hcc:cat f p with
 | region id ops b =>
  cases b with
  | false=>unfold kF at hc;rw[hcc]at hc;cases hc
  | true =>
   have ho:cW f p=ops:=by unfold cW;rw[hcc];rfl
   rw[e0]at h3 hkey;rw[ho]at h3 hkey hs;exact Tx (id:=id) tags K rv al rl (xU (le s0 rv al rl) tl) rfl hm hs hl hkey hfr hfr2 h3 h
 | _=>unfold kF at hc;rw[hcc]at hc;cases hc
end Go.Proofs.YtnpmlepplfaijaaGreat
