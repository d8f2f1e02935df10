/- The rules in short form: states that need not be written out, premises that the kernel computes. No program in sight. -/
import Derived.Test.YtnpmlepplfaijaaItVe
namespace Go.Proofs.Ytnpmlepplfaijaa
set_option linter.all false
open Go.RowKit
def keys{α:Type}:List (Nat×α)→List Nat
 | []=>[]
 | (k,_)::r=>k::keys r
def dv(P:Program)(n k:Nat)(ks:List am)(e:Exit)(s:AS):AS:=match jZ P n k ks e s with
 | some (_,_,s')=>s'
 | none=>s
def dz(P:Program)(n k:Nat)(ks:List am)(e:Exit)(s:AS):Option (List am×Exit):=match jZ P n k ks e s with
 | some (ks',e',_)=>some (ks',e')
 | none=>none
def Ao(s:AS)(ts os rs:List Nat):AS:=match s.pick ts os rs with|some s'=>s'|none=>s
def zr(s:AS)(ts os rs:List Nat):Bool:=match s.pick ts os rs with|some _=>true|none=>false
def mW(P:Program)(n:Nat)(all:Array Oper)(k:Nat)(l:List Oper)(s:AS):AS:=match iM P n all k l s with
 | some (_,s')=>s'
 | none=>s
def lL(P:Program)(n:Nat)(all:Array Oper)(k:Nat)(l:List Oper)(s:AS):Option (List Oper):=match iM P n all k l s with
 | some (l',_)=>some l'
 | none=>none
def tC(s:AS):List (AS→AS)→List AS
 | []=>[]
 | g::r=>g s::tC (g s) r
def Dl(k:Nat)(b:Bool)(s:AS):AS:={ s with t:=aJ k (.bool b) s.t }
def HQ(nid:Nat)(ar:bf)(s:AS):AS:={ s with r:=aJ nid ar s.r,u:=nid::s.u }
def pM(s0:AS)(rv:List (Nat×AV))(al:List (Nat×List AV))(rl:List (Nat×bf))(tl:List (AS→AS)):List AS:=ia s0 rv al rl::tC (ia s0 rv al rl) tl
def BV(s0:AS)(rv:List (Nat×AV))(al:List (Nat×List AV))(rl:List (Nat×bf))(tl:List (AS→AS))(K:Nat):AS:=nth (pM s0 rv al rl tl) K
def wo(f:Func)(p:List Nat):Bool:=match cat f p with|.region _ _ false=>true|_=>false
section
variable{cx:Cx}{Q:Exit→Act→World→Prop}{ks ks':List am}{e e':Exit}{s s':AS}{f:Func}{p:List Nat}{all:Array Oper}{i:Nat}
theorem ac(k:Nat)(hk:VE cx Q ks' e' s')(h:qC cx.P cx.n k (keys s'.t) (keys s'.o) (keys s'.r) ks e s=some (ks',e',s'):=by kernel_rfl):VE cx Q ks e s:=Af k _ _ _ h hk
theorem bC(k:Nat)(s':AS)(hk:VE cx Q ks' .normal s')(h:qC cx.P cx.n k (keys s'.t) (keys s'.o) (keys s'.r) ks e s=some (ks',.normal,s'):=by kernel_rfl):VE cx Q ks e s:=Af k _ _ _ h hk
theorem b9(k:Nat)(hk:VE cx Q ks' .normal (dv cx.P cx.n k ks e s))(h:dz cx.P cx.n k ks e s=some (ks',.normal):=by kernel_rfl):VE cx Q ks e s:=by
 unfold dz at h;split at h
 ·rename_i k1 e1 s1 h1;simp only[Option.some.injEq,Prod.mk.injEq]at h;obtain⟨rfl,rfl⟩:=h;refine vc _ _ _ _ h1 ?_;unfold dv at hk;rw[h1]at hk;exact hk
 ·cases h
theorem aD(k:Nat)(hk:VE cx Q [] .ret (dv cx.P cx.n k ks e s))(h:dz cx.P cx.n k ks e s=some ([],.ret):=by kernel_rfl):VE cx Q ks e s:=by
 unfold dz at h;split at h
 ·rename_i k1 e1 s1 h1;simp only[Option.some.injEq,Prod.mk.injEq]at h;obtain⟨rfl,rfl⟩:=h;refine vc _ _ _ _ h1 ?_;unfold dv at hk;rw[h1]at hk;exact hk
 ·cases h
theorem bS(ts os rs:List Nat)(hk:VE cx Q ks e (Ao s ts os rs))(h:zr s ts os rs=true:=by kernel_rfl):VE cx Q ks e s:=by
 unfold zr at h;split at h
 ·rename_i s1 h1;unfold Ao at hk;rw[h1]at hk;exact Bq _ (Ce h1) hk
 ·cases h
theorem ah(n:Nat)(hk:OT cx Q ks (dh f p) (aK f p n) (mW cx.P cx.n (dh f p) n (aK f p 0) s))(h:wo f p=true:=by kernel_rfl)(h2:lL cx.P cx.n (dh f p) n (aK f p 0) s=some (aK f p n):=by kernel_rfl):VE cx Q (.c (cat f p)::ks) .normal s:=by
 have hl:aK f p 0=(dh f p).toList:=by simp[aK]
 cases hc:cat f p with
 | region id ops b =>
  cases b with
  | true=>unfold wo at h;rw[hc]at h;cases h
  | false =>
   have ho:dh f p=ops:=by unfold dh;rw[hc];rfl
   unfold lL at h2;split at h2
   ·rename_i l1 s1 h1;injection h2 with h2;subst h2
    unfold mW at hk;rw[h1]at hk;rw[hl,ho]at h1;rw[ho]at hk;exact zk (mX _ _ _ h1 hk)
   ·cases h2
 | _=>unfold wo at h;rw[hc]at h;cases h
theorem aL(j k:Nat)(hk:OT cx Q ks all (aK f p j) (mW cx.P cx.n all k (aK f p i) s))(h2:lL cx.P cx.n all k (aK f p i) s=some (aK f p j):=by kernel_rfl):OT cx Q ks all (aK f p i) s:=by
 unfold lL at h2;split at h2
 ·rename_i l1 s1 h1;injection h2 with h2;subst h2
  unfold mW at hk;rw[h1]at hk;exact mX _ _ _ h1 hk
 ·cases h2
theorem ab(hk:VE cx Q ks .normal (mW cx.P cx.n all 10000 (aK f p i) s))(h2:lL cx.P cx.n all 10000 (aK f p i) s=some []:=by kernel_rfl):OT cx Q ks all (aK f p i) s:=by
 unfold lL at h2;split at h2
 ·rename_i l1 s1 h1;injection h2 with h2;subst h2
  unfold mW at hk;rw[h1]at hk;exact mX _ _ _ h1 (BM hk)
 ·cases h2
theorem ax(h:ba cx.P cx.n s (aR f p i)=some s')(k:OT cx Q ks all (aK f p (i+1)) s')(hl:aK f p i=aR f p i::aK f p (i+1):=by kernel_rfl)(hg:bP all s (aR f p i)=true:=by kernel_rfl):OT cx Q ks all (aK f p i) s:=DY _ hl (Ho hg h) k
theorem ae(k:Nat){b b':Bool}(he:b=b')(h:VE cx Q ks e (Dl k b' s))(hv:look k s.t=some (.bool b):=by kernel_rfl):VE cx Q ks e s:=IB k he hv h
theorem au{l:List Oper}(k:Nat){b b':Bool}(he:b=b')(h:OT cx Q ks all l (Dl k b' s))(hv:look k s.t=some (.bool b):=by kernel_rfl):OT cx Q ks all l s:=Fm k he hv h
theorem aE{g:FuncId}{args:List AV}{V:AV}(hc:aH cx.P g args (fun v _=>v=V))(k:OT cx Q ks all (aK f p (i+1)) (s.put (aR f p i).dst V))(hl:aK f p i=aR f p i::aK f p (i+1):=by kernel_rfl)(hg:bP all s (aR f p i)=true:=by kernel_rfl)(hcl:cj cx.P g=true:=by kernel_rfl)
  (h1:dJ s (aR f p i)=some (g,args):=by kernel_rfl) (hv:(cc cx.n (aR f p i).dst&&V.cb [])=true:=by kernel_rfl):OT cx Q ks all (aK f p i) s:=yA _ hl hg hc hcl h1 hv k
theorem kJ{g:FuncId}{args:List AV}{V:AV}(hc:cj cx.P g=true∧aH cx.P g args (fun v _=>v=V))(k:OT cx Q ks all (aK f p (i+1)) (s.put (aR f p i).dst V))(hl:aK f p i=aR f p i::aK f p (i+1):=by kernel_rfl)(hg:bP all s (aR f p i)=true:=by kernel_rfl)
  (h1:dJ s (aR f p i)=some (g,args):=by kernel_rfl) (hv:(cc cx.n (aR f p i).dst&&V.cb [])=true:=by kernel_rfl):OT cx Q ks all (aK f p i) s:=yA _ hl hg hc.2 hc.1 h1 hv k
theorem fb(nid:Nat){id:Nat}{g:FuncId}{args:List AV}{V:AV}{ar:bf}(hc:aH cx.P g args (fun v s1=>v=V∧look id s1.r=some ar))(hone:∀(N:Nat→Prop) w ι x,Rel N w ι V x→∃y,ι id=some y)
  (k:OT cx Q ks all (aK f p (i+1)) ((HQ nid ar s).put (aR f p i).dst (V.dk id nid))) (hl:aK f p i=aR f p i::aK f p (i+1):=by kernel_rfl) (hg:bP all s (aR f p i)=true:=by kernel_rfl) (hcl:cj cx.P g=true:=by kernel_rfl)
  (h1:dJ s (aR f p i)=some (g,args):=by kernel_rfl) (hd:cc cx.n (aR f p i).dst=true:=by kernel_rfl) (hid:V.cb []=false:=by kernel_rfl) (hn:has s.u nid=false:=by kernel_rfl) (htg:Nat.ble (id+1) TG=true:=by kernel_rfl):OT cx Q ks all (aK f p i) s:=Dv _ id nid hl hg hc hcl hone h1 hd hid hn rfl k htg
theorem cp{f:Func}{p q:List Nat}(m:Nat)(h:LP cx Q ks (cat f q) m s)(hc:cat f p=.loop (cat f q):=by kernel_rfl):VE cx Q (.c (cat f p)::ks) .normal s:=oK m hc h
def rc(P:Program)(n:Nat)(all:Array Oper)(σs:List AS)(o:Oper):Nat→Nat→List (Bool×Option AS)
 | _,0=>[]
 | lo,k+1=>(bP all (nth σs lo) o,ba P n (nth σs lo) o)::rc P n all σs o (lo+1) k
def rX(σs:List AS):Nat→Nat→List (Bool×Option AS)
 | _,0=>[]
 | lo,k+1=>(true,some (nth σs lo))::rX σs (lo+1) k
def l4(P:Program)(n:Nat)(all:Array Oper)(σs:List AS):List Oper→List Tag→List (List (Bool×Option AS))
 | o::r,.v lo k::ts=>rc P n all σs o lo k::l4 P n all σs r ts
 | _,_=>[]
def jB(σs:List AS):List Tag→List (List (Bool×Option AS))
 | []=>[]
 | .v lo k::ts=>rX σs lo k::jB σs ts
 | _::ts=>[]::jB σs ts
end
section
variable{P:Program}{n:Nat}{s0:AS}{all:Array Oper}{K:Nat}{σs:List AS}{f:Func}{p:List Nat}{i:Nat}
theorem zp{o:Oper}:∀{k lo:Nat},rc P n all σs o lo k=rX σs lo k→cC lo k fun j=>bP all (nth σs j) o=true∧ba P n (nth σs j) o=some (nth σs j)
 | 0,_,_=>trivial
 | k+1,lo,h=>by
  simp only[rc,rX,List.cons.injEq,Prod.mk.injEq]at h;exact⟨h.1,zp h.2⟩
theorem zT:∀{ts:List Tag} {l:List Oper} {us:List Tag},l4 P n all σs l ts=jB σs ts→df P n s0 all K σs (l.drop ts.length) us→df P n s0 all K σs l (ts++us)
 | [],l,us,_,h=>by simpa using h
 | t::ts,[],us,h,_=>by cases t<;>simp[l4,jB]at h
 | t::ts,o::r,us,h,h2=>by
  cases t with
  | v lo k =>
   simp only[l4,jB,List.cons.injEq]at h;exact⟨mT (zp h.1),zT h.2 (by simpa using h2)⟩
  | _=>simp[l4,jB]at h
theorem aO(ts:List Tag){us:List Tag}(h2:df P n s0 all K σs (aK f p (i+ts.length)) us)(h:l4 P n all σs (aK f p i) ts=jB σs ts:=by kernel_rfl):df P n s0 all K σs (aK f p i) (ts++us):=by
 refine zT h ?_;have:(aK f p i).drop ts.length=aK f p (i+ts.length):=by simp[aK,List.drop_drop,Nat.add_comm]
 rw[this];exact h2
theorem ao{t:Tag}{ts:List Tag}(h:dp P n s0 all K σs (aR f p i) t)(h2:df P n s0 all K σs (aK f p (i+1)) ts)(hl:aK f p i=aR f p i::aK f p (i+1):=by kernel_rfl):df P n s0 all K σs (aK f p i) (t::ts):=DR hl h h2
theorem ce(hl:aK f p i=[]:=by kernel_rfl):df P n s0 all K σs (aK f p i) []:=EK hl
def bV(P:Program)(n:Nat)(f:Func)(p:List Nat)(i:Nat)(s:AS):AS:=match ba P n s (aR f p i) with|some s'=>s'|none=>s
def lw(f:Func)(p:List Nat):Bool:=match cat f p with|.region _ _ true=>true|_=>false
end
theorem J1{P:Program}{n:Nat}{s0:AS}{all:Array Oper}{K:Nat}{σs:List AS}{l:List Oper}:df P n s0 all K σs l []:=by cases l<;>trivial
theorem cg{cx:Cx}{Q:Exit→Act→World→Prop}{ks:List am}{f:Func}{p:List Nat}{s0:AS}{tags:List Tag}(K:Nat)(rv:List (Nat×AV))(al:List (Nat×List AV))(rl:List (Nat×bf))(tl:List (AS→AS))
  (h3:df cx.P cx.n s0 (dh f p) K (pM s0 rv al rl tl) (aK f p 0) tags) (h:VE cx Q ks .normal (BV s0 rv al rl tl K))
  (hc:lw f p=true:=by kernel_rfl) (hm:cx.P.follows .mixedOrders=true:=by kernel_rfl) (hs:oO (dh f p) tags K=true:=by kernel_rfl) (hl:je tags K=true:=by kernel_rfl) (hkey:iX (aK f p 0) tags rv=true:=by kernel_rfl) (hfr:eL s0.u al=true:=by kernel_rfl) (hfr2:eL s0.u rl=true:=by kernel_rfl):VE cx Q (.c (cat f p)::ks) .normal s0:=by
 have e0:aK f p 0=(dh f p).toList:=by simp[aK]
 cases hcc:cat f p with
 | region id ops b =>
  cases b with
  | false=>unfold lw at hc;rw[hcc]at hc;cases hc
  | true =>
   have ho:dh f p=ops:=by unfold dh;rw[hcc];rfl
   rw[e0]at h3 hkey;rw[ho]at h3 hkey hs;exact FT (id:=id) tags K rv al rl (tC (ia s0 rv al rl) tl) rfl hm hs hl hkey hfr hfr2 h3 h
 | _=>unfold lw at hc;rw[hcc]at hc;cases hc
end Go.Proofs.Ytnpmlepplfaijaa
