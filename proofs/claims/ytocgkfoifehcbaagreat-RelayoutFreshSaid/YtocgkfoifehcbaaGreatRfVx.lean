/- The rules in short form: states that need not be written out, premises that the kernel computes. No program in sight. -/
import Derived.Test.YtocgkfoifehcbaaGreatRfVe
namespace Go.Proofs.YtocgkfoifehcbaaGreat
set_option linter.all false
open Go.RowKit
def keys{α:Type}:List (Nat×α)→List Nat
 | []=>[]
 | (k,_)::r=>k::keys r
def eT(P:Program)(n k:Nat)(ks:List aq)(e:Exit)(s:AS):AS:=match mj P n k ks e s with
 | some (_,_,s')=>s'
 | none=>s
def eP(P:Program)(n k:Nat)(ks:List aq)(e:Exit)(s:AS):Option (List aq×Exit):=match mj P n k ks e s with
 | some (ks',e',_)=>some (ks',e')
 | none=>none
def CZ(s:AS)(ts os rs:List Nat):AS:=match s.pick ts os rs with|some s'=>s'|none=>s
def HK(s:AS)(ts os rs:List Nat):Bool:=match s.pick ts os rs with|some _=>true|none=>false
def nH(P:Program)(n:Nat)(all:Array Oper)(k:Nat)(l:List Oper)(s:AS):AS:=match kE P n all k l s with
 | some (_,s')=>s'
 | none=>s
def n4(P:Program)(n:Nat)(all:Array Oper)(k:Nat)(l:List Oper)(s:AS):Option (List Oper):=match kE P n all k l s with
 | some (l',_)=>some l'
 | none=>none
def xo(s:AS):List (AS→AS)→List AS
 | []=>[]
 | g::r=>g s::xo (g s) r
def GX(k:Nat)(b:Bool)(s:AS):AS:={ s with t:=aZ k (.bool b) s.t }
def MG(nid:Nat)(ar:br)(s:AS):AS:={ s with r:=aZ nid ar s.r,u:=nid::s.u }
def kI(s0:AS)(rv:List (Nat×AV))(al:List (Nat×List AV))(rl:List (Nat×br))(tl:List (AS→AS)):List AS:=eH s0 rv al rl::xo (eH s0 rv al rl) tl
def Bp(s0:AS)(rv:List (Nat×AV))(al:List (Nat×List AV))(rl:List (Nat×br))(tl:List (AS→AS))(K:Nat):AS:=nth (kI s0 rv al rl tl) K
def Bx(f:Func)(p:List Nat):Bool:=match cat f p with|.region _ _ false=>true|_=>false
section
variable{cx:Cx}{Q:Exit→Act→World→Prop}{ks ks':List aq}{e e':Exit}{s s':AS}{f:Func}{p:List Nat}{all:Array Oper}{i:Nat}
theorem ae(k:Nat)(hk:VE cx Q ks' e' s')(h:uV cx.P cx.n k (keys s'.t) (keys s'.o) (keys s'.r) ks e s=some (ks',e',s'):=by kernel_rfl):VE cx Q ks e s:=FM k _ _ _ h hk
theorem bR(k:Nat)(s':AS)(hk:VE cx Q ks' .normal s')(h:uV cx.P cx.n k (keys s'.t) (keys s'.o) (keys s'.r) ks e s=some (ks',.normal,s'):=by kernel_rfl):VE cx Q ks e s:=FM k _ _ _ h hk
theorem bK(k:Nat)(hk:VE cx Q ks' .normal (eT cx.P cx.n k ks e s))(h:eP cx.P cx.n k ks e s=some (ks',.normal):=by kernel_rfl):VE cx Q ks e s:=by
 unfold eP at h;split at h
 ·rename_i k1 e1 s1 h1;simp only[Option.some.injEq,Prod.mk.injEq]at h;obtain⟨rfl,rfl⟩:=h;refine yP _ _ _ _ h1 ?_;unfold eT at hk;rw[h1]at hk;exact hk
 ·cases h
theorem aL(k:Nat)(hk:VE cx Q [] .ret (eT cx.P cx.n k ks e s))(h:eP cx.P cx.n k ks e s=some ([],.ret):=by kernel_rfl):VE cx Q ks e s:=by
 unfold eP at h;split at h
 ·rename_i k1 e1 s1 h1;simp only[Option.some.injEq,Prod.mk.injEq]at h;obtain⟨rfl,rfl⟩:=h;refine yP _ _ _ _ h1 ?_;unfold eT at hk;rw[h1]at hk;exact hk
 ·cases h
theorem bI(ts os rs:List Nat)(hk:VE cx Q ks e (CZ s ts os rs))(h:HK s ts os rs=true:=by kernel_rfl):VE cx Q ks e s:=by
 unfold HK at h;split at h
 ·rename_i s1 h1;unfold CZ at hk;rw[h1]at hk;exact Gw _ (Hc h1) hk
 ·cases h
theorem aj(n:Nat)(hk:OT cx Q ks (cC f p) (aK f p n) (nH cx.P cx.n (cC f p) n (aK f p 0) s))(h:Bx f p=true:=by kernel_rfl)(h2:n4 cx.P cx.n (cC f p) n (aK f p 0) s=some (aK f p n):=by kernel_rfl):VE cx Q (.c (cat f p)::ks) .normal s:=by
 have hl:aK f p 0=(cC f p).toList:=by simp[aK]
 cases hc:cat f p with
 | region id ops b =>
  cases b with
  | true=>unfold Bx at h;rw[hc]at h;cases h
  | false =>
   have ho:cC f p=ops:=by unfold cC;rw[hc];rfl
   unfold n4 at h2;split at h2
   ·rename_i l1 s1 h1;injection h2 with h2;subst h2
    unfold nH at hk;rw[h1]at hk;rw[hl,ho]at h1;rw[ho]at hk;exact Ga (si _ _ _ h1 hk)
   ·cases h2
 | _=>unfold Bx at h;rw[hc]at h;cases h
theorem aM(j k:Nat)(hk:OT cx Q ks all (aK f p j) (nH cx.P cx.n all k (aK f p i) s))(h2:n4 cx.P cx.n all k (aK f p i) s=some (aK f p j):=by kernel_rfl):OT cx Q ks all (aK f p i) s:=by
 unfold n4 at h2;split at h2
 ·rename_i l1 s1 h1;injection h2 with h2;subst h2
  unfold nH at hk;rw[h1]at hk;exact si _ _ _ h1 hk
 ·cases h2
theorem ac(hk:VE cx Q ks .normal (nH cx.P cx.n all 10000 (aK f p i) s))(h2:n4 cx.P cx.n all 10000 (aK f p i) s=some []:=by kernel_rfl):OT cx Q ks all (aK f p i) s:=by
 unfold n4 at h2;split at h2
 ·rename_i l1 s1 h1;injection h2 with h2;subst h2
  unfold nH at hk;rw[h1]at hk;exact si _ _ _ h1 (Gp hk)
 ·cases h2
theorem az(h:bE cx.P cx.n s (aQ f p i)=some s')(k:OT cx Q ks all (aK f p (i+1)) s')(hl:aK f p i=aQ f p i::aK f p (i+1):=by kernel_rfl)(hg:cd all s (aQ f p i)=true:=by kernel_rfl):OT cx Q ks all (aK f p i) s:=MW _ hl (UJ hg h) k
theorem ah(k:Nat){b b':Bool}(he:b=b')(h:VE cx Q ks e (GX k b' s))(hv:look k s.t=some (.bool b):=by kernel_rfl):VE cx Q ks e s:=VB k he hv h
theorem aB{l:List Oper}(k:Nat){b b':Bool}(he:b=b')(h:OT cx Q ks all l (GX k b' s))(hv:look k s.t=some (.bool b):=by kernel_rfl):OT cx Q ks all l s:=UI k he hv h
theorem aU{g:FuncId}{args:List AV}{V:AV}(hc:aS cx.P g args (fun v _=>v=V))(k:OT cx Q ks all (aK f p (i+1)) (s.put (aQ f p i).dst V))(hl:aK f p i=aQ f p i::aK f p (i+1):=by kernel_rfl)(hg:cd all s (aQ f p i)=true:=by kernel_rfl)(hcl:cf cx.P g=true:=by kernel_rfl)
  (h1:de s (aQ f p i)=some (g,args):=by kernel_rfl) (hv:(cm cx.n (aQ f p i).dst&&V.cL [])=true:=by kernel_rfl):OT cx Q ks all (aK f p i) s:=D1 _ hl hg hc hcl h1 hv k
theorem lf{g:FuncId}{args:List AV}{V:AV}(hc:cf cx.P g=true∧aS cx.P g args (fun v _=>v=V))(k:OT cx Q ks all (aK f p (i+1)) (s.put (aQ f p i).dst V))(hl:aK f p i=aQ f p i::aK f p (i+1):=by kernel_rfl)(hg:cd all s (aQ f p i)=true:=by kernel_rfl)
  (h1:de s (aQ f p i)=some (g,args):=by kernel_rfl) (hv:(cm cx.n (aQ f p i).dst&&V.cL [])=true:=by kernel_rfl):OT cx Q ks all (aK f p i) s:=D1 _ hl hg hc.2 hc.1 h1 hv k
theorem fJ(nid:Nat){id:Nat}{g:FuncId}{args:List AV}{V:AV}{ar:br}(hc:aS cx.P g args (fun v s1=>v=V∧look id s1.r=some ar))(hone:∀(N:Nat→Prop) w ι x,Rel N w ι V x→∃y,ι id=some y)
  (k:OT cx Q ks all (aK f p (i+1)) ((MG nid ar s).put (aQ f p i).dst (V.ec id nid))) (hl:aK f p i=aQ f p i::aK f p (i+1):=by kernel_rfl) (hg:cd all s (aQ f p i)=true:=by kernel_rfl) (hcl:cf cx.P g=true:=by kernel_rfl)
  (h1:de s (aQ f p i)=some (g,args):=by kernel_rfl) (hd:cm cx.n (aQ f p i).dst=true:=by kernel_rfl) (hid:V.cL []=false:=by kernel_rfl) (hn:has s.u nid=false:=by kernel_rfl) (htg:Nat.ble (id+1) TG=true:=by kernel_rfl):OT cx Q ks all (aK f p i) s:=PU _ id nid hl hg hc hcl hone h1 hd hid hn rfl k htg
theorem ci{f:Func}{p q:List Nat}(m:Nat)(h:LP cx Q ks (cat f q) m s)(hc:cat f p=.loop (cat f q):=by kernel_rfl):VE cx Q (.c (cat f p)::ks) .normal s:=rt m hc h
def vD(P:Program)(n:Nat)(all:Array Oper)(σs:List AS)(o:Oper):Nat→Nat→List (Bool×Option AS)
 | _,0=>[]
 | lo,k+1=>(cd all (nth σs lo) o,bE P n (nth σs lo) o)::vD P n all σs o (lo+1) k
def vq(σs:List AS):Nat→Nat→List (Bool×Option AS)
 | _,0=>[]
 | lo,k+1=>(true,some (nth σs lo))::vq σs (lo+1) k
def m9(P:Program)(n:Nat)(all:Array Oper)(σs:List AS):List Oper→List Tag→List (List (Bool×Option AS))
 | o::r,.v lo k::ts=>vD P n all σs o lo k::m9 P n all σs r ts
 | _,_=>[]
def mN(σs:List AS):List Tag→List (List (Bool×Option AS))
 | []=>[]
 | .v lo k::ts=>vq σs lo k::mN σs ts
 | _::ts=>[]::mN σs ts
end
section
variable{P:Program}{n:Nat}{s0:AS}{all:Array Oper}{K:Nat}{σs:List AS}{f:Func}{p:List Nat}{i:Nat}
theorem FS{o:Oper}:∀{k lo:Nat},vD P n all σs o lo k=vq σs lo k→df lo k fun j=>cd all (nth σs j) o=true∧bE P n (nth σs j) o=some (nth σs j)
 | 0,_,_=>trivial
 | k+1,lo,h=>by
  simp only[vD,vq,List.cons.injEq,Prod.mk.injEq]at h;exact⟨h.1,FS h.2⟩
theorem CD:∀{ts:List Tag} {l:List Oper} {us:List Tag},m9 P n all σs l ts=mN σs ts→dB P n s0 all K σs (l.drop ts.length) us→dB P n s0 all K σs l (ts++us)
 | [],l,us,_,h=>by simpa using h
 | t::ts,[],us,h,_=>by cases t<;>simp[m9,mN]at h
 | t::ts,o::r,us,h,h2=>by
  cases t with
  | v lo k =>
   simp only[m9,mN,List.cons.injEq]at h;exact⟨fv (FS h.1),CD h.2 (by simpa using h2)⟩
  | _=>simp[m9,mN]at h
theorem ay(ts:List Tag){us:List Tag}(h2:dB P n s0 all K σs (aK f p (i+ts.length)) us)(h:m9 P n all σs (aK f p i) ts=mN σs ts:=by kernel_rfl):dB P n s0 all K σs (aK f p i) (ts++us):=by
 refine CD h ?_;have:(aK f p i).drop ts.length=aK f p (i+ts.length):=by simp[aK,List.drop_drop,Nat.add_comm]
 rw[this];exact h2
theorem ag{t:Tag}{ts:List Tag}(h:dQ P n s0 all K σs (aQ f p i) t)(h2:dB P n s0 all K σs (aK f p (i+1)) ts)(hl:aK f p i=aQ f p i::aK f p (i+1):=by kernel_rfl):dB P n s0 all K σs (aK f p i) (t::ts):=MI hl h h2
theorem bQ(hl:aK f p i=[]:=by kernel_rfl):dB P n s0 all K σs (aK f p i) []:=Ui hl
def bZ(P:Program)(n:Nat)(f:Func)(p:List Nat)(i:Nat)(s:AS):AS:=match bE P n s (aQ f p i) with|some s'=>s'|none=>s
def gG(f:Func)(p:List Nat):Bool:=match cat f p with|.region _ _ true=>true|_=>false
end
theorem uJ{P:Program}{n:Nat}{s0:AS}{all:Array Oper}{K:Nat}{σs:List AS}{l:List Oper}:dB P n s0 all K σs l []:=by cases l<;>trivial
theorem bP{cx:Cx}{Q:Exit→Act→World→Prop}{ks:List aq}{f:Func}{p:List Nat}{s0:AS}{tags:List Tag}(K:Nat)(rv:List (Nat×AV))(al:List (Nat×List AV))(rl:List (Nat×br))(tl:List (AS→AS))
  (h3:dB cx.P cx.n s0 (cC f p) K (kI s0 rv al rl tl) (aK f p 0) tags) (h:VE cx Q ks .normal (Bp s0 rv al rl tl K))
  (hc:gG f p=true:=by kernel_rfl) (hm:cx.P.follows .mixedOrders=true:=by kernel_rfl) (hs:sW (cC f p) tags K=true:=by kernel_rfl) (hl:jE tags K=true:=by kernel_rfl) (hkey:iU (aK f p 0) tags rv=true:=by kernel_rfl) (hfr:ft s0.u al=true:=by kernel_rfl) (hfr2:ft s0.u rl=true:=by kernel_rfl):VE cx Q (.c (cat f p)::ks) .normal s0:=by
 have e0:aK f p 0=(cC f p).toList:=by simp[aK]
 cases hcc:cat f p with
 | region id ops b =>
  cases b with
  | false=>unfold gG at hc;rw[hcc]at hc;cases hc
  | true =>
   have ho:cC f p=ops:=by unfold cC;rw[hcc];rfl
   rw[e0]at h3 hkey;rw[ho]at h3 hkey hs;exact Qa (id:=id) tags K rv al rl (xo (eH s0 rv al rl) tl) rfl hm hs hl hkey hfr hfr2 h3 h
 | _=>unfold gG at hc;rw[hcc]at hc;cases hc
end Go.Proofs.YtocgkfoifehcbaaGreat
