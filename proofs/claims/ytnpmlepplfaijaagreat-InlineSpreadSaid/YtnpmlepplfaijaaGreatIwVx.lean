/- The rules in short form: states that need not be written out, premises that the kernel computes. No program in sight. -/
import Derived.Test.YtnpmlepplfaijaaGreatIwVe
namespace Go.Proofs.YtnpmlepplfaijaaGreat
set_option linter.all false
open Go.RowKit
def keys{α:Type}:List (Nat×α)→List Nat
 | []=>[]
 | (k,_)::r=>k::keys r
def eM(P:Program)(n k:Nat)(ks:List aq)(e:Exit)(s:AS):AS:=match pA P n k ks e s with
 | some (_,_,s')=>s'
 | none=>s
def eN(P:Program)(n k:Nat)(ks:List aq)(e:Exit)(s:AS):Option (List aq×Exit):=match pA P n k ks e s with
 | some (ks',e',_)=>some (ks',e')
 | none=>none
def Hf(s:AS)(ts os rs:List Nat):AS:=match s.pick ts os rs with|some s'=>s'|none=>s
def Lp(s:AS)(ts os rs:List Nat):Bool:=match s.pick ts os rs with|some _=>true|none=>false
def tU(P:Program)(n:Nat)(all:Array Oper)(k:Nat)(l:List Oper)(s:AS):AS:=match l9 P n all k l s with
 | some (_,s')=>s'
 | none=>s
def sh(P:Program)(n:Nat)(all:Array Oper)(k:Nat)(l:List Oper)(s:AS):Option (List Oper):=match l9 P n all k l s with
 | some (l',_)=>some l'
 | none=>none
def AD(s:AS):List (AS→AS)→List AS
 | []=>[]
 | g::r=>g s::AD (g s) r
def Iw(k:Nat)(b:Bool)(s:AS):AS:={ s with t:=aU k (.bool b) s.t }
def YU(nid:Nat)(ar:bo)(s:AS):AS:={ s with r:=aU nid ar s.r,u:=nid::s.u }
def mz(s0:AS)(rv:List (Nat×AV))(al:List (Nat×List AV))(rl:List (Nat×bo))(tl:List (AS→AS)):List AS:=nG s0 rv al rl::AD (nG s0 rv al rl) tl
def AO(s0:AS)(rv:List (Nat×AV))(al:List (Nat×List AV))(rl:List (Nat×bo))(tl:List (AS→AS))(K:Nat):AS:=nth (mz s0 rv al rl tl) K
def AP(f:Func)(p:List Nat):Bool:=match cat f p with|.region _ _ false=>true|_=>false
section
variable{cx:Cx}{Q:Exit→Act→World→Prop}{ks ks':List aq}{e e':Exit}{s s':AS}{f:Func}{p:List Nat}{all:Array Oper}{i:Nat}
theorem ae(k:Nat)(hk:VE cx Q ks' e' s')(h:Ac cx.P cx.n k (keys s'.t) (keys s'.o) (keys s'.r) ks e s=some (ks',e',s'):=by kernel_rfl):VE cx Q ks e s:=J3 k _ _ _ h hk
theorem bB(k:Nat)(s':AS)(hk:VE cx Q ks' .normal s')(h:Ac cx.P cx.n k (keys s'.t) (keys s'.o) (keys s'.r) ks e s=some (ks',.normal,s'):=by kernel_rfl):VE cx Q ks e s:=J3 k _ _ _ h hk
theorem co(k:Nat)(hk:VE cx Q ks' .normal (eM cx.P cx.n k ks e s))(h:eN cx.P cx.n k ks e s=some (ks',.normal):=by kernel_rfl):VE cx Q ks e s:=by
 unfold eN at h;split at h
 ·rename_i k1 e1 s1 h1;simp only[Option.some.injEq,Prod.mk.injEq]at h;obtain⟨rfl,rfl⟩:=h;refine DB _ _ _ _ h1 ?_;unfold eM at hk;rw[h1]at hk;exact hk
 ·cases h
theorem aE(k:Nat)(hk:VE cx Q [] .ret (eM cx.P cx.n k ks e s))(h:eN cx.P cx.n k ks e s=some ([],.ret):=by kernel_rfl):VE cx Q ks e s:=by
 unfold eN at h;split at h
 ·rename_i k1 e1 s1 h1;simp only[Option.some.injEq,Prod.mk.injEq]at h;obtain⟨rfl,rfl⟩:=h;refine DB _ _ _ _ h1 ?_;unfold eM at hk;rw[h1]at hk;exact hk
 ·cases h
theorem bI(ts os rs:List Nat)(hk:VE cx Q ks e (Hf s ts os rs))(h:Lp s ts os rs=true:=by kernel_rfl):VE cx Q ks e s:=by
 unfold Lp at h;split at h
 ·rename_i s1 h1;unfold Hf at hk;rw[h1]at hk;exact KI _ (N1 h1) hk
 ·cases h
theorem aj(n:Nat)(hk:OT cx Q ks (di f p) (aX f p n) (tU cx.P cx.n (di f p) n (aX f p 0) s))(h:AP f p=true:=by kernel_rfl)(h2:sh cx.P cx.n (di f p) n (aX f p 0) s=some (aX f p n):=by kernel_rfl):VE cx Q (.c (cat f p)::ks) .normal s:=by
 have hl:aX f p 0=(di f p).toList:=by simp[aX]
 cases hc:cat f p with
 | region id ops b =>
  cases b with
  | true=>unfold AP at h;rw[hc]at h;cases h
  | false =>
   have ho:di f p=ops:=by unfold di;rw[hc];rfl
   unfold sh at h2;split at h2
   ·rename_i l1 s1 h1;injection h2 with h2;subst h2
    unfold tU at hk;rw[h1]at hk;rw[hl,ho]at h1;rw[ho]at hk;exact Gj (t7 _ _ _ h1 hk)
   ·cases h2
 | _=>unfold AP at h;rw[hc]at h;cases h
theorem aL(j k:Nat)(hk:OT cx Q ks all (aX f p j) (tU cx.P cx.n all k (aX f p i) s))(h2:sh cx.P cx.n all k (aX f p i) s=some (aX f p j):=by kernel_rfl):OT cx Q ks all (aX f p i) s:=by
 unfold sh at h2;split at h2
 ·rename_i l1 s1 h1;injection h2 with h2;subst h2
  unfold tU at hk;rw[h1]at hk;exact t7 _ _ _ h1 hk
 ·cases h2
theorem ac(hk:VE cx Q ks .normal (tU cx.P cx.n all 10000 (aX f p i) s))(h2:sh cx.P cx.n all 10000 (aX f p i) s=some []:=by kernel_rfl):OT cx Q ks all (aX f p i) s:=by
 unfold sh at h2;split at h2
 ·rename_i l1 s1 h1;injection h2 with h2;subst h2
  unfold tU at hk;rw[h1]at hk;exact t7 _ _ _ h1 (Ms hk)
 ·cases h2
theorem aB(h:br cx.P cx.n s (bd f p i)=some s')(k:OT cx Q ks all (aX f p (i+1)) s')(hl:aX f p i=bd f p i::aX f p (i+1):=by kernel_rfl)(hg:cw all s (bd f p i)=true:=by kernel_rfl):OT cx Q ks all (aX f p i) s:=W8 _ hl (Tt hg h) k
theorem ag(k:Nat){b b':Bool}(he:b=b')(h:VE cx Q ks e (Iw k b' s))(hv:look k s.t=some (.bool b):=by kernel_rfl):VE cx Q ks e s:=U2 k he hv h
theorem aA{l:List Oper}(k:Nat){b b':Bool}(he:b=b')(h:OT cx Q ks all l (Iw k b' s))(hv:look k s.t=some (.bool b):=by kernel_rfl):OT cx Q ks all l s:=Zd k he hv h
theorem aD{g:FuncId}{args:List AV}{V:AV}(hc:aO cx.P g args (fun v _=>v=V))(k:OT cx Q ks all (aX f p (i+1)) (s.put (bd f p i).dst V))(hl:aX f p i=bd f p i::aX f p (i+1):=by kernel_rfl)(hg:cw all s (bd f p i)=true:=by kernel_rfl)(hcl:cN cx.P g=true:=by kernel_rfl)
  (h1:fv s (bd f p i)=some (g,args):=by kernel_rfl) (hv:(cB cx.n (bd f p i).dst&&V.cJ [])=true:=by kernel_rfl):OT cx Q ks all (aX f p i) s:=Mn _ hl hg hc hcl h1 hv k
theorem ox{g:FuncId}{args:List AV}{V:AV}(hc:cN cx.P g=true∧aO cx.P g args (fun v _=>v=V))(k:OT cx Q ks all (aX f p (i+1)) (s.put (bd f p i).dst V))(hl:aX f p i=bd f p i::aX f p (i+1):=by kernel_rfl)(hg:cw all s (bd f p i)=true:=by kernel_rfl)
  (h1:fv s (bd f p i)=some (g,args):=by kernel_rfl) (hv:(cB cx.n (bd f p i).dst&&V.cJ [])=true:=by kernel_rfl):OT cx Q ks all (aX f p i) s:=Mn _ hl hg hc.2 hc.1 h1 hv k
theorem dx(nid:Nat){id:Nat}{g:FuncId}{args:List AV}{V:AV}{ar:bo}(hc:aO cx.P g args (fun v s1=>v=V∧look id s1.r=some ar))(hone:∀(N:Nat→Prop) w ι x,Rel N w ι V x→∃y,ι id=some y)
  (k:OT cx Q ks all (aX f p (i+1)) ((YU nid ar s).put (bd f p i).dst (V.eL id nid))) (hl:aX f p i=bd f p i::aX f p (i+1):=by kernel_rfl) (hg:cw all s (bd f p i)=true:=by kernel_rfl) (hcl:cN cx.P g=true:=by kernel_rfl)
  (h1:fv s (bd f p i)=some (g,args):=by kernel_rfl) (hd:cB cx.n (bd f p i).dst=true:=by kernel_rfl) (hid:V.cJ []=false:=by kernel_rfl) (hn:has s.u nid=false:=by kernel_rfl) (htg:Nat.ble (id+1) TG=true:=by kernel_rfl):OT cx Q ks all (aX f p i) s:=acf _ id nid hl hg hc hcl hone h1 hd hid hn rfl k htg
theorem cf{f:Func}{p q:List Nat}(m:Nat)(h:LP cx Q ks (cat f q) m s)(hc:cat f p=.loop (cat f q):=by kernel_rfl):VE cx Q (.c (cat f p)::ks) .normal s:=n6 m hc h
def yt(P:Program)(n:Nat)(all:Array Oper)(σs:List AS)(o:Oper):Nat→Nat→List (Bool×Option AS)
 | _,0=>[]
 | lo,k+1=>(cw all (nth σs lo) o,br P n (nth σs lo) o)::yt P n all σs o (lo+1) k
def xF(σs:List AS):Nat→Nat→List (Bool×Option AS)
 | _,0=>[]
 | lo,k+1=>(true,some (nth σs lo))::xF σs (lo+1) k
def sR(P:Program)(n:Nat)(all:Array Oper)(σs:List AS):List Oper→List Tag→List (List (Bool×Option AS))
 | o::r,.v lo k::ts=>yt P n all σs o lo k::sR P n all σs r ts
 | _,_=>[]
def pa(σs:List AS):List Tag→List (List (Bool×Option AS))
 | []=>[]
 | .v lo k::ts=>xF σs lo k::pa σs ts
 | _::ts=>[]::pa σs ts
end
section
variable{P:Program}{n:Nat}{s0:AS}{all:Array Oper}{K:Nat}{σs:List AS}{f:Func}{p:List Nat}{i:Nat}
theorem HU{o:Oper}:∀{k lo:Nat},yt P n all σs o lo k=xF σs lo k→dr lo k fun j=>cw all (nth σs j) o=true∧br P n (nth σs j) o=some (nth σs j)
 | 0,_,_=>trivial
 | k+1,lo,h=>by
  simp only[yt,xF,List.cons.injEq,Prod.mk.injEq]at h;exact⟨h.1,HU h.2⟩
theorem HZ:∀{ts:List Tag} {l:List Oper} {us:List Tag},sR P n all σs l ts=pa σs ts→d6 P n s0 all K σs (l.drop ts.length) us→d6 P n s0 all K σs l (ts++us)
 | [],l,us,_,h=>by simpa using h
 | t::ts,[],us,h,_=>by cases t<;>simp[sR,pa]at h
 | t::ts,o::r,us,h,h2=>by
  cases t with
  | v lo k =>
   simp only[sR,pa,List.cons.injEq]at h;exact⟨jd (HU h.1),HZ h.2 (by simpa using h2)⟩
  | _=>simp[sR,pa]at h
theorem av(ts:List Tag){us:List Tag}(h2:d6 P n s0 all K σs (aX f p (i+ts.length)) us)(h:sR P n all σs (aX f p i) ts=pa σs ts:=by kernel_rfl):d6 P n s0 all K σs (aX f p i) (ts++us):=by
 refine HZ h ?_;have:(aX f p i).drop ts.length=aX f p (i+ts.length):=by simp[aX,List.drop_drop,Nat.add_comm]
 rw[this];exact h2
theorem ab{t:Tag}{ts:List Tag}(h:eo P n s0 all K σs (bd f p i) t)(h2:d6 P n s0 all K σs (aX f p (i+1)) ts)(hl:aX f p i=bd f p i::aX f p (i+1):=by kernel_rfl):d6 P n s0 all K σs (aX f p i) (t::ts):=Pm hl h h2
theorem bG(hl:aX f p i=[]:=by kernel_rfl):d6 P n s0 all K σs (aX f p i) []:=Zy hl
def bR(P:Program)(n:Nat)(f:Func)(p:List Nat)(i:Nat)(s:AS):AS:=match br P n s (bd f p i) with|some s'=>s'|none=>s
def kQ(f:Func)(p:List Nat):Bool:=match cat f p with|.region _ _ true=>true|_=>false
end
theorem C9{P:Program}{n:Nat}{s0:AS}{all:Array Oper}{K:Nat}{σs:List AS}{l:List Oper}:d6 P n s0 all K σs l []:=by cases l<;>trivial
theorem bF{cx:Cx}{Q:Exit→Act→World→Prop}{ks:List aq}{f:Func}{p:List Nat}{s0:AS}{tags:List Tag}(K:Nat)(rv:List (Nat×AV))(al:List (Nat×List AV))(rl:List (Nat×bo))(tl:List (AS→AS))
  (h3:d6 cx.P cx.n s0 (di f p) K (mz s0 rv al rl tl) (aX f p 0) tags) (h:VE cx Q ks .normal (AO s0 rv al rl tl K))
  (hc:kQ f p=true:=by kernel_rfl) (hm:cx.P.follows .mixedOrders=true:=by kernel_rfl) (hs:u0 (di f p) tags K=true:=by kernel_rfl) (hl:lf tags K=true:=by kernel_rfl) (hkey:lg (aX f p 0) tags rv=true:=by kernel_rfl) (hfr:fV s0.u al=true:=by kernel_rfl) (hfr2:fV s0.u rl=true:=by kernel_rfl):VE cx Q (.c (cat f p)::ks) .normal s0:=by
 have e0:aX f p 0=(di f p).toList:=by simp[aX]
 cases hcc:cat f p with
 | region id ops b =>
  cases b with
  | false=>unfold kQ at hc;rw[hcc]at hc;cases hc
  | true =>
   have ho:di f p=ops:=by unfold di;rw[hcc];rfl
   rw[e0]at h3 hkey;rw[ho]at h3 hkey hs;exact abD (id:=id) tags K rv al rl (AD (nG s0 rv al rl) tl) rfl hm hs hl hkey hfr hfr2 h3 h
 | _=>unfold kQ at hc;rw[hcc]at hc;cases hc
end Go.Proofs.YtnpmlepplfaijaaGreat
