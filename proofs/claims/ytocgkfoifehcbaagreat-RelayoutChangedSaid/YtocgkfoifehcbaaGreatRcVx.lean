/- The rules in short form: states that need not be written out, premises that the kernel computes. No program in sight. -/
import Derived.Test.YtocgkfoifehcbaaGreatRcVe
namespace Go.Proofs.YtocgkfoifehcbaaGreat
set_option linter.all false
open Go.RowKit
def keys{α:Type}:List (Nat×α)→List Nat
 | []=>[]
 | (k,_)::r=>k::keys r
def eF(P:Program)(n k:Nat)(ks:List ao)(e:Exit)(s:AS):AS:=match lE P n k ks e s with
 | some (_,_,s')=>s'
 | none=>s
def eH(P:Program)(n k:Nat)(ks:List ao)(e:Exit)(s:AS):Option (List ao×Exit):=match lE P n k ks e s with
 | some (ks',e',_)=>some (ks',e')
 | none=>none
def Gp(s:AS)(ts os rs:List Nat):AS:=match s.pick ts os rs with|some s'=>s'|none=>s
def FZ(s:AS)(ts os rs:List Nat):Bool:=match s.pick ts os rs with|some _=>true|none=>false
def mg(P:Program)(n:Nat)(all:Array Oper)(k:Nat)(l:List Oper)(s:AS):AS:=match j3 P n all k l s with
 | some (_,s')=>s'
 | none=>s
def mG(P:Program)(n:Nat)(all:Array Oper)(k:Nat)(l:List Oper)(s:AS):Option (List Oper):=match j3 P n all k l s with
 | some (l',_)=>some l'
 | none=>none
def EH(s:AS):List (AS→AS)→List AS
 | []=>[]
 | g::r=>g s::EH (g s) r
def G7(k:Nat)(b:Bool)(s:AS):AS:={ s with t:=bg k (.bool b) s.t }
def RY(nid:Nat)(ar:bE)(s:AS):AS:={ s with r:=bg nid ar s.r,u:=nid::s.u }
def jO(s0:AS)(rv:List (Nat×AV))(al:List (Nat×List AV))(rl:List (Nat×bE))(tl:List (AS→AS)):List AS:=eN s0 rv al rl::EH (eN s0 rv al rl) tl
def AP(s0:AS)(rv:List (Nat×AV))(al:List (Nat×List AV))(rl:List (Nat×bE))(tl:List (AS→AS))(K:Nat):AS:=nth (jO s0 rv al rl tl) K
def Bq(f:Func)(p:List Nat):Bool:=match cat f p with|.region _ _ false=>true|_=>false
section
variable{cx:Cx}{Q:Exit→Act→World→Prop}{ks ks':List ao}{e e':Exit}{s s':AS}{f:Func}{p:List Nat}{all:Array Oper}{i:Nat}
theorem ac(k:Nat)(hk:VE cx Q ks' e' s')(h:tA cx.P cx.n k (keys s'.t) (keys s'.o) (keys s'.r) ks e s=some (ks',e',s'):=by kernel_rfl):VE cx Q ks e s:=Li k _ _ _ h hk
theorem bm(k:Nat)(s':AS)(hk:VE cx Q ks' .normal s')(h:tA cx.P cx.n k (keys s'.t) (keys s'.o) (keys s'.r) ks e s=some (ks',.normal,s'):=by kernel_rfl):VE cx Q ks e s:=Li k _ _ _ h hk
theorem bM(k:Nat)(hk:VE cx Q ks' .normal (eF cx.P cx.n k ks e s))(h:eH cx.P cx.n k ks e s=some (ks',.normal):=by kernel_rfl):VE cx Q ks e s:=by
 unfold eH at h;split at h
 ·rename_i k1 e1 s1 h1;simp only[Option.some.injEq,Prod.mk.injEq]at h;obtain⟨rfl,rfl⟩:=h;refine CT _ _ _ _ h1 ?_;unfold eF at hk;rw[h1]at hk;exact hk
 ·cases h
theorem aJ(k:Nat)(hk:VE cx Q [] .ret (eF cx.P cx.n k ks e s))(h:eH cx.P cx.n k ks e s=some ([],.ret):=by kernel_rfl):VE cx Q ks e s:=by
 unfold eH at h;split at h
 ·rename_i k1 e1 s1 h1;simp only[Option.some.injEq,Prod.mk.injEq]at h;obtain⟨rfl,rfl⟩:=h;refine CT _ _ _ _ h1 ?_;unfold eF at hk;rw[h1]at hk;exact hk
 ·cases h
theorem bA(ts os rs:List Nat)(hk:VE cx Q ks e (Gp s ts os rs))(h:FZ s ts os rs=true:=by kernel_rfl):VE cx Q ks e s:=by
 unfold FZ at h;split at h
 ·rename_i s1 h1;unfold Gp at hk;rw[h1]at hk;exact K5 _ (MX h1) hk
 ·cases h
theorem ai(n:Nat)(hk:OT cx Q ks (cI f p) (aN f p n) (mg cx.P cx.n (cI f p) n (aN f p 0) s))(h:Bq f p=true:=by kernel_rfl)(h2:mG cx.P cx.n (cI f p) n (aN f p 0) s=some (aN f p n):=by kernel_rfl):VE cx Q (.c (cat f p)::ks) .normal s:=by
 have hl:aN f p 0=(cI f p).toList:=by simp[aN]
 cases hc:cat f p with
 | region id ops b =>
  cases b with
  | true=>unfold Bq at h;rw[hc]at h;cases h
  | false =>
   have ho:cI f p=ops:=by unfold cI;rw[hc];rfl
   unfold mG at h2;split at h2
   ·rename_i l1 s1 h1;injection h2 with h2;subst h2
    unfold mg at hk;rw[h1]at hk;rw[hl,ho]at h1;rw[ho]at hk;exact IR (oB _ _ _ h1 hk)
   ·cases h2
 | _=>unfold Bq at h;rw[hc]at h;cases h
theorem aO(j k:Nat)(hk:OT cx Q ks all (aN f p j) (mg cx.P cx.n all k (aN f p i) s))(h2:mG cx.P cx.n all k (aN f p i) s=some (aN f p j):=by kernel_rfl):OT cx Q ks all (aN f p i) s:=by
 unfold mG at h2;split at h2
 ·rename_i l1 s1 h1;injection h2 with h2;subst h2
  unfold mg at hk;rw[h1]at hk;exact oB _ _ _ h1 hk
 ·cases h2
theorem ab(hk:VE cx Q ks .normal (mg cx.P cx.n all 10000 (aN f p i) s))(h2:mG cx.P cx.n all 10000 (aN f p i) s=some []:=by kernel_rfl):OT cx Q ks all (aN f p i) s:=by
 unfold mG at h2;split at h2
 ·rename_i l1 s1 h1;injection h2 with h2;subst h2
  unfold mg at hk;rw[h1]at hk;exact oB _ _ _ h1 (HR hk)
 ·cases h2
theorem au(h:bT cx.P cx.n s (aQ f p i)=some s')(k:OT cx Q ks all (aN f p (i+1)) s')(hl:aN f p i=aQ f p i::aN f p (i+1):=by kernel_rfl)(hg:ci all s (aQ f p i)=true:=by kernel_rfl):OT cx Q ks all (aN f p i) s:=Pq _ hl (Sv hg h) k
theorem ae(k:Nat){b b':Bool}(he:b=b')(h:VE cx Q ks e (G7 k b' s))(hv:look k s.t=some (.bool b):=by kernel_rfl):VE cx Q ks e s:=Wy k he hv h
theorem aC{l:List Oper}(k:Nat){b b':Bool}(he:b=b')(h:OT cx Q ks all l (G7 k b' s))(hv:look k s.t=some (.bool b):=by kernel_rfl):OT cx Q ks all l s:=XX k he hv h
theorem aP{g:FuncId}{args:List AV}{V:AV}(hc:aW cx.P g args (fun v _=>v=V))(k:OT cx Q ks all (aN f p (i+1)) (s.put (aQ f p i).dst V))(hl:aN f p i=aQ f p i::aN f p (i+1):=by kernel_rfl)(hg:ci all s (aQ f p i)=true:=by kernel_rfl)(hcl:co cx.P g=true:=by kernel_rfl)
  (h1:df s (aQ f p i)=some (g,args):=by kernel_rfl) (hv:(cq cx.n (aQ f p i).dst&&V.cK [])=true:=by kernel_rfl):OT cx Q ks all (aN f p i) s:=JV _ hl hg hc hcl h1 hv k
theorem hF{g:FuncId}{args:List AV}{V:AV}(hc:co cx.P g=true∧aW cx.P g args (fun v _=>v=V))(k:OT cx Q ks all (aN f p (i+1)) (s.put (aQ f p i).dst V))(hl:aN f p i=aQ f p i::aN f p (i+1):=by kernel_rfl)(hg:ci all s (aQ f p i)=true:=by kernel_rfl)
  (h1:df s (aQ f p i)=some (g,args):=by kernel_rfl) (hv:(cq cx.n (aQ f p i).dst&&V.cK [])=true:=by kernel_rfl):OT cx Q ks all (aN f p i) s:=JV _ hl hg hc.2 hc.1 h1 hv k
theorem dI(nid:Nat){id:Nat}{g:FuncId}{args:List AV}{V:AV}{ar:bE}(hc:aW cx.P g args (fun v s1=>v=V∧look id s1.r=some ar))(hone:∀(N:Nat→Prop) w ι x,Rel N w ι V x→∃y,ι id=some y)
  (k:OT cx Q ks all (aN f p (i+1)) ((RY nid ar s).put (aQ f p i).dst (V.ek id nid))) (hl:aN f p i=aQ f p i::aN f p (i+1):=by kernel_rfl) (hg:ci all s (aQ f p i)=true:=by kernel_rfl) (hcl:co cx.P g=true:=by kernel_rfl)
  (h1:df s (aQ f p i)=some (g,args):=by kernel_rfl) (hd:cq cx.n (aQ f p i).dst=true:=by kernel_rfl) (hid:V.cK []=false:=by kernel_rfl) (hn:has s.u nid=false:=by kernel_rfl) (htg:Nat.ble (id+1) TG=true:=by kernel_rfl):OT cx Q ks all (aN f p i) s:=YW _ id nid hl hg hc hcl hone h1 hd hid hn rfl k htg
theorem bK{f:Func}{p q:List Nat}(m:Nat)(h:LP cx Q ks (cat f q) m s)(hc:cat f p=.loop (cat f q):=by kernel_rfl):VE cx Q (.c (cat f p)::ks) .normal s:=jw m hc h
def vQ(P:Program)(n:Nat)(all:Array Oper)(σs:List AS)(o:Oper):Nat→Nat→List (Bool×Option AS)
 | _,0=>[]
 | lo,k+1=>(ci all (nth σs lo) o,bT P n (nth σs lo) o)::vQ P n all σs o (lo+1) k
def yo(σs:List AS):Nat→Nat→List (Bool×Option AS)
 | _,0=>[]
 | lo,k+1=>(true,some (nth σs lo))::yo σs (lo+1) k
def lO(P:Program)(n:Nat)(all:Array Oper)(σs:List AS):List Oper→List Tag→List (List (Bool×Option AS))
 | o::r,.v lo k::ts=>vQ P n all σs o lo k::lO P n all σs r ts
 | _,_=>[]
def ly(σs:List AS):List Tag→List (List (Bool×Option AS))
 | []=>[]
 | .v lo k::ts=>yo σs lo k::ly σs ts
 | _::ts=>[]::ly σs ts
end
section
variable{P:Program}{n:Nat}{s0:AS}{all:Array Oper}{K:Nat}{σs:List AS}{f:Func}{p:List Nat}{i:Nat}
theorem Mn{o:Oper}:∀{k lo:Nat},vQ P n all σs o lo k=yo σs lo k→de lo k fun j=>ci all (nth σs j) o=true∧bT P n (nth σs j) o=some (nth σs j)
 | 0,_,_=>trivial
 | k+1,lo,h=>by
  simp only[vQ,yo,List.cons.injEq,Prod.mk.injEq]at h;exact⟨h.1,Mn h.2⟩
theorem HI:∀{ts:List Tag} {l:List Oper} {us:List Tag},lO P n all σs l ts=ly σs ts→dz P n s0 all K σs (l.drop ts.length) us→dz P n s0 all K σs l (ts++us)
 | [],l,us,_,h=>by simpa using h
 | t::ts,[],us,h,_=>by cases t<;>simp[lO,ly]at h
 | t::ts,o::r,us,h,h2=>by
  cases t with
  | v lo k =>
   simp only[lO,ly,List.cons.injEq]at h;exact⟨dm (Mn h.1),HI h.2 (by simpa using h2)⟩
  | _=>simp[lO,ly]at h
theorem aq(ts:List Tag){us:List Tag}(h2:dz P n s0 all K σs (aN f p (i+ts.length)) us)(h:lO P n all σs (aN f p i) ts=ly σs ts:=by kernel_rfl):dz P n s0 all K σs (aN f p i) (ts++us):=by
 refine HI h ?_;have:(aN f p i).drop ts.length=aN f p (i+ts.length):=by simp[aN,List.drop_drop,Nat.add_comm]
 rw[this];exact h2
theorem ag{t:Tag}{ts:List Tag}(h:dT P n s0 all K σs (aQ f p i) t)(h2:dz P n s0 all K σs (aN f p (i+1)) ts)(hl:aN f p i=aQ f p i::aN f p (i+1):=by kernel_rfl):dz P n s0 all K σs (aN f p i) (t::ts):=Va hl h h2
theorem bz(hl:aN f p i=[]:=by kernel_rfl):dz P n s0 all K σs (aN f p i) []:=Vl hl
def bS(P:Program)(n:Nat)(f:Func)(p:List Nat)(i:Nat)(s:AS):AS:=match bT P n s (aQ f p i) with|some s'=>s'|none=>s
def gh(f:Func)(p:List Nat):Bool:=match cat f p with|.region _ _ true=>true|_=>false
end
theorem lR{P:Program}{n:Nat}{s0:AS}{all:Array Oper}{K:Nat}{σs:List AS}{l:List Oper}:dz P n s0 all K σs l []:=by cases l<;>trivial
theorem bw{cx:Cx}{Q:Exit→Act→World→Prop}{ks:List ao}{f:Func}{p:List Nat}{s0:AS}{tags:List Tag}(K:Nat)(rv:List (Nat×AV))(al:List (Nat×List AV))(rl:List (Nat×bE))(tl:List (AS→AS))
  (h3:dz cx.P cx.n s0 (cI f p) K (jO s0 rv al rl tl) (aN f p 0) tags) (h:VE cx Q ks .normal (AP s0 rv al rl tl K))
  (hc:gh f p=true:=by kernel_rfl) (hm:cx.P.follows .mixedOrders=true:=by kernel_rfl) (hs:pd (cI f p) tags K=true:=by kernel_rfl) (hl:jh tags K=true:=by kernel_rfl) (hkey:g8 (aN f p 0) tags rv=true:=by kernel_rfl) (hfr:fr s0.u al=true:=by kernel_rfl) (hfr2:fr s0.u rl=true:=by kernel_rfl):VE cx Q (.c (cat f p)::ks) .normal s0:=by
 have e0:aN f p 0=(cI f p).toList:=by simp[aN]
 cases hcc:cat f p with
 | region id ops b =>
  cases b with
  | false=>unfold gh at hc;rw[hcc]at hc;cases hc
  | true =>
   have ho:cI f p=ops:=by unfold cI;rw[hcc];rfl
   rw[e0]at h3 hkey;rw[ho]at h3 hkey hs;exact Wa (id:=id) tags K rv al rl (EH (eN s0 rv al rl) tl) rfl hm hs hl hkey hfr hfr2 h3 h
 | _=>unfold gh at hc;rw[hcc]at hc;cases hc
end Go.Proofs.YtocgkfoifehcbaaGreat
