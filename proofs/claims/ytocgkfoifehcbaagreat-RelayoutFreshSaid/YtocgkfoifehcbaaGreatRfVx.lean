/- The rules in short form: states that need not be written out, premises that the kernel computes. No program in sight. -/
import Derived.Test.YtocgkfoifehcbaaGreatRfVe
namespace Go.Proofs.YtocgkfoifehcbaaGreat
set_option linter.all false
open Go.RowKit
def keys{α:Type}:List (Nat×α)→List Nat
 | []=>[]
 | (k,_)::r=>k::keys r
def eH(P:Program)(n k:Nat)(ks:List aq)(e:Exit)(s:AS):AS:=match mU P n k ks e s with
 | some (_,_,s')=>s'
 | none=>s
def eL(P:Program)(n k:Nat)(ks:List aq)(e:Exit)(s:AS):Option (List aq×Exit):=match mU P n k ks e s with
 | some (ks',e',_)=>some (ks',e')
 | none=>none
def I4(s:AS)(ts os rs:List Nat):AS:=match s.pick ts os rs with|some s'=>s'|none=>s
def FC(s:AS)(ts os rs:List Nat):Bool:=match s.pick ts os rs with|some _=>true|none=>false
def pe(P:Program)(n:Nat)(all:Array Oper)(k:Nat)(l:List Oper)(s:AS):AS:=match kQ P n all k l s with
 | some (_,s')=>s'
 | none=>s
def nK(P:Program)(n:Nat)(all:Array Oper)(k:Nat)(l:List Oper)(s:AS):Option (List Oper):=match kQ P n all k l s with
 | some (l',_)=>some l'
 | none=>none
def z3(s:AS):List (AS→AS)→List AS
 | []=>[]
 | g::r=>g s::z3 (g s) r
def Gu(k:Nat)(b:Bool)(s:AS):AS:={ s with t:=aZ k (.bool b) s.t }
def Oz(nid:Nat)(ar:br)(s:AS):AS:={ s with r:=aZ nid ar s.r,u:=nid::s.u }
def kz(s0:AS)(rv:List (Nat×AV))(al:List (Nat×List AV))(rl:List (Nat×br))(tl:List (AS→AS)):List AS:=eR s0 rv al rl::z3 (eR s0 rv al rl) tl
def yC(s0:AS)(rv:List (Nat×AV))(al:List (Nat×List AV))(rl:List (Nat×br))(tl:List (AS→AS))(K:Nat):AS:=nth (kz s0 rv al rl tl) K
def z9(f:Func)(p:List Nat):Bool:=match cat f p with|.region _ _ false=>true|_=>false
section
variable{cx:Cx}{Q:Exit→Act→World→Prop}{ks ks':List aq}{e e':Exit}{s s':AS}{f:Func}{p:List Nat}{all:Array Oper}{i:Nat}
theorem ae(k:Nat)(hk:VE cx Q ks' e' s')(h:we cx.P cx.n k (keys s'.t) (keys s'.o) (keys s'.r) ks e s=some (ks',e',s'):=by kernel_rfl):VE cx Q ks e s:=Hm k _ _ _ h hk
theorem bR(k:Nat)(s':AS)(hk:VE cx Q ks' .normal s')(h:we cx.P cx.n k (keys s'.t) (keys s'.o) (keys s'.r) ks e s=some (ks',.normal,s'):=by kernel_rfl):VE cx Q ks e s:=Hm k _ _ _ h hk
theorem bK(k:Nat)(hk:VE cx Q ks' .normal (eH cx.P cx.n k ks e s))(h:eL cx.P cx.n k ks e s=some (ks',.normal):=by kernel_rfl):VE cx Q ks e s:=by
 unfold eL at h;split at h
 ·rename_i k1 e1 s1 h1;simp only[Option.some.injEq,Prod.mk.injEq]at h;obtain⟨rfl,rfl⟩:=h;refine Cm _ _ _ _ h1 ?_;unfold eH at hk;rw[h1]at hk;exact hk
 ·cases h
theorem aL(k:Nat)(hk:VE cx Q [] .ret (eH cx.P cx.n k ks e s))(h:eL cx.P cx.n k ks e s=some ([],.ret):=by kernel_rfl):VE cx Q ks e s:=by
 unfold eL at h;split at h
 ·rename_i k1 e1 s1 h1;simp only[Option.some.injEq,Prod.mk.injEq]at h;obtain⟨rfl,rfl⟩:=h;refine Cm _ _ _ _ h1 ?_;unfold eH at hk;rw[h1]at hk;exact hk
 ·cases h
theorem bJ(ts os rs:List Nat)(hk:VE cx Q ks e (I4 s ts os rs))(h:FC s ts os rs=true:=by kernel_rfl):VE cx Q ks e s:=by
 unfold FC at h;split at h
 ·rename_i s1 h1;unfold I4 at hk;rw[h1]at hk;exact FQ _ (DY h1) hk
 ·cases h
theorem aj(n:Nat)(hk:OT cx Q ks (cC f p) (aK f p n) (pe cx.P cx.n (cC f p) n (aK f p 0) s))(h:z9 f p=true:=by kernel_rfl)(h2:nK cx.P cx.n (cC f p) n (aK f p 0) s=some (aK f p n):=by kernel_rfl):VE cx Q (.c (cat f p)::ks) .normal s:=by
 have hl:aK f p 0=(cC f p).toList:=by simp[aK]
 cases hc:cat f p with
 | region id ops b =>
  cases b with
  | true=>unfold z9 at h;rw[hc]at h;cases h
  | false =>
   have ho:cC f p=ops:=by unfold cC;rw[hc];rfl
   unfold nK at h2;split at h2
   ·rename_i l1 s1 h1;injection h2 with h2;subst h2
    unfold pe at hk;rw[h1]at hk;rw[hl,ho]at h1;rw[ho]at hk;exact FM (tL _ _ _ h1 hk)
   ·cases h2
 | _=>unfold z9 at h;rw[hc]at h;cases h
theorem aM(j k:Nat)(hk:OT cx Q ks all (aK f p j) (pe cx.P cx.n all k (aK f p i) s))(h2:nK cx.P cx.n all k (aK f p i) s=some (aK f p j):=by kernel_rfl):OT cx Q ks all (aK f p i) s:=by
 unfold nK at h2;split at h2
 ·rename_i l1 s1 h1;injection h2 with h2;subst h2
  unfold pe at hk;rw[h1]at hk;exact tL _ _ _ h1 hk
 ·cases h2
theorem ac(hk:VE cx Q ks .normal (pe cx.P cx.n all 10000 (aK f p i) s))(h2:nK cx.P cx.n all 10000 (aK f p i) s=some []:=by kernel_rfl):OT cx Q ks all (aK f p i) s:=by
 unfold nK at h2;split at h2
 ·rename_i l1 s1 h1;injection h2 with h2;subst h2
  unfold pe at hk;rw[h1]at hk;exact tL _ _ _ h1 (DA hk)
 ·cases h2
theorem az(h:bE cx.P cx.n s (aQ f p i)=some s')(k:OT cx Q ks all (aK f p (i+1)) s')(hl:aK f p i=aQ f p i::aK f p (i+1):=by kernel_rfl)(hg:cd all s (aQ f p i)=true:=by kernel_rfl):OT cx Q ks all (aK f p i) s:=N1 _ hl (M1 hg h) k
theorem ah(k:Nat){b b':Bool}(he:b=b')(h:VE cx Q ks e (Gu k b' s))(hv:look k s.t=some (.bool b):=by kernel_rfl):VE cx Q ks e s:=QD k he hv h
theorem aB{l:List Oper}(k:Nat){b b':Bool}(he:b=b')(h:OT cx Q ks all l (Gu k b' s))(hv:look k s.t=some (.bool b):=by kernel_rfl):OT cx Q ks all l s:=OH k he hv h
theorem aS{g:FuncId}{args:List AV}{V:AV}(hc:aU cx.P g args (fun v _=>v=V))(k:OT cx Q ks all (aK f p (i+1)) (s.put (aQ f p i).dst V))(hl:aK f p i=aQ f p i::aK f p (i+1):=by kernel_rfl)(hg:cd all s (aQ f p i)=true:=by kernel_rfl)(hcl:cf cx.P g=true:=by kernel_rfl)
  (h1:df s (aQ f p i)=some (g,args):=by kernel_rfl) (hv:(cm cx.n (aQ f p i).dst&&V.cL [])=true:=by kernel_rfl):OT cx Q ks all (aK f p i) s:=Gr _ hl hg hc hcl h1 hv k
theorem k9{g:FuncId}{args:List AV}{V:AV}(hc:cf cx.P g=true∧aU cx.P g args (fun v _=>v=V))(k:OT cx Q ks all (aK f p (i+1)) (s.put (aQ f p i).dst V))(hl:aK f p i=aQ f p i::aK f p (i+1):=by kernel_rfl)(hg:cd all s (aQ f p i)=true:=by kernel_rfl)
  (h1:df s (aQ f p i)=some (g,args):=by kernel_rfl) (hv:(cm cx.n (aQ f p i).dst&&V.cL [])=true:=by kernel_rfl):OT cx Q ks all (aK f p i) s:=Gr _ hl hg hc.2 hc.1 h1 hv k
theorem fU(nid:Nat){id:Nat}{g:FuncId}{args:List AV}{V:AV}{ar:br}(hc:aU cx.P g args (fun v s1=>v=V∧look id s1.r=some ar))(hone:∀(N:Nat→Prop) w ι x,Rel N w ι V x→∃y,ι id=some y)
  (k:OT cx Q ks all (aK f p (i+1)) ((Oz nid ar s).put (aQ f p i).dst (V.eh id nid))) (hl:aK f p i=aQ f p i::aK f p (i+1):=by kernel_rfl) (hg:cd all s (aQ f p i)=true:=by kernel_rfl) (hcl:cf cx.P g=true:=by kernel_rfl)
  (h1:df s (aQ f p i)=some (g,args):=by kernel_rfl) (hd:cm cx.n (aQ f p i).dst=true:=by kernel_rfl) (hid:V.cL []=false:=by kernel_rfl) (hn:has s.u nid=false:=by kernel_rfl) (htg:Nat.ble (id+1) TG=true:=by kernel_rfl):OT cx Q ks all (aK f p i) s:=Rh _ id nid hl hg hc hcl hone h1 hd hid hn rfl k htg
theorem cg{f:Func}{p q:List Nat}(m:Nat)(h:LP cx Q ks (cat f q) m s)(hc:cat f p=.loop (cat f q):=by kernel_rfl):VE cx Q (.c (cat f p)::ks) .normal s:=s5 m hc h
def vh(P:Program)(n:Nat)(all:Array Oper)(σs:List AS)(o:Oper):Nat→Nat→List (Bool×Option AS)
 | _,0=>[]
 | lo,k+1=>(cd all (nth σs lo) o,bE P n (nth σs lo) o)::vh P n all σs o (lo+1) k
def wn(σs:List AS):Nat→Nat→List (Bool×Option AS)
 | _,0=>[]
 | lo,k+1=>(true,some (nth σs lo))::wn σs (lo+1) k
def pg(P:Program)(n:Nat)(all:Array Oper)(σs:List AS):List Oper→List Tag→List (List (Bool×Option AS))
 | o::r,.v lo k::ts=>vh P n all σs o lo k::pg P n all σs r ts
 | _,_=>[]
def lr(σs:List AS):List Tag→List (List (Bool×Option AS))
 | []=>[]
 | .v lo k::ts=>wn σs lo k::lr σs ts
 | _::ts=>[]::lr σs ts
end
section
variable{P:Program}{n:Nat}{s0:AS}{all:Array Oper}{K:Nat}{σs:List AS}{f:Func}{p:List Nat}{i:Nat}
theorem E5{o:Oper}:∀{k lo:Nat},vh P n all σs o lo k=wn σs lo k→de lo k fun j=>cd all (nth σs j) o=true∧bE P n (nth σs j) o=some (nth σs j)
 | 0,_,_=>trivial
 | k+1,lo,h=>by
  simp only[vh,wn,List.cons.injEq,Prod.mk.injEq]at h;exact⟨h.1,E5 h.2⟩
theorem Jj:∀{ts:List Tag} {l:List Oper} {us:List Tag},pg P n all σs l ts=lr σs ts→dz P n s0 all K σs (l.drop ts.length) us→dz P n s0 all K σs l (ts++us)
 | [],l,us,_,h=>by simpa using h
 | t::ts,[],us,h,_=>by cases t<;>simp[pg,lr]at h
 | t::ts,o::r,us,h,h2=>by
  cases t with
  | v lo k =>
   simp only[pg,lr,List.cons.injEq]at h;exact⟨fk (E5 h.1),Jj h.2 (by simpa using h2)⟩
  | _=>simp[pg,lr]at h
theorem ay(ts:List Tag){us:List Tag}(h2:dz P n s0 all K σs (aK f p (i+ts.length)) us)(h:pg P n all σs (aK f p i) ts=lr σs ts:=by kernel_rfl):dz P n s0 all K σs (aK f p i) (ts++us):=by
 refine Jj h ?_;have:(aK f p i).drop ts.length=aK f p (i+ts.length):=by simp[aK,List.drop_drop,Nat.add_comm]
 rw[this];exact h2
theorem ag{t:Tag}{ts:List Tag}(h:dT P n s0 all K σs (aQ f p i) t)(h2:dz P n s0 all K σs (aK f p (i+1)) ts)(hl:aK f p i=aQ f p i::aK f p (i+1):=by kernel_rfl):dz P n s0 all K σs (aK f p i) (t::ts):=UK hl h h2
theorem bP(hl:aK f p i=[]:=by kernel_rfl):dz P n s0 all K σs (aK f p i) []:=Kt hl
def bZ(P:Program)(n:Nat)(f:Func)(p:List Nat)(i:Nat)(s:AS):AS:=match bE P n s (aQ f p i) with|some s'=>s'|none=>s
def gi(f:Func)(p:List Nat):Bool:=match cat f p with|.region _ _ true=>true|_=>false
end
theorem uQ{P:Program}{n:Nat}{s0:AS}{all:Array Oper}{K:Nat}{σs:List AS}{l:List Oper}:dz P n s0 all K σs l []:=by cases l<;>trivial
theorem bQ{cx:Cx}{Q:Exit→Act→World→Prop}{ks:List aq}{f:Func}{p:List Nat}{s0:AS}{tags:List Tag}(K:Nat)(rv:List (Nat×AV))(al:List (Nat×List AV))(rl:List (Nat×br))(tl:List (AS→AS))
  (h3:dz cx.P cx.n s0 (cC f p) K (kz s0 rv al rl tl) (aK f p 0) tags) (h:VE cx Q ks .normal (yC s0 rv al rl tl K))
  (hc:gi f p=true:=by kernel_rfl) (hm:cx.P.follows .mixedOrders=true:=by kernel_rfl) (hs:ql (cC f p) tags K=true:=by kernel_rfl) (hl:jp tags K=true:=by kernel_rfl) (hkey:iv (aK f p 0) tags rv=true:=by kernel_rfl) (hfr:fq s0.u al=true:=by kernel_rfl) (hfr2:fq s0.u rl=true:=by kernel_rfl):VE cx Q (.c (cat f p)::ks) .normal s0:=by
 have e0:aK f p 0=(cC f p).toList:=by simp[aK]
 cases hcc:cat f p with
 | region id ops b =>
  cases b with
  | false=>unfold gi at hc;rw[hcc]at hc;cases hc
  | true =>
   have ho:cC f p=ops:=by unfold cC;rw[hcc];rfl
   rw[e0]at h3 hkey;rw[ho]at h3 hkey hs;exact St (id:=id) tags K rv al rl (z3 (eR s0 rv al rl) tl) rfl hm hs hl hkey hfr hfr2 h3 h
 | _=>unfold gi at hc;rw[hcc]at hc;cases hc
end Go.Proofs.YtocgkfoifehcbaaGreat
