/- The rules in short form: states that need not be written out, premises that the kernel computes. No program in sight. -/
import Derived.Test.YtnpmlepplfaijaaGreatIlVe
namespace Go.Proofs.YtnpmlepplfaijaaGreat
set_option linter.all false
open Go.RowKit
def keys{α:Type}:List (Nat×α)→List Nat
 | []=>[]
 | (k,_)::r=>k::keys r
def ep(P:Program)(n k:Nat)(ks:List ao)(e:Exit)(s:AS):AS:=match ny P n k ks e s with
 | some (_,_,s')=>s'
 | none=>s
def eg(P:Program)(n k:Nat)(ks:List ao)(e:Exit)(s:AS):Option (List ao×Exit):=match ny P n k ks e s with
 | some (ks',e',_)=>some (ks',e')
 | none=>none
def EG(s:AS)(ts os rs:List Nat):AS:=match s.pick ts os rs with|some s'=>s'|none=>s
def HT(s:AS)(ts os rs:List Nat):Bool:=match s.pick ts os rs with|some _=>true|none=>false
def ra(P:Program)(n:Nat)(all:Array Oper)(k:Nat)(l:List Oper)(s:AS):AS:=match lG P n all k l s with
 | some (_,s')=>s'
 | none=>s
def rg(P:Program)(n:Nat)(all:Array Oper)(k:Nat)(l:List Oper)(s:AS):Option (List Oper):=match lG P n all k l s with
 | some (l',_)=>some l'
 | none=>none
def D9(s:AS):List (AS→AS)→List AS
 | []=>[]
 | g::r=>g s::D9 (g s) r
def EE(k:Nat)(b:Bool)(s:AS):AS:={ s with t:=aU k (.bool b) s.t }
def Nw(nid:Nat)(ar:bn)(s:AS):AS:={ s with r:=aU nid ar s.r,u:=nid::s.u }
def mz(s0:AS)(rv:List (Nat×AV))(al:List (Nat×List AV))(rl:List (Nat×bn))(tl:List (AS→AS)):List AS:=lC s0 rv al rl::D9 (lC s0 rv al rl) tl
def C4(s0:AS)(rv:List (Nat×AV))(al:List (Nat×List AV))(rl:List (Nat×bn))(tl:List (AS→AS))(K:Nat):AS:=nth (mz s0 rv al rl tl) K
def D7(f:Func)(p:List Nat):Bool:=match cat f p with|.region _ _ false=>true|_=>false
section
variable{cx:Cx}{Q:Exit→Act→World→Prop}{ks ks':List ao}{e e':Exit}{s s':AS}{f:Func}{p:List Nat}{all:Array Oper}{i:Nat}
theorem ae(k:Nat)(hk:VE cx Q ks' e' s')(h:yl cx.P cx.n k (keys s'.t) (keys s'.o) (keys s'.r) ks e s=some (ks',e',s'):=by kernel_rfl):VE cx Q ks e s:=Mb k _ _ _ h hk
theorem bw(k:Nat)(s':AS)(hk:VE cx Q ks' .normal s')(h:yl cx.P cx.n k (keys s'.t) (keys s'.o) (keys s'.r) ks e s=some (ks',.normal,s'):=by kernel_rfl):VE cx Q ks e s:=Mb k _ _ _ h hk
theorem cz(k:Nat)(hk:VE cx Q ks' .normal (ep cx.P cx.n k ks e s))(h:eg cx.P cx.n k ks e s=some (ks',.normal):=by kernel_rfl):VE cx Q ks e s:=by
 unfold eg at h;split at h
 ·rename_i k1 e1 s1 h1;simp only[Option.some.injEq,Prod.mk.injEq]at h;obtain⟨rfl,rfl⟩:=h;refine CF _ _ _ _ h1 ?_;unfold ep at hk;rw[h1]at hk;exact hk
 ·cases h
theorem aG(k:Nat)(hk:VE cx Q [] .ret (ep cx.P cx.n k ks e s))(h:eg cx.P cx.n k ks e s=some ([],.ret):=by kernel_rfl):VE cx Q ks e s:=by
 unfold eg at h;split at h
 ·rename_i k1 e1 s1 h1;simp only[Option.some.injEq,Prod.mk.injEq]at h;obtain⟨rfl,rfl⟩:=h;refine CF _ _ _ _ h1 ?_;unfold ep at hk;rw[h1]at hk;exact hk
 ·cases h
theorem bF(ts os rs:List Nat)(hk:VE cx Q ks e (EG s ts os rs))(h:HT s ts os rs=true:=by kernel_rfl):VE cx Q ks e s:=by
 unfold HT at h;split at h
 ·rename_i s1 h1;unfold EG at hk;rw[h1]at hk;exact Em _ (Je h1) hk
 ·cases h
theorem aj(n:Nat)(hk:OT cx Q ks (c8 f p) (aY f p n) (ra cx.P cx.n (c8 f p) n (aY f p 0) s))(h:D7 f p=true:=by kernel_rfl)(h2:rg cx.P cx.n (c8 f p) n (aY f p 0) s=some (aY f p n):=by kernel_rfl):VE cx Q (.c (cat f p)::ks) .normal s:=by
 have hl:aY f p 0=(c8 f p).toList:=by simp[aY]
 cases hc:cat f p with
 | region id ops b =>
  cases b with
  | true=>unfold D7 at h;rw[hc]at h;cases h
  | false =>
   have ho:c8 f p=ops:=by unfold c8;rw[hc];rfl
   unfold rg at h2;split at h2
   ·rename_i l1 s1 h1;injection h2 with h2;subst h2
    unfold ra at hk;rw[h1]at hk;rw[hl,ho]at h1;rw[ho]at hk;exact G6 (uq _ _ _ h1 hk)
   ·cases h2
 | _=>unfold D7 at h;rw[hc]at h;cases h
theorem aJ(j k:Nat)(hk:OT cx Q ks all (aY f p j) (ra cx.P cx.n all k (aY f p i) s))(h2:rg cx.P cx.n all k (aY f p i) s=some (aY f p j):=by kernel_rfl):OT cx Q ks all (aY f p i) s:=by
 unfold rg at h2;split at h2
 ·rename_i l1 s1 h1;injection h2 with h2;subst h2
  unfold ra at hk;rw[h1]at hk;exact uq _ _ _ h1 hk
 ·cases h2
theorem ac(hk:VE cx Q ks .normal (ra cx.P cx.n all 10000 (aY f p i) s))(h2:rg cx.P cx.n all 10000 (aY f p i) s=some []:=by kernel_rfl):OT cx Q ks all (aY f p i) s:=by
 unfold rg at h2;split at h2
 ·rename_i l1 s1 h1;injection h2 with h2;subst h2
  unfold ra at hk;rw[h1]at hk;exact uq _ _ _ h1 (It hk)
 ·cases h2
theorem az(h:bo cx.P cx.n s (bm f p i)=some s')(k:OT cx Q ks all (aY f p (i+1)) s')(hl:aY f p i=bm f p i::aY f p (i+1):=by kernel_rfl)(hg:cr all s (bm f p i)=true:=by kernel_rfl):OT cx Q ks all (aY f p i) s:=N8 _ hl (Vi hg h) k
theorem ag(k:Nat){b b':Bool}(he:b=b')(h:VE cx Q ks e (EE k b' s))(hv:look k s.t=some (.bool b):=by kernel_rfl):VE cx Q ks e s:=Tf k he hv h
theorem av{l:List Oper}(k:Nat){b b':Bool}(he:b=b')(h:OT cx Q ks all l (EE k b' s))(hv:look k s.t=some (.bool b):=by kernel_rfl):OT cx Q ks all l s:=aae k he hv h
theorem aD{g:FuncId}{args:List AV}{V:AV}(hc:aN cx.P g args (fun v _=>v=V))(k:OT cx Q ks all (aY f p (i+1)) (s.put (bm f p i).dst V))(hl:aY f p i=bm f p i::aY f p (i+1):=by kernel_rfl)(hg:cr all s (bm f p i)=true:=by kernel_rfl)(hcl:cF cx.P g=true:=by kernel_rfl)
  (h1:eS s (bm f p i)=some (g,args):=by kernel_rfl) (hv:(cB cx.n (bm f p i).dst&&V.cC [])=true:=by kernel_rfl):OT cx Q ks all (aY f p i) s:=Et _ hl hg hc hcl h1 hv k
theorem sR{g:FuncId}{args:List AV}{V:AV}(hc:cF cx.P g=true∧aN cx.P g args (fun v _=>v=V))(k:OT cx Q ks all (aY f p (i+1)) (s.put (bm f p i).dst V))(hl:aY f p i=bm f p i::aY f p (i+1):=by kernel_rfl)(hg:cr all s (bm f p i)=true:=by kernel_rfl)
  (h1:eS s (bm f p i)=some (g,args):=by kernel_rfl) (hv:(cB cx.n (bm f p i).dst&&V.cC [])=true:=by kernel_rfl):OT cx Q ks all (aY f p i) s:=Et _ hl hg hc.2 hc.1 h1 hv k
theorem dm(nid:Nat){id:Nat}{g:FuncId}{args:List AV}{V:AV}{ar:bn}(hc:aN cx.P g args (fun v s1=>v=V∧look id s1.r=some ar))(hone:∀(N:Nat→Prop) w ι x,Rel N w ι V x→∃y,ι id=some y)
  (k:OT cx Q ks all (aY f p (i+1)) ((Nw nid ar s).put (bm f p i).dst (V.eo id nid))) (hl:aY f p i=bm f p i::aY f p (i+1):=by kernel_rfl) (hg:cr all s (bm f p i)=true:=by kernel_rfl) (hcl:cF cx.P g=true:=by kernel_rfl)
  (h1:eS s (bm f p i)=some (g,args):=by kernel_rfl) (hd:cB cx.n (bm f p i).dst=true:=by kernel_rfl) (hid:V.cC []=false:=by kernel_rfl) (hn:has s.u nid=false:=by kernel_rfl) (htg:Nat.ble (id+1) TG=true:=by kernel_rfl):OT cx Q ks all (aY f p i) s:=RJ _ id nid hl hg hc hcl hone h1 hd hid hn rfl k htg
theorem cd{f:Func}{p q:List Nat}(m:Nat)(h:LP cx Q ks (cat f q) m s)(hc:cat f p=.loop (cat f q):=by kernel_rfl):VE cx Q (.c (cat f p)::ks) .normal s:=o6 m hc h
def yO(P:Program)(n:Nat)(all:Array Oper)(σs:List AS)(o:Oper):Nat→Nat→List (Bool×Option AS)
 | _,0=>[]
 | lo,k+1=>(cr all (nth σs lo) o,bo P n (nth σs lo) o)::yO P n all σs o (lo+1) k
def yw(σs:List AS):Nat→Nat→List (Bool×Option AS)
 | _,0=>[]
 | lo,k+1=>(true,some (nth σs lo))::yw σs (lo+1) k
def sJ(P:Program)(n:Nat)(all:Array Oper)(σs:List AS):List Oper→List Tag→List (List (Bool×Option AS))
 | o::r,.v lo k::ts=>yO P n all σs o lo k::sJ P n all σs r ts
 | _,_=>[]
def ow(σs:List AS):List Tag→List (List (Bool×Option AS))
 | []=>[]
 | .v lo k::ts=>yw σs lo k::ow σs ts
 | _::ts=>[]::ow σs ts
end
section
variable{P:Program}{n:Nat}{s0:AS}{all:Array Oper}{K:Nat}{σs:List AS}{f:Func}{p:List Nat}{i:Nat}
theorem Ec{o:Oper}:∀{k lo:Nat},yO P n all σs o lo k=yw σs lo k→dd lo k fun j=>cr all (nth σs j) o=true∧bo P n (nth σs j) o=some (nth σs j)
 | 0,_,_=>trivial
 | k+1,lo,h=>by
  simp only[yO,yw,List.cons.injEq,Prod.mk.injEq]at h;exact⟨h.1,Ec h.2⟩
theorem JP:∀{ts:List Tag} {l:List Oper} {us:List Tag},sJ P n all σs l ts=ow σs ts→dY P n s0 all K σs (l.drop ts.length) us→dY P n s0 all K σs l (ts++us)
 | [],l,us,_,h=>by simpa using h
 | t::ts,[],us,h,_=>by cases t<;>simp[sJ,ow]at h
 | t::ts,o::r,us,h,h2=>by
  cases t with
  | v lo k =>
   simp only[sJ,ow,List.cons.injEq]at h;exact⟨iE (Ec h.1),JP h.2 (by simpa using h2)⟩
  | _=>simp[sJ,ow]at h
theorem ay(ts:List Tag){us:List Tag}(h2:dY P n s0 all K σs (aY f p (i+ts.length)) us)(h:sJ P n all σs (aY f p i) ts=ow σs ts:=by kernel_rfl):dY P n s0 all K σs (aY f p i) (ts++us):=by
 refine JP h ?_;have:(aY f p i).drop ts.length=aY f p (i+ts.length):=by simp[aY,List.drop_drop,Nat.add_comm]
 rw[this];exact h2
theorem ai{t:Tag}{ts:List Tag}(h:d5 P n s0 all K σs (bm f p i) t)(h2:dY P n s0 all K σs (aY f p (i+1)) ts)(hl:aY f p i=bm f p i::aY f p (i+1):=by kernel_rfl):dY P n s0 all K σs (aY f p i) (t::ts):=Ru hl h h2
theorem bO(hl:aY f p i=[]:=by kernel_rfl):dY P n s0 all K σs (aY f p i) []:=XP hl
def bR(P:Program)(n:Nat)(f:Func)(p:List Nat)(i:Nat)(s:AS):AS:=match bo P n s (bm f p i) with|some s'=>s'|none=>s
def kx(f:Func)(p:List Nat):Bool:=match cat f p with|.region _ _ true=>true|_=>false
end
theorem Db{P:Program}{n:Nat}{s0:AS}{all:Array Oper}{K:Nat}{σs:List AS}{l:List Oper}:dY P n s0 all K σs l []:=by cases l<;>trivial
theorem bP{cx:Cx}{Q:Exit→Act→World→Prop}{ks:List ao}{f:Func}{p:List Nat}{s0:AS}{tags:List Tag}(K:Nat)(rv:List (Nat×AV))(al:List (Nat×List AV))(rl:List (Nat×bn))(tl:List (AS→AS))
  (h3:dY cx.P cx.n s0 (c8 f p) K (mz s0 rv al rl tl) (aY f p 0) tags) (h:VE cx Q ks .normal (C4 s0 rv al rl tl K))
  (hc:kx f p=true:=by kernel_rfl) (hm:cx.P.follows .mixedOrders=true:=by kernel_rfl) (hs:tF (c8 f p) tags K=true:=by kernel_rfl) (hl:li tags K=true:=by kernel_rfl) (hkey:kw (aY f p 0) tags rv=true:=by kernel_rfl) (hfr:fI s0.u al=true:=by kernel_rfl) (hfr2:fI s0.u rl=true:=by kernel_rfl):VE cx Q (.c (cat f p)::ks) .normal s0:=by
 have e0:aY f p 0=(c8 f p).toList:=by simp[aY]
 cases hcc:cat f p with
 | region id ops b =>
  cases b with
  | false=>unfold kx at hc;rw[hcc]at hc;cases hc
  | true =>
   have ho:c8 f p=ops:=by unfold c8;rw[hcc];rfl
   rw[e0]at h3 hkey;rw[ho]at h3 hkey hs;exact XT (id:=id) tags K rv al rl (D9 (lC s0 rv al rl) tl) rfl hm hs hl hkey hfr hfr2 h3 h
 | _=>unfold kx at hc;rw[hcc]at hc;cases hc
end Go.Proofs.YtnpmlepplfaijaaGreat
