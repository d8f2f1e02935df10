/- The rules in short form: states that need not be written out, premises that the kernel computes. No program in sight. -/
import Derived.Test.YtocgkfoifehcbaaGreatRdVe
namespace Go.Proofs.YtocgkfoifehcbaaGreat
set_option linter.all false
open Go.RowKit
def alm:=@List.cons.injEq
def keys{α:Type}:List (Nat×α)→ed
 | []=>[]
 | (k,_)::r=>k::keys r
def gH(P:Program)(n k:Nat)(a:dt)(e:Exit)(s:AS):AS:=match pJ P n k a e s with
 | some (_,_,s')=>s'
 | none=>s
def gx(P:Program)(n k:Nat)(b:dt)(e:Exit)(s:AS):Option (dt×Exit):=match pJ P n k b e s with
 | some (ks',a,_)=>some (ks',a)
 | none=>none
def LZ(s:AS)(ts a rs:ed):AS:=match s.pick ts a rs with|some s'=>s'|none=>s
def N9(s:AS)(ts a rs:ed):Bool:=match s.pick ts a rs with|some _=>true|none=>false
def vC(P:Program)(n:Nat)(a:Array Oper)(k:Nat)(l:List Oper)(s:AS):AS:=match ov P n a k l s with
 | some (_,s')=>s'
 | none=>s
def t9(P:Program)(n:Nat)(a:Array Oper)(k:Nat)(l:List Oper)(s:AS):Option (List Oper):=match ov P n a k l s with
 | some (l',_)=>some l'
 | none=>none
def La(s:AS):List (AS→AS)→g7
 | []=>[]
 | g::r=>g s::La (g s) r
def UE(k:Nat)(b:Bool)(s:AS):AS:={ s with t:=bd k (.bool b) s.t }
def coS(a:Nat)(ar:cj)(s:AS):AS:={ s with r:=bd a ar s.r,u:=a::s.u }
def y4(d:AS)(c:il)(a:iF)(b:List (Nat×cj))(e:List (AS→AS)):g7:=gE d c a b::La (gE d c a b) e
def Q3(d:AS)(c:il)(a:iF)(b:List (Nat×cj))(e:List (AS→AS))(K:Nat):AS:=nth (y4 d c a b e) K
def Js(f:Func)(p:ed):Bool:=match cat f p with|.region _ _ false=>true|_=>false
section
variable{a:Cx}{Q:Exit→Act→World→Prop}{d ks':dt}{e t:Exit}{s s':AS}{f:Func}{p:ed}{c:Array Oper}{i:Nat}
theorem ag k(b:VE a Q ks' t s')(h:CB a.P a.n k (keys s'.t) (keys s'.o) (keys s'.r) d e s=some (ks',t,s'):=by kernel_rfl):VE a Q d e s:=US k _ _ _ h b
theorem bA k s'(b:VE a Q ks' .normal s')(h:CB a.P a.n k (keys s'.t) (keys s'.o) (keys s'.r) d e s=some (ks',.normal,s'):=by kernel_rfl):VE a Q d e s:=US k _ _ _ h b
theorem bX k(b:VE a Q ks' .normal (gH a.P a.n k d e s))(h:gx a.P a.n k d e s=some (ks',.normal):=by kernel_rfl):VE a Q d e s:=by
 grind[gx,FN,gH]
theorem aJ k(b:VE a Q [] .ret (gH a.P a.n k d e s))(h:gx a.P a.n k d e s=some ([],.ret):=by kernel_rfl):VE a Q d e s:=by
 grind[gx,FN,gH]
theorem bP ts f rs(b:VE a Q d e (LZ s ts f rs))(h:N9 s ts f rs=true:=by kernel_rfl):VE a Q d e s:=by
 unfold N9 at h;split at h
 ·rename_i g c;unfold LZ at b;rw[c]at b;exact PY _ (U8 c) b
 grind
theorem ai(n:Nat)(g:OT a Q d (dF f p) (aU f p n) (vC a.P a.n (dF f p) n (aU f p 0) s))(h:Js f p=true:=by kernel_rfl)(e:t9 a.P a.n (dF f p) n (aU f p 0) s=some (aU f p n):=by kernel_rfl):VE a Q (.c (cat f p)::d) .normal s:=by
 have i:aU f p 0=(dF f p).toList:=by simp[aU]
 cases c:cat f p with
 | region id ops b =>
  cases b with
  | true=>unfold Js at h;rw[c]at h;cases h
  | false =>
   have j:dF f p=ops:=by unfold dF;rw[c];rfl
   grind[t9,vC,Mu,wV]
 | _=>grind[Js]
theorem aQ j k(e:OT a Q d c (aU f p j) (vC a.P a.n c k (aU f p i) s))(b:t9 a.P a.n c k (aU f p i) s=some (aU f p j):=by kernel_rfl):OT a Q d c (aU f p i) s:=by
 grind[t9,vC,wV]
theorem ac(e:VE a Q d .normal (vC a.P a.n c 10000 (aU f p i) s))(b:t9 a.P a.n c 10000 (aU f p i) s=some []:=by kernel_rfl):OT a Q d c (aU f p i) s:=by
 grind[t9,vC,wV,Lw]
theorem au(h:cc a.P a.n s (aS f p i)=some s')(k:OT a Q d c (aU f p (i+1)) s')(e:aU f p i=aS f p i::aU f p (i+1):=by kernel_rfl)(b:cC c s (aS f p i)=true:=by kernel_rfl):OT a Q d c (aU f p i) s:=ac2 _ e (Za b h) k
theorem ah k{b c}(f:b=c)(h:VE a Q d e (UE k c s))(g:look k s.t=some (.bool b):=by kernel_rfl):VE a Q d e s:=aax k f g h
theorem aD{l} k{b e}(f:b=e)(h:OT a Q d c l (UE k e s))(g:look k s.t=some (.bool b):=by kernel_rfl):OT a Q d c l s:=XE k f g h
theorem aP{g}{b}{V}(j:aY a.P g b (fun v _=>v=V))(k:OT a Q d c (aU f p (i+1)) (s.put (aS f p i).dst V))(m:aU f p i=aS f p i::aU f p (i+1):=by kernel_rfl)(l:cC c s (aS f p i)=true:=by kernel_rfl)(e:cI a.P g=true:=by kernel_rfl)
  (h:d9 s (aS f p i)=some (g,b):=by kernel_rfl) (n:(cK a.n (aS f p i).dst&&V.de [])=true:=by kernel_rfl):OT a Q d c (aU f p i) s :=by grind[Tj]
theorem kG{g}{b}{V}(h:cI a.P g=true∧aY a.P g b (fun v _=>v=V))(k:OT a Q d c (aU f p (i+1)) (s.put (aS f p i).dst V))(l:aU f p i=aS f p i::aU f p (i+1):=by kernel_rfl)(j:cC c s (aS f p i)=true:=by kernel_rfl)
  (e:d9 s (aS f p i)=some (g,b):=by kernel_rfl) (m:(cK a.n (aS f p i).dst&&V.de [])=true:=by kernel_rfl):OT a Q d c (aU f p i) s :=by grind[Tj]
theorem fg b{id}{g}{e}{V}{ar}(o:aY a.P g e (fun v z=>v=V∧look id z.r=some ar))(h:∀(N:Nat→Prop) w ι x,Rel N w ι V x→∃y,ι id=some y)
  (k:OT a Q d c (aU f p (i+1)) ((coS b ar s).put (aS f p i).dst (V.f9 id b))) (t:aU f p i=aS f p i::aU f p (i+1):=by kernel_rfl) (r:cC c s (aS f p i)=true:=by kernel_rfl) (j:cI a.P g=true:=by kernel_rfl)
  (n:d9 s (aS f p i)=some (g,e):=by kernel_rfl) (q:cK a.n (aS f p i).dst=true:=by kernel_rfl) (l:V.de []=false:=by kernel_rfl) (u:has s.u b=false:=by kernel_rfl) (m:Nat.ble (id+1) TG=true:=by kernel_rfl):OT a Q d c (aU f p i) s:=abO _ id b t r o j h n q l u rfl k m
theorem ca{f}{p}{q} m(h:LP a Q d (cat f q) m s)(b:cat f p=.loop (cat f q):=by kernel_rfl):VE a Q (.c (cat f p)::d) .normal s:=nT m b h
def CJ(P:Program)(n:Nat)(c:Array Oper)(a:g7)(o:Oper):Nat→Nat→List (Bool×Option AS)
 | _,0=>[]
 | lo,k+1=>(cC c (nth a lo) o,cc P n (nth a lo) o)::CJ P n c a o (lo+1) k
def BV(a:g7):Nat→Nat→List (Bool×Option AS)
 | _,0=>[]
 | lo,k+1=>(true,some (nth a lo))::BV a (lo+1) k
def tP(P:Program)(n:Nat)(c:Array Oper)(a:g7):List Oper→es→List (List (Bool×Option AS))
 | o::r,.v lo k::ts=>CJ P n c a o lo k::tP P n c a r ts
 | _,_=>[]
def qU(a:g7):es→List (List (Bool×Option AS))
 | []=>[]
 | .v lo k::ts=>BV a lo k::qU a ts
 | _::ts=>[]::qU a ts
end
section
variable{P:Program}{n:Nat}{c:AS}{a:Array Oper}{K:Nat}{b:g7}{f:Func}{p:ed}{i:Nat}
theorem RG{o}:∀{k lo},CJ P n a b o lo k=BV b lo k→eB lo k fun j=>cC a (nth b j) o=true∧cc P n (nth b j) o=some (nth b j)
 | 0,_,_=>trivial
 | k+1,lo,h=>by
  simp only[CJ,BV,alm,BY]at h;exact⟨h.1,RG h.2⟩
theorem SY:∀{ts:es} {l:List Oper} {d},tP P n a b l ts=qU b ts→fi P n c a K b (l.drop ts.length) d→fi P n c a K b l (ts++d)
 | [],l,d,_,h=>by grind
 | t::ts,[],d,h,_=>by cases t<;>simp[tP,qU]at h
 | t::ts,o::r,d,h,e=>by
  cases t with
  | v lo k =>
   simp only[tP,qU,alm]at h;exact⟨ii (RG h.1),SY h.2 (by grind)⟩
  | _=>grind[tP,qU]
theorem ay ts{d}(e:fi P n c a K b (aU f p (i+ts.length)) d)(h:tP P n a b (aU f p i) ts=qU b ts:=by kernel_rfl):fi P n c a K b (aU f p i) (ts++d):=by
 refine SY h ?_
 simp_all[aU]
theorem aj{t}{ts}(h:fv P n c a K b (aS f p i) t)(d:fi P n c a K b (aU f p (i+1)) ts)(e:aU f p i=aS f p i::aU f p (i+1):=by kernel_rfl):fi P n c a K b (aU f p i) (t::ts):=abD e h d
theorem bR(d:aU f p i=[]:=by kernel_rfl):fi P n c a K b (aU f p i) []:=W4 d
def cf(P:Program)(n:Nat)(f:Func)(p:ed)(i:Nat)(s:AS):AS:=match cc P n s (aS f p i) with|some s'=>s'|none=>s
def m7(f:Func)(p:ed):Bool:=match cat f p with|.region _ _ true=>true|_=>false
end
theorem Jy{P}{n}{b}{a}{K}{c}{l}:fi P n b a K c l []:=by cases l<;>trivial
theorem bQ{g:Cx}{Q:Exit→Act→World→Prop}{s:dt}{f:Func}{p:ed}{d:AS}{a:es}(K:Nat)(l:il)(e:iF)(k:List (Nat×cj))(q:List (AS→AS))
  (m:fi g.P g.n d (dF f p) K (y4 d l e k q) (aU f p 0) a) (h:VE g Q s .normal (Q3 d l e k q K))
  (n:m7 f p=true:=by kernel_rfl) (v:g.P.follows .mixedOrders=true:=by kernel_rfl) (r:yn (dF f p) a K=true:=by kernel_rfl) (u:oy a K=true:=by kernel_rfl) (c:mX (aU f p 0) a l=true:=by kernel_rfl) (o:jO d.u e=true:=by kernel_rfl) (j:jO d.u k=true:=by kernel_rfl):VE g Q (.c (cat f p)::s) .normal d:=by
 have t:aU f p 0=(dF f p).toList:=by simp[aU]
 cases i:cat f p with
 | region id ops b =>
  cases b with
  | false=>unfold m7 at n;rw[i]at n;cases n
  | true =>
   have w:dF f p=ops:=by unfold dF;rw[i];rfl
   rw[t]at m c;rw[w]at m c r;exact Wn (id:=id) a K l e k (La (gE d l e k) q) rfl v r u c o j m h
 | _=>grind[m7]
end Go.Proofs.YtocgkfoifehcbaaGreat
