/- The rules in short form: states that need not be written out, premises that the kernel computes. No program in sight. -/
import Derived.Test.YtocgkfoifehcbaaGreatRtVe
namespace Go.Proofs.YtocgkfoifehcbaaGreat
set_option linter.all false
open Go.RowKit
def aki:=@List.cons.injEq
def keys{α:Type}:List (Nat×α)→ed
 | []=>[]
 | (k,_)::r=>k::keys r
def gG(P:Program)(n k:Nat)(a:dt)(e:Exit)(s:AS):AS:=match qP P n k a e s with
 | some (_,_,s')=>s'
 | none=>s
def gH(P:Program)(n k:Nat)(b:dt)(e:Exit)(s:AS):Option (dt×Exit):=match qP P n k b e s with
 | some (ks',a,_)=>some (ks',a)
 | none=>none
def Pe(s:AS)(ts a rs:ed):AS:=match s.pick ts a rs with|some s'=>s'|none=>s
def M9(s:AS)(ts a rs:ed):Bool:=match s.pick ts a rs with|some _=>true|none=>false
def uk(P:Program)(n:Nat)(a:Array Oper)(k:Nat)(l:List Oper)(s:AS):AS:=match nJ P n a k l s with
 | some (_,s')=>s'
 | none=>s
def sh(P:Program)(n:Nat)(a:Array Oper)(k:Nat)(l:List Oper)(s:AS):Option (List Oper):=match nJ P n a k l s with
 | some (l',_)=>some l'
 | none=>none
def JA(s:AS):List (AS→AS)→g6
 | []=>[]
 | g::r=>g s::JA (g s) r
def Tv(k:Nat)(b:Bool)(s:AS):AS:={ s with t:=bi k (.bool b) s.t }
def coS(a:Nat)(ar:cg)(s:AS):AS:={ s with r:=bi a ar s.r,u:=a::s.u }
def nN(d:AS)(c:il)(a:iF)(b:List (Nat×cg))(e:List (AS→AS)):g6:=gt d c a b::JA (gt d c a b) e
def Ge(d:AS)(c:il)(a:iF)(b:List (Nat×cg))(e:List (AS→AS))(K:Nat):AS:=nth (nN d c a b e) K
def KU(f:Func)(p:ed):Bool:=match cat f p with|.region _ _ false=>true|_=>false
section
variable{a:Cx}{Q:Exit→Act→World→Prop}{d ks':dt}{e t:Exit}{s s':AS}{f:Func}{p:ed}{c:Array Oper}{i:Nat}
theorem ag k(b:VE a Q ks' t s')(h:Ea a.P a.n k (keys s'.t) (keys s'.o) (keys s'.r) d e s=some (ks',t,s'):=by kernel_rfl):VE a Q d e s:=PM k _ _ _ h b
theorem bz k s'(b:VE a Q ks' .normal s')(h:Ea a.P a.n k (keys s'.t) (keys s'.o) (keys s'.r) d e s=some (ks',.normal,s'):=by kernel_rfl):VE a Q d e s:=PM k _ _ _ h b
theorem bX k(b:VE a Q ks' .normal (gG a.P a.n k d e s))(h:gH a.P a.n k d e s=some (ks',.normal):=by kernel_rfl):VE a Q d e s:=by
 grind[gH,F2,gG]
theorem aN k(b:VE a Q [] .ret (gG a.P a.n k d e s))(h:gH a.P a.n k d e s=some ([],.ret):=by kernel_rfl):VE a Q d e s:=by
 grind[gH,F2,gG]
theorem bJ ts f rs(b:VE a Q d e (Pe s ts f rs))(h:M9 s ts f rs=true:=by kernel_rfl):VE a Q d e s:=by
 unfold M9 at h;split at h
 ·rename_i g c;unfold Pe at b;rw[c]at b;exact Vt _ (R9 c) b
 grind
theorem aj(n:Nat)(g:OT a Q d (dg f p) (aR f p n) (uk a.P a.n (dg f p) n (aR f p 0) s))(h:KU f p=true:=by kernel_rfl)(e:sh a.P a.n (dg f p) n (aR f p 0) s=some (aR f p n):=by kernel_rfl):VE a Q (.c (cat f p)::d) .normal s:=by
 have i:aR f p 0=(dg f p).toList:=by simp[aR]
 cases c:cat f p with
 | region id ops b =>
  cases b with
  | true=>unfold KU at h;rw[c]at h;cases h
  | false =>
   have j:dg f p=ops:=by unfold dg;rw[c];rfl
   grind[sh,uk,K2,zU]
 | _=>grind[KU]
theorem aQ j k(e:OT a Q d c (aR f p j) (uk a.P a.n c k (aR f p i) s))(b:sh a.P a.n c k (aR f p i) s=some (aR f p j):=by kernel_rfl):OT a Q d c (aR f p i) s:=by
 grind[sh,uk,zU]
theorem ac(e:VE a Q d .normal (uk a.P a.n c 10000 (aR f p i) s))(b:sh a.P a.n c 10000 (aR f p i) s=some []:=by kernel_rfl):OT a Q d c (aR f p i) s:=by
 grind[sh,uk,zU,UZ]
theorem au(h:ca a.P a.n s (aW f p i)=some s')(k:OT a Q d c (aR f p (i+1)) s')(e:aR f p i=aW f p i::aR f p (i+1):=by kernel_rfl)(b:cE c s (aW f p i)=true:=by kernel_rfl):OT a Q d c (aR f p i) s:=Ye _ e (VJ b h) k
theorem ah k{b c}(f:b=c)(h:VE a Q d e (Tv k c s))(g:look k s.t=some (.bool b):=by kernel_rfl):VE a Q d e s:=XE k f g h
theorem aF{l} k{b e}(f:b=e)(h:OT a Q d c l (Tv k e s))(g:look k s.t=some (.bool b):=by kernel_rfl):OT a Q d c l s:=Xm k f g h
theorem aU{g}{b}{V}(j:bc a.P g b (fun v _=>v=V))(k:OT a Q d c (aR f p (i+1)) (s.put (aW f p i).dst V))(m:aR f p i=aW f p i::aR f p (i+1):=by kernel_rfl)(l:cE c s (aW f p i)=true:=by kernel_rfl)(e:cK a.P g=true:=by kernel_rfl)
  (h:d8 s (aW f p i)=some (g,b):=by kernel_rfl) (n:(cQ a.n (aW f p i).dst&&V.di [])=true:=by kernel_rfl):OT a Q d c (aR f p i) s :=by grind[Qg]
theorem lT{g}{b}{V}(h:cK a.P g=true∧bc a.P g b (fun v _=>v=V))(k:OT a Q d c (aR f p (i+1)) (s.put (aW f p i).dst V))(l:aR f p i=aW f p i::aR f p (i+1):=by kernel_rfl)(j:cE c s (aW f p i)=true:=by kernel_rfl)
  (e:d8 s (aW f p i)=some (g,b):=by kernel_rfl) (m:(cQ a.n (aW f p i).dst&&V.di [])=true:=by kernel_rfl):OT a Q d c (aR f p i) s :=by grind[Qg]
theorem eT b{id}{g}{e}{V}{ar}(o:bc a.P g e (fun v z=>v=V∧look id z.r=some ar))(h:∀(N:Nat→Prop) w ι x,Rel N w ι V x→∃y,ι id=some y)
  (k:OT a Q d c (aR f p (i+1)) ((coS b ar s).put (aW f p i).dst (V.fZ id b))) (t:aR f p i=aW f p i::aR f p (i+1):=by kernel_rfl) (r:cE c s (aW f p i)=true:=by kernel_rfl) (j:cK a.P g=true:=by kernel_rfl)
  (n:d8 s (aW f p i)=some (g,e):=by kernel_rfl) (q:cQ a.n (aW f p i).dst=true:=by kernel_rfl) (l:V.di []=false:=by kernel_rfl) (u:has s.u b=false:=by kernel_rfl) (m:Nat.ble (id+1) TG=true:=by kernel_rfl):OT a Q d c (aR f p i) s:=afH _ id b t r o j h n q l u rfl k m
theorem ce{f}{p}{q} m(h:LP a Q d (cat f q) m s)(b:cat f p=.loop (cat f q):=by kernel_rfl):VE a Q (.c (cat f p)::d) .normal s:=oE m b h
def CY(P:Program)(n:Nat)(c:Array Oper)(a:g6)(o:Oper):Nat→Nat→List (Bool×Option AS)
 | _,0=>[]
 | lo,k+1=>(cE c (nth a lo) o,ca P n (nth a lo) o)::CY P n c a o (lo+1) k
def Bz(a:g6):Nat→Nat→List (Bool×Option AS)
 | _,0=>[]
 | lo,k+1=>(true,some (nth a lo))::Bz a (lo+1) k
def wg(P:Program)(n:Nat)(c:Array Oper)(a:g6):List Oper→er→List (List (Bool×Option AS))
 | o::r,.v lo k::ts=>CY P n c a o lo k::wg P n c a r ts
 | _,_=>[]
def o9(a:g6):er→List (List (Bool×Option AS))
 | []=>[]
 | .v lo k::ts=>Bz a lo k::o9 a ts
 | _::ts=>[]::o9 a ts
end
section
variable{P:Program}{n:Nat}{c:AS}{a:Array Oper}{K:Nat}{b:g6}{f:Func}{p:ed}{i:Nat}
theorem QP{o}:∀{k lo},CY P n a b o lo k=Bz b lo k→eh lo k fun j=>cE a (nth b j) o=true∧ca P n (nth b j) o=some (nth b j)
 | 0,_,_=>trivial
 | k+1,lo,h=>by
  simp only[CY,Bz,aki,zt]at h;exact⟨h.1,QP h.2⟩
theorem Nc:∀{ts:er} {l:List Oper} {d},wg P n a b l ts=o9 b ts→eL P n c a K b (l.drop ts.length) d→eL P n c a K b l (ts++d)
 | [],l,d,_,h=>by grind
 | t::ts,[],d,h,_=>by cases t<;>simp[wg,o9]at h
 | t::ts,o::r,d,h,e=>by
  cases t with
  | v lo k =>
   simp only[wg,o9,aki]at h;exact⟨fh (QP h.1),Nc h.2 (by grind)⟩
  | _=>grind[wg,o9]
theorem av ts{d}(e:eL P n c a K b (aR f p (i+ts.length)) d)(h:wg P n a b (aR f p i) ts=o9 b ts:=by kernel_rfl):eL P n c a K b (aR f p i) (ts++d):=by
 refine Nc h ?_
 simp_all[aR]
theorem ai{t}{ts}(h:fC P n c a K b (aW f p i) t)(d:eL P n c a K b (aR f p (i+1)) ts)(e:aR f p i=aW f p i::aR f p (i+1):=by kernel_rfl):eL P n c a K b (aR f p i) (t::ts):=ajo e h d
theorem bL(d:aR f p i=[]:=by kernel_rfl):eL P n c a K b (aR f p i) []:=abG d
def cd(P:Program)(n:Nat)(f:Func)(p:ed)(i:Nat)(s:AS):AS:=match ca P n s (aW f p i) with|some s'=>s'|none=>s
def jS(f:Func)(p:ed):Bool:=match cat f p with|.region _ _ true=>true|_=>false
end
theorem AX{P}{n}{b}{a}{K}{c}{l}:eL P n b a K c l []:=by cases l<;>trivial
theorem bN{g:Cx}{Q:Exit→Act→World→Prop}{s:dt}{f:Func}{p:ed}{d:AS}{a:er}(K:Nat)(l:il)(e:iF)(k:List (Nat×cg))(q:List (AS→AS))
  (m:eL g.P g.n d (dg f p) K (nN d l e k q) (aR f p 0) a) (h:VE g Q s .normal (Ge d l e k q K))
  (n:jS f p=true:=by kernel_rfl) (v:g.P.follows .mixedOrders=true:=by kernel_rfl) (r:zJ (dg f p) a K=true:=by kernel_rfl) (u:ni a K=true:=by kernel_rfl) (c:lV (aR f p 0) a l=true:=by kernel_rfl) (o:iM d.u e=true:=by kernel_rfl) (j:iM d.u k=true:=by kernel_rfl):VE g Q (.c (cat f p)::s) .normal d:=by
 have t:aR f p 0=(dg f p).toList:=by simp[aR]
 cases i:cat f p with
 | region id ops b =>
  cases b with
  | false=>unfold jS at n;rw[i]at n;cases n
  | true =>
   have w:dg f p=ops:=by unfold dg;rw[i];rfl
   rw[t]at m c;rw[w]at m c r;exact aar (id:=id) a K l e k (JA (gt d l e k) q) rfl v r u c o j m h
 | _=>grind[jS]
end Go.Proofs.YtocgkfoifehcbaaGreat
