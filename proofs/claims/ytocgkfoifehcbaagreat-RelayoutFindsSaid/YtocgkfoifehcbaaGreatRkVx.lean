/- The rules in short form: states that need not be written out, premises that the kernel computes. No program in sight. -/
import Derived.Test.YtocgkfoifehcbaaGreatRkVe
namespace Go.Proofs.YtocgkfoifehcbaaGreat
set_option linter.all false
open Go.RowKit
def akM:=@List.cons.injEq
def keys{α:Type}:List (Nat×α)→eb
 | []=>[]
 | (k,_)::r=>k::keys r
def gv(P:Program)(n k:Nat)(a:dt)(e:Exit)(s:AS):AS:=match rc P n k a e s with
 | some (_,_,s')=>s'
 | none=>s
def gw(P:Program)(n k:Nat)(b:dt)(e:Exit)(s:AS):Option (dt×Exit):=match rc P n k b e s with
 | some (ks',a,_)=>some (ks',a)
 | none=>none
def U9(s:AS)(ts a rs:eb):AS:=match s.pick ts a rs with|some s'=>s'|none=>s
def Lw(s:AS)(ts a rs:eb):Bool:=match s.pick ts a rs with|some _=>true|none=>false
def tP(P:Program)(n:Nat)(a:Array Oper)(k:Nat)(l:List Oper)(s:AS):AS:=match ot P n a k l s with
 | some (_,s')=>s'
 | none=>s
def rT(P:Program)(n:Nat)(a:Array Oper)(k:Nat)(l:List Oper)(s:AS):Option (List Oper):=match ot P n a k l s with
 | some (l',_)=>some l'
 | none=>none
def II(s:AS):List (AS→AS)→g6
 | []=>[]
 | g::r=>g s::II (g s) r
def LY(k:Nat)(b:Bool)(s:AS):AS:={ s with t:=bm k (.bool b) s.t }
def coS(a:Nat)(ar:co)(s:AS):AS:={ s with r:=bm a ar s.r,u:=a::s.u }
def xo(d:AS)(c:h8)(a:io)(b:List (Nat×co))(e:List (AS→AS)):g6:=gt d c a b::II (gt d c a b) e
def S5(d:AS)(c:h8)(a:io)(b:List (Nat×co))(e:List (AS→AS))(K:Nat):AS:=nth (xo d c a b e) K
def EW(f:Func)(p:eb):Bool:=match cat f p with|.region _ _ false=>true|_=>false
section
variable{a:Cx}{Q:Exit→Act→World→Prop}{d ks':dt}{e t:Exit}{s s':AS}{f:Func}{p:eb}{c:Array Oper}{i:Nat}
theorem ag k(b:VE a Q ks' t s')(h:DT a.P a.n k (keys s'.t) (keys s'.o) (keys s'.r) d e s=some (ks',t,s'):=by kernel_rfl):VE a Q d e s:=Vg k _ _ _ h b
theorem bw k s'(b:VE a Q ks' .normal s')(h:DT a.P a.n k (keys s'.t) (keys s'.o) (keys s'.r) d e s=some (ks',.normal,s'):=by kernel_rfl):VE a Q d e s:=Vg k _ _ _ h b
theorem b8 k(b:VE a Q ks' .normal (gv a.P a.n k d e s))(h:gw a.P a.n k d e s=some (ks',.normal):=by kernel_rfl):VE a Q d e s:=by
 grind[gw,JC,gv]
theorem aL k(b:VE a Q [] .ret (gv a.P a.n k d e s))(h:gw a.P a.n k d e s=some ([],.ret):=by kernel_rfl):VE a Q d e s:=by
 grind[gw,JC,gv]
theorem bK ts f rs(b:VE a Q d e (U9 s ts f rs))(h:Lw s ts f rs=true:=by kernel_rfl):VE a Q d e s:=by
 unfold Lw at h;split at h
 ·rename_i g c;unfold U9 at b;rw[c]at b;exact OX _ (UB c) b
 grind
theorem ai(n:Nat)(g:OT a Q d (dG f p) (aV f p n) (tP a.P a.n (dG f p) n (aV f p 0) s))(h:EW f p=true:=by kernel_rfl)(e:rT a.P a.n (dG f p) n (aV f p 0) s=some (aV f p n):=by kernel_rfl):VE a Q (.c (cat f p)::d) .normal s:=by
 have i:aV f p 0=(dG f p).toList:=by simp[aV]
 cases c:cat f p with
 | region id ops b =>
  cases b with
  | true=>unfold EW at h;rw[c]at h;cases h
  | false =>
   have j:dG f p=ops:=by unfold dG;rw[c];rfl
   grind[rT,tP,SA,xl]
 | _=>grind[EW]
theorem aQ j k(e:OT a Q d c (aV f p j) (tP a.P a.n c k (aV f p i) s))(b:rT a.P a.n c k (aV f p i) s=some (aV f p j):=by kernel_rfl):OT a Q d c (aV f p i) s:=by
 grind[rT,tP,xl]
theorem ac(e:VE a Q d .normal (tP a.P a.n c 10000 (aV f p i) s))(b:rT a.P a.n c 10000 (aV f p i) s=some []:=by kernel_rfl):OT a Q d c (aV f p i) s:=by
 grind[rT,tP,xl,TX]
theorem au(h:cb a.P a.n s (aW f p i)=some s')(k:OT a Q d c (aV f p (i+1)) s')(e:aV f p i=aW f p i::aV f p (i+1):=by kernel_rfl)(b:cH c s (aW f p i)=true:=by kernel_rfl):OT a Q d c (aV f p i) s:=Y1 _ e (ahP b h) k
theorem ah k{b c}(f:b=c)(h:VE a Q d e (LY k c s))(g:look k s.t=some (.bool b):=by kernel_rfl):VE a Q d e s:=Xv k f g h
theorem aD{l} k{b e}(f:b=e)(h:OT a Q d c l (LY k e s))(g:look k s.t=some (.bool b):=by kernel_rfl):OT a Q d c l s:=aiJ k f g h
theorem aK{g}{b}{V}(j:aX a.P g b (fun v _=>v=V))(k:OT a Q d c (aV f p (i+1)) (s.put (aW f p i).dst V))(m:aV f p i=aW f p i::aV f p (i+1):=by kernel_rfl)(l:cH c s (aW f p i)=true:=by kernel_rfl)(e:cF a.P g=true:=by kernel_rfl)
  (h:eh s (aW f p i)=some (g,b):=by kernel_rfl) (n:(cJ a.n (aW f p i).dst&&V.dg [])=true:=by kernel_rfl):OT a Q d c (aV f p i) s :=by grind[U0]
theorem ld{g}{b}{V}(h:cF a.P g=true∧aX a.P g b (fun v _=>v=V))(k:OT a Q d c (aV f p (i+1)) (s.put (aW f p i).dst V))(l:aV f p i=aW f p i::aV f p (i+1):=by kernel_rfl)(j:cH c s (aW f p i)=true:=by kernel_rfl)
  (e:eh s (aW f p i)=some (g,b):=by kernel_rfl) (m:(cJ a.n (aW f p i).dst&&V.dg [])=true:=by kernel_rfl):OT a Q d c (aV f p i) s :=by grind[U0]
theorem eS b{id}{g}{e}{V}{ar}(o:aX a.P g e (fun v z=>v=V∧look id z.r=some ar))(h:∀(N:Nat→Prop) w ι x,Rel N w ι V x→∃y,ι id=some y)
  (k:OT a Q d c (aV f p (i+1)) ((coS b ar s).put (aW f p i).dst (V.fY id b))) (t:aV f p i=aW f p i::aV f p (i+1):=by kernel_rfl) (r:cH c s (aW f p i)=true:=by kernel_rfl) (j:cF a.P g=true:=by kernel_rfl)
  (n:eh s (aW f p i)=some (g,e):=by kernel_rfl) (q:cJ a.n (aW f p i).dst=true:=by kernel_rfl) (l:V.dg []=false:=by kernel_rfl) (u:has s.u b=false:=by kernel_rfl) (m:Nat.ble (id+1) TG=true:=by kernel_rfl):OT a Q d c (aV f p i) s:=Wx _ id b t r o j h n q l u rfl k m
theorem cd{f}{p}{q} m(h:LP a Q d (cat f q) m s)(b:cat f p=.loop (cat f q):=by kernel_rfl):VE a Q (.c (cat f p)::d) .normal s:=nf m b h
def DA(P:Program)(n:Nat)(c:Array Oper)(a:g6)(o:Oper):Nat→Nat→List (Bool×Option AS)
 | _,0=>[]
 | lo,k+1=>(cH c (nth a lo) o,cb P n (nth a lo) o)::DA P n c a o (lo+1) k
def El(a:g6):Nat→Nat→List (Bool×Option AS)
 | _,0=>[]
 | lo,k+1=>(true,some (nth a lo))::El a (lo+1) k
def wb(P:Program)(n:Nat)(c:Array Oper)(a:g6):List Oper→er→List (List (Bool×Option AS))
 | o::r,.v lo k::ts=>DA P n c a o lo k::wb P n c a r ts
 | _,_=>[]
def qi(a:g6):er→List (List (Bool×Option AS))
 | []=>[]
 | .v lo k::ts=>El a lo k::qi a ts
 | _::ts=>[]::qi a ts
end
section
variable{P:Program}{n:Nat}{c:AS}{a:Array Oper}{K:Nat}{b:g6}{f:Func}{p:eb}{i:Nat}
theorem N4{o}:∀{k lo},DA P n a b o lo k=El b lo k→ey lo k fun j=>cH a (nth b j) o=true∧cb P n (nth b j) o=some (nth b j)
 | 0,_,_=>trivial
 | k+1,lo,h=>by
  simp only[DA,El,akM,w3]at h;exact⟨h.1,N4 h.2⟩
theorem Ul:∀{ts:er} {l:List Oper} {d},wb P n a b l ts=qi b ts→fd P n c a K b (l.drop ts.length) d→fd P n c a K b l (ts++d)
 | [],l,d,_,h=>by grind
 | t::ts,[],d,h,_=>by cases t<;>simp[wb,qi]at h
 | t::ts,o::r,d,h,e=>by
  cases t with
  | v lo k =>
   simp only[wb,qi,akM]at h;exact⟨gV (N4 h.1),Ul h.2 (by grind)⟩
  | _=>grind[wb,qi]
theorem ax ts{d}(e:fd P n c a K b (aV f p (i+ts.length)) d)(h:wb P n a b (aV f p i) ts=qi b ts:=by kernel_rfl):fd P n c a K b (aV f p i) (ts++d):=by
 refine Ul h ?_
 simp_all[aV]
theorem aj{t}{ts}(h:fv P n c a K b (aW f p i) t)(d:fd P n c a K b (aV f p (i+1)) ts)(e:aV f p i=aW f p i::aV f p (i+1):=by kernel_rfl):fd P n c a K b (aV f p i) (t::ts):=YL e h d
theorem bN(d:aV f p i=[]:=by kernel_rfl):fd P n c a K b (aV f p i) []:=ada d
def cf(P:Program)(n:Nat)(f:Func)(p:eb)(i:Nat)(s:AS):AS:=match cb P n s (aW f p i) with|some s'=>s'|none=>s
def nk(f:Func)(p:eb):Bool:=match cat f p with|.region _ _ true=>true|_=>false
end
theorem EP{P}{n}{b}{a}{K}{c}{l}:fd P n b a K c l []:=by cases l<;>trivial
theorem bQ{g:Cx}{Q:Exit→Act→World→Prop}{s:dt}{f:Func}{p:eb}{d:AS}{a:er}(K:Nat)(l:h8)(e:io)(k:List (Nat×co))(q:List (AS→AS))
  (m:fd g.P g.n d (dG f p) K (xo d l e k q) (aV f p 0) a) (h:VE g Q s .normal (S5 d l e k q K))
  (n:nk f p=true:=by kernel_rfl) (v:g.P.follows .mixedOrders=true:=by kernel_rfl) (r:yz (dG f p) a K=true:=by kernel_rfl) (u:nL a K=true:=by kernel_rfl) (c:nH (aV f p 0) a l=true:=by kernel_rfl) (o:jC d.u e=true:=by kernel_rfl) (j:jC d.u k=true:=by kernel_rfl):VE g Q (.c (cat f p)::s) .normal d:=by
 have t:aV f p 0=(dG f p).toList:=by simp[aV]
 cases i:cat f p with
 | region id ops b =>
  cases b with
  | false=>unfold nk at n;rw[i]at n;cases n
  | true =>
   have w:dG f p=ops:=by unfold dG;rw[i];rfl
   rw[t]at m c;rw[w]at m c r;exact ag8 (id:=id) a K l e k (II (gt d l e k) q) rfl v r u c o j m h
 | _=>grind[nk]
end Go.Proofs.YtocgkfoifehcbaaGreat
