/- Ranges over a function: calls that lend a strings.Builder to the rounds of a caller's loop; a round is called as a function is. No program in sight. -/
import Derived.Test.YtocgkfoifehcbaaGreatRpZ2
import Derived.RangeFuncRecord
import Derived.RangeFuncLeaves
namespace Go.Proofs.YtocgkfoifehcbaaGreat
set_option linter.all false
open Go.RowKit
def RX:=@List.cons_append
def abM:=@List.not_mem_nil
def amk:=@or_false
variable[FM]
def m8(P:Program)(l:Nat)(xs:Array Value)(w:World)(R:Ending→World→Prop):Prop :=
 ∃fn tmps assign body,(Instr.yield l xs).run P w=.ok (.round l fn tmps assign body) w∧RoundIn Fence.wide 0 P l fn tmps assign body w R
class YD where
 l:Nat
 B:Nat
 N:Nat→Prop
 L:Nat→Prop
 ws:World
 /-- what the names of the lent variables stand for;what the two result variables hold -/
 v:Nat→Value
 r:Int×Int×Int×Int
 q:Bool
class Yk [YD]:Prop where
 lt:YD.l<YD.B
 nl:¬ YD.L YD.l
 ln:∀k,YD.L k→YD.N k
structure Yw[YD](M G:Nat→Prop)(w:World):Prop where
 ml:M YD.l
 sz:YD.B≤w.heap.size
 ph:∀k,k<YD.B→¬ YD.L k→w.heap[k]?=YD.ws.heap[k]?
 mn:∀b,M b→b<YD.B→YD.N b
 g:∀k,G k→YD.L k∨YD.B≤k
 ot:w.os=YD.ws.os∧w.tape=YD.ws.tape∧w.output=YD.ws.output
def YU:d4:=[450119,440004,440005,440009,1450119,450119,1440004,440004,1440005,440005]
def gA:ew:=[(450119,450119),(440004,440004),(440005,440005)]
def eR:ew:=(440009,440009)::gA
def yA[YD]:b6:=[.int .i64 YD.r.1,.int .i64 YD.r.2.1,.int .i64 YD.r.2.2.1,.int .i64 YD.r.2.2.2]
def yB[YD]:b6:=[.bool YD.q]
abbrev yO[YD](a:b6):List f6:=[(450119,a),(440004,yA),(440005,yB)]
def j0[YD](f:Nat→Option Value):Prop:=f 450119=some (YD.v 450119)∧f 440004=some (YD.v 440004)∧f 440005=some (YD.v 440005)
def LY[YD](C:Array Value→World→(Ending→World→Prop)→Prop)(args c:b6)(ar:bZ)(R:(Nat→Prop)→az→Ending→World→Prop):Prop :=
 ∀M w (b:Env) xs,Yw M (fun k=>∃i,bg (b i)=some k) w→j0 b→HS M (fC w b (yO c)) w b ⟨[],yO c,[(440009,ar)],YU⟩→args.length=xs.size →
  (∀(i:Nat) a x,args[i]?=some a→xs[i]?=some x→Rel (NN M b) w b a x)→C xs w (R M (fC w b (yO c)))
def YT[YD](p:Prop)(a:b6)(ar:bZ)(Z:World→Prop)(M:Nat→Prop)(b:az)(e:Ending)(w':World):Prop :=
 (p∧∃s ι,e=.returned (.bool true)∧cB s.o (yO a)∧look 440009 s.r=some ar∧HS M b w' ι s)∨(e=.returned (.bool false)∧Z w')
def y6(s:AS):Bool:=(match s.u.contains (cS 440009) with|true=>false|false=>true)&&((match look 440009 s.o with|none=>true|some _=>false)&&(gA.all fun p=>match look p.1 s.r with|none=>true|some _=>false))
section
variable{c:Cx}{s:AS}{a:Act}{w:World}{ι:Env}[YD][Yk]
theorem Yw.callee(a:Yw c.M c.w0.G c.w0.w)(h:HS c.M c.w0 w ι s)(ρ:ew):Yw (fun b=>NN c.M ι b∧∀i,bg (bL ρ ι i)≠some b) (fun k=>∃i,bg (bL ρ ι i)=some k) w:=by
 have f:∀i g,bg (ι i)=some g→YD.L g∨YD.B≤g:=fun i g e=>by
  rcases (h.own i g e).1 with q|q
  ·exact .inr (oR a.sz q)
  ·exact a.g g q
 have d:∀i g,bg (bL ρ ι i)=some g→YD.L g∨YD.B≤g:=fun i g e=>by
  cases p:bL ρ ι i with
  | none=>rw[p]at e;cases e
  | some y=>grind[ik]
 refine⟨⟨.inl a.ml,fun i e=>?_⟩,oR a.sz h.below.size,fun k j n=>?_,fun b o l=>?_,fun k ⟨i,e⟩=>d i k e,h.below.os.trans a.ot.1,h.below.tape.trans a.ot.2.1,h.below.output.trans a.ot.2.2⟩
 ·rcases d i _ e with q|q
  ·exact Yk.nl q
  ·exact absurd Yk.lt (by omega)
 ·refine (h.below.block k (nx j a.sz) (fun m=>?_)).trans (a.ph k j n);rcases a.g k m with q|q
  ·grind
  grind
 ·rcases o.1 with q|⟨i,q⟩
  ·exact a.mn b q l
  ·rcases f i b q with q|q
   ·exact Yk.ln b q
   grind
theorem ajM(yb:Yw c.M c.w0.G c.w0.w)(F:j0 c.w0.pv)(g:aI c s a w ι){C:Array Value→World→(Ending→World→Prop)→Prop}(hm:∀{xs w R J},(∀e w,R e w→J e w)→C xs w R→C xs w J){P:Prop}{args K d:b6}{ar n:bZ}{Z:World→Prop}(X:LY C args K ar (YT P d n Z)){xs:Array Value}(M:nt c ι w eR args xs)
  (L:d9 eR s.o gA=some (yO K)) (t:look 440009 s.r=some ar) (f:dR eR (yO d) gA=some (yO d)) (o:y6 s=true) :
  C xs w (fun e w'=>(P∧e=.returned (.bool true)∧∃ι',aI c (gH 440009 n (yO d) s) a w' ι')∨(e=.returned (.bool false)∧Z w')):=by
 simp only[y6,g6]at o;obtain⟨N,O,k5⟩:=o;have D:s.u.contains (cS 440009)=false:=by
  cases q:s.u.contains (cS 440009) with
  | true=>rw[q]at N;cases N
  | false=>rfl
 have G:look 440009 s.o=none:=by
  cases q:look 440009 s.o with
  | some _=>rw[q]at O;cases O
  | none=>rfl
 have E:∀p∈gA,look p.1 s.r=none:=fun p r=>by
  have:=ll.1 k5 p r;cases q:look p.1 s.r with
  | some _=>rw[q]at this;cases this
  | none=>rfl
 have I:gR eR eR=true:=by kernel_rfl
 obtain⟨p1,p2,p3⟩:=F;have l:j0 (bL eR ι):=⟨(gG (by rfl)).trans (g.hs.pin _ _ p1).1,(gG (by rfl)).trans (g.hs.pin _ _ p2).1,(gG (by rfl)).trans (g.hs.pin _ _ p3).1⟩;have W:∀b,NN (fun b=>NN c.M ι b∧∀i,bg (bL eR ι i)≠some b) (bL eR ι) b→NN c.M ι b:=fun b f=>by
  rcases f with f|⟨j,f⟩
  ·exact f.1
  ·cases B:bL eR ι j with
   | none=>rw[B]at f;cases f
   | some y=>obtain⟨id,_,z⟩:=ik B;exact .inr ⟨id,by rw[z];rw[B]at f;exact f⟩
 have m:∀(i:Nat) (a:AV) (x:Value),args[i]?=some a→xs[i]?=some x→Rel (NN (fun b=>NN c.M ι b∧∀i,bg (bL eR ι i)≠some b) (bL eR ι)) w (bL eR ι) a x:=fun i v x hv H =>
  M.2 i v x hv H _ _ W (fun id j e=>gG (ff I e).1)
 have A:∀p∈gA,∃y,bL eR ι p.2=some y:=fun p r=>by
  simp only[gA,l3,abM,amk]at r;rcases r with rfl|rfl|rfl
  ·exact⟨_,l.1⟩
  ·exact⟨_,l.2.1⟩
  ·exact⟨_,l.2.2⟩
 refine hm ?_ (X _ w _ xs (yb.callee g.hs eR) l (g.hs.ub (ρo:=gA) rfl I L t (by kernel_rfl)) M.1 m)
 rintro e w' (⟨T,s1,ι1,rfl,U,z,V⟩|h)
 ·obtain⟨Q,S,g3⟩:=g.hs.DD (ρo:=gA) rfl I L t D G E A V (O1:=yO d) U z f;exact .inl ⟨T,rfl,_,Q,g.dfr,g.n,fun k v Y=>by
   obtain⟨u,hu,rfl⟩:=lJ Y;obtain⟨y,hy,t⟩:=g.tmp k u hu;exact⟨y,hy,S t⟩⟩
 ·exact .inr h
end
theorem m8.mono{P}{l}{xs}{w}{R c}(h:∀e w,R e w→c e w)(g:m8 P l xs w R):m8 P l xs w c:=by
 obtain⟨fn,t,a,b,d,f⟩:=g;exact⟨fn,t,a,b,d,f.mono h⟩
def g9(l:Nat):Value:=.func (.yield l) #[] #[]
theorem ahT{d:Cx}{s:AS}{a:Act}{w:World}{ι:Env}(i:aI d s a w ι){o:Oper}{ρ:ew}{l:Nat}{args:b6}(h:sM s o ρ=some (g9 l,args)):
  ∃xs:Array Value,(execOp a.eval o).run d.P w=(Instr.yield l xs).run d.P w∧nt d ι w ρ args xs:=by
 unfold sM at h;split at h
 case h_2=>cases h
 rename_i c f;split at h
 case h_2=>cases h
 rename_i m b;split at h
 case h_2=>cases h
 rename_i x q p r;split at h
 case h_2=>cases h
 rename_i l' e;injection h with h;injection h with j k;subst j;subst k
 have g:=i.ev p;generalize n:a.eval m=X at g;cases g with
 | vv _ _ t =>
  refine⟨c.args.map a.eval,?_,Ho i r e⟩;unfold execOp;simp only[f,resolve,b,n,g9,Deferred.ofValue,n4,By,pt,invoke,Array.empty_append]
section
variable{c:Cx}{Q:Exit→Act→World→Prop}{l:ck}{s:AS}{j:Array Oper}{f:Func}{p:d4}{i:Nat}[YD][Yk]
theorem Yz{P}{n}{a:Act}{w'}{d}{b}(o:a.defers=FM.ds)(l:a.tmps.size=n)(h:d<n):aI ⟨P,n,fun _=>False,gC w'⟩ ⟨[(d,.bool b)],[],[],[]⟩ (a.put (some d) (.bool b)) w' bA:=by
 have p:HS (fun _=>False) (gC w') w' bA ⟨[(d,.bool b)],[],[],[]⟩:=⟨⟨rfl,rfl,rfl,h7 _,fun _ _ _=>rfl⟩,fun b m=>m.elim,fun i y r=>(by cases r),fun i g j=>(by cases j),fun i s g j=>(by cases j),fun i cs c=>(by cases c),fun i a c=>(by cases c),fun i cs c=>(by cases c),fun i a c=>(by cases c),fun i v q=>(by cases q)⟩;refine⟨p,o,by simp[Act.put,l],fun k v f=>?_⟩;simp only[look]at f;split at f
 ·rename_i e;subst e;injection f with f;subst f
  exact⟨.bool b,by simp[Act.put,l,h],.bool _ _⟩
 grind
theorem TJ(L:Yw c.M c.w0.G c.w0.w)(n:j0 c.w0.pv){a}{w}{ι}(o:aI c s a w ι){u}{d:Nat}{r b}{ar g}{args}{Z}{C}(D:∀{xs w R q},(∀e w,R e w→q e w)→C xs w R→C xs w q)(B:LY C args r ar (YT u b g Z))
  (y:∃xs:Array Value,nt c ι w eR args xs∧∀{R:Ending→World→Prop} {K:Act→World→Prop},C xs w R→(∀e w',R e w'→∃v,e=.returned v∧K (a.put (some d) v) w')→Dl c.P { aL f p i with guard:=none } a K (Kw c.P Q l) ((execOp a.eval { aL f p i with guard:=none }).run c.P w))
  (I:u→OT c Q l j (aJ f p (i+1)) ((gH 440009 g (yO b) s).put (some d) (.bool true))) (J:∀w',Z w'→OT ⟨c.P,c.n,fun _=>False,gC w'⟩ Q l j (aJ f p (i+1)) ⟨[(d,.bool false)],[],[],[]⟩)
  (z:d9 eR s.o gA=some (yO r)) (F:look 440009 s.r=some ar) (A:dR eR (yO b) gA=some (yO b)) (E:d<c.n) (m:y6 s=true):wpListIn FF 0 c.P j (Kw c.P Q l) ({ aL f p i with guard:=none }::aJ f p (i+1)) a w:=by
 refine v9 rfl fun K t=>dK ?_;obtain⟨xs,H,G⟩:=y;refine G (ajM (C:=C) L n o D B H z F A m) ?_
 rintro e w' (⟨x,rfl,ι',h⟩|⟨rfl,h⟩)
 ·exact⟨_,rfl,t _ _ (I x _ _ _ (h.put (fun k M=>by grind) (.bool _ _)))⟩
 ·exact⟨_,rfl,t _ _ (J w' h _ _ _ (Yz o.dfr o.n E))⟩
theorem aef(N:Yw c.M c.w0.G c.w0.w)(n:j0 c.w0.pv){u}{d:Nat}{o g}{ar k}{args}{Z}(B:LY (m8 c.P YD.l) args o ar (YT u g k Z))(z:d9 eR s.o gA=some (yO o))(A:dR eR (yO g) gA=some (yO g))
  (I:u→OT c Q l j (aJ f p (i+1)) ((gH 440009 k (yO g) s).put (some d) (.bool true))) (J:∀w',Z w'→OT ⟨c.P,c.n,fun _=>False,gC w'⟩ Q l j (aJ f p (i+1)) ⟨[(d,.bool false)],[],[],[]⟩)
  (F:aJ f p i=aL f p i::aJ f p (i+1):=by kernel_rfl) (D:cv j s (aL f p i)=true:=by kernel_rfl) (y:sM s { aL f p i with guard:=none } eR=some (g9 YD.l,args):=by kernel_rfl) (O:(aL f p i).dst=some d:=by kernel_rfl)
  (H:look 440009 s.r=some ar:=by kernel_rfl) (G:Nat.ble (d+1) c.n=true:=by kernel_rfl) (m:y6 s=true:=by kernel_rfl):OT c Q l j (aJ f p i) s:=by
 rw[F];refine eL _ D fun a w ι r=>TJ N n r (C:=m8 c.P YD.l) (fun h E=>E.mono h) B ?_ I J z H A (hF G) m;obtain⟨xs,L,M⟩:=ahT r y;refine⟨xs,M,fun {R K} ⟨fn,t,q,b,v,x⟩ P=>?_⟩;rw[L,v];refine x.mono (fun e w' h=>?_)
 grind
theorem VQ(L:Yw c.M c.w0.G c.w0.w)(o:j0 c.w0.pv){t}{d:Nat}{q b}{ar k}{g}{args}{Z}(z:LY (Calls c.P g) args q ar (YT t b k Z))(x:d9 eR s.o gA=some (yO q))(y:dR eR (yO b) gA=some (yO b))
  (G:t→OT c Q l j (aJ f p (i+1)) ((gH 440009 k (yO b) s).put (some d) (.bool true))) (H:∀w',Z w'→OT ⟨c.P,c.n,fun _=>False,gC w'⟩ Q l j (aJ f p (i+1)) ⟨[(d,.bool false)],[],[],[]⟩)
  (D:aJ f p i=aL f p i::aJ f p (i+1):=by kernel_rfl) (A:cv j s (aL f p i)=true:=by kernel_rfl) (m:cN c.P g=true:=by kernel_rfl) (v:mc s { aL f p i with guard:=none } eR=some (g,args):=by kernel_rfl) (M:(aL f p i).dst=some d:=by kernel_rfl)
  (F:look 440009 s.r=some ar:=by kernel_rfl) (E:Nat.ble (d+1) c.n=true:=by kernel_rfl) (n:y6 s=true:=by kernel_rfl):OT c Q l j (aJ f p i) s:=by
 rw[D];refine eL _ A fun a w ι r=>TJ L o r (C:=Calls c.P g) (fun h B=>B.mono h) z ?_ G H x F y (hF E) n;obtain⟨xs,I,J⟩:=wD r v m;refine⟨xs,J,fun {R K} u N=>?_⟩;rw[I,iL];refine u.mono (fun e w' h=>?_)
 grind
end
theorem Mn[YD]{P:Program}{f:FuncId}{fn:Func}{c:Code}{args j:b6}{ar:bZ}{R:(Nat→Prop)→az→Ending→World→Prop}(r:P.funcs[f]?=some fn)(q:fn.body=some c)(n:Nat)(y:fn.ntmps=n)(x:args.length≤n)
  (h:∀M i,Yw M i.G i.w→j0 i.pv→VE (fm:=fm0) ⟨P,n,M,i⟩ (bodyPost P fn (R M i)) [.c c] .normal ⟨idxs 0 args,yO j,[(440009,ar)],YU⟩):LY (Calls P f) args j ar R:=by
 intro M w p xs u o b m t;refine amy r q ?_;have g:j0 (fC w p (yO j)).pv:=o;refine rQ (h M (fC w p (yO j)) u g { tmps:=xs++Array.replicate (fn.ntmps-xs.size) undef,defers:=[] } w p ?_) (fun e a w' s=>?_)
 ·refine @aI.mk fm0 _ _ _ _ _ ⟨b.below,b.old,b.use,b.own,b.inj,b.ko,b.kr,b.objs,b.arrs,b.pin⟩ rfl ?_ (fun k v l=>?_)
  ·simp;omega
  ·rw[nM,iF (n3 _),aiE]at l;have d:k<xs.size:=by rw[←m];exact(g7.1 l).1
   refine⟨xs[k],?_,t k v _ l (h8 d)⟩;simp only[];rw[An d,h8 d]
 ·cases e<;>exact s
def c9(b:Bool):b6:=[nD b 450119,.ref 440009]
def dQ(L:b5):bZ:=⟨5,1,List.map (ak .u8) L⟩
abbrev BS:=Bool×b5
def dj{α:Type}(Y:α→BS→Option BS):List α→BS→BS ⊕ α
 | [],s=>.inl s
 | a::r,s=>match Y a s with
  | some s'=>dj Y r s'
  | none=>.inr a
theorem Qq{α}{Y:α→BS→Option BS}:∀{l m} {s},dj Y (l++m) s=match dj Y l s with
  | .inl s'=>dj Y m s'
  | .inr a=>.inr a
 | [],_,_=>rfl
 | a::r,m,s=>by
  simp only[RX,dj];cases Y a s with
  | none=>rfl
  | some s'=>exact Qq
def jJ{α:Type}(G:α→BS→Prop)(Y:α→BS→Option BS):List α→BS→Prop
 | [],_=>True
 | a::r,s=>G a s∧match Y a s with
  | some s'=>jJ G Y r s'
  | none=>True
theorem H2{α}{G:α→BS→Prop}{Y}:∀{l m} {s},jJ G Y (l++m) s→jJ G Y l s∧∀s',dj Y l s=.inl s'→jJ G Y m s'
 | [],m,s,h=>⟨trivial,fun s' e=>by injection e with e;grind⟩
 | a::r,m,s,h=>by
  simp only[RX,jJ,dj]at h⊢;cases b:Y a s with
  | none=>grind
  | some c=>simp only[b]at h⊢;exact⟨⟨h.1,(H2 h.2).1⟩,(H2 h.2).2⟩
def gP{α:Type}:BS ⊕ α→Prop
 | .inl _=>True
 | .inr _=>False
def gS{α:Type}:BS ⊕ α→BS
 | .inl s=>s
 | .inr _=>(false,[])
def gZ{α:Type}(Z:α→World→Prop):BS ⊕ α→World→Prop
 | .inl _=>fun _=>False
 | .inr a=>Z a
abbrev YG[YD]{α}(g:BS ⊕ α)(Z:α→World→Prop):(Nat→Prop)→az→Ending→World→Prop:=YT (gP g) (c9 (gS g).1) (dQ (gS g).2) (gZ Z g)
theorem Ky[YD]{o}{b}(h:look 450119 o=some (c9 b))(a:look 440004 o=some yA)(c:look 440005 o=some yB):d9 eR o gA=some (yO (c9 b)):=by
 unfold gA d9 d9 d9 d9;rw[h,a,c];cases b<;>rfl
theorem H3[YD] b:dR eR (yO (c9 b)) gA=some (yO (c9 b)):=by cases b<;>rfl
end Go.Proofs.YtocgkfoifehcbaaGreat
