/- Calls that turn a slice of the caller's. No program in sight. -/
import Derived.Test.YtnpmlepplfaijaaGreatIrVy
namespace Go.Proofs.YtnpmlepplfaijaaGreat
set_option linter.all false
open Go.RowKit
theorem NW{cx:Cx}{s:AS}{fn:Func}{R:Ending→World→Prop}(h:VE cx (bodyPost cx.P fn R) [] .ret s):VE cx (bodyPost cx.P fn R) [] .normal s:=fun a w ι hs=>h a w ι hs
theorem bW{α β:Type}{x:α}{f:α→Option β}{r:β}(h:(some x).bind f=some r):∃v,x=v∧f v=some r:=⟨x,rfl,h⟩
def yd(k id:Nat)(cs:List AV)(s:AS):AS:={ t:=aR k (.cptr cs) (cC id s.t),o:=de id s.o,r:=s.r,u:=s.u }
theorem HS.fo{M:Nat→Prop}{w0:aH}{w:World}{ι:Env}{s:AS}(h:HS M w0 w ι s){k id:Nat}{cs:List AV}(hnp:w0.pv id=none)(ho:look id s.o=some cs):HS M w0 w (dT ι id) (yd k id cs s):=by
 refine⟨h.below,h.old,fun i y hy=>h.use i y (jR hy).2,fun i g hg=>h.own i g (gr hg).2,fun i i' g hg hg'=>h.inj i i' g (gr hg).2 (gr hg').2,fun i cs hi=>?_,h.kr,fun i cs hi hp=>?_,fun i a hi hp=>?_,fun i y hp=>?_⟩
 ·obtain⟨u,hu,_⟩:=ia hi;exact h.ko i u hu
 ·obtain⟨u,hu,rfl⟩:=ia hi;obtain⟨y,hy⟩:=Option.isSome_iff_exists.mp hp;obtain⟨hne,hy⟩:=jR hy;obtain⟨g,T,vs,e1,e2,e3⟩:=h.objs i u hu (by rw[hy];rfl);refine⟨g,T,vs,(ew ι hne).trans e1,e2,by rw[jG];exact e3.len,e3.one,fun j x v hx hv=>?_⟩;obtain⟨y,hy,rfl⟩:=jD hx;exact((e3.rel j y v hy hv).bO (fun i hi=>ew ι hi)).mono (Nat.le_refl _) (fun b _ hb=>ij b hb) (fun _ _ _=>rfl) (fun _ _ h=>h)
 ·obtain⟨y,hy⟩:=Option.isSome_iff_exists.mp hp;obtain⟨hne,hy⟩:=jR hy;obtain⟨v,xs,e1,e2,e3,e4,e5⟩:=h.arrs i a hi (by rw[hy];rfl);refine⟨v,xs,(ew ι hne).trans e1,e2,e3,e4,fun j e he k c hc=>?_⟩;obtain⟨x,hx,hr⟩:=e5 j e he k c hc;exact⟨x,hx,hr.mono (Nat.le_refl _) (fun b _ hb=>ij b hb) (fun _ _ _=>rfl) (fun r h'=>(ew ι (fun e=>by
   rw[e]at h';obtain⟨g,T,vs,e1,_,_⟩:=h.objs id cs ho (by rw[h'];rfl);rw[e1]at h';cases h')).trans h') (fun _ _=>rfl) (fun h=>h)⟩
 ·have e:i≠id:=fun e=>by subst e;rw[hnp]at hp;cases hp
  exact⟨(ew ι e).trans (h.pin i y hp).1,(h.pin i y hp).2⟩
section
variable{cx:Cx}{Q:Exit→Act→World→Prop}{ks:List av}{s:AS}{all:Array Oper}{f:Func}{p:List Nat}{i:Nat}
theorem KF{a:Act}{w:World}{ι:Env}(hs:aQ cx s a w ι){k id:Nat}{cs:List AV}(hk:look k s.t=some (.ptr id 0))(ho:look id s.o=some cs)(hp:cJ [] cs=true)(hnp:s.u.contains (cE id)=false):aQ cx (yd k id cs s) a w (dT ι id):=by
 obtain⟨x,hx,hr⟩:=hs.tmp k _ hk;cases hr with
 | ptr _ _ _ g hg =>
  obtain⟨g',T,vs,e1,e2,e3⟩:=hs.hs.objs id cs ho (by rw[hg];rfl);rw[hg]at e1;injection e1 with e1;injection e1 with e1;injection e1 with e1;injection e1 with e1;subst e1
  refine⟨hs.hs.fo (hs.hs.np hnp) ho,hs.dfr,hs.n,fun j v hj=>?_⟩;have hj':look j (aR k (.cptr cs) (cC id s.t))=some v:=hj;rw[bV]at hj';split at hj'
  ·rename_i e;subst e;injection hj' with hj';subst hj'
   refine⟨_,hx,.cptr _ cs g 0 (fun i=>(vs[i]?).getD (.bool true)) (hs.hs.own id g (by rw[hg];rfl)).2 (fun hb=>?_) (fun i=>?_) (fun i c hc=>?_) (fun i c hc=>?_)⟩
   ·rcases hb with hb|⟨i,hb⟩
    ·exact hs.hs.sep hb (by rw[hg];rfl)
    ·obtain⟨hne,hb⟩:=gr hb;exact hne (hs.hs.inj i id g hb (by rw[hg];rfl))
   ·cases e:vs[i]? with
    | none=>rfl
    | some v=>exact e3.one v (by rw[←Array.getElem?_toList]at e;exact List.mem_of_getElem? e)
   ·have hlt:i<vs.size:=by have:=(List.getElem?_eq_some_iff.1 hc).1;rw[e3.len]at this;simpa using this
    rw[cell_of_row w g _ vs T (0,0) e2,Nat.zero_add];simp[Array.getElem?_eq_getElem hlt]
   ·have hlt:i<vs.size:=by have:=(List.getElem?_eq_some_iff.1 hc).1;rw[e3.len]at this;simpa using this
    have hv':vs.toList[i]?=some vs[i]:=by simp
    have hr:=(e3.rel i c _ hc hv').pure (iK hp i c hc) bF;have h9:=hr.mono (N':=NN cx.M (dT ι id)) (w':=w) (Nat.le_refl _) (fun b _ hb=>ij b hb) (fun _ _ _=>rfl) (fun _ _ h=>h);simpa[Array.getElem?_eq_getElem hlt]using h9
  ·obtain⟨u,hu,rfl⟩:=pe hj';obtain⟨y,hy,hr⟩:=hs.tmp j u hu;exact⟨y,hy,(hr.bO (fun i hi=>ew ι hi)).mono (Nat.le_refl _) (fun b _ hb=>ij b hb) (fun _ _ _=>rfl) (fun _ _ h=>h)⟩
theorem C8(k id:Nat)(cs:List AV){l:List Oper}(h:OT cx Q ks all l (yd k id cs s))(hk:look k s.t=some (.ptr id 0):=by kernel_rfl)(ho:look id s.o=some cs:=by kernel_rfl)(hp:cJ [] cs=true:=by kernel_rfl)(hnp:s.u.contains (cE id)=false:=by kernel_rfl):OT cx Q ks all l s:=fun a w ι hs=>h a w _ (KF hs hk ho hp hnp)
theorem RX(g:FuncId)(captured:Array Operand)(l:List AV)(k:OT cx Q ks all (aW f p (i+1)) (s.put (bh f p i).dst (.fn g l)))(hl:aW f p i=bh f p i::aW f p (i+1):=by kernel_rfl)(hg:cc all s (bh f p i)=true:=by kernel_rfl)
  (hop:(bh f p i).op=.makeFunc (.func g) #[] captured:=by kernel_rfl) (he:cS s captured.toList=some l:=by kernel_rfl) (hd:(ct cx.n (bh f p i).dst&&cJ [] l)=true:=by kernel_rfl):OT cx Q ks all (aW f p i) s:=by
 rw[hl];refine gf _ hg fun a w ι hs=>?_;refine wpList_plain rfl fun K hK=>?_;simp only[Bool.and_eq_true]at hd;obtain⟨q1,q2⟩:=kI hs he;have h3:Rel (NN cx.M ι) w ι (.fn g l) (.func (.func g) #[] (captured.map a.eval)):=by
  have h4:=Rel.fn (N:=NN cx.M ι) (w:=w) ι g l (captured.map a.eval).toList (by simp at q1⊢;omega) (fun i c y h1 h2=>(q2 i c y h1 (by simpa using h2)).pure (iK hd.2 i c h1) bF);rw[Array.toArray_toList]at h4;exact h4
 unfold Oper.wp execOp;simp only[hop,Instr.makeFunc,Sem.run_bind,Sem.run_pure,Result.andThen_ok,Array.map_empty];exact hK _ _ (k _ _ _ (hs.put (fC hd.1) h3))
end
abbrev iI(x:Int):AV:=.int .i64 x
abbrev gD{α:Type}[Inhabited α](L:List α)(i:Int):α:=List.getD L i.toNat default
def qU(b:Nat→Bool):Nat→Nat→Bool
 | _,0=>true
 | lo,k+1=>b lo&&qU b (lo+1) k
theorem Ae{b:Nat→Bool}:∀{lo k:Nat},qU b lo k=true→dd lo k fun j=>b j=true
 | _,0,_=>trivial
 | lo,k+1,h=>by
  unfold qU at h;rw[Bool.and_eq_true]at h;exact⟨h.1,Ae h.2⟩
theorem ah{P:Program}{n:Nat}{s0:AS}{all:Array Oper}{K:Nat}{σs:List AS}{o:Oper}(lo k:Nat)(hg:o.guard.isSome=true:=by kernel_rfl)(h:qU (fun j=>we all (nth σs j) o) lo k=true:=by kernel_rfl)
  (h2:qU (fun j=>(match o.dst with|some d=>(match look d (nth σs j).t with|none=>true|some (.tup [])=>Nat.ble (d+1) n|_=>false)|none=>true)) 0 (K+1)=true:=by kernel_rfl):dM P n s0 all K σs o (.off lo k):=Kj hg (Ae h) (Ae h2)
def vz(n:Nat):List Tag:=List.replicate n (.v 0 1)
theorem bb{P:Program}{n:Nat}{s0:AS}{all:Array Oper}{K:Nat}{σs:List AS}{o:Oper}(lo d:Nat){e b:Bool}(he:e=b)(hg:cc all (nth σs lo) o=true:=by kernel_rfl)(h:bn P n (nth σs lo) o=some ((nth σs lo).put (some d) (.bool e)):=by kernel_rfl)(hp:(nth σs lo).put (some d) (.bool b)=nth σs lo:=by kernel_rfl):
  dM P n s0 all K σs o (.v lo 1):=hI (eo ⟨hg,Vk d he h hp⟩ iQ)
def nu:Nat→List AV→List (Nat×AV)
 | _,[]=>[]
 | k,x::l=>(k,x)::nu (k+1) l
abbrev lm{α β:Type}(f:α→β)(l:List α):List β:=List.map f l
theorem bc{P:Program}{f:FuncId}{fn:Func}{args:List AV}{Q:AV→AS→Prop}{n:Nat}(c:Code)(hf:P.funcs[f]?=some fn)(hn:fn.ntmps=n)(h:∀M w0,VE ⟨P,n,M,w0⟩ (bodyPost P fn (bq M w0 Q)) [.c c] .normal ⟨idxs 0 args,[],[],[]⟩)
  (hb:fn.body=some c:=by kernel_rfl) (hl:decide (args.length≤n)=true:=by kernel_rfl):aN P f args Q:=Lm hf hb n hn (of_decide_eq_true hl) h
theorem aZ{cx:Cx}{Q:Exit→Act→World→Prop}{ks:List av}{e:Exit}{s:AS}(s':AS)(h:VE cx Q ks e s')(hs:s=s':=by kernel_rfl):VE cx Q ks e s:=hs ▸ h
theorem dx{P:Program}{n:Nat}{s:AS}{o:Oper}{α:Type}[Inhabited α](id sz:Nat)(enc:α→List AV){L:List α}{i:Int}{m:Nat}(hb:bi i m=true)(hm:L.length=m:=by simp only[List.length_set])(h:rx P n s o=some (id,sz,i,L.map enc):=by kernel_rfl):bn P n s o=some (s.put o.dst (.eptr id sz i.toNat 0)):=c9 id sz enc (hm ▸ hb) h
theorem bC{P:Program}{n:Nat}{s0:AS}{all:Array Oper}{K:Nat}{σs:List AS}{f:Func}{p:List Nat}{i:Nat}{ts:List Tag}{s':AS}(h:bn P n (nth σs 0) (bh f p i)=some s')(h2:dK P n s0 all K σs (aW f p (i+1)) ts)(he:s'=nth σs 0:=by kernel_rfl)(hg:cc all (nth σs 0) (bh f p i)=true:=by kernel_rfl)
  (hl:aW f p i=bh f p i::aW f p (i+1):=by kernel_rfl):dK P n s0 all K σs (aW f p i) (.v 0 1::ts):=aa (Ua h he hg) h2 hl
def Ga:Nat→Nat→List Nat→List Nat
 | 0,_,l=>l
 | k+1,x,l=>match Nat.ble x 1 with
  | true=>l
  | false=>Ga k (x / 2) (x % 2::l)
def pn(x:Nat):List Nat:=Ga 90 x []
def wq(n q:Nat):Nat:=n*2 ^ q.log2+(q-2 ^ q.log2)
section
variable{cx:Cx}{Q:Exit→Act→World→Prop}{ks:List av}{s:AS}{f:Func}{n:Nat}
abbrev cP(f:Func)(n:Nat):av:=.c (cat f (pn n))
theorem aw(a b k:Nat)(hk:VE cx Q (cP f (wq n a)::cP f (wq n b)::ks) .normal (d8 cx.P cx.n k (cP f n::ks) .normal s))(h:dX cx.P cx.n k (cP f n::ks) .normal s=some (cP f (wq n a)::cP f (wq n b)::ks,.normal):=by kernel_rfl):VE cx Q (cP f n::ks) .normal s:=cr k hk h
theorem bd(a k:Nat)(hk:VE cx Q (cP f (wq n a)::ks) .normal (d8 cx.P cx.n k (cP f n::ks) .normal s))(h:dX cx.P cx.n k (cP f n::ks) .normal s=some (cP f (wq n a)::ks,.normal):=by kernel_rfl):VE cx Q (cP f n::ks) .normal s:=cr k hk h
theorem cZ(a b c d k:Nat)(hk:VE cx Q (cP f (wq n a)::cP f (wq n b) :: .b c::cP f (wq n d)::ks) .normal (d8 cx.P cx.n k (cP f n::ks) .normal s))(h:dX cx.P cx.n k (cP f n::ks) .normal s=some (cP f (wq n a)::cP f (wq n b) :: .b c::cP f (wq n d)::ks,.normal):=by kernel_rfl):VE cx Q (cP f n::ks) .normal s:=cr k hk h
theorem bP(a b c k:Nat)(hk:VE cx Q (cP f (wq n a)::cP f (wq n b)::cP f (wq n c)::ks) .normal (d8 cx.P cx.n k (cP f n::ks) .normal s))(h:dX cx.P cx.n k (cP f n::ks) .normal s=some (cP f (wq n a)::cP f (wq n b)::cP f (wq n c)::ks,.normal):=by kernel_rfl):VE cx Q (cP f n::ks) .normal s:=cr k hk h
theorem fp(a b c k:Nat)(hk:VE cx Q (cP f (wq n a) :: .b b::cP f (wq n c)::ks) .normal (d8 cx.P cx.n k (cP f n::ks) .normal s))(h:dX cx.P cx.n k (cP f n::ks) .normal s=some (cP f (wq n a) :: .b b::cP f (wq n c)::ks,.normal):=by kernel_rfl):VE cx Q (cP f n::ks) .normal s:=cr k hk h
theorem iD(a b k:Nat)(hk:VE cx Q (cP f (wq n a) :: .b b::ks) .normal (d8 cx.P cx.n k (cP f n::ks) .normal s))(h:dX cx.P cx.n k (cP f n::ks) .normal s=some (cP f (wq n a) :: .b b::ks,.normal):=by kernel_rfl):VE cx Q (cP f n::ks) .normal s:=cr k hk h
theorem Fp{x0 x1 x2:av}(a b k:Nat)(hk:VE cx Q (cP f (wq n a)::cP f (wq n b)::ks) .normal (d8 cx.P cx.n k (x0::x1::x2::cP f n::ks) .normal s))(h:dX cx.P cx.n k (x0::x1::x2::cP f n::ks) .normal s=some (cP f (wq n a)::cP f (wq n b)::ks,.normal):=by kernel_rfl):VE cx Q (x0::x1::x2::cP f n::ks) .normal s:=cr k hk h
theorem Tw{x0 x1 x2:av}(a b c k:Nat)(hk:VE cx Q (cP f (wq n a)::cP f (wq n b)::cP f (wq n c)::ks) .normal (d8 cx.P cx.n k (x0::x1::x2::cP f n::ks) .normal s))(h:dX cx.P cx.n k (x0::x1::x2::cP f n::ks) .normal s=some (cP f (wq n a)::cP f (wq n b)::cP f (wq n c)::ks,.normal):=by kernel_rfl):VE cx Q (x0::x1::x2::cP f n::ks) .normal s:=cr k hk h
theorem mI{x0 x1 x2 x3:av}(a b k:Nat)(hk:VE cx Q (cP f (wq n a)::cP f (wq n b)::ks) .normal (d8 cx.P cx.n k (x0::x1::x2::x3::cP f n::ks) .normal s))(h:dX cx.P cx.n k (x0::x1::x2::x3::cP f n::ks) .normal s=some (cP f (wq n a)::cP f (wq n b)::ks,.normal):=by kernel_rfl):VE cx Q (x0::x1::x2::x3::cP f n::ks) .normal s:=cr k hk h
theorem Og(a b c k:Nat)(hk:VE cx Q (cP f (wq n a)::cP f (wq n b) :: .b c::ks) .normal (d8 cx.P cx.n k (cP f n::ks) .normal s))(h:dX cx.P cx.n k (cP f n::ks) .normal s=some (cP f (wq n a)::cP f (wq n b) :: .b c::ks,.normal):=by kernel_rfl):VE cx Q (cP f n::ks) .normal s:=cr k hk h
theorem cN{x0:av}(a b c d k:Nat)(hk:VE cx Q (cP f (wq n a)::cP f (wq n b) :: .b c::cP f (wq n d)::ks) .normal (d8 cx.P cx.n k (x0::cP f n::ks) .normal s))(h:dX cx.P cx.n k (x0::cP f n::ks) .normal s=some (cP f (wq n a)::cP f (wq n b) :: .b c::cP f (wq n d)::ks,.normal):=by kernel_rfl):VE cx Q (x0::cP f n::ks) .normal s:=cr k hk h
theorem dJ{x0:av}(a b k:Nat)(hk:VE cx Q (cP f (wq n a)::cP f (wq n b)::ks) .normal (d8 cx.P cx.n k (x0::cP f n::ks) .normal s))(h:dX cx.P cx.n k (x0::cP f n::ks) .normal s=some (cP f (wq n a)::cP f (wq n b)::ks,.normal):=by kernel_rfl):VE cx Q (x0::cP f n::ks) .normal s:=cr k hk h
theorem uI{x0:av}(a b c k:Nat)(hk:VE cx Q (cP f (wq n a) :: .b b::cP f (wq n c)::ks) .normal (d8 cx.P cx.n k (x0::cP f n::ks) .normal s))(h:dX cx.P cx.n k (x0::cP f n::ks) .normal s=some (cP f (wq n a) :: .b b::cP f (wq n c)::ks,.normal):=by kernel_rfl):VE cx Q (x0::cP f n::ks) .normal s:=cr k hk h
theorem gp{x0:av}(a b c k:Nat)(hk:VE cx Q (cP f (wq n a)::cP f (wq n b)::cP f (wq n c)::ks) .normal (d8 cx.P cx.n k (x0::cP f n::ks) .normal s))(h:dX cx.P cx.n k (x0::cP f n::ks) .normal s=some (cP f (wq n a)::cP f (wq n b)::cP f (wq n c)::ks,.normal):=by kernel_rfl):VE cx Q (x0::cP f n::ks) .normal s:=cr k hk h
theorem QN{x0 x1 x2 x3:av}(a b c k:Nat)(hk:VE cx Q (cP f (wq n a)::cP f (wq n b)::cP f (wq n c)::ks) .normal (d8 cx.P cx.n k (x0::x1::x2::x3::cP f n::ks) .normal s))(h:dX cx.P cx.n k (x0::x1::x2::x3::cP f n::ks) .normal s=some (cP f (wq n a)::cP f (wq n b)::cP f (wq n c)::ks,.normal):=by kernel_rfl):VE cx Q (x0::x1::x2::x3::cP f n::ks) .normal s:=cr k hk h
end
end Go.Proofs.YtnpmlepplfaijaaGreat
