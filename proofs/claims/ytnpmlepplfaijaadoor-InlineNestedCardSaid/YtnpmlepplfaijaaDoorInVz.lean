/- Calls that turn a slice of the caller's. No program in sight. -/
import Derived.Test.YtnpmlepplfaijaaDoorInVy
namespace Go.Proofs.YtnpmlepplfaijaaDoor
set_option linter.all false
open Go.RowKit
theorem Gc{cx:Cx}{s:AS}{fn:Func}{R:Ending→World→Prop}(h:VE cx (bodyPost cx.P fn R) [] .ret s):VE cx (bodyPost cx.P fn R) [] .normal s:=fun a w ι hs=>h a w ι hs
theorem co{α β:Type}{x:α}{f:α→Option β}{r:β}(h:(some x).bind f=some r):∃v,x=v∧f v=some r:=⟨x,rfl,h⟩
def vJ(k id:Nat)(cs:List AV)(s:AS):AS:={ t:=aQ k (.cptr cs) (cB id s.t),o:=dK id s.o,r:=s.r,u:=s.u }
theorem HS.fo{M:Nat→Prop}{w0:aC}{w:World}{ι:Env}{s:AS}(h:HS M w0 w ι s){k id:Nat}{cs:List AV}(hnp:w0.pv id=none)(ho:look id s.o=some cs):HS M w0 w (dE ι id) (vJ k id cs s):=by
 refine⟨h.below,h.old,fun i y hy=>h.use i y (gE hy).2,fun i g hg=>h.own i g (fm hg).2,fun i i' g hg hg'=>h.inj i i' g (fm hg).2 (fm hg').2,fun i cs hi=>?_,h.kr,fun i cs hi hp=>?_,fun i a hi hp=>?_,fun i y hp=>?_⟩
 ·obtain⟨u,hu,_⟩:=gB hi;exact h.ko i u hu
 ·obtain⟨u,hu,rfl⟩:=gB hi;obtain⟨y,hy⟩:=Option.isSome_iff_exists.mp hp;obtain⟨hne,hy⟩:=gE hy;obtain⟨g,T,vs,e1,e2,e3⟩:=h.objs i u hu (by rw[hy];rfl);refine⟨g,T,vs,(dU ι hne).trans e1,e2,by rw[ii];exact e3.len,e3.one,fun j x v hx hv=>?_⟩;obtain⟨y,hy,rfl⟩:=hI hx;exact((e3.rel j y v hy hv).bK (fun i hi=>dU ι hi)).mono (Nat.le_refl _) (fun b _ hb=>fJ b hb) (fun _ _ _=>rfl) (fun _ _ h=>h)
 ·obtain⟨y,hy⟩:=Option.isSome_iff_exists.mp hp;obtain⟨hne,hy⟩:=gE hy;obtain⟨v,xs,e1,e2,e3,e4,e5⟩:=h.arrs i a hi (by rw[hy];rfl);refine⟨v,xs,(dU ι hne).trans e1,e2,e3,e4,fun j e he k c hc=>?_⟩;obtain⟨x,hx,hr⟩:=e5 j e he k c hc;exact⟨x,hx,hr.mono (Nat.le_refl _) (fun b _ hb=>fJ b hb) (fun _ _ _=>rfl) (fun r h'=>(dU ι (fun e=>by
   rw[e]at h';obtain⟨g,T,vs,e1,_,_⟩:=h.objs id cs ho (by rw[h'];rfl);rw[e1]at h';cases h')).trans h') (fun _ _=>rfl) (fun h=>h)⟩
 ·have e:i≠id:=fun e=>by subst e;rw[hnp]at hp;cases hp
  exact⟨(dU ι e).trans (h.pin i y hp).1,(h.pin i y hp).2⟩
section
variable{cx:Cx}{Q:Exit→Act→World→Prop}{ks:List av}{s:AS}{all:Array Oper}{f:Func}{p:List Nat}{i:Nat}
theorem I9{a:Act}{w:World}{ι:Env}(hs:aI cx s a w ι){k id:Nat}{cs:List AV}(hk:look k s.t=some (.ptr id 0))(ho:look id s.o=some cs)(hp:cF [] cs=true)(hnp:s.u.contains (cD id)=false):aI cx (vJ k id cs s) a w (dE ι id):=by
 obtain⟨x,hx,hr⟩:=hs.tmp k _ hk;cases hr with
 | ptr _ _ _ g hg =>
  obtain⟨g',T,vs,e1,e2,e3⟩:=hs.hs.objs id cs ho (by rw[hg];rfl);rw[hg]at e1;injection e1 with e1;injection e1 with e1;injection e1 with e1;injection e1 with e1;subst e1
  refine⟨hs.hs.fo (hs.hs.np hnp) ho,hs.dfr,hs.n,fun j v hj=>?_⟩;have hj':look j (aQ k (.cptr cs) (cB id s.t))=some v:=hj;rw[bS]at hj';split at hj'
  ·rename_i e;subst e;injection hj' with hj';subst hj'
   refine⟨_,hx,.cptr _ cs g 0 (fun i=>(vs[i]?).getD (.bool true)) (hs.hs.own id g (by rw[hg];rfl)).2 (fun hb=>?_) (fun i=>?_) (fun i c hc=>?_) (fun i c hc=>?_)⟩
   ·rcases hb with hb|⟨i,hb⟩
    ·exact hs.hs.sep hb (by rw[hg];rfl)
    ·obtain⟨hne,hb⟩:=fm hb;exact hne (hs.hs.inj i id g hb (by rw[hg];rfl))
   ·cases e:vs[i]? with
    | none=>rfl
    | some v=>exact e3.one v (by rw[←Array.getElem?_toList]at e;exact List.mem_of_getElem? e)
   ·have hlt:i<vs.size:=by have:=(List.getElem?_eq_some_iff.1 hc).1;rw[e3.len]at this;simpa using this
    rw[cell_of_row w g _ vs T (0,0) e2,Nat.zero_add];simp[Array.getElem?_eq_getElem hlt]
   ·have hlt:i<vs.size:=by have:=(List.getElem?_eq_some_iff.1 hc).1;rw[e3.len]at this;simpa using this
    have hv':vs.toList[i]?=some vs[i]:=by simp
    have hr:=(e3.rel i c _ hc hv').pure (gy hp i c hc) bm;have h9:=hr.mono (N':=NN cx.M (dE ι id)) (w':=w) (Nat.le_refl _) (fun b _ hb=>fJ b hb) (fun _ _ _=>rfl) (fun _ _ h=>h);simpa[Array.getElem?_eq_getElem hlt]using h9
  ·obtain⟨u,hu,rfl⟩:=mn hj';obtain⟨y,hy,hr⟩:=hs.tmp j u hu;exact⟨y,hy,(hr.bK (fun i hi=>dU ι hi)).mono (Nat.le_refl _) (fun b _ hb=>fJ b hb) (fun _ _ _=>rfl) (fun _ _ h=>h)⟩
theorem Bi(k id:Nat)(cs:List AV){l:List Oper}(h:OT cx Q ks all l (vJ k id cs s))(hk:look k s.t=some (.ptr id 0):=by kernel_rfl)(ho:look id s.o=some cs:=by kernel_rfl)(hp:cF [] cs=true:=by kernel_rfl)(hnp:s.u.contains (cD id)=false:=by kernel_rfl):OT cx Q ks all l s:=fun a w ι hs=>h a w _ (I9 hs hk ho hp hnp)
theorem I4(g:FuncId)(captured:Array Operand)(l:List AV)(k:OT cx Q ks all (aL f p (i+1)) (s.put (aV f p i).dst (.fn g l)))(hl:aL f p i=aV f p i::aL f p (i+1):=by kernel_rfl)(hg:bP all s (aV f p i)=true:=by kernel_rfl)
  (hop:(aV f p i).op=.makeFunc (.func g) #[] captured:=by kernel_rfl) (he:cw s captured.toList=some l:=by kernel_rfl) (hd:(ci cx.n (aV f p i).dst&&cF [] l)=true:=by kernel_rfl):OT cx Q ks all (aL f p i) s:=by
 rw[hl];refine fA _ hg fun a w ι hs=>?_;refine wpList_plain rfl fun K hK=>?_;simp only[Bool.and_eq_true]at hd;obtain⟨q1,q2⟩:=jA hs he;have h3:Rel (NN cx.M ι) w ι (.fn g l) (.func (.func g) #[] (captured.map a.eval)):=by
  have h4:=Rel.fn (N:=NN cx.M ι) (w:=w) ι g l (captured.map a.eval).toList (by simp at q1⊢;omega) (fun i c y h1 h2=>(q2 i c y h1 (by simpa using h2)).pure (gy hd.2 i c h1) bm);rw[Array.toArray_toList]at h4;exact h4
 unfold Oper.wp execOp;simp only[hop,Instr.makeFunc,Sem.run_bind,Sem.run_pure,Result.andThen_ok,Array.map_empty];exact hK _ _ (k _ _ _ (hs.put (eU hd.1) h3))
end
abbrev iI(x:Int):AV:=.int .i64 x
abbrev gD{α:Type}[Inhabited α](L:List α)(i:Int):α:=List.getD L i.toNat default
def ow(b:Nat→Bool):Nat→Nat→Bool
 | _,0=>true
 | lo,k+1=>b lo&&ow b (lo+1) k
theorem wo{b:Nat→Bool}:∀{lo k:Nat},ow b lo k=true→cL lo k fun j=>b j=true
 | _,0,_=>trivial
 | lo,k+1,h=>by
  unfold ow at h;rw[Bool.and_eq_true]at h;exact⟨h.1,wo h.2⟩
theorem aE{P:Program}{n:Nat}{s0:AS}{all:Array Oper}{K:Nat}{σs:List AS}{o:Oper}(lo k:Nat)(hg:o.guard.isSome=true:=by kernel_rfl)(h:ow (fun j=>qt all (nth σs j) o) lo k=true:=by kernel_rfl)
  (h2:ow (fun j=>(match o.dst with|some d=>(match look d (nth σs j).t with|none=>true|some (.tup [])=>Nat.ble (d+1) n|_=>false)|none=>true)) 0 (K+1)=true:=by kernel_rfl):dP P n s0 all K σs o (.off lo k):=IC hg (wo h) (wo h2)
def vz(n:Nat):List Tag:=List.replicate n (.v 0 1)
theorem c7{P:Program}{n:Nat}{s0:AS}{all:Array Oper}{K:Nat}{σs:List AS}{o:Oper}(lo d:Nat){e b:Bool}(he:e=b)(hg:bP all (nth σs lo) o=true:=by kernel_rfl)(h:bj P n (nth σs lo) o=some ((nth σs lo).put (some d) (.bool e)):=by kernel_rfl)(hp:(nth σs lo).put (some d) (.bool b)=nth σs lo:=by kernel_rfl):
  dP P n s0 all K σs o (.v lo 1):=j7 (iP ⟨hg,Ir d he h hp⟩ ni)
def nu:Nat→List AV→List (Nat×AV)
 | _,[]=>[]
 | k,x::l=>(k,x)::nu (k+1) l
abbrev lm{α β:Type}(f:α→β)(l:List α):List β:=List.map f l
theorem bl{P:Program}{f:FuncId}{fn:Func}{args:List AV}{Q:AV→AS→Prop}{n:Nat}(c:Code)(hf:P.funcs[f]?=some fn)(hn:fn.ntmps=n)(h:∀M w0,VE ⟨P,n,M,w0⟩ (bodyPost P fn (bu M w0 Q)) [.c c] .normal ⟨idxs 0 args,[],[],[]⟩)
  (hb:fn.body=some c:=by kernel_rfl) (hl:decide (args.length≤n)=true:=by kernel_rfl):aS P f args Q:=GM hf hb n hn (of_decide_eq_true hl) h
theorem bi{cx:Cx}{Q:Exit→Act→World→Prop}{ks:List av}{e:Exit}{s:AS}(s':AS)(h:VE cx Q ks e s')(hs:s=s':=by kernel_rfl):VE cx Q ks e s:=hs ▸ h
theorem cA{P:Program}{n:Nat}{s:AS}{o:Oper}{α:Type}[Inhabited α](id sz:Nat)(enc:α→List AV){L:List α}{i:Int}{m:Nat}(hb:bh i m=true)(hm:L.length=m:=by simp only[List.length_set])(h:tS P n s o=some (id,sz,i,L.map enc):=by kernel_rfl):bj P n s o=some (s.put o.dst (.eptr id sz i.toNat 0)):=d6 id sz enc (hm ▸ hb) h
theorem bd{P:Program}{n:Nat}{s0:AS}{all:Array Oper}{K:Nat}{σs:List AS}{f:Func}{p:List Nat}{i:Nat}{ts:List Tag}{s':AS}(h:bj P n (nth σs 0) (aV f p i)=some s')(h2:dC P n s0 all K σs (aL f p (i+1)) ts)(he:s'=nth σs 0:=by kernel_rfl)(hg:bP all (nth σs 0) (aV f p i)=true:=by kernel_rfl)
  (hl:aL f p i=aV f p i::aL f p (i+1):=by kernel_rfl):dC P n s0 all K σs (aL f p i) (.v 0 1::ts):=aj (I2 h he hg) h2 hl
def xH:Nat→Nat→List Nat→List Nat
 | 0,_,l=>l
 | k+1,x,l=>match Nat.ble x 1 with
  | true=>l
  | false=>xH k (x / 2) (x % 2::l)
def pn(x:Nat):List Nat:=xH 90 x []
def wq(n q:Nat):Nat:=n*2 ^ q.log2+(q-2 ^ q.log2)
section
variable{cx:Cx}{Q:Exit→Act→World→Prop}{ks:List av}{s:AS}{f:Func}{n:Nat}
abbrev cP(f:Func)(n:Nat):av:=.c (cat f (pn n))
theorem aA(a b k:Nat)(hk:VE cx Q (cP f (wq n a)::cP f (wq n b)::ks) .normal (ed cx.P cx.n k (cP f n::ks) .normal s))(h:d4 cx.P cx.n k (cP f n::ks) .normal s=some (cP f (wq n a)::cP f (wq n b)::ks,.normal):=by kernel_rfl):VE cx Q (cP f n::ks) .normal s:=cC k hk h
theorem ba(a k:Nat)(hk:VE cx Q (cP f (wq n a)::ks) .normal (ed cx.P cx.n k (cP f n::ks) .normal s))(h:d4 cx.P cx.n k (cP f n::ks) .normal s=some (cP f (wq n a)::ks,.normal):=by kernel_rfl):VE cx Q (cP f n::ks) .normal s:=cC k hk h
theorem du(a b c d k:Nat)(hk:VE cx Q (cP f (wq n a)::cP f (wq n b) :: .b c::cP f (wq n d)::ks) .normal (ed cx.P cx.n k (cP f n::ks) .normal s))(h:d4 cx.P cx.n k (cP f n::ks) .normal s=some (cP f (wq n a)::cP f (wq n b) :: .b c::cP f (wq n d)::ks,.normal):=by kernel_rfl):VE cx Q (cP f n::ks) .normal s:=cC k hk h
theorem cj(a b c k:Nat)(hk:VE cx Q (cP f (wq n a)::cP f (wq n b)::cP f (wq n c)::ks) .normal (ed cx.P cx.n k (cP f n::ks) .normal s))(h:d4 cx.P cx.n k (cP f n::ks) .normal s=some (cP f (wq n a)::cP f (wq n b)::cP f (wq n c)::ks,.normal):=by kernel_rfl):VE cx Q (cP f n::ks) .normal s:=cC k hk h
theorem iS(a b c k:Nat)(hk:VE cx Q (cP f (wq n a) :: .b b::cP f (wq n c)::ks) .normal (ed cx.P cx.n k (cP f n::ks) .normal s))(h:d4 cx.P cx.n k (cP f n::ks) .normal s=some (cP f (wq n a) :: .b b::cP f (wq n c)::ks,.normal):=by kernel_rfl):VE cx Q (cP f n::ks) .normal s:=cC k hk h
theorem gV(a b k:Nat)(hk:VE cx Q (cP f (wq n a) :: .b b::ks) .normal (ed cx.P cx.n k (cP f n::ks) .normal s))(h:d4 cx.P cx.n k (cP f n::ks) .normal s=some (cP f (wq n a) :: .b b::ks,.normal):=by kernel_rfl):VE cx Q (cP f n::ks) .normal s:=cC k hk h
theorem Fm{x0 x1 x2:av}(a b c k:Nat)(hk:VE cx Q (cP f (wq n a)::cP f (wq n b)::cP f (wq n c)::ks) .normal (ed cx.P cx.n k (x0::x1::x2::cP f n::ks) .normal s))(h:d4 cx.P cx.n k (x0::x1::x2::cP f n::ks) .normal s=some (cP f (wq n a)::cP f (wq n b)::cP f (wq n c)::ks,.normal):=by kernel_rfl):VE cx Q (x0::x1::x2::cP f n::ks) .normal s:=cC k hk h
theorem nz{x0 x1 x2 x3:av}(a b k:Nat)(hk:VE cx Q (cP f (wq n a)::cP f (wq n b)::ks) .normal (ed cx.P cx.n k (x0::x1::x2::x3::cP f n::ks) .normal s))(h:d4 cx.P cx.n k (x0::x1::x2::x3::cP f n::ks) .normal s=some (cP f (wq n a)::cP f (wq n b)::ks,.normal):=by kernel_rfl):VE cx Q (x0::x1::x2::x3::cP f n::ks) .normal s:=cC k hk h
theorem dv{x0:av}(a b c d k:Nat)(hk:VE cx Q (cP f (wq n a)::cP f (wq n b) :: .b c::cP f (wq n d)::ks) .normal (ed cx.P cx.n k (x0::cP f n::ks) .normal s))(h:d4 cx.P cx.n k (x0::cP f n::ks) .normal s=some (cP f (wq n a)::cP f (wq n b) :: .b c::cP f (wq n d)::ks,.normal):=by kernel_rfl):VE cx Q (x0::cP f n::ks) .normal s:=cC k hk h
theorem gm{x0:av}(a b k:Nat)(hk:VE cx Q (cP f (wq n a)::cP f (wq n b)::ks) .normal (ed cx.P cx.n k (x0::cP f n::ks) .normal s))(h:d4 cx.P cx.n k (x0::cP f n::ks) .normal s=some (cP f (wq n a)::cP f (wq n b)::ks,.normal):=by kernel_rfl):VE cx Q (x0::cP f n::ks) .normal s:=cC k hk h
theorem Ei{x0:av}(a b c k:Nat)(hk:VE cx Q (cP f (wq n a) :: .b b::cP f (wq n c)::ks) .normal (ed cx.P cx.n k (x0::cP f n::ks) .normal s))(h:d4 cx.P cx.n k (x0::cP f n::ks) .normal s=some (cP f (wq n a) :: .b b::cP f (wq n c)::ks,.normal):=by kernel_rfl):VE cx Q (x0::cP f n::ks) .normal s:=cC k hk h
theorem mc{x0:av}(a b c k:Nat)(hk:VE cx Q (cP f (wq n a)::cP f (wq n b)::cP f (wq n c)::ks) .normal (ed cx.P cx.n k (x0::cP f n::ks) .normal s))(h:d4 cx.P cx.n k (x0::cP f n::ks) .normal s=some (cP f (wq n a)::cP f (wq n b)::cP f (wq n c)::ks,.normal):=by kernel_rfl):VE cx Q (x0::cP f n::ks) .normal s:=cC k hk h
theorem Kg{x0 x1 x2 x3:av}(a b c k:Nat)(hk:VE cx Q (cP f (wq n a)::cP f (wq n b)::cP f (wq n c)::ks) .normal (ed cx.P cx.n k (x0::x1::x2::x3::cP f n::ks) .normal s))(h:d4 cx.P cx.n k (x0::x1::x2::x3::cP f n::ks) .normal s=some (cP f (wq n a)::cP f (wq n b)::cP f (wq n c)::ks,.normal):=by kernel_rfl):VE cx Q (x0::x1::x2::x3::cP f n::ks) .normal s:=cC k hk h
end
end Go.Proofs.YtnpmlepplfaijaaDoor
