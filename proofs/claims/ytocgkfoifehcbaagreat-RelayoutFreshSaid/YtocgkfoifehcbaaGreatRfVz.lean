/- Calls that turn a slice of the caller's. No program in sight. -/
import Derived.Test.YtocgkfoifehcbaaGreatRfVy
namespace Go.Proofs.YtocgkfoifehcbaaGreat
set_option linter.all false
open Go.RowKit
def pY(w:World)(id0:Nat)(v0:Value):aE:=⟨w,fun g=>bm (some v0)=some g,fun i=>if i=id0 then some v0 else none⟩
theorem Jf{w:World}{e:TypeId}{sz n:Nat}{v:Value}{ys:List Value}(h:w.ownsRow 0 e sz v n ys){g:Nat}(hg:bm (some v)=some g):g<w.heap.size:=by
 obtain⟨hv,_⟩|⟨g2,cap,cur,hv,_,hgg,_⟩:=h.2
 ·rw[hv]at hg;cases hg
 ·rw[hv]at hg;have hg':some g2=some g:=hg;injection hg' with hg';subst hg'
  exact(Array.getElem?_eq_some_iff.1 hgg).1
theorem A3{cx:Cx}{s:AS}{fn:Func}{R:Ending→World→Prop}(h:VE cx (bodyPost cx.P fn R) [] .ret s):VE cx (bodyPost cx.P fn R) [] .normal s:=fun a w ι hs=>h a w ι hs
theorem ci{α β:Type}{x:α}{f:α→Option β}{r:β}(h:(some x).bind f=some r):∃v,x=v∧f v=some r:=⟨x,rfl,h⟩
def zX(k id:Nat)(cs:List AV)(s:AS):AS:={ t:=aZ k (.cptr cs) (cQ id s.t),o:=dJ id s.o,r:=s.r,u:=s.u }
theorem HS.fo{M:Nat→Prop}{w0:aE}{w:World}{ι:Env}{s:AS}(h:HS M w0 w ι s){k id:Nat}{cs:List AV}(hnp:w0.pv id=none)(ho:look id s.o=some cs):HS M w0 w (dX ι id) (zX k id cs s):=by
 refine⟨h.below,h.old,fun i y hy=>h.use i y (jP hy).2,fun i g hg=>h.own i g (gy hg).2,fun i i' g hg hg'=>h.inj i i' g (gy hg).2 (gy hg').2,fun i cs hi=>?_,h.kr,fun i cs hi hp=>?_,fun i a hi hp=>?_,fun i y hp=>?_⟩
 ·obtain⟨u,hu,_⟩:=gP hi;exact h.ko i u hu
 ·obtain⟨u,hu,rfl⟩:=gP hi;obtain⟨y,hy⟩:=Option.isSome_iff_exists.mp hp;obtain⟨hne,hy⟩:=jP hy;obtain⟨g,T,vs,e1,e2,e3⟩:=h.objs i u hu (by rw[hy];rfl);refine⟨g,T,vs,(eu ι hne).trans e1,e2,by rw[jj];exact e3.len,e3.one,fun j x v hx hv=>?_⟩;obtain⟨y,hy,rfl⟩:=jk hx;exact((e3.rel j y v hy hv).co (fun i hi=>eu ι hi)).mono (Nat.le_refl _) (fun b _ hb=>gU b hb) (fun _ _ _=>rfl) (fun _ _ h=>h)
 ·obtain⟨y,hy⟩:=Option.isSome_iff_exists.mp hp;obtain⟨hne,hy⟩:=jP hy;obtain⟨v,xs,e1,e2,e3,e4,e5⟩:=h.arrs i a hi (by rw[hy];rfl);refine⟨v,xs,(eu ι hne).trans e1,e2,e3,e4,fun j e he k c hc=>?_⟩;obtain⟨x,hx,hr⟩:=e5 j e he k c hc;exact⟨x,hx,hr.mono (Nat.le_refl _) (fun b _ hb=>gU b hb) (fun _ _ _=>rfl) (fun r h'=>(eu ι (fun e=>by
   rw[e]at h';obtain⟨g,T,vs,e1,_,_⟩:=h.objs id cs ho (by rw[h'];rfl);rw[e1]at h';cases h')).trans h') (fun _ _=>rfl) (fun h=>h)⟩
 ·have e:i≠id:=fun e=>by subst e;rw[hnp]at hp;cases hp
  exact⟨(eu ι e).trans (h.pin i y hp).1,(h.pin i y hp).2⟩
section
variable{cx:Cx}{Q:Exit→Act→World→Prop}{ks:List aq}{s:AS}{all:Array Oper}{f:Func}{p:List Nat}{i:Nat}
theorem Rn{a:Act}{w:World}{ι:Env}(hs:aN cx s a w ι){k id:Nat}{cs:List AV}(hk:look k s.t=some (.ptr id 0))(ho:look id s.o=some cs)(hp:db [] cs=true)(hnp:s.u.contains (cK id)=false):aN cx (zX k id cs s) a w (dX ι id):=by
 obtain⟨x,hx,hr⟩:=hs.tmp k _ hk;cases hr with
 | ptr _ _ _ g hg =>
  obtain⟨g',T,vs,e1,e2,e3⟩:=hs.hs.objs id cs ho (by rw[hg];rfl);rw[hg]at e1;injection e1 with e1;injection e1 with e1;injection e1 with e1;injection e1 with e1;subst e1
  refine⟨hs.hs.fo (hs.hs.np hnp) ho,hs.dfr,hs.n,fun j v hj=>?_⟩;have hj':look j (aZ k (.cptr cs) (cQ id s.t))=some v:=hj;rw[ca]at hj';split at hj'
  ·rename_i e;subst e;injection hj' with hj';subst hj'
   refine⟨_,hx,.cptr _ cs g 0 (fun i=>(vs[i]?).getD (.bool true)) (hs.hs.own id g (by rw[hg];rfl)).2 (fun hb=>?_) (fun i=>?_) (fun i c hc=>?_) (fun i c hc=>?_)⟩
   ·rcases hb with hb|⟨i,hb⟩
    ·exact hs.hs.sep hb (by rw[hg];rfl)
    ·obtain⟨hne,hb⟩:=gy hb;exact hne (hs.hs.inj i id g hb (by rw[hg];rfl))
   ·cases e:vs[i]? with
    | none=>rfl
    | some v=>exact e3.one v (by rw[←Array.getElem?_toList]at e;exact List.mem_of_getElem? e)
   ·have hlt:i<vs.size:=by have:=(List.getElem?_eq_some_iff.1 hc).1;rw[e3.len]at this;simpa using this
    rw[cell_of_row w g _ vs T (0,0) e2,Nat.zero_add];simp[Array.getElem?_eq_getElem hlt]
   ·have hlt:i<vs.size:=by have:=(List.getElem?_eq_some_iff.1 hc).1;rw[e3.len]at this;simpa using this
    have hv':vs.toList[i]?=some vs[i]:=by simp
    have hr:=(e3.rel i c _ hc hv').pure (iE hp i c hc) bn;have h9:=hr.mono (N':=NN cx.M (dX ι id)) (w':=w) (Nat.le_refl _) (fun b _ hb=>gU b hb) (fun _ _ _=>rfl) (fun _ _ h=>h);simpa[Array.getElem?_eq_getElem hlt]using h9
  ·obtain⟨u,hu,rfl⟩:=lO hj';obtain⟨y,hy,hr⟩:=hs.tmp j u hu;exact⟨y,hy,(hr.co (fun i hi=>eu ι hi)).mono (Nat.le_refl _) (fun b _ hb=>gU b hb) (fun _ _ _=>rfl) (fun _ _ h=>h)⟩
theorem sN(k id:Nat)(cs:List AV){l:List Oper}(h:OT cx Q ks all l (zX k id cs s))(hk:look k s.t=some (.ptr id 0):=by kernel_rfl)(ho:look id s.o=some cs:=by kernel_rfl)(hp:db [] cs=true:=by kernel_rfl)(hnp:s.u.contains (cK id)=false:=by kernel_rfl):OT cx Q ks all l s:=fun a w ι hs=>h a w _ (Rn hs hk ho hp hnp)
theorem xI(g:FuncId)(captured:Array Operand)(l:List AV)(k:OT cx Q ks all (aK f p (i+1)) (s.put (aQ f p i).dst (.fn g l)))(hl:aK f p i=aQ f p i::aK f p (i+1):=by kernel_rfl)(hg:cd all s (aQ f p i)=true:=by kernel_rfl)
  (hop:(aQ f p i).op=.makeFunc (.func g) #[] captured:=by kernel_rfl) (he:cG s captured.toList=some l:=by kernel_rfl) (hd:(cm cx.n (aQ f p i).dst&&db [] l)=true:=by kernel_rfl):OT cx Q ks all (aK f p i) s:=by
 rw[hl];refine ef _ hg fun a w ι hs=>?_;refine wpList_plain rfl fun K hK=>?_;simp only[Bool.and_eq_true]at hd;obtain⟨q1,q2⟩:=jo hs he;have h3:Rel (NN cx.M ι) w ι (.fn g l) (.func (.func g) #[] (captured.map a.eval)):=by
  have h4:=Rel.fn (N:=NN cx.M ι) (w:=w) ι g l (captured.map a.eval).toList (by simp at q1⊢;omega) (fun i c y h1 h2=>(q2 i c y h1 (by simpa using h2)).pure (iE hd.2 i c h1) bn);rw[Array.toArray_toList]at h4;exact h4
 unfold Oper.wp execOp;simp only[hop,Instr.makeFunc,Sem.run_bind,Sem.run_pure,Result.andThen_ok,Array.map_empty];exact hK _ _ (k _ _ _ (hs.put (eN hd.1) h3))
end
def AD(s:AS):AV→Option AV
 | .ref i=>match look i s.r,Nat.ble (i+1) TG with|some ar,true=>some (.sl ar.l)|_,_=>none
 | v=>match v.cL [] with|true=>some (fP v)|false=>none
def nX(s:AS):List AV→Option (List AV)
 | []=>some []
 | v::r=>match AD s v,nX s r with|some x,some l=>some (x::l)|_,_=>none
theorem HR{s:AS}:∀{l m:List AV},nX s l=some m→m.length=l.length
 | [],m,h=>by injection h with h;subst h;rfl
 | v::r,m,h=>by
  unfold nX at h;split at h
  ·rename_i x l' h1 h2;injection h with h;subst h;simp[HR h2]
  ·cases h
theorem JJ{s:AS}:∀{l m:List AV},nX s l=some m→∀(i:Nat) (a:AV),m[i]?=some a→∃b,l[i]?=some b∧AD s b=some a
 | [],m,h,i,a,ha=>by injection h with h;subst h;simp at ha
 | v::r,m,h,i,a,ha=>by
  unfold nX at h;split at h
  ·rename_i x l' h1 h2;injection h with h;subst h
   cases i with
   | zero=>exact⟨v,rfl,by simpa using ha ▸ h1⟩
   | succ i=>simpa using JJ h2 i a (by simpa using ha)
  ·cases h
def Et(s:AS)(o:Oper):Option (FuncId×List AV) :=
 match o.op with
 | .call c=>match c.callee with
  | .value fo=>match s.ev fo,cG s c.args.toList with
   | some (.fn f aP),some l=>match nX s l with
    | some l'=>some (f,l'++aP)
    | none=>none
   | _,_=>none
  | _=>none
 | _=>none
section
variable{cx:Cx}{Q:Exit→Act→World→Prop}{ks:List aq}{s:AS}{all:Array Oper}{f:Func}{p:List Nat}{i:Nat}
theorem Qh{g:FuncId}{args:List AV}{V:AV}(hc:aU cx.P g args (fun v _=>v=V))(k:OT cx Q ks all (aK f p (i+1)) (s.put (aQ f p i).dst V))
  (hl:aK f p i=aQ f p i::aK f p (i+1):=by kernel_rfl) (hg:cd all s (aQ f p i)=true:=by kernel_rfl) (hcl:cf cx.P g=true:=by kernel_rfl) (h1:Et s (aQ f p i)=some (g,args):=by kernel_rfl)
  (hd:(cm cx.n (aQ f p i).dst&&V.Af)=true:=by kernel_rfl):OT cx Q ks all (aK f p i) s:=by
 rw[hl];refine ef _ hg fun a w ι hs=>?_;refine wpList_plain rfl fun K hK=>?_;simp only[Bool.and_eq_true]at hd;unfold Et at h1;split at h1
 case h_2=>cases h1
 rename_i c hop;split at h1
 case h_2=>cases h1
 rename_i fo hcal;split at h1
 case h_2=>cases h1
 rename_i f' aP l hf hl';split at h1
 case h_2=>cases h1
 rename_i l' hio;injection h1 with h1;injection h1 with e1 e2;subst e1;subst e2
 obtain⟨q1,q2⟩:=jo hs hl';unfold Oper.wp;obtain⟨ys,hrc,hc1,hc2⟩:=iR (o:={ aQ f p i with guard:=none }) hs hop hcal hf hcl;rw[hrc,Oper.upon_enter];have hlen:=HR hio;have hlc:l'.length=(c.args.map a.eval).size:=by rw[hlen,q1];simp
 refine (hc (fun _=>False) w _ (fun b hb=>hb.elim) ⟨by simp at hlc⊢;omega,fun i v y hv hy=>?_⟩).mono ?_
 ·by_cases hi:i<l'.length
  ·rw[List.getElem?_append_left hi]at hv;rw[Array.getElem?_append_left (by rw[←hlc];exact hi)]at hy;obtain⟨b,hb,hba⟩:=JJ hio i v hv;have hy':(c.args.toList.map a.eval)[i]?=some y:=by rw[←Array.getElem?_toList,Array.toList_map]at hy;exact hy
   have hr:=q2 i b y hb hy';unfold AD at hba;split at hba
   ·rename_i id;split at hba
    ·rename_i ar har htg;injection hba with hba;subst hba
     cases hr with
     | ref _ _ A n c h=>exact(hs.hs.oh (Nat.le_of_ble_eq_true htg) har A n c h bn).mono (Nat.le_refl _) (fun _ _ h=>h.elim) (fun _ _ _=>rfl) (fun _ _ h=>h)
    ·cases hba
   ·split at hba
    ·rename_i hp;injection hba with hba;subst hba
     exact wJ ((hr.pure hp bn).mono (Nat.le_refl _) (fun _ _ h=>h.elim) (fun _ _ _=>rfl) (fun _ _ h=>h))
    ·cases hba
  ·rw[List.getElem?_append_right (by omega)]at hv;rw[Array.getElem?_append_right (by rw[←hlc];omega)]at hy;rw[hlc]at hv;exact(hc2 _ v y hv (by simpa using hy)).mono (Nat.le_refl _) (fun _ _ h=>h.elim) (fun _ _ _=>rfl) (fun _ _ h=>h)
 ·rintro e w' ⟨x,v,s1,ι1,rfl,rfl,hhs,hr⟩
  exact hK _ _ (k _ _ _ ((hs.ji hhs.below.plain).put (eN hd.1) (Gk hd.2 hr)))
end
abbrev iI(x:Int):AV:=.int .i64 x
abbrev gD{α:Type}[Inhabited α](L:List α)(i:Int):α:=List.getD L i.toNat default
def qH(b:Nat→Bool):Nat→Nat→Bool
 | _,0=>true
 | lo,k+1=>b lo&&qH b (lo+1) k
theorem xW{b:Nat→Bool}:∀{lo k:Nat},qH b lo k=true→de lo k fun j=>b j=true
 | _,0,_=>trivial
 | lo,k+1,h=>by
  unfold qH at h;rw[Bool.and_eq_true]at h;exact⟨h.1,xW h.2⟩
theorem ax{P:Program}{n:Nat}{s0:AS}{all:Array Oper}{K:Nat}{σs:List AS}{o:Oper}(lo k:Nat)(hg:o.guard.isSome=true:=by kernel_rfl)(h:qH (fun j=>wY all (nth σs j) o) lo k=true:=by kernel_rfl)
  (h2:qH (fun j=>(match o.dst with|some d=>(match look d (nth σs j).t with|none=>true|some (.tup [])=>Nat.ble (d+1) n|_=>false)|none=>true)) 0 (K+1)=true:=by kernel_rfl):dT P n s0 all K σs o (.off lo k):=Q9 hg (xW h) (xW h2)
def vz(n:Nat):List Tag:=List.replicate n (.v 0 1)
theorem cu{P:Program}{n:Nat}{s0:AS}{all:Array Oper}{K:Nat}{σs:List AS}{o:Oper}(lo d:Nat){e b:Bool}(he:e=b)(hg:cd all (nth σs lo) o=true:=by kernel_rfl)(h:bE P n (nth σs lo) o=some ((nth σs lo).put (some d) (.bool e)):=by kernel_rfl)(hp:(nth σs lo).put (some d) (.bool b)=nth σs lo:=by kernel_rfl):
  dT P n s0 all K σs o (.v lo 1):=fk (c9 ⟨hg,Tq d he h hp⟩ fJ)
def nu:Nat→List AV→List (Nat×AV)
 | _,[]=>[]
 | k,x::l=>(k,x)::nu (k+1) l
abbrev lm{α β:Type}(f:α→β)(l:List α):List β:=List.map f l
theorem bv{P:Program}{f:FuncId}{fn:Func}{args:List AV}{Q:AV→AS→Prop}{n:Nat}(c:Code)(hf:P.funcs[f]?=some fn)(hn:fn.ntmps=n)(h:∀M w0,VE ⟨P,n,M,w0⟩ (bodyPost P fn (bA M w0 Q)) [.c c] .normal ⟨idxs 0 args,[],[],[]⟩)
  (hb:fn.body=some c:=by kernel_rfl) (hl:decide (args.length≤n)=true:=by kernel_rfl):aU P f args Q:=PY hf hb n hn (of_decide_eq_true hl) h
theorem bd{cx:Cx}{Q:Exit→Act→World→Prop}{ks:List aq}{e:Exit}{s:AS}(s':AS)(h:VE cx Q ks e s')(hs:s=s':=by kernel_rfl):VE cx Q ks e s:=hs ▸ h
theorem d8{P:Program}{n:Nat}{s:AS}{o:Oper}{α:Type}[Inhabited α](id sz:Nat)(enc:α→List AV){L:List α}{i:Int}{m:Nat}(hb:aX i m=true)(hm:L.length=m:=by simp only[List.length_set])(h:Al P n s o=some (id,sz,i,L.map enc):=by kernel_rfl):bE P n s o=some (s.put o.dst (.eptr id sz i.toNat 0)):=cS id sz enc (hm ▸ hb) h
theorem bC{P:Program}{n:Nat}{s0:AS}{all:Array Oper}{K:Nat}{σs:List AS}{f:Func}{p:List Nat}{i:Nat}{ts:List Tag}{s':AS}(h:bE P n (nth σs 0) (aQ f p i)=some s')(h2:dz P n s0 all K σs (aK f p (i+1)) ts)(he:s'=nth σs 0:=by kernel_rfl)(hg:cd all (nth σs 0) (aQ f p i)=true:=by kernel_rfl)
  (hl:aK f p i=aQ f p i::aK f p (i+1):=by kernel_rfl):dz P n s0 all K σs (aK f p i) (.v 0 1::ts):=ag (RH h he hg) h2 hl
def CO:Nat→Nat→List Nat→List Nat
 | 0,_,l=>l
 | k+1,x,l=>match Nat.ble x 1 with
  | true=>l
  | false=>CO k (x / 2) (x % 2::l)
def pn(x:Nat):List Nat:=CO 90 x []
def wq(n q:Nat):Nat:=n*2 ^ q.log2+(q-2 ^ q.log2)
section
variable{cx:Cx}{Q:Exit→Act→World→Prop}{ks:List aq}{s:AS}{f:Func}{n:Nat}
abbrev cP(f:Func)(n:Nat):aq:=.c (cat f (pn n))
theorem aC(a b k:Nat)(hk:VE cx Q (cP f (wq n a)::cP f (wq n b)::ks) .normal (eH cx.P cx.n k (cP f n::ks) .normal s))(h:eL cx.P cx.n k (cP f n::ks) .normal s=some (cP f (wq n a)::cP f (wq n b)::ks,.normal):=by kernel_rfl):VE cx Q (cP f n::ks) .normal s:=bK k hk h
theorem bh(a k:Nat)(hk:VE cx Q (cP f (wq n a)::ks) .normal (eH cx.P cx.n k (cP f n::ks) .normal s))(h:eL cx.P cx.n k (cP f n::ks) .normal s=some (cP f (wq n a)::ks,.normal):=by kernel_rfl):VE cx Q (cP f n::ks) .normal s:=bK k hk h
theorem dP(a b c d k:Nat)(hk:VE cx Q (cP f (wq n a)::cP f (wq n b) :: .b c::cP f (wq n d)::ks) .normal (eH cx.P cx.n k (cP f n::ks) .normal s))(h:eL cx.P cx.n k (cP f n::ks) .normal s=some (cP f (wq n a)::cP f (wq n b) :: .b c::cP f (wq n d)::ks,.normal):=by kernel_rfl):VE cx Q (cP f n::ks) .normal s:=bK k hk h
theorem bN(a b c k:Nat)(hk:VE cx Q (cP f (wq n a)::cP f (wq n b)::cP f (wq n c)::ks) .normal (eH cx.P cx.n k (cP f n::ks) .normal s))(h:eL cx.P cx.n k (cP f n::ks) .normal s=some (cP f (wq n a)::cP f (wq n b)::cP f (wq n c)::ks,.normal):=by kernel_rfl):VE cx Q (cP f n::ks) .normal s:=bK k hk h
theorem gd(a b c k:Nat)(hk:VE cx Q (cP f (wq n a) :: .b b::cP f (wq n c)::ks) .normal (eH cx.P cx.n k (cP f n::ks) .normal s))(h:eL cx.P cx.n k (cP f n::ks) .normal s=some (cP f (wq n a) :: .b b::cP f (wq n c)::ks,.normal):=by kernel_rfl):VE cx Q (cP f n::ks) .normal s:=bK k hk h
theorem iK(a b k:Nat)(hk:VE cx Q (cP f (wq n a) :: .b b::ks) .normal (eH cx.P cx.n k (cP f n::ks) .normal s))(h:eL cx.P cx.n k (cP f n::ks) .normal s=some (cP f (wq n a) :: .b b::ks,.normal):=by kernel_rfl):VE cx Q (cP f n::ks) .normal s:=bK k hk h
theorem PG{x0 x1 x2:aq}(a b c k:Nat)(hk:VE cx Q (cP f (wq n a)::cP f (wq n b)::cP f (wq n c)::ks) .normal (eH cx.P cx.n k (x0::x1::x2::cP f n::ks) .normal s))(h:eL cx.P cx.n k (x0::x1::x2::cP f n::ks) .normal s=some (cP f (wq n a)::cP f (wq n b)::cP f (wq n c)::ks,.normal):=by kernel_rfl):VE cx Q (x0::x1::x2::cP f n::ks) .normal s:=bK k hk h
theorem kV{x0 x1 x2 x3:aq}(a b k:Nat)(hk:VE cx Q (cP f (wq n a)::cP f (wq n b)::ks) .normal (eH cx.P cx.n k (x0::x1::x2::x3::cP f n::ks) .normal s))(h:eL cx.P cx.n k (x0::x1::x2::x3::cP f n::ks) .normal s=some (cP f (wq n a)::cP f (wq n b)::ks,.normal):=by kernel_rfl):VE cx Q (x0::x1::x2::x3::cP f n::ks) .normal s:=bK k hk h
theorem c8{x0:aq}(a b c d k:Nat)(hk:VE cx Q (cP f (wq n a)::cP f (wq n b) :: .b c::cP f (wq n d)::ks) .normal (eH cx.P cx.n k (x0::cP f n::ks) .normal s))(h:eL cx.P cx.n k (x0::cP f n::ks) .normal s=some (cP f (wq n a)::cP f (wq n b) :: .b c::cP f (wq n d)::ks,.normal):=by kernel_rfl):VE cx Q (x0::cP f n::ks) .normal s:=bK k hk h
theorem eV{x0:aq}(a b k:Nat)(hk:VE cx Q (cP f (wq n a)::cP f (wq n b)::ks) .normal (eH cx.P cx.n k (x0::cP f n::ks) .normal s))(h:eL cx.P cx.n k (x0::cP f n::ks) .normal s=some (cP f (wq n a)::cP f (wq n b)::ks,.normal):=by kernel_rfl):VE cx Q (x0::cP f n::ks) .normal s:=bK k hk h
theorem Fu{x0:aq}(a b c k:Nat)(hk:VE cx Q (cP f (wq n a) :: .b b::cP f (wq n c)::ks) .normal (eH cx.P cx.n k (x0::cP f n::ks) .normal s))(h:eL cx.P cx.n k (x0::cP f n::ks) .normal s=some (cP f (wq n a) :: .b b::cP f (wq n c)::ks,.normal):=by kernel_rfl):VE cx Q (x0::cP f n::ks) .normal s:=bK k hk h
theorem oB{x0:aq}(a b c k:Nat)(hk:VE cx Q (cP f (wq n a)::cP f (wq n b)::cP f (wq n c)::ks) .normal (eH cx.P cx.n k (x0::cP f n::ks) .normal s))(h:eL cx.P cx.n k (x0::cP f n::ks) .normal s=some (cP f (wq n a)::cP f (wq n b)::cP f (wq n c)::ks,.normal):=by kernel_rfl):VE cx Q (x0::cP f n::ks) .normal s:=bK k hk h
theorem Hl{x0 x1 x2 x3:aq}(a b c k:Nat)(hk:VE cx Q (cP f (wq n a)::cP f (wq n b)::cP f (wq n c)::ks) .normal (eH cx.P cx.n k (x0::x1::x2::x3::cP f n::ks) .normal s))(h:eL cx.P cx.n k (x0::x1::x2::x3::cP f n::ks) .normal s=some (cP f (wq n a)::cP f (wq n b)::cP f (wq n c)::ks,.normal):=by kernel_rfl):VE cx Q (x0::x1::x2::x3::cP f n::ks) .normal s:=bK k hk h
end
end Go.Proofs.YtocgkfoifehcbaaGreat
