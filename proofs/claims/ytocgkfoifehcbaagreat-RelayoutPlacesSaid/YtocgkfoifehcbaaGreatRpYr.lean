/- A round of a range over a function, out of its two pieces of code; the loop. No program in sight. -/
import Derived.Test.YtocgkfoifehcbaaGreatRpYd
import Derived.RangeFuncIn
namespace Go.Proofs.YtocgkfoifehcbaaGreat
set_option linter.all false
open Go.RowKit
def Io:=@World.putObj_heap_other
def al1:=@List.getElem?_eq_none
def amw:=@World.putObj_heap_same
def amI:=@World.alloc_heap_new
def amM:=@congrArg
abbrev lS(l:Nat):FM:=⟨some l,[]⟩
def dh(fn:FuncId)(c:Array Value)(ps:Array Tmp)(assign body:Code)(D:Nat)(b:LoopState)(a:Option Code):Loop:={ state:=b,pending:=a,fn,tmps:=c,params:=ps,assign,body,defers:=D }
structure Gf[YD] n kt fn tm ps assign body D:Prop where
 rc:YD.ws.heap[YD.l]?=some (.loop (dh fn tm ps assign body D .ready none))
 sz:tm.size=n
 tmp:∀k v,look k kt=some v→∃x,tm[k]?=some x∧∀M w (ι0:Env),Yw M (fun k=>∃i,bg (ι0 i)=some k) w→j0 ι0→Rel (NN M ι0) w ι0 v x
def bQ[YD]{α}(g:BS ⊕ α)(Z:α→World→Prop)(a:Obj)(M:Nat→Prop)(b:az):Exit→Act→World→Prop
 | .normal,_,w=>gP g∧∃ι s,HS M b w ι s∧cB s.o (yO (c9 (gS g).1))∧look 440009 s.r=some (dQ (gS g).2)
 | .ret,_,w=>(∃ι s,HS M b w ι s)∧gZ Z g (w.putObj YD.l a)
 | _,_,_=>False
structure YB[YD](b:az):Prop where
 ot:b.w.os=YD.ws.os∧b.w.tape=YD.ws.tape∧b.w.output=YD.ws.output
 sz:YD.B≤b.w.heap.size
 ph:∀k,k<YD.B→¬ YD.L k→k≠YD.l→b.w.heap[k]?=YD.ws.heap[k]?
 g:∀k,b.G k→YD.L k∨YD.B≤k
 pv:j0 b.pv
theorem Qw[YD][Yk]{P:Program}{n:Nat}{kt:List ee}{l:Array Value}{fn:FuncId}{p0 p1 D:Nat}{assign body:Code}(S:Gf n kt fn l #[p0,p1] assign body D){α:Type}{x0 x1:AV}{b:Bool}{L:b5}{gw:AS}{g:BS ⊕ α}{Z:α→World→Prop}
  (N:∀M G,VE (fm:=lS YD.l) ⟨P,n,M,G⟩ (fun e a w=>e=.normal∧∃ι,@aI (lS YD.l) ⟨P,n,M,G⟩ gw a w ι) [.c assign] .normal ⟨(p0,x0)::(p1,x1)::kt,yO (c9 b),[(440009,dQ L)],YU⟩)
  (A:∀M G,YB G→VE (fm:=lS YD.l) ⟨P,n,M,G⟩ (bQ g Z (.loop (dh fn l #[p0,p1] assign body D .done (some .ret))) M G) [.c body] .normal gw) (a0:p0<n) (b0:p1<n) (hp:p0≠p1):LY (m8 P YD.l) [x0,x1] (c9 b) (dQ L) (YG g Z):=by
 intro M w s xs j R r Q hx
 letI:FM:=lS YD.l
 have p:w.heap[YD.l]?=some (.loop (dh fn l #[p0,p1] assign body D .ready none)):=(j.ph _ Yk.lt Yk.nl).trans S.rc;have U:xs.size=2:=Q.symm;obtain⟨B,C,rfl⟩:∃B C,xs = #[B,C]:=⟨xs[0],xs[1],by
  apply anN
  ·simpa using U
  ·intro i m V
   match i,(by omega:i<2) with
   | 0,_=>rfl
   | 1,_=>rfl⟩
 have X:∀k,(fC w s (yO (c9 b))).G k→k≠YD.l:=fun k d e=>by
  subst e;rcases j.g _ d with q|q
  ·exact Yk.nl q
  ·exact absurd Yk.lt (afl.2 q)
 have Y:YD.l<w.heap.size:=nx Yk.lt j.sz;refine⟨fn,_,assign,body,run_yield p U,roundIn_of_wpIn trivial ?_⟩;have T:aI ⟨P,n,M,fC w s (yO (c9 b))⟩ ⟨(p0,x0)::(p1,x1)::kt,yO (c9 b),[(440009,dQ L)],YU⟩ { tmps:=(l.setIfInBounds p0 B).setIfInBounds p1 C,defers:=[] } w s:=by
  refine @aI.mk (lS YD.l) _ _ _ _ _ ⟨r.below,r.old,r.use,r.own,r.inj,r.ko,r.kr,r.objs,r.arrs,r.pin⟩ rfl (by simp[S.sz]) (fun k v d=>?_);simp only[look]at d;split at d
  ·rename_i e;subst e;injection d with d;subst d
   exact⟨B,by rw[ab7 (fun e=>hp e.symm),alO (by rw[S.sz];exact a0)],hx 0 _ _ rfl rfl⟩
  ·rename_i e0;split at d
   ·rename_i e;subst e;injection d with d;subst d
    exact⟨C,by rw[alO (by simp[S.sz];exact b0)],hx 1 _ _ rfl rfl⟩
   ·rename_i e1;obtain⟨x,m,V⟩:=S.tmp k v d;exact⟨x,by rw[ab7 (fun e=>e1 e.symm),ab7 (fun e=>e0 e.symm)];exact m,V M w s j R⟩
 have hT:(#[p0,p1].zip #[B,C]).foldl (fun tmps (x:Nat×Value)=>match x with|(t,a)=>tmps.setIfInBounds t a) l=(l.setIfInBounds p0 B).setIfInBounds p1 C:=by simp[Array.zip]
 show Code.wpIn FF 0 P assign _ { tmps:=(#[p0,p1].zip #[B,C]).foldl (fun tmps (x:Nat×Value)=>match x with|(t,a)=>tmps.setIfInBounds t a) l,defers:=[] } w;rw[hT];refine wpIn_mono (N M _ _ w s T) ?_
 rintro e a1 z ⟨rfl,I,m⟩
 have O:z.heap[YD.l]?=some (.loop (dh fn l #[p0,p1] assign body D .ready none)):=(m.hs.below.block _ Y (fun K=>X _ K rfl)).trans p;refine⟨_,run_beginRound O rfl,?_⟩;obtain⟨V,K⟩:=m.step (E:=fun k=>k=YD.l) (E':=fun _=>False) (w':=z.putObj YD.l (.loop (dh fn l #[p0,p1] assign body D .busy none))) rfl rfl rfl (by simp) (by rintro k rfl;exact j.ml) (fun k d o=>Io o) (fun k h=>h.elim);have u:YD.l<z.heap.size:=(lc.1 O).1;have f0:YB (iC (fC w s (yO (c9 b))) I (z.putObj YD.l (.loop (dh fn l #[p0,p1] assign body D .busy none)))):=by
  have g0:∀k,(∃id,bg (I id)=some k)→YD.L k∨YD.B≤k:=fun k ⟨i,e⟩=>by
   rcases (m.hs.own i k e).1 with q|q
   ·exact .inr (oR j.sz q)
   ·exact j.g k q
  refine⟨⟨m.hs.below.os.trans j.ot.1,m.hs.below.tape.trans j.ot.2.1,m.hs.below.output.trans j.ot.2.2⟩,?_,fun k d hL o=>?_,g0,R⟩
  ·have h9:(iC (fC w s (yO (c9 b))) I (z.putObj YD.l (.loop (dh fn l #[p0,p1] assign body D .busy none)))).w.heap.size=z.heap.size:=by simp[iC]
   rw[h9];exact oR j.sz m.hs.below.size
  ·refine (Io o).trans ((m.hs.below.block k (nx d j.sz) (fun K=>?_)).trans (j.ph k d hL));rcases j.g k K with q|q
   ·exact hL q
   ·exact absurd d (afl.2 q)
 refine wpIn_mono (A _ _ f0 _ _ I V) ?_;have key:∀{H:World} {J:Env} {y:AS},HS (fun k=>M k∨False) (iC (fC w s (yO (c9 b))) I (z.putObj YD.l (.loop (dh fn l #[p0,p1] assign body D .busy none)))) H J y→H.heap[YD.l]?=some (.loop (dh fn l #[p0,p1] assign body D .busy none)):=fun {H J y} f =>
  (f.below.block YD.l (by simpa[iC]using u) (fun⟨id,e⟩=>m.hs.sep j.ml e)).trans (amw u)
 rintro e a3 H F
 cases e with
 | normal =>
  obtain⟨hg,J,y,f,hO,c0⟩:=F;refine⟨_,_,run_endRound none (key f),.inl ⟨hg,y,J,rfl,hO,c0,?_⟩⟩;have d0:aI ⟨P,0,fun k=>M k∨False,iC (fC w s (yO (c9 b))) I (z.putObj YD.l (.loop (dh fn l #[p0,p1] assign body D .busy none)))⟩ ⟨[],y.o,y.r,y.u⟩ ⟨#[],[]⟩ H J:=@aI.mk (lS YD.l) _ _ _ _ _ ⟨f.below,f.old,f.use,f.own,f.inj,f.ko,f.kr,f.objs,f.arrs,f.pin⟩ rfl rfl (fun k v d=>by cases d);obtain⟨h4,W⟩:=d0.step (E:=fun k=>k=YD.l) (E':=fun _=>False) (w':=H.putObj YD.l (.loop (dh fn l #[p0,p1] assign body D .ready none))) rfl rfl rfl (by simp) (by rintro k rfl;exact .inl j.ml) (fun k d o=>Io o) (fun k h=>h.elim);have h5:=h4.hs;have:=HS.NF (M:=M) (b:=fC w s (yO (c9 b))) h5 (K.trans W) (fun k he d=>by
   subst he;exact(amw (lc.1 (key f)).1).trans p.symm) (fun k d=>⟨.inl (.inl d),r.old k d⟩)
  exact⟨this.below,this.old,this.use,this.own,this.inj,this.ko,this.kr,this.objs,this.arrs,this.pin⟩
 | ret =>
  obtain⟨⟨J,y,f⟩,hz⟩:=F;exact⟨_,_,run_endRound (some .ret) (key f),.inr ⟨rfl,hz⟩⟩
 | exit id=>exact F.elim
 | goto t=>exact F.elim
 | panic c=>exact F.elim
 | outgrown=>exact F.elim
abbrev po(D:Nat):FM:=⟨none,[{ target:=.collected D,args := #[] }]⟩
def R1[YD]{α}(g:BS ⊕ α)(Z:α→World→Prop)(M:Nat→Prop)(a:az)(e:Ending)(w':World):Prop :=
 ∃v,e=.returned v∧((gP g∧∃s ι,cB s.o (yO (c9 (gS g).1))∧look 440009 s.r=some (dQ (gS g).2)∧HS M a w' ι s)∨gZ Z g w')
def nA(a b:Nat):ew:=[(450119,450119),(a,440004),(b,440005)]
def eH(a b:Nat):ew:=(440009,440009)::nA a b
def fW(w:World)(a:Loop):World:=(w.alloc (.deferred (some []))).alloc (.loop a)
abbrev wa(d:Cx)(ι:Env)(w:World)(b c:Nat)(a:Loop)(r0:Int×Int×Int×Int)(q0:Bool):YD :=
  { l:=w.heap.size+1,B:=w.heap.size+2,N:=fun k=>NN d.M ι k∨k=w.heap.size∨k=w.heap.size+1,L:=fun k=>∃i,bg (bL (bH (eH b c)) ι i)=some k,
    ws:=fW w a,v:=fun j=>(bL (bH (eH b c)) ι j).getD (.bool true),r:=r0,q:=q0 }
structure YE(cx:Cx)(M':Nat→Prop)(b':az) D:Prop where
 M:∀k,cx.M k→M' k
 m:M' D
 d:b'.w.heap[D]?=some (.deferred (some []))
 g:¬ b'.G D
 b:cx.w0.w.heap.size≤D
 gr:fD (fun k=>cx.w0.w.heap.size≤k) cx.w0 b'
 old:∀k,cx.M k→k<cx.w0.w.heap.size∧¬ cx.w0.G k
def yp(a b:Nat):AV→AV
 | .ptr j o=>if j=440004 then .ptr a o else if j=440005 then .ptr b o else .ptr j o
 | v=>v
def Gl(v:AV):Bool:=v.dg []||(mF 450119 v||(mF 440004 v||mF 440005 v))
def zm(s:AS)(k id:Nat):Bool:=match look k s.t with
 | some (.lk i _)=>Nat.beq i id
 | some (.ptr i _)=>Nat.beq i id
 | _=>false
theorem ID[FM]{e}{s}{a}{w}{ι}(d:aI e s a w ι){k id}(h:zm s k id=true):∃y,ι id=some y:=by
 unfold zm at h;split at h
 ·rename_i i x b;rw[←iO h];obtain⟨_,_,c⟩:=d.tmp k _ b;cases c with
  | lk _ _ _ _ h _=>grind
 ·rename_i i o b;rw[←iO h];obtain⟨_,_,c⟩:=d.tmp k _ b;cases c with
  | ptr _ _ _ _ h=>grind
 grind
theorem akt{t:Cx}{s:AS}{a:Act}{w:World}{ι:Env}(I:aI t s a w ι){d f:Nat}{kt:List ee}{fn:FuncId}{ps:Array Tmp}{assign body:Code}{r0:Int×Int×Int×Int}{q0:Bool}
  (Q:(kt.map fun p=>look p.1 s.t)=kt.map fun p=>some (yp d f p.2)) (T:(kt.all fun p=>Gl p.2)=true) :
  @Gf (wa t ι w d f (dh fn a.tmps ps assign body w.heap.size .ready none) r0 q0) t.n kt fn a.tmps ps assign body w.heap.size:=by
 letI F:=wa t ι w d f (dh fn a.tmps ps assign body w.heap.size .ready none) r0 q0
 have z:∀i g,bg (bL (bH (eH d f)) ι i)=some g→NN t.M ι g:=fun i g e=>by
  cases u:bL (bH (eH d f)) ι i with
  | none=>rw[u]at e;cases e
  | some y=>obtain⟨id,_,c⟩:=ik u;exact .inr ⟨id,by rw[c,← u];exact e⟩
 have S:(fW w (dh fn a.tmps ps assign body w.heap.size .ready none)).heap.size=w.heap.size+2:=by simp[fW]
 refine⟨?_,I.n,fun k v R=>?_⟩
 ·show(fW w _).heap[w.heap.size+1]?=_;have:=amI (w.alloc (.deferred (some []))) (.loop (dh fn a.tmps ps assign body w.heap.size .ready none));rwa[World.size_alloc]at this
 ·have H:=kq R;have L:look k s.t=some (yp d f v):=by
   obtain⟨j,P⟩:=ame.1 H;have:=amM (fun l=>l[j]?) Q;simpa[th,P]using this
  have c:=ll.1 T _ H;obtain⟨x,U,A⟩:=I.tmp k _ L;refine⟨x,U,fun M w' C B q=>?_⟩;simp only[Gl,zt]at c;have E:∀{j id:Nat},mF j v=true→yp d f (.ptr j 0)=.ptr id 0→look j (bH (eH d f))=some id→C j=some (F.v j)→Rel (NN M C) w' C v x:=fun {j id} r u D V=>by
   unfold mF at r;split at r
   case h_2=>cases r
   rename_i i o;rw[g6]at r;have J:=iO r.1;have K:=iO r.2;subst J;subst K;rw[u]at A;cases A with
   | ptr _ _ _ g O =>
    refine .ptr _ _ _ g (V.trans ?_);show some ((bL (bH (eH d f)) ι i).getD _)=_;rw[gG D,O];rfl
  rcases c with c|c|c|c
  ·have e:yp d f v=v:=by cases v<;>first|rfl|(simp[AV.dg]at c)
   rw[e]at A;refine (A.pure c C).mono (oR (alZ _ 2) (show w.heap.size+2≤_ from B.sz)) (fun b G n=>?_) (fun b G n=>?_) (fun _ _ h=>h)
   ·have m:b<F.B:=by show b<w.heap.size+2;omega
    rcases n with n|⟨i,n⟩
    ·rcases B.mn b n m with h|h|h
     ·exact h
     ·omega
     ·omega
    ·rcases B.g b ⟨i,n⟩ with⟨W,h⟩|h
     ·exact z W b h
     ·exact absurd m (afl.2 h)
   ·have m:b<F.B:=by show b<w.heap.size+2;omega
    refine (B.ph b m (fun⟨i,N⟩=>n (z i b N))).trans ?_;show(fW w _).heap[b]?=_;exact(mm _ _ _ (by simp;omega)).trans (mm _ _ _ G)
  ·exact E c rfl rfl q.1
  ·exact E c rfl rfl q.2.1
  ·exact E c rfl rfl q.2.2
def PP(s:AS)(a b:Nat):Bool:=gR (eH a b) (bH (eH a b))&&((match s.u.contains (cS 440009) with|true=>false|false=>true)&&((match look 440009 s.o with|none=>true|some _=>false)&&((nA a b).all fun p=>match look p.1 s.r with|none=>true|some _=>false)))
def aiP(P:Program)(Q:Exit→Act→World→Prop)(a:Act)(l D:Nat)(d:World):Prop :=
 ∃c b,(Instr.endLoop l).run P d=.ok (some c) b∧c.wpIn FF 0 P Q { a with defers:={ target:=.collected D,args := #[] }::a.defers } b
theorem Bt{P}{Q}{l}{ds ds'}:∀a,@Kw ⟨l,ds⟩ P Q a=@Kw ⟨l,ds'⟩ P Q a
 | []=>rfl
 | .c c::a=>by unfold Kw;rw[Bt (ds:=ds) (ds':=ds') a];rfl
 | .b id::a=>by unfold Kw;rw[Bt (ds:=ds) (ds':=ds') a]
 | .l k::a=>by unfold Kw;rw[Bt (ds:=ds) (ds':=ds') a]
theorem Rn{d:Cx}{Q:Exit→Act→World→Prop}{O:ck}{s:AS}{f:Func}{p:d4}{gop:Operand}{p0 p1:Nat}{assign body:Code}{gf:FuncId}{aV:b6}{α:Type}{xa0 xa1:α→AV}{G:α→BS→Prop}{Y:α→BS→Option BS}{Z:∀ [YD],Obj→α→World→Prop}(m n k1 k2 k3:Nat){kt:List ee}{r0:Int×Int×Int×Int}{q0 b:Bool}{L:b5}{pl:List α}{o2:Bool→List f6}
  (hO:∀ [z:YD],z.r=r0→z.q=q0→d9 (eH m n) s.o (nA m n)=some (yO (c9 b)))
  (R:∀ [z:YD],z.r=r0→z.q=q0→∀b',dR (bH (eH m n)) (yO (c9 b')) (nA m n)=some (o2 b'))
  (F:∀ [z:YD] [Yk],z.r=r0→z.q=q0→∀{fn tm D},Gf d.n kt fn tm #[p0,p1] assign body D→∀(x:α) (t:BS),G x t→LY (m8 d.P YD.l) [xa0 x,xa1 x] (c9 t.1) (dQ t.2) (YG (dj Y [x] t) (Z (.loop (dh fn tm #[p0,p1] assign body D .done (some .ret))))))
  (N:∀ [YD] [Yk] {Z':α→World→Prop},(∀a w w',Z' a w→Below w.heap.size w w'→Z' a w')→(∀(x:α) (t:BS),G x t→LY (m8 d.P YD.l) [xa0 x,xa1 x] (c9 t.1) (dQ t.2) (YG (dj Y [x] t) Z'))→LY (Calls d.P gf) (.vv (g9 YD.l)::aV) (c9 b) (dQ L) (R1 (dj Y pl (b,L)) Z'))
  (hZ:∀ [YD] (o:Obj) (a:α) (w w':World),Z o a w→Below w.heap.size w w'→Z o a w')
  (kn:∀s',dj Y pl (b,L)=.inl s'→∀M' b' D,YE d M' b' D→VE (fm:=po D) ⟨d.P,d.n,M',b'⟩ Q O .normal (gH 440009 (dQ s'.2) (o2 s'.1) s))
  (a1:∀x,dj Y pl (b,L)=.inr x→∀a w ι,aI d s a w ι→∀fn J,@Z (wa d ι w m n (dh fn a.tmps #[p0,p1] assign body w.heap.size .ready none) r0 q0) (.loop (dh fn a.tmps #[p0,p1] assign body w.heap.size .done (some .ret))) x J→aiP d.P (Kw d.P Q O) a (w.heap.size+1) w.heap.size J)
  (M:cat f p=.rangeFunc gop #[p0,p1] assign body:=by kernel_rfl) (hg:s.ev gop=some (.fn gf aV):=by kernel_rfl) (o0:cN d.P gf=true:=by kernel_rfl) (hr:look 440009 s.r=some (dQ L):=by kernel_rfl)
  (v0:zm s k1 450119=true:=by kernel_rfl) (w0:zm s k2 m=true:=by kernel_rfl) (x0:zm s k3 n=true:=by kernel_rfl) (b0:PP s m n=true:=by kernel_rfl)
  (B:(kt.map fun p=>look p.1 s.t)=(kt.map fun p=>some (yp m n p.2)):=by kernel_rfl) (hv:(kt.all fun p=>Gl p.2)=true:=by kernel_rfl):VE d Q (.c (cat f p)::O) .normal s:=fun a w ι r=>by
 show(cat f p).wpIn FF 0 d.P (Kw d.P Q O) a w;rw[M];refine wpIn_rangeFunc fun fn _=>?_;obtain⟨f0,b1⟩:∃f0,dh fn a.tmps #[p0,p1] assign body w.heap.size .ready none=f0:=⟨_,rfl⟩;have d0:=akt (fn:=fn) (ps := #[p0,p1]) (assign:=assign) (body:=body) (r0:=r0) (q0:=q0) r B hv
 letI z:=wa d ι w m n (dh fn a.tmps #[p0,p1] assign body w.heap.size .ready none) r0 q0
 have H:∀i g,bg (bL (bH (eH m n)) ι i)=some g→NN d.M ι g∧g<w.heap.size:=fun i g e=>by
  cases he:bL (bH (eH m n)) ι i with
  | none=>rw[he]at e;cases e
  | some y =>
   obtain⟨id,_,h2⟩:=ik he;have K:bg (ι id)=some g:=by rw[h2,← he];exact e
   exact⟨.inr ⟨id,K⟩,(r.hs.own id g K).2⟩
 haveI:Yk:=⟨by show w.heap.size+1<w.heap.size+2;omega,fun⟨i,h⟩=>by have:=(H i _ h).2;have e:z.l=w.heap.size+1:=rfl;omega,fun k ⟨i,h⟩=>.inl (H i k h).1⟩;have c1:(fW w (dh fn a.tmps #[p0,p1] assign body w.heap.size .ready none)).heap.size=w.heap.size+2:=by simp[fW]
 have I:∀k,k<w.heap.size→(fW w (dh fn a.tmps #[p0,p1] assign body w.heap.size .ready none)).heap[k]?=w.heap[k]?:=fun k B=>(mm _ _ _ (by simp;omega)).trans (mm _ _ _ B);have g0:(fW w (dh fn a.tmps #[p0,p1] assign body w.heap.size .ready none)).heap[w.heap.size]?=some (.deferred (some [])):=(mm _ _ _ (by simp)).trans (amI w _);obtain⟨h1,i0⟩:=r.step (E:=fun _=>False) (E':=fun k=>k=w.heap.size∨k=w.heap.size+1) (w':=fW w (dh fn a.tmps #[p0,p1] assign body w.heap.size .ready none)) rfl rfl rfl (by omega) (fun k h=>h.elim) (fun k B _=>I k B) (fun k h=>by omega);simp only[PP,g6]at b0;obtain⟨k0,e0,k4,k5⟩:=b0;have A0:s.u.contains (cS 440009)=false:=by
  cases hq:s.u.contains (cS 440009) with
  | true=>rw[hq]at e0;cases e0
  | false=>rfl
 have T0:look 440009 s.o=none:=by
  cases hq:look 440009 s.o with
  | some _=>rw[hq]at k4;cases k4
  | none=>rfl
 have F0:∀p∈nA m n,look p.1 s.r=none:=fun p hp=>by
  have:=ll.1 k5 p hp;cases hq:look p.1 s.r with
  | some _=>rw[hq]at this;cases this
  | none=>rfl
 have nm:∀{j id:Nat},look j (bH (eH m n))=some id→(∃y,ι id=some y)→bL (bH (eH m n)) ι j=some (z.v j):=fun {j id} h ⟨y,hy⟩=>by
  have e:bL (bH (eH m n)) ι j=some y:=(gG h).trans hy;show _=some ((bL (bH (eH m n)) ι j).getD _);rw[e];rfl
 have C:j0 (bL (bH (eH m n)) ι):=⟨nm rfl (ID r v0),nm rfl (ID r w0),nm rfl (ID r x0)⟩;have m0:∀p∈nA m n,∃y,bL (bH (eH m n)) ι p.2=some y:=fun p hp=>by
  simp only[nA,l3,abM,amk]at hp;rcases hp with rfl|rfl|rfl
  ·exact⟨_,C.1⟩
  ·exact⟨_,C.2.1⟩
  ·exact⟨_,C.2.2⟩
 have U:=r.ev hg;generalize hX:a.eval gop=X at U;cases U with
 | fn _ _ _ ys hl S0 =>
  refine⟨w.heap.size+1,[{ target:=.collected w.heap.size,args := #[] }],fW w (dh fn a.tmps #[p0,p1] assign body w.heap.size .ready none),{ target:=.fn (.func gf) ys.toArray,args := #[g9 (w.heap.size+1)] },fW w (dh fn a.tmps #[p0,p1] assign body w.heap.size .ready none),gf,#[g9 (w.heap.size+1)]++ys.toArray,fW w (dh fn a.tmps #[p0,p1] assign body w.heap.size .ready none),run_enterLoop_outer _ _ _ _ _,?_,fun _ _=>trivial,?_,(fun e=>nomatch e),?_⟩
  ·simp only[resolve,hX];simp[go_sem,g9]
  ·simp[invoke,go_sem,EK o0,g9]
  ·refine anK.2 ?_;have S:=N (fun a w w'=>hZ _ a w w') (F rfl rfl d0) (fun b=>NN (fun k=>d.M k∨(k=w.heap.size∨k=w.heap.size+1)) ι b∧∀i,bg (bL (bH (eH m n)) ι i)≠some b) (fW w (dh fn a.tmps #[p0,p1] assign body w.heap.size .ready none)) (bL (bH (eH m n)) ι) (#[g9 (w.heap.size+1)]++ys.toArray)
    ⟨⟨.inl (.inr (.inr rfl)),fun i h=>by have:=(H i _ h).2;have e:z.l=w.heap.size+1:=rfl;omega⟩,by show w.heap.size+2≤_;omega,fun k _ _=>rfl,fun b R hB=>by
     rcases R.1 with (h|h)|h
     ·exact .inl (.inl h)
     ·exact .inr h
     ·exact .inl (.inr h),fun k h=>.inl h,⟨rfl,rfl,rfl⟩⟩ C (h1.hs.ub (ρo:=nA m n) rfl k0 (hO rfl rfl) hr (by kernel_rfl)) (by simp;omega) (fun i c x S hx=>?_)
   ·refine S.mono ?_
    rintro e J ⟨v,rfl,(⟨V,s1,ι1,T,c0,hh⟩|hz)⟩
    ·cases q:dj Y pl (b,L) with
     | inr x=>rw[q]at V;exact V.elim
     | inl s' =>
      rw[q]at T c0;obtain⟨g1,g2,g3⟩:=h1.hs.DD (ρo:=nA m n) rfl k0 (hO rfl rfl) hr A0 T0 F0 m0 hh (O1:=yO (c9 s'.1)) T c0 (R rfl rfl s'.1);have K:aI ⟨d.P,d.n,fun k=>d.M k∨(k=w.heap.size∨k=w.heap.size+1),iC d.w0 ι (fW w (dh fn a.tmps #[p0,p1] assign body w.heap.size .ready none))⟩ (gH 440009 (dQ s'.2) (o2 s'.1) s) a J (cJ ι ι1 440009 440009):=⟨g1,r.dfr,r.n,fun k v B=>by
       obtain⟨u,hu,rfl⟩:=lJ B;obtain⟨y,hy,hr⟩:=h1.tmp k u hu;exact⟨y,hy,g2 hr⟩⟩
      have a0:∀k,w.heap.size≤k→¬ (iC d.w0 ι (fW w (dh fn a.tmps #[p0,p1] assign body w.heap.size .ready none))).G k:=fun k B ⟨id,e⟩=>by have:=(r.hs.own id k e).2;omega
      have t0:J.heap[w.heap.size+1]?=some (.loop (dh fn a.tmps #[p0,p1] assign body w.heap.size .ready none)):=(K.hs.below.block _ (by show _<(fW w _).heap.size;omega) (a0 _ (by omega))).trans d0.rc;have h0:J.heap[w.heap.size]?=some (.deferred (some [])):=(K.hs.below.block _ (by show _<(fW w _).heap.size;omega) (a0 _ (by omega))).trans g0;obtain⟨h4,l0⟩:=K.step (E:=fun k=>k=w.heap.size+1) (E':=fun _=>False) (w':=J.putObj (w.heap.size+1) (.loop { dh fn a.tmps #[p0,p1] assign body w.heap.size .ready none with state:=.exhausted })) rfl rfl rfl (by simp) (by rintro k rfl;exact .inr (.inr rfl)) (fun k B y0=>Io y0) (fun k h=>h.elim);refine⟨none,_,run_endLoop t0 (by simp[dh]),?_⟩;have s0:=Bt (P:=d.P) (Q:=Q) (l:=none) (ds:=[]) (ds':=[{ target:=.collected w.heap.size,args := #[] }]) O;show @Kw fm0 d.P Q O .normal _ _;rw[show @Kw fm0 d.P Q O=_ from s0]
      refine kn s' q _ _ w.heap.size ⟨fun k h=>.inl (.inl h),.inl (.inr (.inl rfl)),?_,?_,r.hs.below.size,(i0.mono (fun _ h=>h.elim)).trans (l0.mono (fun k h=>by subst h;exact oR r.hs.below.size (Nat.le_succ _))),r.hs.old⟩ _ _ _ (@aI.mk (po w.heap.size) _ _ { a with defers:=[{ target:=.collected w.heap.size,args := #[] }]++a.defers } _ _ h4.hs (by show _++a.defers=_;rw[r.dfr];rfl) h4.n h4.tmp)
      ·exact(Io (by omega)).trans h0
      ·rintro ⟨id,e⟩
       exact K.hs.sep (.inr (.inl rfl)) e
    ·cases q:dj Y pl (b,L) with
     | inl s'=>rw[q]at hz;exact hz.elim
     | inr x =>
      rw[q]at hz;obtain⟨c,w4,e1,e2⟩:=a1 x q a w ι r fn J hz;exact⟨some c,w4,e1,e2⟩
   ·cases i with
    | zero =>
     injection S with S;subst S
     have A:some (g9 (w.heap.size+1))=some x:=by simpa using hx
     injection A with A;subst A
     exact .vv _ _ rfl
    | succ i =>
     have A:ys[i]?=some x:=by
      rw[aea (by simp)]at hx;simpa using hx
     refine (S0 i c x S A).mono (by omega) (fun b R W=>?_) (fun b R _=>I b R) (fun _ _ h=>by cases h);rcases W with W|⟨i',W⟩
     ·rcases W.1 with (h|h)|h
      ·exact .inl h
      ·omega
      ·exact .inr h
     ·exact(H i' b W).1
theorem OM{P:Program}{f:FuncId}{fn:Func}{c:Code}{args:b6}{Q:AV→AS→Prop}(r:P.funcs[f]?=some fn)(d:fn.body=some c)(n:Nat)(z:fn.ntmps=n)(x:args.length≤n)
  (h:∀M p,VE ⟨P,n,M,p⟩ (bodyPostM Fence.wide 0 P fn (bP M p Q)) [.c c] .normal ⟨idxs 0 args,[],[],[]⟩):aZ P f args Q:=by
 intro M w xs q o;refine anK.1 (callsIn_of_wp_marks (n:=0) r d trivial ?_);refine h M (gC w) { tmps:=xs++Array.replicate (fn.ntmps-xs.size) undef,defers:=[] } w bA ?_;have s:HS M (gC w) w bA ⟨idxs 0 args,[],[],[]⟩:=⟨⟨rfl,rfl,rfl,h7 _,fun _ _ _=>rfl⟩,fun b d=>⟨q b d,fun h=>h⟩,fun i y u=>(by cases u),fun i g j=>(by cases j),fun i A g j=>(by cases j),fun i cs e=>(by cases e),fun i a e=>(by cases e),fun i cs e=>(by cases e),fun i a e=>(by cases e),fun i v t=>(by cases t)⟩;refine @aI.mk fm0 _ _ _ _ _ s rfl ?_ (fun k v l=>?_)
 ·have:=o.1;simp;omega
 ·rw[nM,iF (n3 _),aiE]at l;have m:k<xs.size:=by rw[←o.1];exact(g7.1 l).1
  refine⟨xs[k],?_,(o.2 k v _ l (h8 m)).mono (h7 _) (fun b _ d=>?_) (fun _ _ _=>rfl) (fun _ _ h=>h)⟩
  ·grind
  ·rcases d with d|⟨id,d⟩
   ·grind
   ·cases d
theorem Cj{P:Program}{n:Nat}{M f:Nat→Prop}{t b':az}{D:Nat}(c:YE ⟨P,n,M,t⟩ f b' D){fn:Func}{s:AS}{Q:AV→AS→Prop}{l:b6}(h:gz P s fn.results.toList=some l)(H:Q (oe l) s):
  VE (fm:=po D) ⟨P,n,f,b'⟩ (bodyPostM Fence.wide 0 P fn (bP M t Q)) [] .ret s:=fun a w ι p=>by
 letI:FM:=po D
 have m:D<b'.w.heap.size:=(lc.1 c.d).1;have F:w.heap[D]?=some (.deferred (some [])):=(p.hs.below.block D m c.g).trans c.d;show LeavesInM Fence.wide 0 P fn a.tmps (bP M t Q) a.defers .returning w;rw[p.dfr];refine⟨by simp,.inl ⟨D,_,rfl,run_takeDeferred F,?_⟩⟩;obtain⟨A,C⟩:=p.step (E:=fun k=>k=D) (E':=fun _=>False) (w':=w.putObj D (.deferred none)) rfl rfl rfl (by simp) (by rintro k rfl;exact c.m) (fun k e o=>Io o) (fun k h=>h.elim);obtain⟨vs,B,g,d⟩:=yW A h;have I:=HS.WI (M:=M) A.hs (c.gr.trans (C.mono (fun k h=>by subst h;exact c.b))) (fun k e=>e) (fun k e=>⟨.inl (c.M k e),c.old k e⟩);have G:∀b,NN M ι b→NN (fun k=>f k∨False) ι b:=fun b j=>j.elim (fun h=>.inl (.inl (c.M b h))) .inr;refine⟨_,IV B,_,oe l,s,ι,rfl,H,I,Rel.mono (N:=NN (fun k=>f k∨False) ι) (w:=w.putObj D (.deferred none)) ?_ (by omega) (fun b _ j=>G b j) (fun _ _ _=>rfl) (fun _ _ h=>h)⟩
 match l,vs,g,d with
 | [],[],_,d=>exact .tup _ _ _ rfl (fun i x v J _=>by grind)
 | [v],[y],_,d=>exact d 0 v y rfl rfl
 | v::u::r,y::z::q,g,d=>exact .tup _ _ _ g d
def ri:AV→Value
 | .int k n=>.int k n
 | .bool b=>.bool b
 | _=>.bool true
def lI:AV→Bool
 | .int _ _=>true
 | .bool _=>true
 | _=>false
theorem agb{N}{w}{ι}{c}{x}(h:Rel N w ι c x)(a:lI c=true):x=ri c:=by
 cases h<;>first|rfl|(simp[lI]at a)
theorem ag1 N w ι{c}(a:lI c=true):Rel N w ι c (ri c):=by
 cases c<;>first|(simp[lI]at a;done)|exact .int _ _ _|exact .bool _ _
theorem Yb{N}{w}{ι}{cs}{vs}(h:Cells N w ι cs vs)(d:cs.all lI=true):vs=cs.map ri:=by
 apply alV;intro i;rw[th];cases b:cs[i]? with
 | none =>
  rw[al1];· rfl
  ·rw[←h.len];grind
 | some c =>
  have a:i<vs.length:=by rw[←h.len];grind
  rw[h6 a];exact amM some (agb (h.rel i c _ b (h6 a)) (by grind))
theorem Pk N w ι{cs}(e:cs.all lI=true):Cells N w ι cs (cs.map ri):=by
 refine⟨by simp,fun v d=>?_,fun i c x b a=>?_⟩
 ·obtain⟨c,b,rfl⟩:=u6.1 d;cases c<;>first|rfl|grind
 ·rw[th,b]at a;injection a with a;subst a
  exact ag1 _ _ _ (by grind)
def zY[YD](c4 c5:b6)(o:Obj)(w:World):Prop :=
 (w.os=YD.ws.os∧w.tape=YD.ws.tape∧w.output=YD.ws.output)∧YD.B≤w.heap.size∧(∀k,k<YD.B→¬ YD.L k→k≠YD.l→w.heap[k]?=YD.ws.heap[k]?)∧w.heap[YD.l]?=some o ∧
 (∃g T,YD.v 440004=.pointer (some ⟨g,0,none⟩)∧g≠YD.l∧w.heap[g]?=some (.cells (c4.map ri).toArray T (0,0)))∧(∃g T,YD.v 440005=.pointer (some ⟨g,0,none⟩)∧g≠YD.l∧w.heap[g]?=some (.cells (c5.map ri).toArray T (0,0)))
theorem ajg[YD]{c4 c5}{o}{w w'}(h:zY c4 c5 o w)(b:Below w.heap.size w w'):zY c4 c5 o w':=by
 obtain⟨⟨d,f,i⟩,j,l,m,⟨g,T,r,s,t⟩,⟨c,T',u,v,x⟩⟩:=h;have a:∀{k o},w.heap[k]?=some o→w'.heap[k]?=some o:=fun {k o} e=>(b.block k (lc.1 e).1).trans e;exact⟨⟨b.os.trans d,b.tape.trans f,b.output.trans i⟩,oR j b.size,fun k p n q=>(b.block k (by omega)).trans (l k p n q),a m,⟨g,T,r,s,a t⟩,⟨c,T',u,v,a x⟩⟩
theorem ach[FM][YD][Yk]{m:Cx}{w:World}{ι:Env}{s:AS}{a:Act}(b:YB m.w0)(v:aI m s a w ι){j4 j5:Nat}(L:look j4 s.t=some (.ptr 440004 0))(M:look j5 s.t=some (.ptr 440005 0)){c4 c5:b6}(z:look 440004 s.o=some c4)(A:look 440005 s.o=some c5)(J:c4.all lI=true)(K:c5.all lI=true)(o:Obj):zY c4 c5 o (w.putObj YD.l o):=by
 have h:=v.hs;have r:YD.l<w.heap.size:=nx Yk.lt (oR b.sz h.below.size);have t:∀i g,bg (ι i)=some g→g≠YD.l:=fun i g e E=>by
  subst E;rcases (h.own i _ e).1 with q|q
  ·exact absurd Yk.lt (afl.2 (oR b.sz q))
  ·rcases b.g _ q with q|q
   ·exact Yk.nl q
   ·exact absurd Yk.lt (afl.2 q)
 have f:∀{j id c},look j s.t=some (.ptr id 0)→look id s.o=some c→c.all lI=true→m.w0.pv id=some (YD.v id)→∃g T,YD.v id=.pointer (some ⟨g,0,none⟩)∧g≠YD.l∧(w.putObj YD.l o).heap[g]?=some (.cells (c.map ri).toArray T (0,0)):=fun {j id c} F D l G=>by
  have I:=(h.pin _ _ G).1;obtain⟨_,_,H⟩:=v.tmp j _ F;cases H with
  | ptr _ _ _ N p =>
  obtain⟨g,T,vs,n,x,y⟩:=h.objs id c D (by rw[p];rfl);have d:=t id g (by rw[n];rfl);refine⟨g,T.1,?_,d,(Io d).trans ?_⟩
  ·rw[I]at n;injection n
  ·rw[x,← Yb y l,aaC]
 refine⟨⟨h.below.os.trans b.ot.1,h.below.tape.trans b.ot.2.1,h.below.output.trans b.ot.2.2⟩,?_,fun k l C u=>?_,amw r,f L z J b.pv.2.1,f M A K b.pv.2.2⟩
 ·simpa using oR b.sz h.below.size
 ·refine (Io u).trans ((h.below.block k (nx l b.sz) (fun B=>?_)).trans (b.ph k l C u));rcases b.g k B with q|q
  ·grind
  grind
theorem agl{p:Cx}{s:AS}{a:Act}{w n:World}{ι:Env}(c:aI p s a w ι){l m j4 j5:Nat}{fn:FuncId}{p0 p1:Nat}{assign body:Code}{r0:Int×Int×Int×Int}{q0:Bool}{c4 c5:b6}(k4:c4.all lI=true)(k5:c5.all lI=true)
  (hz : @zY (wa p ι w l m (dh fn a.tmps #[p0,p1] assign body w.heap.size .ready none) r0 q0) c4 c5 (.loop (dh fn a.tmps #[p0,p1] assign body w.heap.size .done (some .ret))) n)
  (Q:look j4 s.t=some (.ptr l 0)) (R:look j5 s.t=some (.ptr m 0)) (h4:l<450000) (h5:m<450000) :
  ∃T N b',(Instr.endLoop (w.heap.size+1)).run p.P n=.ok (some .ret) T∧YE p N b' w.heap.size∧@aI (po w.heap.size) ⟨p.P,p.n,N,b'⟩ ⟨[(j4,.ptr l 0),(j5,.ptr m 0)],[(l,c4),(m,c5)],[],s.u⟩ { a with defers:={ target:=.collected w.heap.size,args := #[] }::a.defers } T ι:=by
 letI F:=wa p ι w l m (dh fn a.tmps #[p0,p1] assign body w.heap.size .ready none) r0 q0
 obtain⟨⟨z1,z2,z3⟩,z4,U,z6,⟨Z,V,q1,q2,q3⟩,⟨g5,W,r1,r2,r3⟩⟩:=hz;have hB:w.heap.size+2≤n.heap.size:=z4;have C:∀i g,bg (bL (bH (eH l m)) ι i)=some g→∃id,bg (ι id)=some g:=fun i g e=>by
  cases H:bL (bH (eH l m)) ι i with
  | none=>rw[H]at e;cases e
  | some y=>obtain⟨id,_,h2⟩:=ik H;exact⟨id,by rw[h2,← H];exact e⟩
 have L:∀k,w.heap.size≤k→¬ F.L k:=fun k f ⟨i,e⟩=>by
  obtain⟨id,h⟩:=C i k e;have:=(c.hs.own id k h).2;omega
 have D:∀{k j id g:Nat},look k s.t=some (.ptr id 0)→look j (bH (eH l m))=some id→F.v j=.pointer (some ⟨g,0,none⟩)→ι id=some (.pointer (some ⟨g,0,none⟩)):=fun {k j id g} f E hv=>by
  obtain⟨_,_,A⟩:=c.tmp k _ f;cases A with
  | ptr _ _ _ Y u =>
   have e:bL (bH (eH l m)) ι j=some (.pointer (some ⟨Y,0,none⟩)):=(gG E).trans u;have B:(bL (bH (eH l m)) ι j).getD (.bool true)=.pointer (some ⟨g,0,none⟩):=hv;rw[e]at B;rw[u];exact amM some B
 have v4:=D Q (rfl:look 440004 (bH (eH l m))=some l) q1;have v5:=D R (rfl:look 440005 (bH (eH l m))=some m) r1;have z:∀k,k<w.heap.size→(fW w (dh fn a.tmps #[p0,p1] assign body w.heap.size .ready none)).heap[k]?=w.heap[k]?:=fun k f=>(mm _ _ _ (by simp;omega)).trans (mm _ _ _ f);have G:(fW w (dh fn a.tmps #[p0,p1] assign body w.heap.size .ready none)).heap[w.heap.size]?=some (.deferred (some [])):=(mm _ _ _ (by simp)).trans (amI w _);have E:F.l=w.heap.size+1:=rfl;have X:n.heap[w.heap.size+1]?=some (.loop (dh fn a.tmps #[p0,p1] assign body w.heap.size .done (some .ret))):=z6;refine⟨_,fun k=>p.M k∨k=w.heap.size,iC p.w0 ι (n.putObj (w.heap.size+1) (.loop { dh fn a.tmps #[p0,p1] assign body w.heap.size .done (some .ret)with state:=.exhausted })),run_endLoop X (by simp[dh]),⟨fun k h=>.inl h,.inr rfl,?_,?_,c.hs.below.size,⟨z1.trans c.hs.below.os,z2.trans c.hs.below.tape,z3.trans c.hs.below.output,?_,fun k f O _=>?_,fun g t=>?_,rfl⟩,c.hs.old⟩,?_⟩
 ·refine (Io (by omega)).trans ((U w.heap.size (by show _<w.heap.size+2;omega) (L _ (h7 _)) (by rw[E];omega)).trans G)
 ·rintro ⟨id,e⟩
  have:=(c.hs.own id _ e).2;omega
 ·have:=c.hs.below.size;simp[iC];omega
 ·have I:k<w.heap.size:=nx f c.hs.below.size;refine (Io (by omega)).trans ((U k (by show _<w.heap.size+2;omega) (fun⟨i,e⟩=>?_) (by rw[E];omega)).trans ((z k I).trans (c.hs.below.block k f O)));obtain⟨id,h⟩:=C i k e;rcases (c.hs.own id k h).1 with q|q
  ·omega
  ·exact O q
 ·rcases t with t|⟨id,e⟩
  ·refine .inl ?_;have:=c.hs.below.size;simp[iC]at t;omega
  ·exact(c.hs.own id g e).1
 ·have sz:(n.putObj (w.heap.size+1) (.loop { dh fn a.tmps #[p0,p1] assign body w.heap.size .done (some .ret)with state:=.exhausted })).heap.size=n.heap.size:=by simp
  have P:∀{id g},ι id=some (.pointer (some ⟨g,0,none⟩))→has s.u id=true:=fun {id g} e=>c.hs.use id _ e;have S:∀{g:Nat} {o:Obj},g≠F.l→n.heap[g]?=some o→(n.putObj (w.heap.size+1) (.loop { dh fn a.tmps #[p0,p1] assign body w.heap.size .done (some .ret)with state:=.exhausted })).heap[g]?=some o:=fun K e=>(Io K).trans e;refine @aI.mk (po w.heap.size) _ _ _ _ _ ⟨⟨rfl,rfl,rfl,h7 _,fun _ _ _=>rfl⟩,fun b r=>?_,c.hs.use,fun id g e=>⟨.inr ⟨id,e⟩,?_⟩,c.hs.inj,fun id cs d=>?_,fun id ar d=>(by cases d),fun id cs d hp=>?_,fun id ar d=>(by cases d),c.hs.pin⟩ ?_ c.n (fun k v f=>?_)
  ·have J:b<w.heap.size+2:=by
    rcases r with r|r
    ·have:=(c.hs.old b r).1;have:=c.hs.below.size;omega
    ·omega
   refine⟨Nat.lt_of_lt_of_eq (nx J hB) sz.symm,?_⟩
   rintro ⟨id,e⟩
   rcases r with r|r
   ·exact c.hs.sep r e
   ·have:=(c.hs.own id _ e).2;omega
  ·exact Nat.lt_of_lt_of_eq (nx (c.hs.own id g e).2 (by omega:w.heap.size≤n.heap.size)) sz.symm
  ·simp only[look]at d;split at d
   ·rename_i e;subst e;exact P v4
   ·split at d
    ·rename_i e;subst e;exact P v5
    ·cases d
  ·simp only[look]at d;split at d
   ·rename_i e;subst e;injection d with d;subst d
    exact⟨Z,⟨V,fun h=>by omega⟩,_,v4,S q2 q3,by simpa using Pk _ _ _ k4⟩
   ·split at d
    ·rename_i e;subst e;injection d with d;subst d
     exact⟨g5,⟨W,fun h=>by omega⟩,_,v5,S r2 r3,by simpa using Pk _ _ _ k5⟩
    ·cases d
  ·show _::a.defers=_;rw[c.dfr];rfl
  ·simp only[look]at f;split at f
   ·rename_i e;subst e;injection f with f;subst f
    obtain⟨x,M,A⟩:=c.tmp _ _ Q;cases A with
    | ptr _ _ _ g t=>exact⟨_,M,.ptr _ _ _ g t⟩
   ·split at f
    ·rename_i e;subst e;injection f with f;subst f
     obtain⟨x,M,A⟩:=c.tmp _ _ R;cases A with
     | ptr _ _ _ g t=>exact⟨_,M,.ptr _ _ _ g t⟩
    ·cases f
theorem GC{t:Cx}{Q:Exit→Act→World→Prop}{M:ck}{e:Exit}{s:AS}(k id:Nat)(cs:b6)(h:VE t Q M e ⟨bj k (.lk id (.bool true)) s.t,(id,cs)::s.o,s.r,id::s.u⟩)(J:has s.u id=false:=by kernel_rfl)(u:qj s k=true:=by kernel_rfl):VE t Q M e s:=fun a w ι d=>by
 have I:=d.hs.free J;have o:∀i,i≠id→ext ι id (.bool true) i=ι i:=fun i f=>bR _ _ f;have z:∀i b,bg (ext ι id (.bool true) i)=some b→bg (ι i)=some b:=fun i b l=>by
  by_cases e:i=id
  ·rw[e,cH]at l;cases l
  ·rw[o i e]at l;exact l
 have E:∀b,NN t.M (ext ι id (.bool true)) b→NN t.M ι b:=fun b l=>l.elim .inl (fun⟨i,h⟩=>.inr ⟨i,z i b h⟩);have A:=fa I (Value.bool true);refine h a w (ext ι id (.bool true)) ⟨⟨d.hs.below,d.hs.old,fun i y K=>?_,fun i g F=>d.hs.own i g (z i g F),fun i L g F G=>d.hs.inj i L g (z i g F) (z L g G),fun i c f=>?_,fun i c f=>dN (d.hs.kr i c f),fun i c f m=>?_,fun i c f m=>?_,fun i v m=>⟨A _ _ (d.hs.pin i v m).1,nS (d.hs.pin i v m).2⟩⟩,d.dfr,d.n,fun j v n=>?_⟩
 ·by_cases e:i=id
  ·rw[e];exact iV _ _
  ·rw[o i e]at K;exact dN (d.hs.use i y K)
 ·simp only[look]at f;split at f
  ·rename_i e;rw[e];exact iV _ _
  ·exact dN (d.hs.ko i c f)
 ·simp only[look]at f;split at f
  ·rename_i e;rw[e,cH]at m;cases m
  ·rename_i e;rw[o i e]at m;obtain⟨g,T,vs,B,C,D⟩:=d.hs.objs i c f m;exact⟨g,T,vs,(o i e).trans B,C,D.mono (h7 _) (fun b _ l=>E b l) (fun _ _ _=>rfl) A⟩
 ·have e:i≠id:=fun e=>by have:=d.hs.kr i c f;rw[e,J]at this;cases this
  rw[o i e]at m;obtain⟨v,xs,B,C,D,O,P⟩:=d.hs.arrs i c f m;refine⟨v,xs,(o i e).trans B,C,D,O,fun j R n V N H=>?_⟩;obtain⟨x,q,p⟩:=P j R n V N H;exact⟨x,q,p.mono (h7 _) (fun b _ l=>E b l) (fun _ _ _=>rfl) (fun r S=>A _ _ S) (fun _ _=>rfl) (fun h=>h)⟩
 ·rw[cp]at n;split at n
  ·rename_i e;injection n with n;subst n;subst e
   unfold qj at u;split at u
   ·rename_i v U;obtain⟨x,q,p⟩:=d.tmp j v U;exact⟨x,q,.lk _ _ _ _ (cH _ _ _) (p.one u)⟩
   ·cases u
  ·obtain⟨x,q,p⟩:=d.tmp j v n;exact⟨x,q,p.mono (by omega) (fun b _ l=>E b l) (fun _ _ _=>rfl) A⟩
theorem afx{g}{Q}{j}{e}{s} id ar(h:VE g Q j e ⟨s.t,s.o,(id,ar)::s.r,id::s.u⟩)(l:has s.u id=false:=by kernel_rfl):VE g Q j e s:=fun a w ι b=>by
 have k:=b.hs.free l;refine h a w ι ⟨⟨b.hs.below,b.hs.old,fun i y m=>dN (b.hs.use i y m),b.hs.own,b.hs.inj,fun i c d=>dN (b.hs.ko i c d),fun i c d=>?_,b.hs.objs,fun i c d f=>?_,fun i v f=>⟨(b.hs.pin i v f).1,nS (b.hs.pin i v f).2⟩⟩,b.dfr,b.n,b.tmp⟩
 ·simp only[look]at d;split at d
  ·grind[iV]
  ·exact dN (b.hs.kr i c d)
 ·simp only[look]at d;split at d
  ·grind
  ·exact b.hs.arrs i c d f
end Go.Proofs.YtocgkfoifehcbaaGreat
