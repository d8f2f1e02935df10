/- New slices of the call's own: an empty literal, make. No program in sight. -/
import Derived.Test.YtocgkfoifehcbaaGreatRdVd
namespace Go.Proofs.YtocgkfoifehcbaaGreat
set_option linter.all false
open Go.RowKit
def amd:=@List.map_replicate
theorem HS.wQ{M:Nat→Prop}{Q:aB}{w:World}{ι:Env}{s:AS}(h:HS M Q w ι s){d:Nat}(T:has s.u d=false){e:TypeId}{sz n:Nat}{l:h6}{vs:eg}(E:l.length=n)(hm:n≤maxLen)(t:vs.length=n*sz)(hz:∀c∈l,c.length=sz)(D:∀v∈vs,v.oneCell'=true)
  (hc:∀(j:Nat) (c:c6),l[j]?=some c→∀(i:Nat) (x:AV),c[i]?=some x→∃v,vs[j*sz+i]?=some v∧Rel (NN M ι) w bH x v) :
  HS M Q (w.alloc (.cells vs.toArray e)) (ext ι d (.slice (some ⟨w.heap.size,0,none⟩) n n)) { s with r:=bd d ⟨e,sz,l⟩ s.r,u:=d::s.u }:=by
 have N:=h.free T;have z:Q.w.heap.size≤w.heap.size:=h.below.size;have G:∀b,b<w.heap.size→¬ NN M ι b→(w.alloc (.cells vs.toArray e)).heap[b]?=w.heap[b]?:=fun b S _=>u7 _ _ _ S;have I:∀b,b<w.heap.size→NN M (ext ι d (.slice (some ⟨w.heap.size,0,none⟩) n n)) b→NN M ι b:=fun b S p=>by
  rcases gk p with p|p
  ·exact p
  ·injection p with p;simp only[]at p;omega
 have K:=fd N (.slice (some ⟨w.heap.size,0,none⟩) n n);refine⟨h.below.alloc z _,h.old,fun i y U=>?_,fun i g m=>?_,fun i F g m f=>?_,fun i cs hi=>dS (h.ko i cs hi),fun i a hi=>?_,fun i cs hi o=>?_,fun i a hi o=>?_,fun i y o=>⟨K i y (h.pin i y o).1,rF (h.pin i y o).2⟩⟩
 ·by_cases e:i=d
  ·subst e;exact js _ _
  ·rw[bS _ _ e]at U;exact dS (h.use i y U)
 ·by_cases e:i=d
  ·subst e;rw[cJ]at m;injection m with m;simp only[]at m;subst m;exact⟨.inl z,by simp⟩
  ·rw[bS _ _ e]at m;exact⟨(h.own i g m).1,by have:=(h.own i g m).2;simp;omega⟩
 ·by_cases e:i=d
  ·by_cases A:F=d
   ·omega
   ·subst e;rw[cJ]at m;rw[bS _ _ A]at f;injection m with m;simp only[]at m
    have:=(h.own F g f).2;omega
  ·by_cases A:F=d
   ·subst A;rw[cJ]at f;rw[bS _ _ e]at m;injection f with f;simp only[]at f
    have:=(h.own i g m).2;omega
   ·rw[bS _ _ e]at m;rw[bS _ _ A]at f;exact h.inj i F g m f
 ·simp only[cn]at hi;by_cases e:i=d
  ·subst e;exact js _ _
  ·rw[kc e]at hi;exact dS (h.kr i a hi)
 ·have e:i≠d:=by rintro rfl;have:=h.ko i cs hi;rw[T]at this;cases this
  rw[bS _ _ e]at o;obtain⟨C,T',P,D,h2,h3⟩:=h.objs i cs hi o;have L:=(h.own i C (by rw[D];rfl)).2;exact⟨C,T',P,(bS _ _ e).trans D,(u7 _ _ _ L).trans h2,h3.mono (by simp) I G K⟩
 ·simp only[cn]at hi;by_cases B:i=d
  ·subst B;rw[lp rfl]at hi;injection hi with hi;subst hi
   refine⟨_,vs,cJ _ _ _,⟨by simp[t,E],.inr ⟨w.heap.size,n,vs.toArray,by simp[E],u4 _,ame w _,by simp[E],hm,by simpa using t,by simp[E,← t]⟩⟩,hz,D,fun j c J k x q=>?_⟩;obtain⟨v,hv,O⟩:=hc j c J k x q;exact⟨v,hv,.inl (O.mono (by simp) I G (fun _ _ h=>h))⟩
  ·rw[kc B]at hi;rw[bS _ _ B]at o;obtain⟨v,xs,R,W,X,Y,Z⟩:=h.arrs i a hi o;refine⟨v,xs,(bS _ _ B).trans R,fK W (fun C f=>u7 _ _ _ (h.own i C (by rw[R];exact f)).2),X,Y,fun j V J k c q=>?_⟩;obtain⟨x,hx,O⟩:=Z j V J k c q;exact⟨x,hx,O.mono (by simp) I G (fun r H=>K _ _ H) (fun r H=>u7 _ _ _ (h.j6 H)) (fun h=>h)⟩
theorem aV.wQ{f:Cx}{s:AS}{a:Act}{w:World}{ι:Env}(h:aV f s a w ι){d:Nat}(B:d<f.n)(q:has s.u d=false){e:TypeId}{sz n:Nat}{l:h6}{vs:eg}(D:l.length=n)(C:n≤maxLen)(m:vs.length=n*sz)(F:∀c∈l,c.length=sz)(y:∀v∈vs,v.oneCell'=true)
  (A:∀(j:Nat) (c:c6),l[j]?=some c→∀(i:Nat) (x:AV),c[i]?=some x→∃v,vs[j*sz+i]?=some v∧Rel (NN f.M ι) w bH x v) :
  aV f { t:=bd d (.ref d) s.t,o:=s.o,r:=bd d ⟨e,sz,l⟩ s.r,u:=d::s.u } (a.put (some d) (.slice (some ⟨w.heap.size,0,none⟩) n n)) (w.alloc (.cells vs.toArray e)) (ext ι d (.slice (some ⟨w.heap.size,0,none⟩) n n)):=by
 have E:=h.hs.wQ q D C m F y A (e:=e);have z:aV f { s with r:=bd d ⟨e,sz,l⟩ s.r,u:=d::s.u } a (w.alloc (.cells vs.toArray e)) (ext ι d (.slice (some ⟨w.heap.size,0,none⟩) n n)) :=
  h.world E rfl (by simp) (fun b p g=>by
   rcases gk g with g|g
   ·grind
   ·injection g with g;grind) (fun b p _=>u7 _ _ _ p) (fd (h.hs.free q) _)
 exact z.put (d:=some d) (fun k G=>by grind) (.ref _ _ _ _ _ (cJ _ _ _))
section
variable{b:Cx}{Q:Exit→Act→World→Prop}{f:dt}{s:AS}
theorem eU{a}{r} o(c:cC a s o=true)(h:OT b Q f a ({ o with guard:=none }::r) s):OT b Q f a (o::r) s:=by
 unfold cC at c;split at c
 ·have:{ o with guard:=none }=o:=by cases o;grind
  grind
 grind[oF,vR]
theorem ahD{g:Array Oper}{l r:List Oper}(o:Oper)(T:TypeId)(d:Nat){e:TypeId}{sz:Nat}(C:l=o::r)(A:cC g s o=true)(i:o.op=.buildSlice T 0 #[])(z:o.dst=some d)(D:Nat.ble (d+1) b.n=true)(F:b.P.underlying T=some (.slice e))(q:cr b.P e=some sz)(G:has s.u d=false)
  (k:OT b Q f g r { t:=bd d (.ref d) s.t,o:=s.o,r:=bd d ⟨e,sz,[]⟩ s.r,u:=d::s.u }):OT b Q f g l s:=by
 subst C;refine eU o A fun a w ι E=>?_;refine Ts rfl fun K x=>?_;have p:=E.wQ (kb D) G (e:=e) (sz:=sz) (n:=0) (l:=[]) (vs:=[]) rfl (u4 _) (by simp) (fun c y=>by cases y) (fun v H=>by cases H) (fun j c B=>by simp at B);have m:(sizeOf e).run b.P w=.ok sz w:=by
  cases hi:b.P.info? e with
  | none=>simp[cr,hi]at q
  | some I =>
   have : I.size=sz:=by simpa[cr, hi]using q
   simp[sizeOf,typeInfo,hi,this]
 unfold Oper.wp execOp;have h:(Instr.buildSlice T 0 #[]).run b.P w=.ok (.slice (some ⟨w.heap.size,0,none⟩) 0 0) (w.alloc (.cells #[] e)):=by
  simp[Instr.buildSlice,ob F,m,Instr.fill,newRow,QB]
 simp only[i,sj];simp only[al0,amt,Db,h,u5,Qf];rw[z];exact x _ _ (k _ _ _ p)
theorem abz{α:Type}(enc:α→c6)(W:α){C:Array Oper}{l r:List Oper}(o:Oper)(T:TypeId)(x y:Operand)(d:Nat){e:TypeId}{sz:Nat}{zc:c6}{bytes:Nat}{n:Int}{kd kd':IntKind}(hl:l=o::r)(hg:cC C s o=true)(O:o.op=.makeSlice T x y)(hd:o.dst=some d)(hn:Nat.ble (d+1) b.n=true)
  (I:s.ev x=some (.int kd n)) (hy:s.ev y=some (.int kd' n)) (m:ja b.P T=some (e,sz,bytes)) (hz:ey b.P e=some zc) (he:zc.map fT=enc W) (hu:has s.u d=false) (Y:fw n bytes=true)
  (k:OT b Q f C r { t:=bd d (.ref d) s.t,o:=s.o,r:=bd d ⟨e,sz,List.map enc (List.replicate n.toNat W)⟩ s.r,u:=d::s.u }):OT b Q f C l s:=by
 subst hl;refine eU o hg fun a w ι R=>?_;refine Ts rfl fun K hK=>?_;simp only[fw,iO,q6]at Y;obtain⟨b0,b1,b2⟩:=Y;unfold ja at m;split at m
 case h_2=>cases m
 rename_i X U;split at m
 case h_2=>cases m
 rename_i h H;split at m
 case h_2=>cases m
 rename_i z J;split at m
 case isFalse=>cases m
 rename_i A;injection m with m;injection m with h1 m;injection m with h2 h3
 subst h1;subst h2;subst h3;have V:lI z.cells.toList=some zc:=by simpa[ey,H,J]using hz
 have g:=(lj (NN b.M ι) w bH V);have P:=g.pz;have G:=Qa w T X h z U H J kd kd' n b0 b1 b2 A.2;have p:zc.length=h.size:=by rw[g.len,← A.1];simp
 have B:∀q,q<n.toNat*h.size→((Array.range (n.toNat*h.size)).map (z.cells[· % z.cells.size]!)).toList[q]?=z.cells.toList[q % h.size]?:=fun q D=>by
  have hm:q % h.size<z.cells.size:=by rw[A.1];exact amY _ A.2
  simp[D,A.1];rw[amz z.cells (q % h.size) hm,ll hm]
 have S:=R.wQ (kb hn) hu (e:=X) (sz:=h.size) (n:=n.toNat) (l:=List.map enc (List.replicate n.toNat W)) (vs:=((Array.range (n.toNat*h.size)).map (z.cells[· % z.cells.size]!)).toList) (by simp) (by unfold maxLen;omega) (by simp)
  (fun c Z=>by
   simp only[amd,ama]at Z;rw[Z.2,← he,nw,p])
  (fun v L=>by
   obtain⟨q,D⟩:=ali L;have N:q<n.toNat*h.size:=by have:=(jt.1 D).1;simpa using this
   rw[B q N]at D;exact g.one v (mm D))
  (fun j c E i x I=>by
   simp only[amd,ak4]at E;split at E
   ·rename_i M;injection E with E;subst E
    rw[←he]at I;have hi:i<h.size:=by have:=(jt.1 I).1;rw[nw,p]at this;exact this
    have D:j*h.size+i<n.toNat*h.size:=by
     have:(j+1)*h.size≤n.toNat*h.size:=IN _ M;rw[ajK,ak9]at this;omega
    have F:(j*h.size+i) % h.size=i:=by rw[als,amA,alo hi]
    rw[B _ D,F];have L:=j3 (l:=z.cells.toList) (i:=i) (by rw[←g.len,p];exact hi);exact⟨_,L,P.rel i x _ I L⟩
   ·cases E)
 unfold Oper.wp execOp;simp only[O,sj,lV R I,lV R hy,G,u5,Qf];rw[hd];have:=k _ _ _ S;simp only[aiU]at this;exact hK _ _ this
end
mutual
def AV.mv(id a:Nat):AV→AV
 | .ref i=>if i=id then .ref a else .ref i
 | .ptr i o=>if i=id then .any else .ptr i o
 | .pp i g o=>if i=id then .any else .pp i g o
 | .sit i g s p=>if i=id then .any else .sit i g s p
 | .adr g o=>.adr g o
 | .eptr i sz j o=>if i=id then .any else .eptr i sz j o
 | .sref i sz o m=>if i=id then .any else .sref i sz o m
 | .agg cs=>.agg (kx id a cs)
 | .tup cs=>.tup (kx id a cs)
 | .int k n=>.int k n
 | .bool b=>.bool b
 | .str s=>.str s
 | .nils=>.nils
 | .sl l=>.sl l
 | .nilm=>.nilm
 | .mref _ _=>.any
 | .omp m=>.omp m
 | .osl e sz l=>.osl e sz l
 | .vv x=>.vv x
 | .lk i x=>if i=id then .any else .lk i x
 | .fn f c=>.fn f c
 | .fno f c=>.fno f (kx id a c)
 | .nilf=>.nilf
 | .nilp=>.nilp
 | .cptr cs=>.cptr cs
 | .any=>.any
def kx(id a:Nat):c6→c6
 | []=>[]
 | c::r=>c.mv id a::kx id a r
end
def qx(id a:Nat):il→il
 | []=>[]
 | (k,v)::r=>(k,v.mv id a)::qx id a r
def rk(id a:Nat):iF→iF
 | []=>[]
 | (k,v)::r=>(k,kx id a v)::rk id a r
theorem yq{id a}:∀{l} {i:Nat} {x},(kx id a l)[i]?=some x→∃y,l[i]?=some y∧x=y.mv id a
 | [],i,x,h=>by grind[kx]
 | c::r,0,x,h=>by grind[kx]
 | c::r,i+1,x,h=>by simp only[alE]at h⊢;exact yq h
theorem yh{id a}:∀l,(kx id a l).length=l.length
 | []=>rfl
 | c::r=>by simp[kx,yh r]
theorem UJ{id a}:∀{l} {k} {v},look k (qx id a l)=some v→∃u,look k l=some u∧v=u.mv id a
 | [],k,v,h=>by cases h
 | (j,x)::r,k,v,h=>by
  simp only[qx,look]at h⊢;split at h
  ·grind
  ·rename_i e;rw[kc e];exact UJ h
theorem FR{id a}:∀{l} {k} {v},look k (rk id a l)=some v→∃u,look k l=some u∧v=kx id a u
 | [],k,v,h=>by cases h
 | (j,x)::r,k,v,h=>by
  simp only[rk,look]at h⊢;split at h
  ·grind
  ·rename_i e;rw[kc e];exact FR h
def kq(ι:Env)(id a:Nat):Env:=fun i=>if i=a then ι id else if i=id then none else ι i
theorem Rel.mv{N N':Nat→Prop}{w:World}{ι:Env}{v:AV}{x:Value}(h:Rel N w ι v x){id H:Nat}{ι':Env}(J:∀b,N' b→N b)(I:∀y,ι id=some y→ι' H=some y)(a:∀i y,i≠id→ι i=some y→ι' i=some y):Rel N' w ι' (v.mv id H) x:=by
 have L:∀{e:Env} {v:AV} {x:Value},Rel N w e v x→Rel N' w e v x:=fun h=>h.mono (la _) (fun b _ p=>J b p) (fun _ _ _=>rfl) (fun _ _ h=>h)
 induction h with
 | int ι k n=>exact .int _ _ _
 | bool ι b=>exact .bool _ _
 | str ι s=>exact .str _ _
 | nils ι=>exact .nils _
 | nilm ι=>simp only[AV.mv];exact .nilm _
 | mref ι i q r v h a=>simp only[AV.mv];exact .any _ _ rfl
 | sl0 ι A c=>exact .sl0 _ _ _
 | sl ι l b o c sz u U p G C K d E z=>simp only[AV.mv];exact .sl _ l b o c sz u U p (fun h=>G (J b h)) C K (fun j e R i x t=>L (d j e R i x t)) E
 | fn ι f aR O F d z=>exact .fn _ f aR O F (fun i c y I a=>L (d i c y I a))
 | fno ι f aR O F d z =>
  refine .fno _ _ _ O (by rw[yh];exact F) (fun i x v t M=>?_);obtain⟨y,T,rfl⟩:=yq t;exact z i y v T M I a
 | nilf ι=>exact .nilf _
 | nilp ι=>exact .nilp _
 | any ι x h=>exact .any _ _ h
 | ptr ι i off g h =>
  simp only[AV.mv];split
  ·exact .any _ _ rfl
  ·rename_i e;exact .ptr _ _ _ _ (a _ _ e h)
 | adr ι g off=>simp only[AV.mv];exact .adr _ _ _
 | vv ι x h=>simp only[AV.mv];exact .vv _ _ h
 | lk ι i v x h D =>
  simp only[AV.mv];split
  ·exact .any _ _ D
  ·rename_i e;exact .lk _ _ _ _ (a _ _ e h) D
 | pp ι i g off h =>
  simp only[AV.mv];split
  ·exact .any _ _ rfl
  ·rename_i e;exact .pp _ _ _ _ (a _ _ e h)
 | sit ι i g s V h S G p =>
  simp only[AV.mv];split
  ·exact .any _ _ rfl
  ·rename_i e;exact .sit _ _ _ _ _ (a _ _ e h) S (fun h=>G (J g h)) p
 | eptr ι i sz j off g n c h =>
  simp only[AV.mv];split
  ·exact .any _ _ rfl
  ·rename_i e;exact .eptr _ _ _ _ _ _ n c (a _ _ e h)
 | sref ι i sz off m n c P A B h Q =>
  simp only[AV.mv];split
  ·exact .any _ _ rfl
  ·rename_i e;exact .sref _ _ _ _ _ n c P A B (a _ _ e h) Q
 | cptr ι cs b o u p G C K d z=>simp only[AV.mv];exact .cptr _ cs b o u p (fun h=>G (J b h)) C K (fun i x t=>L (d i x t))
 | ref ι i A n c h =>
  simp only[AV.mv];split
  ·rename_i e;subst e;exact .ref _ _ _ _ _ (I _ h)
  ·rename_i e;exact .ref _ _ _ _ _ (a _ _ e h)
 | agg ι cs vs F C d z =>
  refine .agg _ _ _ (by grind[yh]) C (fun i x v t M=>?_)
  grind[yq]
 | tup ι cs vs F d z =>
  refine .tup _ _ _ (by grind[yh]) (fun i x v t M=>?_)
  grind[yq]
theorem aV.Zb{H:Cx}{s:AS}{a:Act}{w:World}{ι:Env}(h:aV H s a w ι){id d:Nat}{ar:cj}(N:look id s.r=some ar)(O:TG≤id→∀e∈ar.l,∀c∈e,c.PH=true)(R:has s.u d=false)(V:s.u.contains (da id)=false):
  aV H ⟨qx id d s.t,rk id d s.o,bd d ar (era id s.r),d::s.u⟩ a w (kq ι id d):=by
 have U:=h.hs.free R;have S:d≠id:=fun e=>by have:=h.hs.kr id ar N;rw[←e,R]at this;cases this
 have L:kq ι id d d=ι id:=by simp[kq]
 have E:∀i,i≠id→i≠d→kq ι id d i=ι i:=fun i a b=>by simp[kq,a,b]
 have M:kq ι id d id=none:=by simp[kq,Ne.symm S]
 have X:∀y,ι id=some y→kq ι id d d=some y:=fun y m=>by rw[L];exact m
 have I:∀i y,i≠id→ι i=some y→kq ι id d i=some y:=fun i y hi m=>by
  have:i≠d:=fun e=>by subst e;rw[U]at m;cases m
  rw[E i hi this];exact m
 have t:∀i g,bu (kq ι id d i)=some g→∃j,bu (ι j)=some g∧(i=d∧j=id∨i≠d∧i≠id∧j=i):=fun i g o=>by
  by_cases f:i=d
  ·subst f;rw[L]at o;exact⟨id,o,.inl ⟨rfl,rfl⟩⟩
  ·by_cases n:i=id
   ·subst n;rw[M]at o;cases o
   ·rw[E i n f]at o;exact⟨i,o,.inr ⟨f,n,rfl⟩⟩
 have q:∀b,NN H.M (kq ι id d) b→NN H.M ι b:=fun b F=>by
  rcases F with F|⟨i,F⟩
  ·exact .inl F
  ·obtain⟨j,p,_⟩:=t i b F;exact .inr ⟨j,p⟩
 refine⟨⟨h.hs.below,h.hs.old,fun i y m=>?_,fun i g o=>?_,fun i i' g o P=>?_,fun i cs hi=>?_,fun i a hi=>?_,fun i cs hi l=>?_,fun i a hi l=>?_,fun i y l=>(by
  have e:i≠id:=fun e=>by subst e;rw[h.hs.np V]at l;cases l
  exact⟨I i y e (h.hs.pin i y l).1,rF (h.hs.pin i y l).2⟩)⟩,h.dfr,h.n,fun k v C=>?_⟩
 ·by_cases f:i=d
  ·subst f;exact js _ _
  ·by_cases n:i=id
   ·subst n;rw[M]at m;cases m
   ·rw[E i n f]at m;exact dS (h.hs.use i y m)
 ·obtain⟨j,p,_⟩:=t i g o;exact h.hs.own j g p
 ·obtain⟨j,p,c1⟩:=t i g o;obtain⟨j',Q,z⟩:=t i' g P;have:=h.hs.inj j j' g p Q;rcases c1 with⟨q1,q2⟩|⟨q1,q2,q3⟩<;>rcases z with⟨r1,r2⟩|⟨r1,r2,r3⟩<;>omega
 ·obtain⟨u,D,rfl⟩:=FR hi;exact dS (h.hs.ko i u D)
 ·simp only[cn]at hi;by_cases f:i=d
  ·subst f;exact js _ _
  ·rw[kc f,AM]at hi;split at hi
   ·cases hi
   ·exact dS (h.hs.kr i a hi)
 ·obtain⟨u,D,rfl⟩:=FR hi;by_cases f:i=d
  ·subst f;have:=h.hs.ko i u D;rw[R]at this;cases this
  ·by_cases n:i=id
   ·subst n;rw[M]at l;cases l
   ·rw[E i n f]at l⊢;obtain⟨g,T,vs,c1,z,A⟩:=h.hs.objs i u D l;refine⟨g,T,vs,c1,z,by rw[yh];exact A.len,A.one,fun j x v B Z=>?_⟩;obtain⟨y,m,rfl⟩:=yq B;exact(A.rel j y v m Z).mv q X I
 ·simp only[cn]at hi;by_cases f:i=d
  ·subst f;rw[lp rfl]at hi;injection hi with hi;subst hi
   rw[L]at l⊢;obtain⟨v,xs,c1,z,A,J,K⟩:=h.hs.arrs id ar N l;refine⟨v,xs,c1,z,A,J,fun j e p k c C=>?_⟩;obtain⟨x,B,G⟩:=K j e p k c C;exact⟨x,B,.inl ((G.ahT (fun Y=>O Y e (mm p) c (mm C))).mono (la _) (fun b _ t=>q b t) (fun _ _ _=>rfl) (fun _ _ h=>h))⟩
  ·rw[kc f,AM]at hi;split at hi
   ·cases hi
   ·rename_i n;rw[E i n f]at l⊢;obtain⟨v,xs,c1,z,A,J,K⟩:=h.hs.arrs i a hi l;refine⟨v,xs,c1,z,A,J,fun j e p k c C=>?_⟩;obtain⟨x,B,G⟩:=K j e p k c C;exact⟨x,B,G.mono (la _) (fun b _ t=>q b t) (fun _ _ _=>rfl) (fun r W=>I _ _ (h.hs.ya N W) W) (fun _ _=>rfl) (fun h=>h)⟩
 ·obtain⟨u,D,rfl⟩:=UJ C;obtain⟨x,B,G⟩:=h.tmp k u D;exact⟨x,B,G.mv q X I⟩
theorem aV.mv{d}{s}{a}{w}{ι}(h:aV d s a w ι){id b}{ar}(g:id<TG)(e:look id s.r=some ar)(f:has s.u b=false)(c:s.u.contains (da id)=false):
  aV d ⟨qx id b s.t,rk id b s.o,bd b ar (era id s.r),b::s.u⟩ a w (kq ι id b) :=
 h.Zb e (fun h=>by omega) f c
theorem ajT{f}{Q}{g}{s}{e} id b{ar}(d:id<TG)(i:look id s.r=some ar)(j:has s.u b=false)(c:s.u.contains (da id)=false)(h:VE f Q g e ⟨qx id b s.t,rk id b s.o,bd b ar (era id s.r),b::s.u⟩):VE f Q g e s:=fun a w ι k=>h a w _ (k.mv d i j c)
theorem Dw{id}{i:Nat}{cs}(hi:cs[i]?=some (.ref id)):∀N w ι x,Rel N w ι (.agg cs) x→∃y,ι id=some y:=by
 intro N w ι x h;cases h with
 | agg _ _ vs c _ b =>
  have a:i<vs.length:=by grind
  exact ff id N w ι _ (b i _ _ hi (j3 a))
end Go.Proofs.YtocgkfoifehcbaaGreat
