/- New slices of the call's own: an empty literal, make. No program in sight. -/
import Derived.Test.YtocgkfoifehcbaaGreatRkVd
namespace Go.Proofs.YtocgkfoifehcbaaGreat
set_option linter.all false
open Go.RowKit
theorem HS.zG{M:Nat→Prop}{R:aA}{w:World}{ι:Env}{s:AS}(h:HS M R w ι s){d:Nat}(U:has s.u d=false){e:TypeId}{sz n:Nat}{l:hZ}{vs:ee}(F:l.length=n)(hm:n≤maxLen)(z:vs.length=n*sz)(hz:∀c∈l,c.length=sz)(E:∀v∈vs,v.oneCell'=true)
  (hc:∀(j:Nat) (c:c6),l[j]?=some c→∀(i:Nat) (x:AV),c[i]?=some x→∃v,vs[j*sz+i]?=some v∧Rel (NN M ι) w bG x v) :
  HS M R (w.alloc (.cells vs.toArray e)) (ext ι d (.slice (some ⟨w.heap.size,0,none⟩) n n)) { s with r:=bm d ⟨e,sz,l⟩ s.r,u:=d::s.u }:=by
 have O:=h.free U;have A:R.w.heap.size≤w.heap.size:=h.below.size;have H:∀b,b<w.heap.size→¬ NN M ι b→(w.alloc (.cells vs.toArray e)).heap[b]?=w.heap[b]?:=fun b T _=>u4 _ _ _ T;have J:∀b,b<w.heap.size→NN M (ext ι d (.slice (some ⟨w.heap.size,0,none⟩) n n)) b→NN M ι b:=fun b T q=>by
  rcases gg q with q|q
  ·exact q
  ·injection q with q;simp only[]at q;omega
 have L:=ff O (.slice (some ⟨w.heap.size,0,none⟩) n n);refine⟨h.below.alloc A _,h.old,fun i y V=>?_,fun i g m=>?_,fun i G g m f=>?_,fun i cs o=>dY (h.ko i cs o),fun i a o=>?_,fun i cs o p=>?_,fun i a o p=>?_,fun i y p=>⟨L i y (h.pin i y p).1,qK (h.pin i y p).2⟩⟩
 ·by_cases e:i=d
  ·subst e;exact jv _ _
  ·rw[bS _ _ e]at V;exact dY (h.use i y V)
 ·by_cases e:i=d
  ·subst e;rw[cI]at m;injection m with m;simp only[]at m;subst m;exact⟨.inl A,by simp⟩
  ·rw[bS _ _ e]at m;exact⟨(h.own i g m).1,by have:=(h.own i g m).2;simp;omega⟩
 ·by_cases e:i=d
  ·by_cases B:G=d
   ·omega
   ·subst e;rw[cI]at m;rw[bS _ _ B]at f;injection m with m;simp only[]at m
    have:=(h.own G g f).2;omega
  ·by_cases B:G=d
   ·subst B;rw[cI]at f;rw[bS _ _ e]at m;injection f with f;simp only[]at f
    have:=(h.own i g m).2;omega
   ·rw[bS _ _ e]at m;rw[bS _ _ B]at f;exact h.inj i G g m f
 ·simp only[cv]at o;by_cases e:i=d
  ·subst e;exact jv _ _
  ·rw[kb e]at o;exact dY (h.kr i a o)
 ·have e:i≠d:=by rintro rfl;have:=h.ko i cs o;rw[U]at this;cases this
  rw[bS _ _ e]at p;obtain⟨D,T',Q,E,h2,h3⟩:=h.objs i cs o p;have N:=(h.own i D (by rw[E];rfl)).2;exact⟨D,T',Q,(bS _ _ e).trans E,(u4 _ _ _ N).trans h2,h3.mono (by simp) J H L⟩
 ·simp only[cv]at o;by_cases C:i=d
  ·subst C;rw[lc rfl]at o;injection o with o;subst o
   refine⟨_,vs,cI _ _ _,⟨by simp[z,F],.inr ⟨w.heap.size,n,vs.toArray,by simp[F],u6 _,alL w _,by simp[F],hm,by simpa using z,by simp[F,← z]⟩⟩,hz,E,fun j c K k x t=>?_⟩;obtain⟨v,hv,P⟩:=hc j c K k x t;exact⟨v,hv,.inl (P.mono (by simp) J H (fun _ _ h=>h))⟩
  ·rw[kb C]at o;rw[bS _ _ C]at p;obtain⟨v,xs,S,X,Y,Z,g5⟩:=h.arrs i a o p;refine⟨v,xs,(bS _ _ C).trans S,fR X (fun D f=>u4 _ _ _ (h.own i D (by rw[S];exact f)).2),Y,Z,fun j W K k c t=>?_⟩;obtain⟨x,hx,P⟩:=g5 j W K k c t;exact⟨x,hx,P.mono (by simp) J H (fun r I=>L _ _ I) (fun r I=>u4 _ _ _ (h.j9 I)) (fun h=>h)⟩
theorem aU.zG{f:Cx}{s:AS}{a:Act}{w:World}{ι:Env}(h:aU f s a w ι){d:Nat}(B:d<f.n)(q:has s.u d=false){e:TypeId}{sz n:Nat}{l:hZ}{vs:ee}(D:l.length=n)(C:n≤maxLen)(m:vs.length=n*sz)(F:∀c∈l,c.length=sz)(y:∀v∈vs,v.oneCell'=true)
  (A:∀(j:Nat) (c:c6),l[j]?=some c→∀(i:Nat) (x:AV),c[i]?=some x→∃v,vs[j*sz+i]?=some v∧Rel (NN f.M ι) w bG x v) :
  aU f { t:=bm d (.ref d) s.t,o:=s.o,r:=bm d ⟨e,sz,l⟩ s.r,u:=d::s.u } (a.put (some d) (.slice (some ⟨w.heap.size,0,none⟩) n n)) (w.alloc (.cells vs.toArray e)) (ext ι d (.slice (some ⟨w.heap.size,0,none⟩) n n)):=by
 have E:=h.hs.zG q D C m F y A (e:=e);have z:aU f { s with r:=bm d ⟨e,sz,l⟩ s.r,u:=d::s.u } a (w.alloc (.cells vs.toArray e)) (ext ι d (.slice (some ⟨w.heap.size,0,none⟩) n n)) :=
  h.world E rfl (by simp) (fun b p g=>by
   rcases gg g with g|g
   ·grind
   ·injection g with g;grind) (fun b p _=>u4 _ _ _ p) (ff (h.hs.free q) _)
 exact z.put (d:=some d) (fun k G=>by grind) (.ref _ _ _ _ _ (cI _ _ _))
section
variable{b:Cx}{Q:Exit→Act→World→Prop}{f:dt}{s:AS}
theorem fu{a}{r} o(c:cH a s o=true)(h:OT b Q f a ({ o with guard:=none }::r) s):OT b Q f a (o::r) s:=by
 unfold cH at c;split at c
 ·have:{ o with guard:=none }=o:=by cases o;grind
  grind
 grind[oM,sv]
theorem Zg{g:Array Oper}{l r:List Oper}(o:Oper)(T:TypeId)(d:Nat){e:TypeId}{sz:Nat}(D:l=o::r)(B:cH g s o=true)(m:o.op=.buildSlice T 0 #[])(A:o.dst=some d)(E:Nat.ble (d+1) b.n=true)(G:b.P.underlying T=some (.slice e))(x:cC b.P e=some sz)(H:has s.u d=false)
  (k:OT b Q f g r { t:=bm d (.ref d) s.t,o:=s.o,r:=bm d ⟨e,sz,[]⟩ s.r,u:=d::s.u }):OT b Q f g l s:=by
 subst D;refine fu o B fun a w ι F=>?_;refine aa6 rfl fun K y=>?_;have q:=F.zG (j3 E) H (e:=e) (sz:=sz) (n:=0) (l:=[]) (vs:=[]) rfl (u6 _) (by simp) (fun c z=>by cases z) (fun v I=>by cases I) (fun j c C=>by simp at C);have p:(sizeOf e).run b.P w=.ok sz w:=by
  cases i:b.P.info? e with
  | none=>simp[cC,i]at x
  | some J =>
   have : J.size=sz:=by simpa[cC, i]using x
   simp[sizeOf,typeInfo,i,this]
 unfold Oper.wp execOp;have h:(Instr.buildSlice T 0 #[]).run b.P w=.ok (.slice (some ⟨w.heap.size,0,none⟩) 0 0) (w.alloc (.cells #[] e)):=by
  simp[Instr.buildSlice,pt G,p,Instr.fill,newRow,NL]
 simp only[m,sj];simp only[alw,alX,yk,h,u3,IT];rw[A];exact y _ _ (k _ _ _ q)
theorem adD{α:Type}(enc:α→c6)(W:α){C:Array Oper}{l r:List Oper}(o:Oper)(T:TypeId)(x y:Operand)(d:Nat){e:TypeId}{sz:Nat}{zc:c6}{bytes:Nat}{n:Int}{kd kd':IntKind}(hl:l=o::r)(hg:cH C s o=true)(O:o.op=.makeSlice T x y)(hd:o.dst=some d)(hn:Nat.ble (d+1) b.n=true)
  (I:s.ev x=some (.int kd n)) (hy:s.ev y=some (.int kd' n)) (m:jS b.P T=some (e,sz,bytes)) (hz:eZ b.P e=some zc) (he:zc.map jg=enc W) (hu:has s.u d=false) (Y:fA n bytes=true)
  (k:OT b Q f C r { t:=bm d (.ref d) s.t,o:=s.o,r:=bm d ⟨e,sz,List.map enc (List.replicate n.toNat W)⟩ s.r,u:=d::s.u }):OT b Q f C l s:=by
 subst hl;refine fu o hg fun a w ι R=>?_;refine aa6 rfl fun K hK=>?_;simp only[fA,iN,q7]at Y;obtain⟨b0,b1,b2⟩:=Y;unfold jS at m;split at m
 case h_2=>cases m
 rename_i X U;split at m
 case h_2=>cases m
 rename_i h H;split at m
 case h_2=>cases m
 rename_i z J;split at m
 case isFalse=>cases m
 rename_i A;injection m with m;injection m with h1 m;injection m with h2 h3
 subst h1;subst h2;subst h3;have V:mX z.cells.toList=some zc:=by simpa[eZ,H,J]using hz
 have g:=(nc (NN b.M ι) w bG V);have P:=g.pz;have G:=Nr w T X h z U H J kd kd' n b0 b1 b2 A.2;have p:zc.length=h.size:=by rw[g.len,← A.1];simp
 have B:∀q,q<n.toNat*h.size→((Array.range (n.toNat*h.size)).map (z.cells[· % z.cells.size]!)).toList[q]?=z.cells.toList[q % h.size]?:=fun q D=>by
  have hm:q % h.size<z.cells.size:=by rw[A.1];exact Nat.mod_lt _ A.2
  simp[D,A.1];rw[amq z.cells (q % h.size) hm,la hm]
 have S:=R.zG (j3 hn) hu (e:=X) (sz:=h.size) (n:=n.toNat) (l:=List.map enc (List.replicate n.toNat W)) (vs:=((Array.range (n.toNat*h.size)).map (z.cells[· % z.cells.size]!)).toList) (by simp) (by unfold maxLen;omega) (by simp)
  (fun c Z=>by
   simp only[List.map_replicate,List.mem_replicate]at Z;rw[Z.2,← he,nx,p])
  (fun v L=>by
   obtain⟨q,D⟩:=akW L;have N:q<n.toNat*h.size:=by have:=(jf.1 D).1;simpa using this
   rw[B q N]at D;exact g.one v (mm D))
  (fun j c E i x I=>by
   simp only[List.map_replicate,akN]at E;split at E
   ·rename_i M;injection E with E;subst E
    rw[←he]at I;have hi:i<h.size:=by have:=(jf.1 I).1;rw[nx,p]at this;exact this
    have D:j*h.size+i<n.toNat*h.size:=by
     have:(j+1)*h.size≤n.toNat*h.size:=abM _ M;rw[akt,akU]at this;omega
    have F:(j*h.size+i) % h.size=i:=by rw[ak6,Nat.mul_add_mod,ak1 hi]
    rw[B _ D,F];have L:=jt (l:=z.cells.toList) (i:=i) (by rw[←g.len,p];exact hi);exact⟨_,L,P.rel i x _ I L⟩
   ·cases E)
 unfold Oper.wp execOp;simp only[O,sj,l7 R I,l7 R hy,G,u3,IT];rw[hd];have:=k _ _ _ S;simp only[afM]at this;exact hK _ _ this
end
mutual
def AV.mv(id a:Nat):AV→AV
 | .ref i=>if i=id then .ref a else .ref i
 | .ptr i o=>if i=id then .any else .ptr i o
 | .pp i g o=>if i=id then .any else .pp i g o
 | .sit i g s p=>if i=id then .any else .sit i g s p
 | .adr g o=>.adr g o
 | .eptr i sz j o=>if i=id then .any else .eptr i sz j o
 | .sref i sz o m=>if i=id then .any else .sref i sz o m
 | .agg cs=>.agg (kD id a cs)
 | .tup cs=>.tup (kD id a cs)
 | .int k n=>.int k n
 | .bool b=>.bool b
 | .str s=>.str s
 | .nils=>.nils
 | .sl l=>.sl l
 | .nilm=>.nilm
 | .mref _ _=>.any
 | .omp m=>.omp m
 | .osl e sz l=>.osl e sz l
 | .vv x=>.vv x
 | .lk i x=>if i=id then .any else .lk i x
 | .fn f c=>.fn f c
 | .fno f c=>.fno f (kD id a c)
 | .nilf=>.nilf
 | .nilp=>.nilp
 | .cptr cs=>.cptr cs
 | .any=>.any
def kD(id a:Nat):c6→c6
 | []=>[]
 | c::r=>c.mv id a::kD id a r
end
def pf(id a:Nat):h8→h8
 | []=>[]
 | (k,v)::r=>(k,v.mv id a)::pf id a r
def rI(id a:Nat):io→io
 | []=>[]
 | (k,v)::r=>(k,kD id a v)::rI id a r
theorem Bb{id a}:∀{l} {i:Nat} {x},(kD id a l)[i]?=some x→∃y,l[i]?=some y∧x=y.mv id a
 | [],i,x,h=>by grind[kD]
 | c::r,0,x,h=>by grind[kD]
 | c::r,i+1,x,h=>by simp only[ak8]at h⊢;exact Bb h
theorem zB{id a}:∀l,(kD id a l).length=l.length
 | []=>rfl
 | c::r=>by simp[kD,zB r]
theorem S7{id a}:∀{l} {k} {v},look k (pf id a l)=some v→∃u,look k l=some u∧v=u.mv id a
 | [],k,v,h=>by cases h
 | (j,x)::r,k,v,h=>by
  simp only[pf,look]at h⊢;split at h
  ·grind
  ·rename_i e;rw[kb e];exact S7 h
theorem GU{id a}:∀{l} {k} {v},look k (rI id a l)=some v→∃u,look k l=some u∧v=kD id a u
 | [],k,v,h=>by cases h
 | (j,x)::r,k,v,h=>by
  simp only[rI,look]at h⊢;split at h
  ·grind
  ·rename_i e;rw[kb e];exact GU h
def kq(ι:Env)(id a:Nat):Env:=fun i=>if i=a then ι id else if i=id then none else ι i
theorem Rel.mv{N N':Nat→Prop}{w:World}{ι:Env}{v:AV}{x:Value}(h:Rel N w ι v x){id H:Nat}{ι':Env}(J:∀b,N' b→N b)(I:∀y,ι id=some y→ι' H=some y)(a:∀i y,i≠id→ι i=some y→ι' i=some y):Rel N' w ι' (v.mv id H) x:=by
 have L:∀{e:Env} {v:AV} {x:Value},Rel N w e v x→Rel N' w e v x:=fun h=>h.mono (ll _) (fun b _ p=>J b p) (fun _ _ _=>rfl) (fun _ _ h=>h)
 induction h with
 | int ι k n=>exact .int _ _ _
 | bool ι b=>exact .bool _ _
 | str ι s=>exact .str _ _
 | nils ι=>exact .nils _
 | nilm ι=>simp only[AV.mv];exact .nilm _
 | mref ι i q r v h a=>simp only[AV.mv];exact .any _ _ rfl
 | sl0 ι A c=>exact .sl0 _ _ _
 | sl ι l b o c sz u U p G C K d E z=>simp only[AV.mv];exact .sl _ l b o c sz u U p (fun h=>G (J b h)) C K (fun j e R i x t=>L (d j e R i x t)) E
 | fn ι f aO O F d z=>exact .fn _ f aO O F (fun i c y I a=>L (d i c y I a))
 | fno ι f aO O F d z =>
  refine .fno _ _ _ O (by rw[zB];exact F) (fun i x v t M=>?_);obtain⟨y,T,rfl⟩:=Bb t;exact z i y v T M I a
 | nilf ι=>exact .nilf _
 | nilp ι=>exact .nilp _
 | any ι x h=>exact .any _ _ h
 | ptr ι i off g h =>
  simp only[AV.mv];split
  ·exact .any _ _ rfl
  ·rename_i e;exact .ptr _ _ _ _ (a _ _ e h)
 | adr ι g off=>simp only[AV.mv];exact .adr _ _ _
 | vv ι x h=>simp only[AV.mv];exact .vv _ _ h
 | lk ι i v x h D =>
  simp only[AV.mv];split
  ·exact .any _ _ D
  ·rename_i e;exact .lk _ _ _ _ (a _ _ e h) D
 | pp ι i g off h =>
  simp only[AV.mv];split
  ·exact .any _ _ rfl
  ·rename_i e;exact .pp _ _ _ _ (a _ _ e h)
 | sit ι i g s V h S G p =>
  simp only[AV.mv];split
  ·exact .any _ _ rfl
  ·rename_i e;exact .sit _ _ _ _ _ (a _ _ e h) S (fun h=>G (J g h)) p
 | eptr ι i sz j off g n c h =>
  simp only[AV.mv];split
  ·exact .any _ _ rfl
  ·rename_i e;exact .eptr _ _ _ _ _ _ n c (a _ _ e h)
 | sref ι i sz off m n c P A B h Q =>
  simp only[AV.mv];split
  ·exact .any _ _ rfl
  ·rename_i e;exact .sref _ _ _ _ _ n c P A B (a _ _ e h) Q
 | cptr ι cs b o u p G C K d z=>simp only[AV.mv];exact .cptr _ cs b o u p (fun h=>G (J b h)) C K (fun i x t=>L (d i x t))
 | ref ι i A n c h =>
  simp only[AV.mv];split
  ·rename_i e;subst e;exact .ref _ _ _ _ _ (I _ h)
  ·rename_i e;exact .ref _ _ _ _ _ (a _ _ e h)
 | agg ι cs vs F C d z =>
  refine .agg _ _ _ (by grind[zB]) C (fun i x v t M=>?_)
  grind[Bb]
 | tup ι cs vs F d z =>
  refine .tup _ _ _ (by grind[zB]) (fun i x v t M=>?_)
  grind[Bb]
theorem aU.mvG{I:Cx}{s:AS}{a:Act}{w:World}{ι:Env}(h:aU I s a w ι){id d:Nat}{ar:co}(O:look id s.r=some ar)(P:TG≤id→∀e∈ar.l,∀c∈e,c.MV=true)(S:has s.u d=false)(W:s.u.contains (da id)=false):
  aU I ⟨pf id d s.t,rI id d s.o,bm d ar (era id s.r),d::s.u⟩ a w (kq ι id d):=by
 have V:=h.hs.free S;have U:d≠id:=fun e=>by have:=h.hs.kr id ar O;rw[←e,S]at this;cases this
 have M:kq ι id d d=ι id:=by simp[kq]
 have F:∀i,i≠id→i≠d→kq ι id d i=ι i:=fun i a b=>by simp[kq,a,b]
 have N:kq ι id d id=none:=by simp[kq,Ne.symm U]
 have Y:∀y,ι id=some y→kq ι id d d=some y:=fun y n=>by rw[M];exact n
 have J:∀i y,i≠id→ι i=some y→kq ι id d i=some y:=fun i y f n=>by
  have:i≠d:=fun e=>by subst e;rw[V]at n;cases n
  rw[F i f this];exact n
 have z:∀i g,bz (kq ι id d i)=some g→∃j,bz (ι j)=some g∧(i=d∧j=id∨i≠d∧i≠id∧j=i):=fun i g p=>by
  by_cases l:i=d
  ·subst l;rw[M]at p;exact⟨id,p,.inl ⟨rfl,rfl⟩⟩
  ·by_cases o:i=id
   ·subst o;rw[N]at p;cases p
   ·rw[F i o l]at p;exact⟨i,p,.inr ⟨l,o,rfl⟩⟩
 have t:∀b,NN I.M (kq ι id d) b→NN I.M ι b:=fun b G=>by
  rcases G with G|⟨i,G⟩
  ·exact .inl G
  ·obtain⟨j,q,_⟩:=z i b G;exact .inr ⟨j,q⟩
 refine⟨⟨h.hs.below,h.hs.old,fun i y n=>?_,fun i g p=>?_,fun i i' g p Q=>?_,fun i cs f=>?_,fun i a f=>?_,fun i cs f m=>?_,fun i a f m=>?_,fun i y m=>(by
  have e:i≠id:=fun e=>by subst e;rw[h.hs.np W]at m;cases m
  exact⟨J i y e (h.hs.pin i y m).1,qK (h.hs.pin i y m).2⟩)⟩,h.dfr,h.n,fun k v D=>?_⟩
 ·by_cases l:i=d
  ·subst l;exact jv _ _
  ·by_cases o:i=id
   ·subst o;rw[N]at n;cases n
   ·rw[F i o l]at n;exact dY (h.hs.use i y n)
 ·obtain⟨j,q,_⟩:=z i g p;exact h.hs.own j g q
 ·obtain⟨j,q,c1⟩:=z i g p;obtain⟨j',R,A⟩:=z i' g Q;have:=h.hs.inj j j' g q R;rcases c1 with⟨q1,q2⟩|⟨q1,q2,q3⟩<;>rcases A with⟨r1,r2⟩|⟨r1,r2,r3⟩<;>omega
 ·obtain⟨u,E,rfl⟩:=GU f;exact dY (h.hs.ko i u E)
 ·simp only[cv]at f;by_cases l:i=d
  ·subst l;exact jv _ _
  ·rw[kb l,zA]at f;split at f
   ·cases f
   ·exact dY (h.hs.kr i a f)
 ·obtain⟨u,E,rfl⟩:=GU f;by_cases l:i=d
  ·subst l;have:=h.hs.ko i u E;rw[S]at this;cases this
  ·by_cases o:i=id
   ·subst o;rw[N]at m;cases m
   ·rw[F i o l]at m⊢;obtain⟨g,T,vs,c1,A,B⟩:=h.hs.objs i u E m;refine⟨g,T,vs,c1,A,by rw[zB];exact B.len,B.one,fun j x v C hv=>?_⟩;obtain⟨y,n,rfl⟩:=Bb C;exact(B.rel j y v n hv).mv t Y J
 ·simp only[cv]at f;by_cases l:i=d
  ·subst l;rw[lc rfl]at f;injection f with f;subst f
   rw[M]at m⊢;obtain⟨v,xs,c1,A,B,K,L⟩:=h.hs.arrs id ar O m;refine⟨v,xs,c1,A,B,K,fun j e q k c D=>?_⟩;obtain⟨x,C,H⟩:=L j e q k c D;exact⟨x,C,.inl ((H.acj (fun Z=>P Z e (mm q) c (mm D))).mono (ll _) (fun b _ z=>t b z) (fun _ _ _=>rfl) (fun _ _ h=>h))⟩
  ·rw[kb l,zA]at f;split at f
   ·cases f
   ·rename_i o;rw[F i o l]at m⊢;obtain⟨v,xs,c1,A,B,K,L⟩:=h.hs.arrs i a f m;refine⟨v,xs,c1,A,B,K,fun j e q k c D=>?_⟩;obtain⟨x,C,H⟩:=L j e q k c D;exact⟨x,C,H.mono (ll _) (fun b _ z=>t b z) (fun _ _ _=>rfl) (fun r X=>J _ _ (h.hs.Aw O X) X) (fun _ _=>rfl) (fun h=>h)⟩
 ·obtain⟨u,E,rfl⟩:=S7 D;obtain⟨x,C,H⟩:=h.tmp k u E;exact⟨x,C,H.mv t Y J⟩
theorem aU.mv{d}{s}{a}{w}{ι}(h:aU d s a w ι){id b}{ar}(g:id<TG)(e:look id s.r=some ar)(f:has s.u b=false)(c:s.u.contains (da id)=false):
  aU d ⟨pf id b s.t,rI id b s.o,bm b ar (era id s.r),b::s.u⟩ a w (kq ι id b) :=
 h.mvG e (fun h=>by omega) f c
theorem akh{f}{Q}{g}{s}{e} id b{ar}(d:id<TG)(i:look id s.r=some ar)(j:has s.u b=false)(c:s.u.contains (da id)=false)(h:VE f Q g e ⟨pf id b s.t,rI id b s.o,bm b ar (era id s.r),b::s.u⟩):VE f Q g e s:=fun a w ι k=>h a w _ (k.mv d i j c)
theorem Dw{id}{i:Nat}{cs}(b:cs[i]?=some (.ref id)):∀N w ι x,Rel N w ι (.agg cs) x→∃y,ι id=some y:=by
 intro N w ι x h;cases h with
 | agg _ _ vs d _ c =>
  have a:i<vs.length:=by grind
  exact eX id N w ι _ (c i _ _ b (jt a))
end Go.Proofs.YtocgkfoifehcbaaGreat
