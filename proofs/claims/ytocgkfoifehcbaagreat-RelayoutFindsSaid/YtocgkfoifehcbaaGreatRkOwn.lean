/- Own slices: laid down as values for good; nil as an own slice. No program in sight. -/
import Derived.Test.YtocgkfoifehcbaaGreatRkCut
namespace Go.Proofs.YtocgkfoifehcbaaGreat
set_option linter.all false
open Go.RowKit
def v9:=@Option.isSome_iff_exists
def afC:=@Array.getElem?_toList
mutual
def AV.cB(id:Nat)(l:hZ):AV→AV
 | .ref i=>if i=id then .sl l else .ref i
 | .eptr i sz j off=>if i=id then .any else .eptr i sz j off
 | .sref i sz off m=>if i=id then .any else .sref i sz off m
 | .ptr i off=>if i=id then .any else .ptr i off
 | .pp i g off=>if i=id then .any else .pp i g off
 | .sit i g s p=>if i=id then .any else .sit i g s p
 | .adr g off=>.adr g off
 | .agg cs=>.agg (jz id l cs)
 | .tup cs=>.tup (jz id l cs)
 | .int k n=>.int k n
 | .bool b=>.bool b
 | .str s=>.str s
 | .nils=>.nils
 | .sl m=>.sl m
 | .nilm=>.nilm
 | .mref _ _=>.any
 | .omp m=>.omp m
 | .osl e sz l=>.osl e sz l
 | .vv x=>.vv x
 | .lk i x=>if i=id then .any else .lk i x
 | .fn f c=>.fn f c
 | .fno f c=>.fno f (jz id l c)
 | .nilf=>.nilf
 | .nilp=>.nilp
 | .cptr cs=>.cptr cs
 | .any=>.any
def jz(id:Nat)(l:hZ):c6→c6
 | []=>[]
 | c::r=>c.cB id l::jz id l r
end
theorem yb{id}{m}:∀{l} {i:Nat} {x},(jz id m l)[i]?=some x→∃y,l[i]?=some y∧x=y.cB id m
 | [],i,x,h=>by grind[jz]
 | c::r,0,x,h=>by grind[jz]
 | c::r,i+1,x,h=>by simp[jz]at h;obtain⟨y,a,b⟩:=yb h;grind
theorem AE{id}{m}:∀l,(jz id m l).length=l.length
 | []=>rfl
 | c::r=>by simp[jz,AE r]
theorem Rel.cB{N N':Nat→Prop}{w:World}{ι:Env}{v:AV}{x:Value}(h:Rel N w ι v x){id:Nat}{m:hZ}{ι':Env}(J:∀b,N' b→N b):
  (∀i,i≠id→ι' i=ι i)→(∀A n c,ι id=some (.slice A n c)→Rel N' w ι' (.sl m) (.slice A n c))→Rel N' w ι' (v.cB id m) x:=by
 have M:∀{u:AV} {y:Value},Rel N w bG u y→Rel N' w bG u y:=fun V=>V.mono (ll _) (fun b _ C=>J b C) (fun _ _ _=>rfl) (fun _ _ h=>h)
 induction h with
 | int ι k n=>intro _ _;simp only[AV.cB];exact .int _ _ _
 | bool ι b=>intro _ _;simp only[AV.cB];exact .bool _ _
 | str ι s=>intro _ _;simp only[AV.cB];exact .str _ _
 | nils ι=>intro _ _;simp only[AV.cB];exact .nils _
 | nilm ι=>intro _ _;simp only[AV.cB];exact .nilm _
 | mref ι i q r v h Q=>intro _ _;simp only[AV.cB];exact .any _ _ rfl
 | sl0 ι A c=>intro _ _;simp only[AV.cB];exact .sl0 _ _ _
 | sl ι l b o c sz E W C I p L t H D=>intro _ _;simp only[AV.cB];exact .sl _ l b o c sz E W C (fun h=>I (J b h)) p L (fun j e T i x z=>M (t j e T i x z)) H
 | fn ι f aO P F t D=>intro _ _;simp only[AV.cB];exact .fn _ f aO P F (fun i c y p Q=>M (t i c y p Q))
 | fno ι f aO P F t D =>
  intro d G;simp only[AV.cB];exact .fno _ _ _ P (by rw[AE];exact F) (fun i x v z K=>by
   obtain⟨y,O,rfl⟩:=yb z;exact D i y v O K d G)
 | nilf ι=>intro _ _;simp only[AV.cB];exact .nilf _
 | nilp ι=>intro _ _;simp only[AV.cB];exact .nilp _
 | any ι x h=>intro _ _;simp only[AV.cB];exact .any _ _ h
 | ptr ι i off g h =>
  intro d _;simp only[AV.cB];split
  ·exact .any _ _ rfl
  ·rename_i a;exact .ptr _ _ _ _ ((d i a).trans h)
 | eptr ι i sz j off g n c h =>
  intro d _;simp only[AV.cB];split
  ·exact .any _ _ rfl
  ·rename_i a;exact .eptr _ _ _ _ _ _ n c ((d i a).trans h)
 | sref ι i sz off m n c R A B h S =>
  intro d _;simp only[AV.cB];split
  ·exact .any _ _ rfl
  ·rename_i a;exact .sref _ _ _ _ _ n c R A B ((d i a).trans h) S
 | adr ι g off=>intro _ _;simp only[AV.cB];exact .adr _ _ _
 | vv ι x h=>intro _ _;simp only[AV.cB];exact .vv _ _ h
 | lk ι i v x h p =>
  intro d _;simp only[AV.cB];split
  ·exact .any _ _ p
  ·rename_i a;exact .lk _ _ _ _ ((d i a).trans h) p
 | pp ι i g off h =>
  intro d _;simp only[AV.cB];split
  ·exact .any _ _ rfl
  ·rename_i a;exact .pp _ _ _ _ ((d i a).trans h)
 | sit ι i g s X h U I C =>
  intro d _;simp only[AV.cB];split
  ·exact .any _ _ rfl
  ·rename_i a;exact .sit _ _ _ _ _ ((d i a).trans h) U (fun h=>I (J g h)) C
 | cptr ι cs b o E C I p L t D=>intro _ _;simp only[AV.cB];exact .cptr _ cs b o E C (fun h=>I (J b h)) p L (fun i x z=>M (t i x z))
 | ref ι i A n c h =>
  intro d G;simp only[AV.cB];split
  ·rename_i e;subst e;exact G _ _ _ h
  ·rename_i a;exact .ref _ _ _ _ _ ((d i a).trans h)
 | agg ι cs vs F p t D =>
  intro d G;simp only[AV.cB];exact .agg _ _ vs (by rw[AE];exact F) p (fun i x v z K=>by
   obtain⟨y,O,rfl⟩:=yb z;exact D i y v O K d G)
 | tup ι cs vs F t D =>
  intro d G;exact .tup _ _ vs (by grind[AE]) (fun i x v z K=>by
   grind[yb])
theorem Cells.cB{N N'}{w}{ι ι'}{cs}{vs}(h:Cells N w ι cs vs){id}{m}(a:∀b,N' b→N b)
  (j:∀i,i≠id→ι' i=ι i) (d:∀A n c,ι id=some (.slice A n c)→Rel N' w ι' (.sl m) (.slice A n c)):Cells N' w ι' (jz id m cs) vs :=
 ⟨by rw[AE];exact h.len,h.one,fun i x v f e=>by
  obtain⟨y,g,rfl⟩:=yb f;exact(h.rel i y v g e).cB a j d⟩
def Cu(id:Nat)(m:hZ):h8→h8
 | []=>[]
 | (k,v)::r=>(k,v.cB id m)::Cu id m r
def BU(id:Nat)(m:hZ):io→io
 | []=>[]
 | (k,v)::r=>(k,jz id m v)::BU id m r
theorem Nh{id}{m}:∀{l} {k} {v},look k (Cu id m l)=some v→∃u,look k l=some u∧v=u.cB id m
 | [],k,v,h=>by cases h
 | (j,x)::r,k,v,h=>by
  simp only[Cu,look]at h⊢;split at h
  ·grind
  ·rename_i e;rw[kb e];exact Nh h
theorem KB{id}{m}:∀{l} {k} {v},look k (BU id m l)=some v→∃u,look k l=some u∧v=jz id m u
 | [],k,v,h=>by cases h
 | (j,x)::r,k,v,h=>by
  simp only[BU,look]at h⊢;split at h
  ·grind
  ·rename_i e;rw[kb e];exact KB h
def AS.cB(s:AS)(id:Nat)(l:hZ):AS:=⟨Cu id l s.t,BU id l s.o,s.r,s.u⟩
def fO(ι:Env)(id:Nat):Env:=fun i=>if i=id then none else ι i
theorem gf ι{id i}(h:i≠id):fO ι id i=ι i:=by grind[fO]
theorem mT{ι}{id i}{y}(h:fO ι id i=some y):i≠id∧ι i=some y:=by
 grind[fO]
theorem kp{ι}{id i g}(h:bz (fO ι id i)=some g):i≠id∧bz (ι i)=some g:=by
 unfold fO at h;split at h
 ·cases h
 grind
theorem kV{M}{ι}{id}:∀b,NN M (fO ι id) b→NN M ι b:=fun b a=>by
 rcases a with a|⟨i,a⟩
 ·exact .inl a
 ·exact .inr ⟨i,(kp a).2⟩
theorem HS.Aw{M}{g}{w}{ι}{s}(h:HS M g w ι s){k id}{r}{ar}(d:look id s.r=some ar)(f:ι k=some (.map r)):k≠id:=fun e=>by
 subst e;obtain⟨v,xs,a,c,_⟩:=h.arrs k ar d (by grind);rw[f]at a;injection a with a;subst a
 rcases c.2 with⟨b,_⟩|⟨_,_,_,b,_⟩<;>cases b
theorem HS.tF{M:Nat→Prop}{P:aA}{w:World}{ι:Env}{s:AS}(h:HS M P w ι s){id:Nat}(O:id<TG){ar:co}(I:look id s.r=some ar)(A:Option Addr)(n c:Nat)(d:ι id=some (.slice A n c))(ι':Env):
  Rel (NN M (fO ι id)) w ι' (.sl ar.l) (.slice A n c):=by
 obtain⟨v,xs,f,F,G,H,y⟩:=h.arrs id ar I (by rw[d];rfl);rw[d]at f;injection f with f;subst f
 obtain⟨Q,u|⟨g,E,k,J,C,o,K,D,N,r⟩⟩:=F
 ·obtain⟨u,p⟩:=u;injection u with z l B;subst l
  have:ar.l=[]:=n3 p;rw[this];exact .sl0 _ _ _
 ·injection J with z l B;subst z l B
  refine .sl _ ar.l g 0 _ ar.sz (fun j i=>(xs[j*ar.sz+i]?).getD (.bool true)) G ?_ (fun a=>?_) (fun j i=>?_) (fun j e m i x t=>?_) (fun j e m i x t=>?_) K
  ·exact(h.own id g (by rw[d];rfl)).2
  ·rcases a with a|⟨i,a⟩
   ·exact h.sep a (by rw[d];rfl)
   ·obtain⟨q,a⟩:=kp a;exact q (h.inj i id g a (by rw[d];rfl))
  ·cases e:xs[j*ar.sz+i]? with
   | none=>rfl
   | some v=>exact H v (mm e)
  ·obtain⟨v,d,_⟩:=y j e m i x t;rw[ald _ _ _ _ ar.e (0,0) o];have:k.toList[j*ar.sz+i]?=some v:=by
    rw[←r]at d;rw[In]at d;split at d
    ·exact d
    ·cases d
   simp only[d,Ts];rw[←afC,Dy];exact this
  ·obtain⟨v,d,L⟩:=y j e m i x t;simp only[d,Ts];exact(L.flat (by omega)).mono (ll _) (fun b _ C=>kV b C) (fun _ _ _=>rfl) (fun _ _ h=>h)
theorem HS.cB{M:Nat→Prop}{E:aA}{w:World}{ι:Env}{s:AS}(h:HS M E w ι s){id:Nat}(C:id<TG){ar:co}(G:look id s.r=some ar)(B:E.pv id=none):HS M E w (fO ι id) (s.cB id ar.l):=by
 refine⟨h.below,h.old,fun i y d=>h.use i y (mT d).2,fun i g t=>h.own i g (kp t).2,fun i Q g t z=>h.inj i Q g (kp t).2 (kp z).2,fun i cs m=>?_,h.kr,fun i cs m f=>?_,fun i a m f=>?_,fun i y f=>(by
  have e:i≠id:=fun e=>by subst e;rw[B]at f;cases f
  exact⟨(gf ι e).trans (h.pin i y f).1,(h.pin i y f).2⟩)⟩
 ·obtain⟨u,D,_⟩:=KB m;exact h.ko i u D
 ·obtain⟨u,D,rfl⟩:=KB m;obtain⟨y,d⟩:=v9.mp f;obtain⟨l,d⟩:=mT d;obtain⟨g,T,vs,o,p,q⟩:=h.objs i u D (by rw[d];rfl);exact⟨g,T,vs,(gf ι l).trans o,p,q.cB kV (fun _ h=>gf ι h) (fun A n c O=>h.tF C G A n c O _)⟩
 ·obtain⟨y,d⟩:=v9.mp f;obtain⟨l,d⟩:=mT d;obtain⟨v,xs,o,p,q,H,I⟩:=h.arrs i a m (by rw[d];rfl);refine⟨v,xs,(gf ι l).trans o,p,q,H,fun j e L k c K=>?_⟩;obtain⟨x,P,N⟩:=I j e L k c K;exact⟨x,P,N.mono (ll _) (fun b _ J=>kV b J) (fun _ _ _=>rfl) (fun r F=>(gf ι (h.Aw G F)).trans F) (fun _ _=>rfl) (fun h=>h)⟩
section
variable{f:Cx}{Q:Exit→Act→World→Prop}{o:dt}{s:AS}
theorem aU.cB{a}{w}{ι}(h:aU f s a w ι){id}(b:id<TG){ar}(e:look id s.r=some ar)(d:f.w0.pv id=none):aU f (s.cB id ar.l) a w (fO ι id) :=
 ⟨h.hs.cB b e d,h.dfr,h.n,fun k v g=>by
  obtain⟨u,j,rfl⟩:=Nh g;obtain⟨x,m,i⟩:=h.tmp k u j;exact⟨x,m,i.cB kV (fun _ h=>gf ι h) (fun A n c l=>h.hs.tF b e A n c l _)⟩⟩
theorem afK{e} id{ar}(c:id<TG)(g:look id s.r=some ar)(b:s.u.contains (da id)=false)(h:VE f Q o e (s.cB id ar.l)):VE f Q o e s:=fun a w ι d=>h a w _ (d.cB c g (d.hs.np b))
theorem YN{b}{l} id{ar}(d:id<TG)(g:look id s.r=some ar)(c:s.u.contains (da id)=false)(h:OT f Q o b l (s.cB id ar.l)):OT f Q o b l s:=fun a w ι e=>h a w _ (e.cB d g (e.hs.np c))
theorem aU.own{a:Act}{w:World}{ι}(h:aU f s a w ι){d k} e sz(m:has s.u d=false)(p:look k s.t=some .nils):
  aU f ⟨bm k (.ref d) s.t,s.o,bm d ⟨e,sz,[]⟩ s.r,d::s.u⟩ a w (ext ι d (.slice none 0 0)):=by
 obtain⟨c,n⟩:=h.hs.nil m e sz;have q:=h.hs.free m;refine⟨⟨c.below,c.old,c.use,c.own,c.inj,c.ko,c.kr,c.objs,c.arrs,c.pin⟩,h.dfr,h.n,fun j v g=>?_⟩;simp only[cv]at g;split at g
 ·rename_i e;subst e;injection g with g;subst g
  obtain⟨x,l,i⟩:=h.tmp j _ p;cases i;exact⟨_,l,.ref _ _ _ _ _ (cI _ _ _)⟩
 ·obtain⟨x,l,i⟩:=h.tmp j v g;exact⟨x,l,i.mono (by omega) (fun b _ o=>n b o) (fun _ _ _=>rfl) (ff q _)⟩
theorem VT{e} d k b sz(c:has s.u d=false)(g:look k s.t=some .nils)(h:VE f Q o e ⟨bm k (.ref d) s.t,s.o,bm d ⟨b,sz,[]⟩ s.r,d::s.u⟩):VE f Q o e s:=fun a w ι i=>h a w _ (i.own b sz c g)
theorem aU.Uq{a:Act}{w:World}{ι:Env}(h:aU f s a w ι){d i n:Nat}{cs:c6}(e:TypeId)(sz:Nat)(r:has s.u d=false)(t:look i s.o=some cs)(D:cs[n]?=some .nils):
  aU f ⟨s.t,bm i (cs.set n (.ref d)) s.o,bm d ⟨e,sz,[]⟩ s.r,d::s.u⟩ a w (ext ι d (.slice none 0 0)):=by
 obtain⟨k,B⟩:=h.hs.nil r e sz;have E:=h.hs.free r;refine⟨⟨k.below,k.old,k.use,k.own,k.inj,fun j c l=>?_,k.kr,fun j c l u=>?_,k.arrs,k.pin⟩,h.dfr,h.n,fun j v l=>?_⟩
 ·simp only[cv]at l;split at l
  ·rename_i e;subst e;exact k.ko j cs t
  ·exact k.ko j c l
 ·simp only[cv]at l;split at l
  ·rename_i e;subst e;injection l with l;subst l
   obtain⟨g,T,vs,z,A,p⟩:=k.objs j cs t u;refine⟨g,T,vs,z,A,⟨by rw[akz];exact p.len,p.one,fun m x v o y=>?_⟩⟩;rw[aky]at o;split at o
   ·rename_i e;subst e;split at o
    ·injection o with o;subst o
     have q:=p.rel n .nils v D y;cases q;exact .ref _ _ _ _ _ (cI _ _ _)
    ·cases o
   ·exact p.rel m x v o y
  ·exact k.objs j c l u
 ·obtain⟨x,o,q⟩:=h.tmp j v l;exact⟨x,o,q.mono (by omega) (fun b _ C=>B b C) (fun _ _ _=>rfl) (ff E _)⟩
theorem ac6{e} d i n b sz{cs}(c:has s.u d=false)(g:look i s.o=some cs)(j:cs[n]?=some .nils)(h:VE f Q o e ⟨s.t,bm i (cs.set n (.ref d)) s.o,bm d ⟨b,sz,[]⟩ s.r,d::s.u⟩):VE f Q o e s:=fun a w ι k=>h a w _ (k.Uq b sz c g j)
theorem Y9{b}{l} d i n c sz{cs}(e:has s.u d=false)(g:look i s.o=some cs)(j:cs[n]?=some .nils)(h:OT f Q o b l ⟨s.t,bm i (cs.set n (.ref d)) s.o,bm d ⟨c,sz,[]⟩ s.r,d::s.u⟩):OT f Q o b l s:=fun a w ι k=>h a w _ (k.Uq c sz e g j)
end
end Go.Proofs.YtocgkfoifehcbaaGreat
