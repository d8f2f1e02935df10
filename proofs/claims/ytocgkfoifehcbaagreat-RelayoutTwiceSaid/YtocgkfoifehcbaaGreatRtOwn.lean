/- Own slices: laid down as values for good; nil as an own slice. No program in sight. -/
import Derived.Test.YtocgkfoifehcbaaGreatRtCut
namespace Go.Proofs.YtocgkfoifehcbaaGreat
set_option linter.all false
open Go.RowKit
def yk:=@Option.isSome_iff_exists
def ahk:=@Array.getElem?_toList
mutual
def AV.cz(id:Nat)(l:h7):AV→AV
 | .ref i=>if i=id then .sl l else .ref i
 | .eptr i sz j off=>if i=id then .any else .eptr i sz j off
 | .sref i sz off m=>if i=id then .any else .sref i sz off m
 | .ptr i off=>if i=id then .any else .ptr i off
 | .pp i g off=>if i=id then .any else .pp i g off
 | .sit i g s p=>if i=id then .any else .sit i g s p
 | .adr g off=>.adr g off
 | .agg cs=>.agg (jw id l cs)
 | .tup cs=>.tup (jw id l cs)
 | .int k n=>.int k n
 | .bool b=>.bool b
 | .str s=>.str s
 | .nils=>.nils
 | .sl m=>.sl m
 | .nilm=>.nilm
 | .mref _ _=>.any
 | .omp m=>.omp m
 | .osl e sz l=>.osl e sz l
 | .vv x=>.vv x
 | .lk i x=>if i=id then .any else .lk i x
 | .fn f c=>.fn f c
 | .fno f c=>.fno f (jw id l c)
 | .nilf=>.nilf
 | .nilp=>.nilp
 | .cptr cs=>.cptr cs
 | .any=>.any
def jw(id:Nat)(l:h7):c6→c6
 | []=>[]
 | c::r=>c.cz id l::jw id l r
end
theorem xe{id}{m}:∀{l} {i:Nat} {x},(jw id m l)[i]?=some x→∃y,l[i]?=some y∧x=y.cz id m
 | [],i,x,h=>by grind[jw]
 | c::r,0,x,h=>by grind[jw]
 | c::r,i+1,x,h=>by simp[jw]at h;obtain⟨y,a,b⟩:=xe h;grind
theorem zH{id}{m}:∀l,(jw id m l).length=l.length
 | []=>rfl
 | c::r=>by simp[jw,zH r]
theorem Rel.cz{N N':Nat→Prop}{w:World}{ι:Env}{v:AV}{x:Value}(h:Rel N w ι v x){id:Nat}{m:h7}{ι':Env}(J:∀b,N' b→N b):
  (∀i,i≠id→ι' i=ι i)→(∀A n c,ι id=some (.slice A n c)→Rel N' w ι' (.sl m) (.slice A n c))→Rel N' w ι' (v.cz id m) x:=by
 have M:∀{u:AV} {y:Value},Rel N w bG u y→Rel N' w bG u y:=fun V=>V.mono (lc _) (fun b _ C=>J b C) (fun _ _ _=>rfl) (fun _ _ h=>h)
 induction h with
 | int ι k n=>intro _ _;simp only[AV.cz];exact .int _ _ _
 | bool ι b=>intro _ _;simp only[AV.cz];exact .bool _ _
 | str ι s=>intro _ _;simp only[AV.cz];exact .str _ _
 | nils ι=>intro _ _;simp only[AV.cz];exact .nils _
 | nilm ι=>intro _ _;simp only[AV.cz];exact .nilm _
 | mref ι i q r v h Q=>intro _ _;simp only[AV.cz];exact .any _ _ rfl
 | sl0 ι A c=>intro _ _;simp only[AV.cz];exact .sl0 _ _ _
 | sl ι l b o c sz E W C I p L t H D=>intro _ _;simp only[AV.cz];exact .sl _ l b o c sz E W C (fun h=>I (J b h)) p L (fun j e T i x z=>M (t j e T i x z)) H
 | fn ι f aS P F t D=>intro _ _;simp only[AV.cz];exact .fn _ f aS P F (fun i c y p Q=>M (t i c y p Q))
 | fno ι f aS P F t D =>
  intro d G;simp only[AV.cz];exact .fno _ _ _ P (by rw[zH];exact F) (fun i x v z K=>by
   obtain⟨y,O,rfl⟩:=xe z;exact D i y v O K d G)
 | nilf ι=>intro _ _;simp only[AV.cz];exact .nilf _
 | nilp ι=>intro _ _;simp only[AV.cz];exact .nilp _
 | any ι x h=>intro _ _;simp only[AV.cz];exact .any _ _ h
 | ptr ι i off g h =>
  intro d _;simp only[AV.cz];split
  ·exact .any _ _ rfl
  ·rename_i a;exact .ptr _ _ _ _ ((d i a).trans h)
 | eptr ι i sz j off g n c h =>
  intro d _;simp only[AV.cz];split
  ·exact .any _ _ rfl
  ·rename_i a;exact .eptr _ _ _ _ _ _ n c ((d i a).trans h)
 | sref ι i sz off m n c R A B h S =>
  intro d _;simp only[AV.cz];split
  ·exact .any _ _ rfl
  ·rename_i a;exact .sref _ _ _ _ _ n c R A B ((d i a).trans h) S
 | adr ι g off=>intro _ _;simp only[AV.cz];exact .adr _ _ _
 | vv ι x h=>intro _ _;simp only[AV.cz];exact .vv _ _ h
 | lk ι i v x h p =>
  intro d _;simp only[AV.cz];split
  ·exact .any _ _ p
  ·rename_i a;exact .lk _ _ _ _ ((d i a).trans h) p
 | pp ι i g off h =>
  intro d _;simp only[AV.cz];split
  ·exact .any _ _ rfl
  ·rename_i a;exact .pp _ _ _ _ ((d i a).trans h)
 | sit ι i g s X h U I C =>
  intro d _;simp only[AV.cz];split
  ·exact .any _ _ rfl
  ·rename_i a;exact .sit _ _ _ _ _ ((d i a).trans h) U (fun h=>I (J g h)) C
 | cptr ι cs b o E C I p L t D=>intro _ _;simp only[AV.cz];exact .cptr _ cs b o E C (fun h=>I (J b h)) p L (fun i x z=>M (t i x z))
 | ref ι i A n c h =>
  intro d G;simp only[AV.cz];split
  ·rename_i e;subst e;exact G _ _ _ h
  ·rename_i a;exact .ref _ _ _ _ _ ((d i a).trans h)
 | agg ι cs vs F p t D =>
  intro d G;simp only[AV.cz];exact .agg _ _ vs (by rw[zH];exact F) p (fun i x v z K=>by
   obtain⟨y,O,rfl⟩:=xe z;exact D i y v O K d G)
 | tup ι cs vs F t D =>
  intro d G;exact .tup _ _ vs (by grind[zH]) (fun i x v z K=>by
   grind[xe])
theorem Cells.cz{N N'}{w}{ι ι'}{cs}{vs}(h:Cells N w ι cs vs){id}{m}(a:∀b,N' b→N b)
  (j:∀i,i≠id→ι' i=ι i) (d:∀A n c,ι id=some (.slice A n c)→Rel N' w ι' (.sl m) (.slice A n c)):Cells N' w ι' (jw id m cs) vs :=
 ⟨by rw[zH];exact h.len,h.one,fun i x v f e=>by
  obtain⟨y,g,rfl⟩:=xe f;exact(h.rel i y v g e).cz a j d⟩
def Eg(id:Nat)(m:h7):il→il
 | []=>[]
 | (k,v)::r=>(k,v.cz id m)::Eg id m r
def CQ(id:Nat)(m:h7):iF→iF
 | []=>[]
 | (k,v)::r=>(k,jw id m v)::CQ id m r
theorem Og{id}{m}:∀{l} {k} {v},look k (Eg id m l)=some v→∃u,look k l=some u∧v=u.cz id m
 | [],k,v,h=>by cases h
 | (j,x)::r,k,v,h=>by
  simp only[Eg,look]at h⊢;split at h
  ·grind
  ·rename_i e;rw[kc e];exact Og h
theorem Jb{id}{m}:∀{l} {k} {v},look k (CQ id m l)=some v→∃u,look k l=some u∧v=jw id m u
 | [],k,v,h=>by cases h
 | (j,x)::r,k,v,h=>by
  simp only[CQ,look]at h⊢;split at h
  ·grind
  ·rename_i e;rw[kc e];exact Jb h
def AS.cz(s:AS)(id:Nat)(l:h7):AS:=⟨Eg id l s.t,CQ id l s.o,s.r,s.u⟩
def fN(ι:Env)(id:Nat):Env:=fun i=>if i=id then none else ι i
theorem gl ι{id i}(h:i≠id):fN ι id i=ι i:=by grind[fN]
theorem mR{ι}{id i}{y}(h:fN ι id i=some y):i≠id∧ι i=some y:=by
 grind[fN]
theorem jW{ι}{id i g}(h:br (fN ι id i)=some g):i≠id∧br (ι i)=some g:=by
 unfold fN at h;split at h
 ·cases h
 grind
theorem ky{M}{ι}{id}:∀b,NN M (fN ι id) b→NN M ι b:=fun b a=>by
 rcases a with a|⟨i,a⟩
 ·exact .inl a
 ·exact .inr ⟨i,(jW a).2⟩
theorem HS.xI{M}{g}{w}{ι}{s}(h:HS M g w ι s){k id}{r}{ar}(d:look id s.r=some ar)(f:ι k=some (.map r)):k≠id:=fun e=>by
 subst e;obtain⟨v,xs,a,c,_⟩:=h.arrs k ar d (by grind);rw[f]at a;injection a with a;subst a
 rcases c.2 with⟨b,_⟩|⟨_,_,_,b,_⟩<;>cases b
theorem HS.sr{M:Nat→Prop}{P:aC}{w:World}{ι:Env}{s:AS}(h:HS M P w ι s){id:Nat}(O:id<TG){ar:cg}(I:look id s.r=some ar)(A:Option Addr)(n c:Nat)(d:ι id=some (.slice A n c))(ι':Env):
  Rel (NN M (fN ι id)) w ι' (.sl ar.l) (.slice A n c):=by
 obtain⟨v,xs,f,F,G,H,y⟩:=h.arrs id ar I (by rw[d];rfl);rw[d]at f;injection f with f;subst f
 obtain⟨Q,u|⟨g,E,k,J,C,o,K,D,N,r⟩⟩:=F
 ·obtain⟨u,p⟩:=u;injection u with z l B;subst l
  have:ar.l=[]:=ob p;rw[this];exact .sl0 _ _ _
 ·injection J with z l B;subst z l B
  refine .sl _ ar.l g 0 _ ar.sz (fun j i=>(xs[j*ar.sz+i]?).getD (.bool true)) G ?_ (fun a=>?_) (fun j i=>?_) (fun j e m i x t=>?_) (fun j e m i x t=>?_) K
  ·exact(h.own id g (by rw[d];rfl)).2
  ·rcases a with a|⟨i,a⟩
   ·exact h.sep a (by rw[d];rfl)
   ·obtain⟨q,a⟩:=jW a;exact q (h.inj i id g a (by rw[d];rfl))
  ·cases e:xs[j*ar.sz+i]? with
   | none=>rfl
   | some v=>exact H v (mm e)
  ·obtain⟨v,d,_⟩:=y j e m i x t;rw[akN _ _ _ _ ar.e (0,0) o];have:k.toList[j*ar.sz+i]?=some v:=by
    rw[←r]at d;rw[z3]at d;split at d
    ·exact d
    ·cases d
   simp only[d,RX];rw[←ahk,If];exact this
  ·obtain⟨v,d,L⟩:=y j e m i x t;simp only[d,RX];exact(L.flat (by omega)).mono (lc _) (fun b _ C=>ky b C) (fun _ _ _=>rfl) (fun _ _ h=>h)
theorem HS.cz{M:Nat→Prop}{E:aC}{w:World}{ι:Env}{s:AS}(h:HS M E w ι s){id:Nat}(C:id<TG){ar:cg}(G:look id s.r=some ar)(B:E.pv id=none):HS M E w (fN ι id) (s.cz id ar.l):=by
 refine⟨h.below,h.old,fun i y d=>h.use i y (mR d).2,fun i g t=>h.own i g (jW t).2,fun i Q g t z=>h.inj i Q g (jW t).2 (jW z).2,fun i cs m=>?_,h.kr,fun i cs m f=>?_,fun i a m f=>?_,fun i y f=>(by
  have e:i≠id:=fun e=>by subst e;rw[B]at f;cases f
  exact⟨(gl ι e).trans (h.pin i y f).1,(h.pin i y f).2⟩)⟩
 ·obtain⟨u,D,_⟩:=Jb m;exact h.ko i u D
 ·obtain⟨u,D,rfl⟩:=Jb m;obtain⟨y,d⟩:=yk.mp f;obtain⟨l,d⟩:=mR d;obtain⟨g,T,vs,o,p,q⟩:=h.objs i u D (by rw[d];rfl);exact⟨g,T,vs,(gl ι l).trans o,p,q.cz ky (fun _ h=>gl ι h) (fun A n c O=>h.sr C G A n c O _)⟩
 ·obtain⟨y,d⟩:=yk.mp f;obtain⟨l,d⟩:=mR d;obtain⟨v,xs,o,p,q,H,I⟩:=h.arrs i a m (by rw[d];rfl);refine⟨v,xs,(gl ι l).trans o,p,q,H,fun j e L k c K=>?_⟩;obtain⟨x,P,N⟩:=I j e L k c K;exact⟨x,P,N.mono (lc _) (fun b _ J=>ky b J) (fun _ _ _=>rfl) (fun r F=>(gl ι (h.xI G F)).trans F) (fun _ _=>rfl) (fun h=>h)⟩
section
variable{f:Cx}{Q:Exit→Act→World→Prop}{o:dt}{s:AS}
theorem aV.cz{a}{w}{ι}(h:aV f s a w ι){id}(b:id<TG){ar}(e:look id s.r=some ar)(d:f.w0.pv id=none):aV f (s.cz id ar.l) a w (fN ι id) :=
 ⟨h.hs.cz b e d,h.dfr,h.n,fun k v g=>by
  obtain⟨u,j,rfl⟩:=Og g;obtain⟨x,m,i⟩:=h.tmp k u j;exact⟨x,m,i.cz ky (fun _ h=>gl ι h) (fun A n c l=>h.hs.sr b e A n c l _)⟩⟩
theorem afv{e} id{ar}(c:id<TG)(g:look id s.r=some ar)(b:s.u.contains (de id)=false)(h:VE f Q o e (s.cz id ar.l)):VE f Q o e s:=fun a w ι d=>h a w _ (d.cz c g (d.hs.np b))
theorem adq{b}{l} id{ar}(d:id<TG)(g:look id s.r=some ar)(c:s.u.contains (de id)=false)(h:OT f Q o b l (s.cz id ar.l)):OT f Q o b l s:=fun a w ι e=>h a w _ (e.cz d g (e.hs.np c))
theorem aV.own{a:Act}{w:World}{ι}(h:aV f s a w ι){d k} e sz(m:has s.u d=false)(p:look k s.t=some .nils):
  aV f ⟨bi k (.ref d) s.t,s.o,bi d ⟨e,sz,[]⟩ s.r,d::s.u⟩ a w (ext ι d (.slice none 0 0)):=by
 obtain⟨c,n⟩:=h.hs.nil m e sz;have q:=h.hs.free m;refine⟨⟨c.below,c.old,c.use,c.own,c.inj,c.ko,c.kr,c.objs,c.arrs,c.pin⟩,h.dfr,h.n,fun j v g=>?_⟩;simp only[cq]at g;split at g
 ·rename_i e;subst e;injection g with g;subst g
  obtain⟨x,l,i⟩:=h.tmp j _ p;cases i;exact⟨_,l,.ref _ _ _ _ _ (cO _ _ _)⟩
 ·obtain⟨x,l,i⟩:=h.tmp j v g;exact⟨x,l,i.mono (by omega) (fun b _ o=>n b o) (fun _ _ _=>rfl) (fk q _)⟩
theorem ae1{e} d k et sz(b:has s.u d=false)(c:look k s.t=some .nils)(h:VE f Q o e ⟨bi k (.ref d) s.t,s.o,bi d ⟨et,sz,[]⟩ s.r,d::s.u⟩):VE f Q o e s:=fun a w ι g=>h a w _ (g.own et sz b c)
theorem aV.TI{a:Act}{w:World}{ι:Env}(h:aV f s a w ι){d i n:Nat}{cs:c6}(e:TypeId)(sz:Nat)(r:has s.u d=false)(t:look i s.o=some cs)(D:cs[n]?=some .nils):
  aV f ⟨s.t,bi i (cs.set n (.ref d)) s.o,bi d ⟨e,sz,[]⟩ s.r,d::s.u⟩ a w (ext ι d (.slice none 0 0)):=by
 obtain⟨k,B⟩:=h.hs.nil r e sz;have E:=h.hs.free r;refine⟨⟨k.below,k.old,k.use,k.own,k.inj,fun j c l=>?_,k.kr,fun j c l u=>?_,k.arrs,k.pin⟩,h.dfr,h.n,fun j v l=>?_⟩
 ·simp only[cq]at l;split at l
  ·rename_i e;subst e;exact k.ko j cs t
  ·exact k.ko j c l
 ·simp only[cq]at l;split at l
  ·rename_i e;subst e;injection l with l;subst l
   obtain⟨g,T,vs,z,A,p⟩:=k.objs j cs t u;refine⟨g,T,vs,z,A,⟨by rw[akq];exact p.len,p.one,fun m x v o y=>?_⟩⟩;rw[akp]at o;split at o
   ·rename_i e;subst e;split at o
    ·injection o with o;subst o
     have q:=p.rel n .nils v D y;cases q;exact .ref _ _ _ _ _ (cO _ _ _)
    ·cases o
   ·exact p.rel m x v o y
  ·exact k.objs j c l u
 ·obtain⟨x,o,q⟩:=h.tmp j v l;exact⟨x,o,q.mono (by omega) (fun b _ C=>B b C) (fun _ _ _=>rfl) (fk E _)⟩
theorem afx{e} d i n et sz{cs}(b:has s.u d=false)(c:look i s.o=some cs)(g:cs[n]?=some .nils)(h:VE f Q o e ⟨s.t,bi i (cs.set n (.ref d)) s.o,bi d ⟨et,sz,[]⟩ s.r,d::s.u⟩):VE f Q o e s:=fun a w ι j=>h a w _ (j.TI et sz b c g)
theorem aaA{b}{l} d i n et sz{cs}(c:has s.u d=false)(e:look i s.o=some cs)(g:cs[n]?=some .nils)(h:OT f Q o b l ⟨s.t,bi i (cs.set n (.ref d)) s.o,bi d ⟨et,sz,[]⟩ s.r,d::s.u⟩):OT f Q o b l s:=fun a w ι j=>h a w _ (j.TI et sz c e g)
end
end Go.Proofs.YtocgkfoifehcbaaGreat
