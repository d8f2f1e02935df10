/- Own slices: laid down as values for good; nil as an own slice. No program in sight. -/
import Derived.Test.YtocgkfoifehcbaaGreatRdCut
namespace Go.Proofs.YtocgkfoifehcbaaGreat
set_option linter.all false
open Go.RowKit
def w3:=@Option.isSome_iff_exists
def aix:=@Array.getElem?_toList
mutual
def AV.cA(id:Nat)(l:h6):AV→AV
 | .ref i=>if i=id then .sl l else .ref i
 | .eptr i sz j off=>if i=id then .any else .eptr i sz j off
 | .sref i sz off m=>if i=id then .any else .sref i sz off m
 | .ptr i off=>if i=id then .any else .ptr i off
 | .pp i g off=>if i=id then .any else .pp i g off
 | .sit i g s p=>if i=id then .any else .sit i g s p
 | .adr g off=>.adr g off
 | .agg cs=>.agg (ju id l cs)
 | .tup cs=>.tup (ju id l cs)
 | .int k n=>.int k n
 | .bool b=>.bool b
 | .str s=>.str s
 | .nils=>.nils
 | .sl m=>.sl m
 | .nilm=>.nilm
 | .mref _ _=>.any
 | .omp m=>.omp m
 | .osl e sz l=>.osl e sz l
 | .vv x=>.vv x
 | .lk i x=>if i=id then .any else .lk i x
 | .fn f c=>.fn f c
 | .fno f c=>.fno f (ju id l c)
 | .nilf=>.nilf
 | .nilp=>.nilp
 | .cptr cs=>.cptr cs
 | .any=>.any
def ju(id:Nat)(l:h6):c6→c6
 | []=>[]
 | c::r=>c.cA id l::ju id l r
end
theorem A2{id}{m}:∀{l} {i:Nat} {x},(ju id m l)[i]?=some x→∃y,l[i]?=some y∧x=y.cA id m
 | [],i,x,h=>by grind[ju]
 | c::r,0,x,h=>by grind[ju]
 | c::r,i+1,x,h=>by simp[ju]at h;obtain⟨y,a,b⟩:=A2 h;grind
theorem AO{id}{m}:∀l,(ju id m l).length=l.length
 | []=>rfl
 | c::r=>by simp[ju,AO r]
theorem Rel.cA{N N':Nat→Prop}{w:World}{ι:Env}{v:AV}{x:Value}(h:Rel N w ι v x){id:Nat}{m:h6}{ι':Env}(J:∀b,N' b→N b):
  (∀i,i≠id→ι' i=ι i)→(∀A n c,ι id=some (.slice A n c)→Rel N' w ι' (.sl m) (.slice A n c))→Rel N' w ι' (v.cA id m) x:=by
 have M:∀{u:AV} {y:Value},Rel N w bH u y→Rel N' w bH u y:=fun V=>V.mono (la _) (fun b _ C=>J b C) (fun _ _ _=>rfl) (fun _ _ h=>h)
 induction h with
 | int ι k n=>intro _ _;simp only[AV.cA];exact .int _ _ _
 | bool ι b=>intro _ _;simp only[AV.cA];exact .bool _ _
 | str ι s=>intro _ _;simp only[AV.cA];exact .str _ _
 | nils ι=>intro _ _;simp only[AV.cA];exact .nils _
 | nilm ι=>intro _ _;simp only[AV.cA];exact .nilm _
 | mref ι i q r v h Q=>intro _ _;simp only[AV.cA];exact .any _ _ rfl
 | sl0 ι A c=>intro _ _;simp only[AV.cA];exact .sl0 _ _ _
 | sl ι l b o c sz E W C I p L t H D=>intro _ _;simp only[AV.cA];exact .sl _ l b o c sz E W C (fun h=>I (J b h)) p L (fun j e T i x z=>M (t j e T i x z)) H
 | fn ι f aR P F t D=>intro _ _;simp only[AV.cA];exact .fn _ f aR P F (fun i c y p Q=>M (t i c y p Q))
 | fno ι f aR P F t D =>
  intro d G;simp only[AV.cA];exact .fno _ _ _ P (by rw[AO];exact F) (fun i x v z K=>by
   obtain⟨y,O,rfl⟩:=A2 z;exact D i y v O K d G)
 | nilf ι=>intro _ _;simp only[AV.cA];exact .nilf _
 | nilp ι=>intro _ _;simp only[AV.cA];exact .nilp _
 | any ι x h=>intro _ _;simp only[AV.cA];exact .any _ _ h
 | ptr ι i off g h =>
  intro d _;simp only[AV.cA];split
  ·exact .any _ _ rfl
  ·rename_i a;exact .ptr _ _ _ _ ((d i a).trans h)
 | eptr ι i sz j off g n c h =>
  intro d _;simp only[AV.cA];split
  ·exact .any _ _ rfl
  ·rename_i a;exact .eptr _ _ _ _ _ _ n c ((d i a).trans h)
 | sref ι i sz off m n c R A B h S =>
  intro d _;simp only[AV.cA];split
  ·exact .any _ _ rfl
  ·rename_i a;exact .sref _ _ _ _ _ n c R A B ((d i a).trans h) S
 | adr ι g off=>intro _ _;simp only[AV.cA];exact .adr _ _ _
 | vv ι x h=>intro _ _;simp only[AV.cA];exact .vv _ _ h
 | lk ι i v x h p =>
  intro d _;simp only[AV.cA];split
  ·exact .any _ _ p
  ·rename_i a;exact .lk _ _ _ _ ((d i a).trans h) p
 | pp ι i g off h =>
  intro d _;simp only[AV.cA];split
  ·exact .any _ _ rfl
  ·rename_i a;exact .pp _ _ _ _ ((d i a).trans h)
 | sit ι i g s X h U I C =>
  intro d _;simp only[AV.cA];split
  ·exact .any _ _ rfl
  ·rename_i a;exact .sit _ _ _ _ _ ((d i a).trans h) U (fun h=>I (J g h)) C
 | cptr ι cs b o E C I p L t D=>intro _ _;simp only[AV.cA];exact .cptr _ cs b o E C (fun h=>I (J b h)) p L (fun i x z=>M (t i x z))
 | ref ι i A n c h =>
  intro d G;simp only[AV.cA];split
  ·rename_i e;subst e;exact G _ _ _ h
  ·rename_i a;exact .ref _ _ _ _ _ ((d i a).trans h)
 | agg ι cs vs F p t D =>
  intro d G;simp only[AV.cA];exact .agg _ _ vs (by rw[AO];exact F) p (fun i x v z K=>by
   obtain⟨y,O,rfl⟩:=A2 z;exact D i y v O K d G)
 | tup ι cs vs F t D =>
  intro d G;exact .tup _ _ vs (by grind[AO]) (fun i x v z K=>by
   grind[A2])
theorem Cells.cA{N N'}{w}{ι ι'}{cs}{vs}(h:Cells N w ι cs vs){id}{m}(a:∀b,N' b→N b)
  (j:∀i,i≠id→ι' i=ι i) (d:∀A n c,ι id=some (.slice A n c)→Rel N' w ι' (.sl m) (.slice A n c)):Cells N' w ι' (ju id m cs) vs :=
 ⟨by rw[AO];exact h.len,h.one,fun i x v f e=>by
  obtain⟨y,g,rfl⟩:=A2 f;exact(h.rel i y v g e).cA a j d⟩
def Ce(id:Nat)(m:h6):il→il
 | []=>[]
 | (k,v)::r=>(k,v.cA id m)::Ce id m r
def Ek(id:Nat)(m:h6):iF→iF
 | []=>[]
 | (k,v)::r=>(k,ju id m v)::Ek id m r
theorem SC{id}{m}:∀{l} {k} {v},look k (Ce id m l)=some v→∃u,look k l=some u∧v=u.cA id m
 | [],k,v,h=>by cases h
 | (j,x)::r,k,v,h=>by
  simp only[Ce,look]at h⊢;split at h
  ·grind
  ·rename_i e;rw[kc e];exact SC h
theorem KX{id}{m}:∀{l} {k} {v},look k (Ek id m l)=some v→∃u,look k l=some u∧v=ju id m u
 | [],k,v,h=>by cases h
 | (j,x)::r,k,v,h=>by
  simp only[Ek,look]at h⊢;split at h
  ·grind
  ·rename_i e;rw[kc e];exact KX h
def AS.cA(s:AS)(id:Nat)(l:h6):AS:=⟨Ce id l s.t,Ek id l s.o,s.r,s.u⟩
def fH(ι:Env)(id:Nat):Env:=fun i=>if i=id then none else ι i
theorem gj ι{id i}(h:i≠id):fH ι id i=ι i:=by grind[fH]
theorem nl{ι}{id i}{y}(h:fH ι id i=some y):i≠id∧ι i=some y:=by
 grind[fH]
theorem kg{ι}{id i g}(h:bu (fH ι id i)=some g):i≠id∧bu (ι i)=some g:=by
 unfold fH at h;split at h
 ·cases h
 grind
theorem kA{M}{ι}{id}:∀b,NN M (fH ι id) b→NN M ι b:=fun b a=>by
 rcases a with a|⟨i,a⟩
 ·exact .inl a
 ·exact .inr ⟨i,(kg a).2⟩
theorem HS.ya{M}{g}{w}{ι}{s}(h:HS M g w ι s){k id}{r}{ar}(d:look id s.r=some ar)(f:ι k=some (.map r)):k≠id:=fun e=>by
 subst e;obtain⟨v,xs,a,c,_⟩:=h.arrs k ar d (by grind);rw[f]at a;injection a with a;subst a
 rcases c.2 with⟨b,_⟩|⟨_,_,_,b,_⟩<;>cases b
theorem HS.uj{M:Nat→Prop}{P:aB}{w:World}{ι:Env}{s:AS}(h:HS M P w ι s){id:Nat}(O:id<TG){ar:cj}(I:look id s.r=some ar)(A:Option Addr)(n c:Nat)(d:ι id=some (.slice A n c))(ι':Env):
  Rel (NN M (fH ι id)) w ι' (.sl ar.l) (.slice A n c):=by
 obtain⟨v,xs,f,F,G,H,y⟩:=h.arrs id ar I (by rw[d];rfl);rw[d]at f;injection f with f;subst f
 obtain⟨Q,u|⟨g,E,k,J,C,o,K,D,N,r⟩⟩:=F
 ·obtain⟨u,p⟩:=u;injection u with z l B;subst l
  have:ar.l=[]:=qk p;rw[this];exact .sl0 _ _ _
 ·injection J with z l B;subst z l B
  refine .sl _ ar.l g 0 _ ar.sz (fun j i=>(xs[j*ar.sz+i]?).getD (.bool true)) G ?_ (fun a=>?_) (fun j i=>?_) (fun j e m i x t=>?_) (fun j e m i x t=>?_) K
  ·exact(h.own id g (by rw[d];rfl)).2
  ·rcases a with a|⟨i,a⟩
   ·exact h.sep a (by rw[d];rfl)
   ·obtain⟨q,a⟩:=kg a;exact q (h.inj i id g a (by rw[d];rfl))
  ·cases e:xs[j*ar.sz+i]? with
   | none=>rfl
   | some v=>exact H v (mm e)
  ·obtain⟨v,d,_⟩:=y j e m i x t;rw[alJ _ _ _ _ ar.e (0,0) o];have:k.toList[j*ar.sz+i]?=some v:=by
    rw[←r]at d;rw[By]at d;split at d
    ·exact d
    ·cases d
   simp only[d,aag];rw[←aix,IF];exact this
  ·obtain⟨v,d,L⟩:=y j e m i x t;simp only[d,aag];exact(L.flat (by omega)).mono (la _) (fun b _ C=>kA b C) (fun _ _ _=>rfl) (fun _ _ h=>h)
theorem HS.cA{M:Nat→Prop}{D:aB}{w:World}{ι:Env}{s:AS}(h:HS M D w ι s){id:Nat}(B:id<TG){ar:cj}(F:look id s.r=some ar)(z:D.pv id=none):HS M D w (fH ι id) (s.cA id ar.l):=by
 refine⟨h.below,h.old,fun i y d=>h.use i y (nl d).2,fun i g q=>h.own i g (kg q).2,fun i P g q t=>h.inj i P g (kg q).2 (kg t).2,fun i cs hi=>?_,h.kr,fun i cs hi f=>?_,fun i a hi f=>?_,fun i y f=>(by
  have e:i≠id:=fun e=>by subst e;rw[z]at f;cases f
  exact⟨(gj ι e).trans (h.pin i y f).1,(h.pin i y f).2⟩)⟩
 ·obtain⟨u,C,_⟩:=KX hi;exact h.ko i u C
 ·obtain⟨u,C,rfl⟩:=KX hi;obtain⟨y,d⟩:=w3.mp f;obtain⟨l,d⟩:=nl d;obtain⟨g,T,vs,m,o,p⟩:=h.objs i u C (by rw[d];rfl);exact⟨g,T,vs,(gj ι l).trans m,o,p.cA kA (fun _ h=>gj ι h) (fun A n c N=>h.uj B F A n c N _)⟩
 ·obtain⟨y,d⟩:=w3.mp f;obtain⟨l,d⟩:=nl d;obtain⟨v,xs,m,o,p,G,H⟩:=h.arrs i a hi (by rw[d];rfl);refine⟨v,xs,(gj ι l).trans m,o,p,G,fun j e K k c J=>?_⟩;obtain⟨x,O,L⟩:=H j e K k c J;exact⟨x,O,L.mono (la _) (fun b _ I=>kA b I) (fun _ _ _=>rfl) (fun r E=>(gj ι (h.ya F E)).trans E) (fun _ _=>rfl) (fun h=>h)⟩
section
variable{f:Cx}{Q:Exit→Act→World→Prop}{o:dt}{s:AS}
theorem aV.cA{a}{w}{ι}(h:aV f s a w ι){id}(b:id<TG){ar}(e:look id s.r=some ar)(d:f.w0.pv id=none):aV f (s.cA id ar.l) a w (fH ι id) :=
 ⟨h.hs.cA b e d,h.dfr,h.n,fun k v g=>by
  obtain⟨u,j,rfl⟩:=SC g;obtain⟨x,m,i⟩:=h.tmp k u j;exact⟨x,m,i.cA kA (fun _ h=>gj ι h) (fun A n c l=>h.hs.uj b e A n c l _)⟩⟩
theorem aib{e} id{ar}(c:id<TG)(g:look id s.r=some ar)(b:s.u.contains (da id)=false)(h:VE f Q o e (s.cA id ar.l)):VE f Q o e s:=fun a w ι d=>h a w _ (d.cA c g (d.hs.np b))
theorem Zm{b}{l} id{ar}(d:id<TG)(g:look id s.r=some ar)(c:s.u.contains (da id)=false)(h:OT f Q o b l (s.cA id ar.l)):OT f Q o b l s:=fun a w ι e=>h a w _ (e.cA d g (e.hs.np c))
theorem aV.own{a:Act}{w:World}{ι}(h:aV f s a w ι){d k} e sz(m:has s.u d=false)(p:look k s.t=some .nils):
  aV f ⟨bd k (.ref d) s.t,s.o,bd d ⟨e,sz,[]⟩ s.r,d::s.u⟩ a w (ext ι d (.slice none 0 0)):=by
 obtain⟨c,n⟩:=h.hs.nil m e sz;have q:=h.hs.free m;refine⟨⟨c.below,c.old,c.use,c.own,c.inj,c.ko,c.kr,c.objs,c.arrs,c.pin⟩,h.dfr,h.n,fun j v g=>?_⟩;simp only[cn]at g;split at g
 ·rename_i e;subst e;injection g with g;subst g
  obtain⟨x,l,i⟩:=h.tmp j _ p;cases i;exact⟨_,l,.ref _ _ _ _ _ (cJ _ _ _)⟩
 ·obtain⟨x,l,i⟩:=h.tmp j v g;exact⟨x,l,i.mono (by omega) (fun b _ o=>n b o) (fun _ _ _=>rfl) (fd q _)⟩
theorem Yo{e} d k et sz(b:has s.u d=false)(c:look k s.t=some .nils)(h:VE f Q o e ⟨bd k (.ref d) s.t,s.o,bd d ⟨et,sz,[]⟩ s.r,d::s.u⟩):VE f Q o e s:=fun a w ι g=>h a w _ (g.own et sz b c)
theorem aV.QA{a:Act}{w:World}{ι:Env}(h:aV f s a w ι){d i n:Nat}{cs:c6}(e:TypeId)(sz:Nat)(r:has s.u d=false)(hi:look i s.o=some cs)(C:cs[n]?=some .nils):
  aV f ⟨s.t,bd i (cs.set n (.ref d)) s.o,bd d ⟨e,sz,[]⟩ s.r,d::s.u⟩ a w (ext ι d (.slice none 0 0)):=by
 obtain⟨k,A⟩:=h.hs.nil r e sz;have D:=h.hs.free r;refine⟨⟨k.below,k.old,k.use,k.own,k.inj,fun j c l=>?_,k.kr,fun j c l t=>?_,k.arrs,k.pin⟩,h.dfr,h.n,fun j v l=>?_⟩
 ·simp only[cn]at l;split at l
  ·rename_i e;subst e;exact k.ko j cs hi
  ·exact k.ko j c l
 ·simp only[cn]at l;split at l
  ·rename_i e;subst e;injection l with l;subst l
   obtain⟨g,T,vs,y,z,p⟩:=k.objs j cs hi t;refine⟨g,T,vs,y,z,⟨by rw[akT];exact p.len,p.one,fun m x v o u=>?_⟩⟩;rw[ak8]at o;split at o
   ·rename_i e;subst e;split at o
    ·injection o with o;subst o
     have q:=p.rel n .nils v C u;cases q;exact .ref _ _ _ _ _ (cJ _ _ _)
    ·cases o
   ·exact p.rel m x v o u
  ·exact k.objs j c l t
 ·obtain⟨x,o,q⟩:=h.tmp j v l;exact⟨x,o,q.mono (by omega) (fun b _ B=>A b B) (fun _ _ _=>rfl) (fd D _)⟩
theorem Xb{e} d i n et sz{cs}(b:has s.u d=false)(hi:look i s.o=some cs)(c:cs[n]?=some .nils)(h:VE f Q o e ⟨s.t,bd i (cs.set n (.ref d)) s.o,bd d ⟨et,sz,[]⟩ s.r,d::s.u⟩):VE f Q o e s:=fun a w ι g=>h a w _ (g.QA et sz b hi c)
theorem ajj{b}{l} d i n et sz{cs}(c:has s.u d=false)(hi:look i s.o=some cs)(e:cs[n]?=some .nils)(h:OT f Q o b l ⟨s.t,bd i (cs.set n (.ref d)) s.o,bd d ⟨et,sz,[]⟩ s.r,d::s.u⟩):OT f Q o b l s:=fun a w ι g=>h a w _ (g.QA et sz c hi e)
end
end Go.Proofs.YtocgkfoifehcbaaGreat
