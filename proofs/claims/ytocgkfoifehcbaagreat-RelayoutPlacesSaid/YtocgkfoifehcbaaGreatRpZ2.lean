/- Own slices whose cells hold maps that nobody else knows. No program in sight. -/
import Derived.Test.YtocgkfoifehcbaaGreatRpZ1
import Derived.MapKept
import Derived.Laws.RangeAny
import Derived.Test.YtocgkfoifehcbaaGreatProg
import Derived.Lib.Builder
import Derived.Lib.UnsafeStr
import Derived.Lib.Walk
import Derived.Laws.Externs
import Derived.RegionTactic
namespace Go.Proofs.YtocgkfoifehcbaaGreat
set_option linter.all false
open Go.RowKit
abbrev ew:=List ed
abbrev f6:=Nat×b6
abbrev f7:=List b6
def u3:=@List.append_assoc
def acN:=@List.mem_singleton
def aeq:=@List.take_append_drop
def alO:=@Array.getElem?_setIfInBounds_self_of_lt
def alZ:=@Nat.le_add_right
def al0:=@Lib.cell_of_heap
def ame:=@List.mem_iff_getElem?
def amS:=@Lib.run_unsafeSliceData_row
def anc:=@Nat.lt_of_succ_le
def anr:=@Oper.upon_value
def ans:=@Tryz.ntmps71
def anC:=@Tryz.func71
def anN:=@Array.ext
variable[FM]
section
variable{t:Cx}{Q:Exit→Act→World→Prop}{u:ck}{s:AS}{d:Array Oper}{f:Func}{p:d4}{i:Nat}
def pA(s:AS):Bool:=(s.u.all fun k=>Nat.ble (k+1) 1000000)&&((s.o.all fun q=>Nat.ble (q.1+1) eA)&&(s.r.all fun q=>Nat.ble (q.1+1) eA))
theorem A6{α:Type}:∀{l:List (Nat×α)} {k:Nat} {v:α},look k l=some v→(k,v)∈l
 | [],k,v,h=>by cases h
 | (j,x)::r,k,v,h=>by
  simp only[look]at h;split at h
  ·rename_i e;subst e;injection h with h;subst h;exact pe
  ·exact nw _ (A6 h)
theorem alG{s:AS}(h:pA s=true){i:Nat}{cs:b6}(a:look i s.o=some cs):i<eA:=by
 simp only[pA,g6,ll]at h;exact hF (h.2.1 _ (A6 a))
theorem UR{s:AS}(h:pA s=true){i:Nat}{a:bZ}(b:look i s.r=some a):i<eA:=by
 simp only[pA,g6,ll]at h;exact hF (h.2.2 _ (A6 b))
theorem ahw{M:Nat→Prop}{a:az}{w:World}{ι:Env}{s:AS}(d:HS M a w ι s)(h:pA s=true){i:Nat}{v:Value}(c:a.pv i=some v):False:=by
 have b:=(d.pin i v c).2;simp only[pA,g6,ll]at h;have:=hF (h.1 _ (by simpa using b));unfold cS at this;omega
theorem Cw(id q:Nat):eA≤nm id q:=alZ _ _
mutual
/-- Names no map in a cell. -/
def AV.jd:AV→Bool
 | .mref _ _=>false
 | .ptr i _=>Nat.ble (i+1) eA
 | .eptr i _ _ _=>Nat.ble (i+1) eA
 | .sref i _ _ _=>Nat.ble (i+1) eA
 | .pp i _ _=>Nat.ble (i+1) eA
 | .sit i _ _ _=>Nat.ble (i+1) eA
 | .ref i=>Nat.ble (i+1) eA
 | .lk i _=>Nat.ble (i+1) eA
 | .agg cs=>nE cs
 | .tup cs=>nE cs
 | .fno _ cs=>nE cs
 | _=>true
def nE:b6→Bool
 | []=>true
 | c::r=>c.jd&&nE r
end
theorem oQ:∀{l:b6},nE l=true→∀(i:Nat) (x:AV),l[i]?=some x→x.jd=true
 | [],_,i,x,a=>by simp at a
 | c::r,h,0,x,a=>by simp only[nE,g6]at h;simp at a;subst a;exact h.1
 | c::r,h,i+1,x,a=>by simp only[nE,g6]at h;simp at a;exact oQ h.2 i x a
theorem Rel.jd{N:Nat→Prop}{w:World}{ι:Env}{v:AV}{x:Value}(h:Rel N w ι v x){κ:Nat}(U:eA≤κ){r0:Option Nat}{ι':Env}(J:ι κ=some (.map r0))(I:∀k,k≠κ→ι' k=ι k):v.jd=true→Rel N w ι' v x:=by
 have d:∀{i y},ι i=some y→(∀r,y ≠ .map r)→ι' i=some y:=fun {i y} G Q=>by
  by_cases e:i=κ
  ·subst e;rw[J]at G;injection G with G;exact absurd G.symm (Q _)
  ·exact(I i e).trans G
 induction h with
 | int ι k n=>intro _;exact .int _ _ _
 | bool ι b=>intro _;exact .bool _ _
 | str ι s=>intro _;exact .str _ _
 | nils ι=>intro _;exact .nils _
 | nilm ι=>intro _;exact .nilm _
 | sl0 ι A c=>intro _;exact .sl0 _ _ _
 | sl ι l b o c sz D R E a z K p F u=>intro _;exact .sl _ l b o c sz D R E a z K p F
 | fn ι f aV L C p u=>intro _;exact .fn _ f aV L C p
 | fno ι f aV L C p u=>intro a;exact .fno _ f aV L C (fun i x v t H=>u i x v t H J I d (oQ (by simpa[AV.jd]using a) i x t))
 | nilf ι=>intro _;exact .nilf _
 | nilp ι=>intro _;exact .nilp _
 | any ι x h=>intro _;exact .any _ _ h
 | ptr ι id off g h=>intro _;exact .ptr _ _ _ _ (d h (fun r e=>by cases e))
 | eptr ι id sz j off g n c h=>intro _;exact .eptr _ _ _ _ _ _ n c (d h (fun r e=>by cases e))
 | sref ι id sz off m n c M A B h O=>intro _;exact .sref _ _ _ _ _ n c M A B (d h (fun r e=>by cases e)) O
 | cptr ι cs b o D E a z K p u=>intro _;exact .cptr _ cs b o D E a z K p
 | adr ι g off=>intro _;exact .adr _ _ _
 | vv ι x h=>intro _;exact .vv _ _ h
 | pp ι id g off h=>intro _;exact .pp _ _ _ _ (d h (fun r e=>by cases e))
 | sit ι id g s S h P a E=>intro _;exact .sit _ _ _ _ _ (d h (fun r e=>by cases e)) P a E
 | ref ι id A n c h=>intro _;exact .ref _ _ _ _ _ (d h (fun r e=>by cases e))
 | lk ι id v x h z=>intro a;exact .lk _ _ _ _ ((I id (fun e=>by have:=hF (show Nat.ble (id+1) eA=true from a);omega)).trans h) z
 | mref ι id q r v h T=>intro a;cases a
 | agg ι cs vs C z p u=>intro a;exact .agg _ cs vs C z (fun i x v t H=>u i x v t H J I d (oQ (by simpa[AV.jd]using a) i x t))
 | tup ι cs vs C p u=>intro a;exact .tup _ cs vs C (fun i x v t H=>u i x v t H J I d (oQ (by simpa[AV.jd]using a) i x t))
theorem Rel.low{N:Nat→Prop}{w:World}{ι:Env}{v:AV}{x:Value}(h:Rel N w ι v x){ι':Env}(d:∀k,k<eA→ι' k=ι k):v.jd=true→Rel N w ι' v x:=by
 have z:∀{i},Nat.ble (i+1) eA=true→i<eA:=fun h=>hF h
 induction h with
 | int ι k n=>intro _;exact .int _ _ _
 | bool ι b=>intro _;exact .bool _ _
 | str ι s=>intro _;exact .str _ _
 | nils ι=>intro _;exact .nils _
 | nilm ι=>intro _;exact .nilm _
 | sl0 ι A c=>intro _;exact .sl0 _ _ _
 | sl ι l b o c sz C L D a u G e E t=>intro _;exact .sl _ l b o c sz C L D a u G e E
 | fn ι f aV H y e t=>intro _;exact .fn _ f aV H y e
 | fno ι f aV H y e t=>intro a;exact .fno _ f aV H y (fun i x v p F=>t i x v p F d (oQ (by simpa[AV.jd]using a) i x p))
 | nilf ι=>intro _;exact .nilf _
 | nilp ι=>intro _;exact .nilp _
 | any ι x h=>intro _;exact .any _ _ h
 | ptr ι id off g h=>intro q;exact .ptr _ _ _ _ ((d _ (z q)).trans h)
 | eptr ι id sz j off g n c h=>intro q;exact .eptr _ _ _ _ _ _ n c ((d _ (z q)).trans h)
 | sref ι id sz off m n c I A B h J=>intro q;exact .sref _ _ _ _ _ n c I A B ((d _ (z q)).trans h) J
 | cptr ι cs b o C D a u G e t=>intro _;exact .cptr _ cs b o C D a u G e
 | adr ι g off=>intro _;exact .adr _ _ _
 | vv ι x h=>intro _;exact .vv _ _ h
 | pp ι id g off h=>intro q;exact .pp _ _ _ _ ((d _ (z q)).trans h)
 | sit ι id g s M h K a D=>intro q;exact .sit _ _ _ _ _ ((d _ (z q)).trans h) K a D
 | ref ι id A n c h=>intro q;exact .ref _ _ _ _ _ ((d _ (z q)).trans h)
 | lk ι id v x h u=>intro q;exact .lk _ _ _ _ ((d _ (z q)).trans h) u
 | mref ι id q r v h O=>intro a;cases a
 | agg ι cs vs y u e t=>intro a;exact .agg _ cs vs y u (fun i x v p F=>t i x v p F d (oQ (by simpa[AV.jd]using a) i x p))
 | tup ι cs vs y e t=>intro a;exact .tup _ cs vs y (fun i x v p F=>t i x v p F d (oQ (by simpa[AV.jd]using a) i x p))
def wx(s:AS):Bool:=(s.t.all fun q=>q.2.jd)&&(s.o.all fun q=>nE q.2)
end
end Go.Proofs.YtocgkfoifehcbaaGreat
namespace Go.Proofs.YtocgkfoifehcbaaGreat
set_option linter.all false
open Go.RowKit
variable[FM]
def oL(l:f7)(j i:Nat)(c:AV):f7:=l.set j ((l.getD j []).set i c)
theorem afo l j i c:(oL l j i c).length=l.length:=by simp[oL]
theorem aka{l}{j i}{c}{b}{e'}(h:(oL l j i c)[b]?=some e'){a}{d}(f:e'[a]?=some d):
  (b=j∧a=i∧d=c)∨(¬ (b=j∧a=i)∧∃e,l[b]?=some e∧e[a]?=some d):=by
 grind[oL]
theorem aje{l}{j i}{c}{sz}(h:∀e∈l,e.length=sz):∀e∈oL l j i c,e.length=sz:=by
 intro e a;unfold oL at a;by_cases b:j<l.length
 ·grind
 ·rw[ana (by omega)]at a;grind
theorem acD{sz j i b a:Nat}(d:i<sz)(c:a<sz)(h:¬ (b=j∧a=i)):b*sz+a≠j*sz+i:=by
 intro e;have f:(b*sz+a) / sz=b:=by rw[amr,Nat.mul_add_div (by omega),ank c,aix]
 have g:(j*sz+i) / sz=j:=by rw[amr,Nat.mul_add_div (by omega),ank d,aix]
 grind
theorem adA{w:World}{B}{e}{sz n}{v}{xs}(h:w.ownsRow B e sz v n xs):∃A m c,v=.slice A m c:=by
 rcases h.2 with⟨a,_⟩|⟨_,_,_,a,_⟩<;>exact⟨_,_,_,a⟩
def pm(ι:Env)(κ a:Nat)(x:Value):Env:=fun k=>if k=κ then none else if k=a then some x else ι k
theorem HS.out{M:Nat→Prop}{w0:az}{w:World}{ι:Env}{s:AS}(h:HS M w0 w ι s){id j i f b0:Nat}{a:bZ}{e:b6}{et:TypeId}{l2:f7}(q0:f<eA)(X:has s.u f=false)(H:pA s=true)(Y:wx s=true)
  (N:look id s.r=some a) (hp:(ι id).isSome=true) (hj:a.l[j]?=some e) (hi:e[i]?=some (.osl et b0 l2)) :
  ∃x,(∃A n c,x=.slice A n c)∧(∃v xs,ι id=some v∧w.ownsRow 0 a.e a.sz v a.l.length xs∧xs[j*a.sz+i]?=some x) ∧
   HS M w0 w (pm ι (nm id (j*a.sz+i)) f x) ⟨s.t,s.o,bj f ⟨et,b0,l2⟩ (bj id ⟨a.e,a.sz,oL a.l j i (.vv x)⟩ s.r),f::s.u⟩ ∧
   (∀b,NN M (pm ι (nm id (j*a.sz+i)) f x) b→NN M ι b)∧(∀{c:AV} {y:Value},c.jd=true→Rel (NN M ι) w ι c y→Rel (NN M (pm ι (nm id (j*a.sz+i)) f x)) w (pm ι (nm id (j*a.sz+i)) f x) c y):=by
 obtain⟨v,xs,e1,e2,e3,e4,e5⟩:=h.arrs id a N hp;obtain⟨x,hx,Z⟩:=e5 j e hj i _ hi;rcases Z with Z|⟨_,_,_,m,_⟩|⟨r0,p0,t0,l',r,m,ho,O,K⟩
 ·cases Z
 ·cases m
 injection m with a1 a2 a3;subst a1;subst a2;subst a3
 generalize hκ:nm id (j*a.sz+i)=κ at *;have s0:eA≤κ:=by rw[←hκ];exact Cw _ _
 have a0:∃A n c,x=.slice A n c:=by obtain⟨c0,o,_⟩:=K;exact adA o
 have o0:ι f=none:=by
  cases ht:ι f with
  | none=>rfl
  | some y=>have:=h.use f y ht;rw[X]at this;cases this
 generalize I:pm ι κ f x=p;have i0:p κ=none:=by rw[←I];simp[pm]
 have i1:p f=some x:=by rw[←I];show(if f=κ then none else if f=f then some x else ι f)=some x;rw[io (by omega),iF rfl]
 have S:∀k,k≠κ→k≠f→p k=ι k:=fun k o l=>by rw[←I];simp only[pm];rw[io o,io l]
 have iS:∀k y,p k=some y→(k=f∧y=x)∨(k≠κ∧k≠f∧ι k=some y):=fun k y d=>by
  by_cases o:k=κ
  ·subst o;rw[i0]at d;cases d
  ·by_cases l:k=f
   ·subst l;rw[i1]at d;injection d with d;exact .inl ⟨rfl,d.symm⟩
   ·rw[S k o l]at d;exact .inr ⟨o,l,d⟩
 have bκ:bg (ι κ)=bg (some x):=by rw[ho,O];cases r<;>rfl
 have hB:∀k b,bg (p k)=some b→(k=f∧bg (ι κ)=some b)∨(k≠κ∧k≠f∧bg (ι k)=some b):=fun k b d=>by
  cases G:p k with
  | none=>rw[G]at d;cases d
  | some y =>
   obtain⟨o,l⟩|⟨o,l,h3⟩:=iS k y G
   ·subst l;rw[G]at d;exact .inl ⟨o,bκ.trans d⟩
   ·rw[G]at d;exact .inr ⟨o,l,by rw[h3];exact d⟩
 have hN:∀b,NN M p b→NN M ι b:=fun b d0=>by
  rcases d0 with o|⟨k,d⟩
  ·exact .inl o
  ·obtain⟨_,l⟩|⟨_,_,l⟩:=hB k b d
   ·exact .inr ⟨κ,l⟩
   ·exact .inr ⟨k,l⟩
 have J:∀{c:AV} {y:Value},c.jd=true→Rel (NN M ι) w ι c y→Rel (NN M p) w p c y:=fun {c y} hc z =>
  (z.low (ι':=fun k=>if k=κ then none else ι k) (fun k d=>io (by omega)) hc).mono (h7 _) (fun b _ O=>hN b O) (fun _ _ _=>rfl) (fun k y d=>by
   have d:(if k=κ then none else ι k)=some y:=d;split at d
   ·cases d
   ·rename_i o;rw[S k o (fun e=>by subst e;rw[o0]at d;cases d)];exact d)
 have P:∀{c:AV} {y:Value},Rel (NN M ι) w bA c y→Rel (NN M p) w bA c y:=fun {c y} z=>z.mono (h7 _) (fun b _ O=>hN b O) (fun _ _ _=>rfl) (fun _ _ h=>h);have u:∀{t:Prop} {k:Nat} {c:AV} {y:Value},eA≤k→k≠κ→im (NN M ι) w t (ι k) c y→im (NN M p) w t (p k) c y:=fun {t k c y} d Q z =>
  z.mono (h7 _) (fun b _ O=>hN b O) (fun _ _ _=>rfl) (fun r Z=>by rw[S k Q (by omega)];exact Z) (fun _ _=>rfl) (fun h=>h)
 refine⟨x,a0,⟨v,xs,e1,e2,hx⟩,?_⟩;rw[I];refine⟨⟨h.below,h.old,fun k y d=>?_,fun k b d=>?_,fun k k' b d h0=>?_,fun k cs d=>?_,fun k b d=>?_,fun k cs d E=>?_,fun k b d E=>?_,fun k y d=>(ahw h H d).elim⟩,hN,J⟩
 ·obtain⟨o,_⟩|⟨_,_,h3⟩:=iS k y d
  ·subst o;exact fJ (by simp)
  ·exact dN (h.use k y h3)
 ·obtain⟨_,l⟩|⟨_,_,l⟩:=hB k b d
  ·exact h.own κ b l
  ·exact h.own k b l
 ·rcases hB k b d with⟨g1,l⟩|⟨g1,g2,l⟩<;>obtain⟨g3,h4⟩|⟨g3,g4,h4⟩:=hB k' b h0
  ·exact g1.trans g3.symm
  ·exact absurd (h.inj k' κ b h4 l) g3
  ·exact absurd (h.inj k κ b l h4) g1
  ·exact h.inj k k' b l h4
 ·exact dN (h.ko k cs d)
 ·simp only[cp]at d;split at d
  ·rename_i m;subst m;exact fJ (by simp)
  ·split at d
   ·rename_i m;subst m;exact dN (h.kr _ _ N)
   ·exact dN (h.kr k b d)
 ·have k0:k≠f:=fun m=>by subst m;have:=h.ko _ _ d;rw[X]at this;cases this
  have D:k≠κ:=fun m=>by have:=alG H d;omega
  rw[S k D k0]at E⊢;obtain⟨g,T,vs,c1,c2,V⟩:=h.objs k cs d E;have l0:nE cs=true:=by
   simp only[wx,g6,ll]at Y;exact Y.2 _ (A6 d)
  exact⟨g,T,vs,c1,c2,V.len,V.one,fun q c y hc hy=>J (oQ l0 q c hc) (V.rel q c y hc hy)⟩
 ·simp only[cp]at d;by_cases F:k=f
  ·subst F;rw[iF rfl]at d;injection d with d;subst d
   obtain⟨c0,r1,r2,r3,r4⟩:=K;refine⟨x,c0,i1,r1,r2,r3,fun j' e' C R U B=>?_⟩;obtain⟨y,y1,y2⟩:=r4 j' e' C R U B;exact⟨y,y1,.inl (P y2)⟩
  ·rw[io F]at d;by_cases L:k=id
   ·subst L;rw[iF rfl]at d;injection d with d;subst d
    have D:k≠κ:=fun m=>by have:=UR H N;omega
    refine⟨v,xs,(S k D F).trans e1,by simpa[afo]using e2,aje e3,e4,fun j' e' C R U B=>?_⟩;have m0:e.length=a.sz:=e3 e (jt hj);have f0:i<a.sz:=by rw[←m0];exact(g7.1 hi).1
    obtain⟨q1,q2,q3⟩|⟨Q,W,q1,q2⟩:=aka C B
    ·subst q1;subst q2;subst q3;exact⟨x,hx,.inl (.vv _ _ (by obtain⟨A,n,c,rfl⟩:=a0;rfl))⟩
    ·obtain⟨y,y1,y2⟩:=e5 j' W q1 R U q2;have g0:R<a.sz:=by rw[←e3 W (jt q1)];exact(g7.1 q2).1
     exact⟨y,y1,u (Cw _ _) (fun m=>by rw[←hκ]at m;exact acD f0 g0 Q (OP m).2) y2⟩
   ·rw[io L]at d;have D:k≠κ:=fun m=>by have:=UR H d;omega
    rw[S k D F]at E⊢;obtain⟨v',xs',c1,c2,V,c4,c5⟩:=h.arrs k b d E;refine⟨v',xs',c1,c2,V,c4,fun j' e' C R U B=>?_⟩;obtain⟨y,y1,y2⟩:=c5 j' e' C R U B;exact⟨y,y1,u (Cw _ _) (fun m=>by rw[←hκ]at m;exact L (OP m).1) y2⟩
open Classical in
theorem aaj{s:AS}(h:wx s=true){k:Nat}{v:AV}(a:look k s.t=some v):v.jd=true:=by
 simp only[wx,g6,ll]at h;exact h.1 _ (A6 a)
section
variable{b:Cx}{Q:Exit→Act→World→Prop}{c:ck}{s:AS}
def Oq(id j i b d:Nat)(a:bZ)(et:TypeId)(c:Nat)(e:f7)(x:Value)(s:AS):AS :=
 ⟨bj d (.lk b x) s.t,s.o,bj b ⟨et,c,e⟩ (bj id ⟨a.e,a.sz,oL a.l j i (.vv x)⟩ s.r),b::s.u⟩
theorem aI.out{A:Act}{w:World}{ι:Env}(h:aI b s A w ι){id j i c n d:Nat}{a:bZ}{e:b6}{et:TypeId}{B:f7}{c0:AV}(q:c<eA)(p:has s.u c=false)(r:pA s=true)(l:wx s=true)
  (o:look id s.r=some a) (G:(ι id).isSome=true) (F:a.l[j]?=some e) (E:e[i]?=some (.osl et n B)) (D:look d s.t=some c0) (m:c0.Ef=true) :
  ∃x,aI b (Oq id j i c d a et n B x s) A w (pm ι (nm id (j*a.sz+i)) c x):=by
 obtain⟨x,_,_,f,H,C⟩:=h.hs.out q p r l o G F E;refine⟨x,⟨f.below,f.old,f.use,f.own,f.inj,f.ko,f.kr,f.objs,f.arrs,f.pin⟩,h.dfr,h.n,fun k v g=>?_⟩;simp only[Oq,cp]at g;by_cases z:k=d
 ·subst z;rw[iF rfl]at g;injection g with g;subst g
  obtain⟨y,u,t⟩:=h.tmp k c0 D;refine⟨y,u,.lk _ _ _ _ ?_ (t.one m)⟩;show(if c=_ then none else if c=c then some x else ι c)=some x;rw[io (by have:=Cw id (j*a.sz+i);omega),iF rfl]
 ·rw[io z]at g;obtain⟨y,u,t⟩:=h.tmp k v g;exact⟨y,u,C (aaj l g) t⟩
end
def CW(a:Nat):List Oper→Bool
 | []=>true
 | o::r=>(match o.dst with|some d=>!Nat.beq d a|none=>true)&&CW a r
theorem TH{b:Nat}:∀{l:List Oper},CW b l=true→∀o∈l,o.dst≠some b
 | [],_,o,a=>by cases a
 | c::r,h,o,a=>by
  simp only[CW,g6]at h;rcases l3.1 a with e|a
  ·subst e;intro e;rw[e]at h;have:=h.1;simp at this
  ·exact TH h.2 o a
end Go.Proofs.YtocgkfoifehcbaaGreat
namespace Go.Proofs.YtocgkfoifehcbaaGreat
set_option linter.all false
open Go.RowKit
variable[FM]
def Ay(ρ:ew):AV→Option AV
 | .ptr id o=>match look id ρ with|some j=>some (.ptr j o)|none=>none
 | .ref id=>match look id ρ with|some j=>some (.ref j)|none=>none
 | v=>match v.dg [] with|true=>some (iu v)|false=>none
def vS(ρ:ew):b6→Option b6
 | []=>some []
 | v::r=>match Ay ρ v,vS ρ r with|some x,some l=>some (x::l)|_,_=>none
def eM(ρ:ew):AV→Option AV
 | .fno f cs=>match vS ρ cs with|some l=>some (.fno f l)|none=>none
 | v=>Ay ρ v
def gj(ρ:ew):b6→Option b6
 | []=>some []
 | v::r=>match eM ρ v,gj ρ r with|some x,some l=>some (x::l)|_,_=>none
theorem QF{N N':Nat→Prop}{w:World}{ι a:Env}{ρ:ew}{v v':AV}{x:Value}(h:Rel N w ι v x)(f:∀b,N' b→N b)(m:∀id j,look id ρ=some j→a j=ι id)(e:Ay ρ v=some v'):Rel N' w a v' x:=by
 have k:∀{e:Env} {v:AV} {x:Value},Rel N w e v x→Rel N' w e v x:=fun h=>h.mono (h7 _) (fun b _ i=>f b i) (fun _ _ _=>rfl) (fun _ _ h=>h);unfold Ay at e;split at e
 ·rename_i id o;split at e
  ·rename_i j d;injection e with e;subst e
   cases h with
   | ptr _ _ _ g h=>exact .ptr _ _ _ g ((m _ _ d).trans h)
  ·cases e
 ·rename_i id;split at e
  ·rename_i j d;injection e with e;subst e
   cases h with
   | ref _ _ A n c h=>exact .ref _ _ A n c (by grind)
  grind
 ·split at e
  ·rename_i l;injection e with e;subst e
   exact Ac (k (h.pure l a))
  grind
theorem VW{ρ}:∀{l l'},vS ρ l=some l'→l'.length=l.length
 | [],l',h=>by injection h with h;grind
 | v::r,l',h=>by
  unfold vS at h;split at h
  ·rename_i b a;injection h with h;subst h;simp[VW a]
  grind
theorem Ry{ρ}:∀{l l'},vS ρ l=some l'→∀(i:Nat) a,l'[i]?=some a→∃b,l[i]?=some b∧Ay ρ b=some a
 | [],l',h,i,a,c=>by injection h with h;grind
 | v::r,l',h,i,a,c=>by
  unfold vS at h;split at h
  ·rename_i e d;injection h with h;subst h
   cases i with
   | zero=>grind
   | succ i=>exact Ry d i a c
  grind
theorem uD{ρ}:∀{l l'},gj ρ l=some l'→l'.length=l.length
 | [],l',h=>by injection h with h;grind
 | v::r,l',h=>by
  unfold gj at h;split at h
  ·rename_i b a;injection h with h;subst h;simp[uD a]
  grind
theorem uP{ρ}:∀{l l'},gj ρ l=some l'→∀(i:Nat) a,l'[i]?=some a→∃b,l[i]?=some b∧eM ρ b=some a
 | [],l',h,i,a,c=>by injection h with h;grind
 | v::r,l',h,i,a,c=>by
  unfold gj at h;split at h
  ·rename_i e d;injection h with h;subst h
   cases i with
   | zero=>grind
   | succ i=>exact uP d i a c
  grind
theorem wI{N N':Nat→Prop}{w:World}{ι a:Env}{ρ:ew}{v v':AV}{x:Value}(h:Rel N w ι v x)(g:∀b,N' b→N b)(m:∀id j,look id ρ=some j→a j=ι id)(e:eM ρ v=some v'):Rel N' w a v' x:=by
 unfold eM at e;split at e
 ·split at e
  ·injection e with e;subst e
   cases h with
   | fno _ _ _ f d l =>
    refine .fno _ _ _ f (by grind[VW]) (fun i c y k d=>?_)
    grind[Ry,QF]
  grind
 grind[QF]
theorem Cells.rn{N N'}{w}{ι d}{ρ}{cs a}{vs}(h:Cells N w ι cs vs)(f:∀b,N' b→N b)(m:∀id j,look id ρ=some j→d j=ι id)(e:gj ρ cs=some a):Cells N' w d a vs :=
 ⟨by rw[uD e];exact h.len,h.one,fun i x v l k=>by
  obtain⟨b,g,c⟩:=uP e i x l;exact wI (h.rel i b v g k) f m c⟩
def Bz(l:ew)(k v:Nat):Bool:=match look k l with|some x=>Nat.beq x v|none=>false
theorem qa{l}{k v}(h:Bz l k v=true):look k l=some v:=by
 unfold Bz at h;split at h
 ·simp_all
 grind
theorem kq{α}{k}{v:α}:∀{l},look k l=some v→(k,v)∈l
 | [],h=>by cases h
 | (j,x)::r,h=>by
  simp only[look]at h;split at h
  ·grind
  ·exact nw _ (kq h)
def pT(a b:Nat):Bool:=match Nat.ble 450000 a,Nat.ble 450000 b with
 | false,false=>true
 | true,true=>Nat.beq ((a-450000) % 1000) ((b-450000) % 1000)
 | _,_=>false
theorem Gy{a b T}(h:pT a b=true)(d:a<TG)(t:tyName a T):tyName b T:=fun c f=>by
 unfold pT at h;split at h
 ·have:=ajT c;grind
 ·rename_i e g;rw[t (hF e) d];simp_all
 grind
theorem alB{a b}(h:pT a b=true):pT b a=true:=by
 unfold pT at h⊢;split at h
 ·grind
 ·rename_i c d;rw[c,d];simp_all
 grind
def gR(ρ a:ew):Bool:=(ρ.all fun p=>Bz a p.2 p.1&&(Nat.ble (p.1+1) TG&&Nat.ble (p.2+1) TG))&&a.all fun p=>Bz ρ p.2 p.1&&pT p.1 p.2
theorem ff{ρ a}(h:gR ρ a=true){id j}(e:look id ρ=some j):look j a=some id∧id<TG∧j<TG:=by
 simp only[gR,g6,ll]at h;have:=h.1 _ (kq e);exact⟨qa this.1,hF this.2.1,hF this.2.2⟩
theorem gc{ρ a}(h:gR ρ a=true){id j}(e:look j a=some id):look id ρ=some j:=by
 simp only[gR,g6,ll]at h;exact qa (h.2 _ (kq e)).1
theorem GJ{ρ a}(h:gR ρ a=true){id j}(e:look j a=some id):pT j id=true:=by
 simp only[gR,g6,ll]at h;exact(h.2 _ (kq e)).2
def bL(a:ew)(ι:Env):Env:=fun j=>match look j a with|some id=>ι id|none=>none
theorem ik{a}{ι}{j}{y}(h:bL a ι j=some y):∃id,look j a=some id∧ι id=some y:=by
 grind[bL]
theorem gG{a}{ι}{j id}(h:look j a=some id):bL a ι j=ι id:=by grind[bL]
def d9(ρ:ew)(o:List f6):ew→Option (List f6)
 | []=>some []
 | (id,j)::r=>match look id o,d9 ρ o r with
  | some cs,some l=>match gj ρ cs with
   | some c=>some ((j,c)::l)
   | none=>none
  | _,_=>none
theorem Ci{ρ:ew}{o:List f6}:∀{l:ew} {O:List f6},d9 ρ o l=some O→∀{j:Nat} {c:b6},look j O=some c→∃id cs,(id,j)∈l∧look id o=some cs∧gj ρ cs=some c
 | [],O,h,j,c,a=>by injection h with h;subst h;cases a
 | (id,k)::r,O,h,j,c,a=>by
  unfold d9 at h;split at h
  case h_2=>cases h
  rename_i cs l b f;split at h
  case h_2=>cases h
  rename_i c0 g;injection h with h;subst h
  simp only[look]at a;split at a
  ·rename_i e;subst e;injection a with a;subst a
   exact⟨id,cs,pe,b,g⟩
  ·obtain⟨i,d,m,n⟩:=Ci f a;exact⟨i,d,nw _ m,n⟩
def fC(w:World)(a:Env)(O:List f6):az:=⟨w,fun b=>∃i,bg (a i)=some b,fun j=>match look j O with|some _=>a j|none=>none⟩
def lL(P:Program)(f:FuncId)(args:b6)(O:List f6)(c:Nat)(ar:bZ)(U:d4)(Q:AV→AS→Prop):Prop :=
 ∀M w b xs,HS M (fC w b O) w b ⟨[],O,[(c,ar)],U⟩→args.length=xs.size→(∀(i:Nat) a x,args[i]?=some a→xs[i]?=some x→Rel (NN M b) w b a x)→Calls P f xs w (bP M (fC w b O) Q)
theorem uu{P:Program}{f:FuncId}{fn:Func}{c:Code}{args:b6}{O:List f6}{i:Nat}{ar:bZ}{U:d4}{Q:AV→AS→Prop}(o:P.funcs[f]?=some fn)(m:fn.body=some c) n(t:fn.ntmps=n)(s:args.length≤n)
  (h:∀M j,VE (fm:=fm0) ⟨P,n,M,j⟩ (bodyPost P fn (bP M j Q)) [.c c] .normal ⟨idxs 0 args,O,[(i,ar)],U⟩):lL P f args O i ar U Q:=by
 intro M w l xs b p r;refine amy o m ?_;refine rQ (h M (fC w l O) { tmps:=xs++Array.replicate (fn.ntmps-xs.size) undef,defers:=[] } w l ?_) (fun e a w' q=>?_)
 ·refine @aI.mk fm0 _ _ _ _ _ ⟨b.below,b.old,b.use,b.own,b.inj,b.ko,b.kr,b.objs,b.arrs,b.pin⟩ rfl ?_ (fun k v g=>?_)
  ·grind
  ·rw[nM,iF (n3 _),aiE]at g;have d:k<xs.size:=by grind
   refine⟨xs[k],?_,r k v _ g (h8 d)⟩
   grind
 ·cases e<;>exact q
def AN(U:d4)(ρo:ew)(a:Nat):Bool:=U.contains a&&ρo.all fun p=>U.contains p.2&&U.contains (cS p.2)
theorem HS.ub{M:Nat→Prop}{w0:az}{w:World}{ι:Env}{s:AS}(h:HS M w0 w ι s){ρo ρ d:ew}{o I:Nat}{ar:bZ}{O:List f6}{U:d4}(N:ρ=(o,I)::ρo)(n:gR ρ d=true)(hO:d9 ρ s.o ρo=some O)(hr:look o s.r=some ar)(F:AN U ρo I=true):
  HS (fun b=>NN M ι b∧∀i,bg (bL d ι i)≠some b) (fC w (bL d ι) O) w (bL d ι) ⟨[],O,[(I,ar)],U⟩:=by
 have R:∀b,NN (fun b=>NN M ι b∧∀i,bg (bL d ι i)≠some b) (bL d ι) b→NN M ι b:=fun b f=>by
  rcases f with f|⟨j,f⟩
  ·exact f.1
  ·cases m:bL d ι j with
   | none=>rw[m]at f;cases f
   | some y=>obtain⟨id,_,A⟩:=ik m;exact .inr ⟨id,by rw[A];rw[m]at f;exact f⟩
 have hι:∀id j,look id ρ=some j→bL d ι j=ι id:=fun id j e=>gG (ff n e).1;have H:look o ρ=some I:=by rw[N];simp[look]
 have C:∀j id,look j d=some id→U.contains j=true:=fun j id e=>by
  have:=kq (gc n e);rw[N]at this;simp only[AN,g6,ll]at F;rcases l3.1 this with z|z
  ·injection z with Q V;rw[V];exact F.1
  ·exact(F.2 _ z).1
 have B:∀{j c},look j O=some c→∃id cs,look j d=some id∧(id,j)∈ρo∧look id s.o=some cs∧gj ρ cs=some c:=fun {j c} l=>by
  obtain⟨id,cs,S,q2,q3⟩:=Ci hO l;refine⟨id,cs,?_,S,q2,q3⟩;simp only[gR,g6,ll]at n;exact qa (n.1 (id,j) (by rw[N];exact nw _ S)).1
 refine⟨⟨rfl,rfl,rfl,h7 _,fun _ _ _=>rfl⟩,fun b f=>⟨mq h f.1,fun⟨i,hi⟩=>f.2 i hi⟩,fun j y hy=>?_,fun j g r=>?_,fun j j' g r t=>?_,fun j c l=>?_,fun j a p=>?_,fun j c l G=>?_,fun j a p G=>?_,fun j v hv=>?_⟩
 ·obtain⟨id,k,_⟩:=ik hy;exact fJ (C j id k)
 ·cases m:bL d ι j with
  | none=>rw[m]at r;cases r
  | some y =>
   obtain⟨id,k,A⟩:=ik m;refine⟨.inr ⟨j,r⟩,(h.own id g ?_).2⟩;rw[m]at r;rw[A];exact r
 ·cases m:bL d ι j with
  | none=>rw[m]at r;cases r
  | some y =>
   cases D:bL d ι j' with
   | none=>rw[D]at t;cases t
   | some y' =>
    obtain⟨id,k,A⟩:=ik m;obtain⟨P,J,K⟩:=ik D;have:=h.inj id P g (by rw[m]at r;rw[A];exact r) (by rw[D]at t;rw[K];exact t);subst this;have E:=gc n k;have z:=gc n J;rw[E]at z;injection z
 ·obtain⟨id,cs,k,_⟩:=B l;exact fJ (C j id k)
 ·simp only[look]at p;split at p
  ·rename_i e;subst e;exact fJ (C _ o (ff n H).1)
  ·cases p
 ·obtain⟨id,cs,k,_,A,h3⟩:=B l;rw[gG k]at G⊢;obtain⟨g,T,vs,E,z,Q⟩:=h.objs id cs A G;exact⟨g,⟨T.1,Gy (alB (GJ n k)) (ff n (gc n k)).2.1 T.2⟩,vs,E,z,Q.rn R hι h3⟩
 ·simp only[look]at p;split at p
  ·rename_i e;subst e;injection p with p;subst p
   have E:=ff n H;rw[gG E.1]at G⊢;obtain⟨v,xs,W,X,Y,Z,g5⟩:=h.arrs o ar hr G;refine⟨v,xs,W,X,Y,Z,fun q e hq i c l=>?_⟩;obtain⟨x,hx,L⟩:=g5 q e hq i c l;exact⟨x,hx,.inl ((L.flat (by omega)).mono (h7 _) (fun b _ f=>R b f) (fun _ _ _=>rfl) (fun _ _ h=>h))⟩
  ·cases p
 ·have u:(match look j O with|some _=>bL d ι j|none=>none)=some v:=hv;cases l:look j O with
  | none=>rw[l]at u;cases u
  | some c =>
   rw[l]at u;obtain⟨id,cs,_,k,_⟩:=B l;simp only[AN,g6,ll]at F;exact⟨u,(F.2 _ k).2⟩
def cB(o:List f6):List f6→Prop
 | []=>True
 | (j,c)::r=>look j o=some c∧cB o r
theorem Kp{o}:∀{O1},cB o O1→∀{j} {c},look j O1=some c→look j o=some c
 | [],_,j,c,h=>by cases h
 | (i,d)::r,a,j,c,h=>by
  simp only[look]at h;split at h
  ·rename_i e;subst e;injection h with h;subst h;exact a.1
  ·exact Kp a.2 h
def dR(a:ew)(O1:List f6):ew→Option (List f6)
 | []=>some []
 | (id,j)::r=>match look j O1,dR a O1 r with
  | some c,some l=>match gj a c with
   | some b=>some ((id,b)::l)
   | none=>none
  | _,_=>none
theorem wQ{b:ew}{O1:List f6}:∀{l:ew} {o2:List f6},dR b O1 l=some o2→∀{id:Nat} {c:b6},look id o2=some c→∃j d,(id,j)∈l∧look j O1=some d∧gj b d=some c
 | [],o2,h,id,c,a=>by injection h with h;subst h;cases a
 | (i,j)::r,o2,h,id,c,a=>by
  unfold dR at h;split at h
  case h_2=>cases h
  rename_i d l f g;split at h
  case h_2=>cases h
  rename_i c0 k;injection h with h;subst h
  simp only[look]at a;split at a
  ·rename_i e;subst e;injection a with a;subst a
   exact⟨j,d,pe,f,k⟩
  ·obtain⟨q,e,m,n⟩:=wQ g a;exact⟨q,e,nw _ m,n⟩
theorem Kt{c}{O1}:∀{l} {o2},dR c O1 l=some o2→∀{id j},(id,j)∈l→look id o2≠none
 | [],o2,h,id,j,a=>by grind
 | (i,q)::r,o2,h,id,j,a=>by
  unfold dR at h;split at h
  case h_2=>grind
  rename_i d l f b;split at h
  case h_2=>grind
  rename_i c0 g;injection h with h;subst h
  simp only[look];split
  ·grind
  ·rcases l3.1 a with e|e
   ·grind
   ·exact Kt b e
theorem z9{ρ}{o}:∀{l} {O},d9 ρ o l=some O→∀{id j},(id,j)∈l→∃c,look j O=some c
 | [],O,h,id,j,a=>by grind
 | (i,q)::r,O,h,id,j,a=>by
  unfold d9 at h;split at h
  case h_2=>grind
  rename_i cs l d b;split at h
  case h_2=>grind
  rename_i c0 f;injection h with h;subst h
  simp only[look];split
  ·grind
  ·rcases l3.1 a with e|e
   ·grind
   ·exact z9 b e
def zD:List f6→List f6→List f6
 | [],o=>o
 | (k,v)::r,o=>bj k v (zD r o)
theorem wz{o}:∀{l} {i} {c},look i (zD l o)=some c→look i l=some c∨(look i l=none∧look i o=some c)
 | [],i,c,h=>.inr ⟨rfl,h⟩
 | (k,v)::r,i,c,h=>by
  simp only[zD,cp,look]at h⊢;split at h
  ·grind
  ·rename_i e;rw[io e];exact wz h
def gH(a:Nat)(b:bZ)(o2:List f6)(s:AS):AS:=⟨dB a s.t,zD o2 (eS a s.o),bj a b s.r,s.u⟩
def cJ(ι c:Env)(a b:Nat):Env:=fun i=>if i=a then c b else ι i
theorem HS.DD{M:Nat→Prop}{w0:az}{w w':World}{ι C:Env}{s s1:AS}(h:HS M w0 w ι s){ρo ρ G:ew}{f z:Nat}{ar Q:bZ}{O O1 o2:List f6}(hρ:ρ=(f,z)::ρo)(N:gR ρ G=true)(hO:d9 ρ s.o ρo=some O)(hr:look f s.r=some ar)
  (k0:s.u.contains (cS f)=false) (o0:look f s.o=none) (l0:∀p∈ρo,look p.1 s.r=none) (h0:∀p∈ρo,∃y,bL G ι p.2=some y)
  (L:HS (fun b=>NN M ι b∧∀i,bg (bL G ι i)≠some b) (fC w (bL G ι) O) w' C s1) (g0:cB s1.o O1) (m0:look z s1.r=some Q) (l:dR G O1 ρo=some o2) :
  HS M w0 w' (cJ ι C f z) (gH f Q o2 s)∧(∀{v:AV} {x:Value},Rel (NN M ι) w ι v x→Rel (NN M (cJ ι C f z)) w' (cJ ι C f z) (v.cW f) x) ∧
   (∀{v v':AV} {x:Value},Rel (NN (fun b=>NN M ι b∧∀i,bg (bL G ι i)≠some b) C) w' C v x→eM G v=some v'→Rel (NN M (cJ ι C f z)) w' (cJ ι C f z) v' x):=by
 have X:look f ρ=some z:=by rw[hρ];simp[look]
 have f1:∀id j,(id,j)∈ρo→C j=ι id∧look j G=some id:=fun id j hm=>by
  have E:look j G=some id:=by
   have e0:=N;simp only[gR,g6,ll]at e0;exact qa (e0.1 (id,j) (by rw[hρ];exact nw _ hm)).1
  obtain⟨y,hy⟩:=h0 _ hm;obtain⟨c,hc⟩:=z9 hO hm;have H:=(L.pin j y (by show(match look j O with|some _=>bL G ι j|none=>none)=some y;rw[hc];exact hy)).1;refine⟨?_,E⟩;rw[H,← gG (ι:=ι) E];exact hy.symm
 have f2:∀j id,look j G=some id→cJ ι C f z id=C j:=fun j id e=>by
  have t:=gc N e;unfold cJ;by_cases n:id=f
  ·subst n;rw[iF rfl];rw[X]at t;injection t with t;rw[t]
  ·rw[io n];have:=kq t;rw[hρ]at this;rcases l3.1 this with I|I
   ·injection I with V e5;exact absurd V n
   ·exact(f1 id j I).1.symm
 have m:∀{q b},bg (bL G ι q)=some b→∃id,look q G=some id∧bg (ι id)=some b:=fun {q b} P=>by
  cases he:bL G ι q with
  | none=>rw[he]at P;cases P
  | some y=>obtain⟨id,E,t⟩:=ik he;exact⟨id,E,by rw[t];rw[he]at P;exact P⟩
 have Y:w.heap.size≤w'.heap.size:=L.below.size;have ca:∀b,b<w.heap.size→(∀i,bg (bL G ι i)≠some b)→w'.heap[b]?=w.heap[b]?:=fun b R l=>L.below.block b R (fun⟨i,F⟩=>l i F);have S:∀b,b<w.heap.size→¬ NN M ι b→w'.heap[b]?=w.heap[b]?:=fun b R l=>ca b R (fun i F=>by
  obtain⟨id,_,e⟩:=m F;exact l (.inr ⟨id,e⟩))
 have a0:∀b,NN M (cJ ι C f z) b→NN (fun b=>NN M ι b∧∀i,bg (bL G ι i)≠some b) C b:=fun b l=>by
  rcases l with l|⟨id,l⟩
  ·exact .inl ⟨.inl l,fun i F=>by obtain⟨id,_,e⟩:=m F;exact h.sep l e⟩
  ·unfold cJ at l;by_cases n:id=f
   ·rw[iF n]at l;exact .inr ⟨z,l⟩
   ·rw[io n]at l;by_cases hl:∃i,bg (bL G ι i)=some b
    ·obtain⟨q,P⟩:=hl;obtain⟨K,E,t⟩:=m P;have:=h.inj K id b t l;subst this;have:=f2 q K E;unfold cJ at this;rw[io n]at this;exact .inr ⟨q,by rw[←this];exact l⟩
    ·exact .inl ⟨.inr ⟨id,l⟩,fun i F=>hl ⟨i,F⟩⟩
 have d0:∀b,b<w.heap.size→NN M (cJ ι C f z) b→NN M ι b:=fun b R l=>by
  rcases l with l|⟨id,l⟩
  ·exact .inl l
  ·unfold cJ at l;by_cases n:id=f
   ·rw[iF n]at l;rcases (L.own z b l).1 with e|⟨q,e⟩
    ·exact absurd R (afl.2 e)
    ·obtain⟨K,_,t⟩:=m e;exact .inr ⟨K,t⟩
   ·rw[io n]at l;exact .inr ⟨id,l⟩
 have T:∀{v:AV} {x:Value},Rel (NN M ι) w ι v x→Rel (NN M (cJ ι C f z)) w' (cJ ι C f z) (v.cW f) x:=fun hv =>
  (hv.mono Y d0 S (fun _ _ h=>h)).cW (fun i F=>io F)
 have np:w0.pv f=none:=h.np k0;refine⟨⟨?_,h.old,fun i y hy=>?_,fun i g D=>?_,fun i U g D B=>?_,fun i c F=>?_,fun i a F=>?_,fun i c F H=>?_,fun i a F H=>?_,fun i v H=>?_⟩,T,fun hv e=>wI hv a0 (fun j id e=>f2 j id e) e⟩
 ·refine h.below.trans ⟨L.below.os,L.below.tape,L.below.output,Y,fun k hk hG=>ca k (nx hk h.below.size) (fun i F=>?_)⟩;obtain⟨id,_,e⟩:=m F;rcases (h.own id k e).1 with h9|h9
  ·exact absurd hk (afl.2 h9)
  ·exact hG h9
 ·unfold cJ at hy;by_cases n:i=f
  ·subst n;exact h.kr i ar hr
  ·rw[io n]at hy;exact h.use i y hy
 ·unfold cJ at D;by_cases n:i=f
  ·rw[iF n]at D;obtain⟨A,Z⟩:=L.own z g D;refine⟨?_,Z⟩;rcases A with A|⟨q,A⟩
   ·exact .inl (oR h.below.size A)
   ·obtain⟨id,_,e⟩:=m A;exact(h.own id g e).1
  ·rw[io n]at D;exact⟨(h.own i g D).1,nx (h.own i g D).2 Y⟩
 ·have f0:∀U,U≠f→bg (C z)=some g→bg (ι U)=some g→False:=fun U o D B=>by
   rcases (L.own z g D).1 with A|⟨q,A⟩
   ·exact absurd (h.own U g B).2 (afl.2 A)
   ·obtain⟨id,E,t⟩:=m A;have:=h.inj id U g t B;subst this;have I:=f2 q id E;unfold cJ at I;rw[io o]at I;have:=L.inj q z g (by rw[←I];exact t) D;subst this;have:=(ff N X).1;rw[E]at this;injection this with this;exact o this
  unfold cJ at D B;by_cases n:i=f
  ·by_cases J:U=f
   ·rw[n,J]
   ·rw[iF n]at D;rw[io J]at B;exact(f0 U J D B).elim
  ·by_cases J:U=f
   ·rw[io n]at D;rw[iF J]at B;exact(f0 i n B D).elim
   ·rw[io n]at D;rw[io J]at B;exact h.inj i U g D B
 ·rcases wz F with e|⟨_,e⟩
  ·obtain⟨j,d,A,_,_⟩:=wQ l e;obtain⟨c0,i0⟩:=z9 hO A;obtain⟨K,cs,p1,p2,p3⟩:=Ci hO i0;have E:=(f1 i j A).2;have t:=(f1 K j p1).2;rw[E]at t;injection t with t;subst t
   exact h.ko i cs p2
  ·obtain⟨u,hu,_⟩:=kv e;exact h.ko i u hu
 ·have o:look i (bj f Q s.r)=some a:=F;rw[cp]at o;split at o
  ·rename_i e;subst e;exact h.kr i ar hr
  ·exact h.kr i a o
 ·rcases wz F with e|⟨en,e⟩
  ·obtain⟨j,d,A,Z,q3⟩:=wQ l e;have E:=f2 j i (f1 i j A).2;rw[E]at H⊢;obtain⟨g,T0,vs,r1,r2,r3⟩:=L.objs j d (Kp g0 Z) H;have e9:=(f1 i j A).2;exact⟨g,⟨T0.1,Gy (GJ N e9) (ff N (gc N e9)).2.2 T0.2⟩,vs,r1,r2,r3.rn a0 (fun j id e=>f2 j id e) q3⟩
  ·obtain⟨u,hu,rfl⟩:=kv e;have n:i≠f:=fun e=>by rw[e,o0]at hu;cases hu
   have E:cJ ι C f z i=ι i:=io n;rw[E]at H⊢;obtain⟨g,T0,vs,r1,r2,r3⟩:=h.objs i u hu H;refine⟨g,T0,vs,r1,(ca g (h.own i g (by rw[r1];rfl)).2 (fun q P=>?_)).trans r2,⟨by rw[l4];exact r3.len,r3.one,fun k x v hx hv=>?_⟩⟩
   ·obtain⟨id,t,I⟩:=m P;have:=h.inj id i g I (by rw[r1];rfl);subst this;have:=kq (gc N t);rw[hρ]at this;rcases l3.1 this with V|V
    ·injection V with e5 e6;exact n e5
    ·exact Kt l V en
   ·obtain⟨y,hy,rfl⟩:=mi hx;exact T (r3.rel k y v hy hv)
 ·have o:look i (bj f Q s.r)=some a:=F;rw[cp]at o;split at o
  ·rename_i e;subst e;injection o with o;subst o
   have E:cJ ι C i z i=C z:=iF rfl;rw[E]at H⊢;have p0:=(ff N X).2.2;obtain⟨v,xs,A,Z,q3,q4,q5⟩:=L.arrs z Q m0 H;refine⟨v,xs,A,Z,q3,q4,fun j e hj k c hk=>?_⟩;obtain⟨x,hx,b0⟩:=q5 j e hj k c hk;exact⟨x,hx,.inl ((b0.flat (by omega)).mono (h7 _) (fun b _ l=>a0 b l) (fun _ _ _=>rfl) (fun _ _ h=>h))⟩
  ·rename_i n;have E:cJ ι C f z i=ι i:=io n;rw[E]at H⊢;obtain⟨v,xs,A,Z,q3,q4,q5⟩:=h.arrs i a o H;have q0:=(ff N X).2.1;refine⟨v,xs,A,fS Z (fun g D=>ca g (h.own i g (by rw[A];exact D)).2 (fun q P=>?_)),q3,q4,fun j e hj k c hk=>?_⟩
   ·obtain⟨id,t,I⟩:=m P;have:=h.inj id i g I (by rw[A];exact D);subst this;have:=kq (gc N t);rw[hρ]at this;rcases l3.1 this with V|V
    ·injection V with e5 e6;exact n e5
    ·have:=l0 _ V;rw[o]at this;cases this
   ·obtain⟨x,hx,b0⟩:=q5 j e hj k c hk;have nb:∀q:Nat,eA≤nm i q:=fun q=>alZ _ _;have lb:TG<eA:=by decide
    refine⟨x,hx,b0.mono Y d0 S (fun r W=>?_) (fun r W=>ca r (h.kR W) (fun q P=>?_)) (fun h=>h)⟩
    ·exact(io (fun e=>by have:=nb (j*a.sz+k);omega)).trans W
    ·obtain⟨id,t,I⟩:=m P;have:=h.inj id _ r I (by rw[W];rfl);have h9:=(ff N (gc N t)).2.1;have:=nb (j*a.sz+k);omega
 ·obtain⟨A,Z⟩:=h.pin i v H;refine⟨?_,Z⟩;have n:i≠f:=fun e=>by rw[e,np]at H;cases H
  exact(io n).trans A
def bH:ew→ew
 | []=>[]
 | (a,b)::r=>(b,a)::bH r
def mF(j:Nat):AV→Bool
 | .ptr i o=>Nat.beq i j&&Nat.beq o 0
 | _=>false
def zX(j:Nat):AV→Bool
 | .fno _ cs=>cs.any (mF j)
 | v=>mF j v
theorem Uu{N}{w}{ι}{j}{v}{x}(h:mF j v=true)(a:Rel N w ι v x):∃g,ι j=some (.pointer (some ⟨g,0,none⟩)):=by
 unfold mF at h;split at h
 ·rw[g6]at h;have:=iO h.1;cases a with
  | ptr _ _ _ g h=>grind
 grind
theorem WP{N:Nat→Prop}{w:World}{ι:Env}{j:Nat}{v:AV}{x:Value}(h:zX j v=true)(d:Rel N w ι v x):∃g,ι j=some (.pointer (some ⟨g,0,none⟩)):=by
 cases d with
 | fno _ f cs i m d =>
  obtain⟨c,k,a⟩:=aaf.1 h;obtain⟨q,e⟩:=ame.1 k;have b:q<i.length:=by rw[←m];exact(g7.1 e).1
  exact Uu a (d q c i[q] e (h6 b))
 | ptr _ id o g l=>exact Uu (N:=N) (w:=w) (v:=.ptr id o) (by grind[zX]) (.ptr _ id o g l)
 | _=>grind[zX,mF]
def DV(fn:AV→AV)(s:AS)(o:Oper)(ρ:ew):Option (FuncId×b6) :=
 match o.op with
 | .call c=>match c.callee with
  | .value b=>match s.ev b,dA s c.args.toList with
   | some (.fn f []),some l=>match gj ρ (l.map fn) with
    | some l'=>some (f,l')
    | none=>none
   | some (.fno f cs),some l=>match gj ρ (l.map fn),gj ρ cs with
    | some l',some a=>some (f,l'++a)
    | _,_=>none
   | _,_=>none
  | _=>none
 | _=>none
def FQ(s:AS)(a b:Nat)(ρo:ew)(U:d4)(args:b6):Bool :=
 gR ((a,b)::ρo) (bH ((a,b)::ρo))&&(AN U ρo b&&((match s.u.contains (cS a) with|true=>false|false=>true)&&((match look a s.o with|none=>true|some _=>false) &&
  ((ρo.all fun p=>match look p.1 s.r with|none=>true|some _=>false)&&ρo.all fun p=>args.any (zX p.2)))))
section
variable{d:Cx}{s:AS}{a:Act}{w:World}{ι:Env}
theorem afT(H:aI d s a w ι){fn:AV→AV}(G:∀{v:AV} {x:Value},Rel (NN d.M ι) w ι v x→Rel (NN d.M ι) w ι (fn v) x){o:Oper}{ρ:ew}{g:FuncId}{args:b6}(h:DV fn s o ρ=some (g,args))(t:cN d.P g=true):
  ∃xs:Array Value,(execOp a.eval o).run d.P w=.ok (.enter g xs) w∧args.length=xs.size∧∀(i:Nat) (v:AV) (x:Value),args[i]?=some v→xs[i]?=some x→∃u,eM ρ u=some v∧Rel (NN d.M ι) w ι u x:=by
 unfold DV at h;split at h
 case h_2=>cases h
 rename_i c z;split at h
 case h_2=>cases h
 rename_i O k;have part:∀{l l':b6},dA s c.args.toList=some l→gj ρ (l.map fn)=some l'→l'.length=(c.args.map a.eval).size∧∀(i:Nat) (v:AV) (x:Value),l'[i]?=some v→(c.args.map a.eval)[i]?=some x→∃u,eM ρ u=some v∧Rel (NN d.M ι) w ι u x:=fun {l l'} y e=>by
  obtain⟨Q,R⟩:=lV H y;refine⟨by rw[uD e];simp at Q⊢;omega,fun i v x q p=>?_⟩;obtain⟨b,j,n⟩:=uP e i v q;rw[th]at j;cases m:l[i]? with
  | none=>rw[m]at j;cases j
  | some N =>
   rw[m]at j;injection j with j;subst j
   exact⟨_,n,G (R i N x m (by rw[←agQ,aas];exact p))⟩
 split at h
 ·rename_i f l F y;split at h
  case h_2=>cases h
  rename_i l' e;injection h with h;injection h with C D;subst C;subst D
  obtain⟨L,A,E,_⟩:=ld H z k F t;have J:L=[]:=ne (by simpa using E.symm);subst J;have I:c.args.map a.eval++([]:d5).toArray=c.args.map a.eval:=by simp
  rw[I]at A;obtain⟨p1,K⟩:=part y e;exact⟨_,A,p1,K⟩
 ·rename_i f cs l F y;split at h
  case h_2=>cases h
  rename_i l' S e r;injection h with h;injection h with C D;subst C;subst D
  obtain⟨p1,K⟩:=part y e;have B:=H.ev F;generalize P:a.eval O=X at B;cases B with
  | fno _ _ _ L T B =>
   refine⟨c.args.map a.eval++L.toArray,?_,by simp at p1⊢;rw[uD r];omega,fun i v x q p=>?_⟩
   ·unfold execOp;simp only[z,resolve,k,P,Deferred.ofValue,n4,By,pt,invoke];rw[EK t];simp
   ·by_cases M:i<l'.length
    ·rw[yw M]at q;rw[An (by rw[←p1];exact M)]at p;exact K i v x q p
    ·rw[w3 (by omega)]at q;rw[aea (by rw[←p1];omega)]at p;rw[←p1]at p;obtain⟨b,j,n⟩:=uP r _ v q;exact⟨b,n,B _ b x j (by simpa using p)⟩
 grind
end
section
variable{c:Cx}{Q:Exit→Act→World→Prop}{l:ck}{s:AS}{d:Array Oper}{f:Func}{p:d4}{i:Nat}
theorem aag{a:Act}{w:World}{ι:Env}(A:aI c s a w ι){fn:AV→AV}(N:∀{v:AV} {x:Value},Rel (NN c.M ι) w ι v x→Rel (NN c.M ι) w ι (fn v) x)(h m:Nat)(ρo:ew){g:FuncId}{args:b6}{V1:AV}{O O1:List f6}{ar z:bZ}{U:d4}(hc:lL c.P g args O m ar U (fun v s1=>v=V1∧cB s1.o O1∧look m s1.r=some z))
  (k:OT c Q l d (aJ f p (i+1)) ((gH h z ((dR (bH ((h,m)::ρo)) O1 ρo).getD []) s).put (aL f p i).dst ((eM (bH ((h,m)::ρo)) V1).getD .any)))
  (L:cN c.P g=true) (h1:DV fn s (aL f p i) ((h,m)::ρo)=some (g,args))
  (hO:d9 ((h,m)::ρo) s.o ρo=some O) (H:look h s.r=some ar) (r:(dR (bH ((h,m)::ρo)) O1 ρo).isSome=true) (E:(eM (bH ((h,m)::ρo)) V1).isSome=true)
  (hd:cQ c.n (aL f p i).dst=true) (C:FQ s h m ρo U args=true):wpListIn FF 0 c.P d (Kw c.P Q l) ({ aL f p i with guard:=none }::aJ f p (i+1)) a w:=by
 refine v9 rfl fun K hK=>?_;obtain⟨o2,B⟩:=yd.1 r;obtain⟨V2,F⟩:=yd.1 E;rw[B,F]at k;simp only[DO]at k;simp only[FQ,g6]at C;obtain⟨k1,k2,k3,k4,k5,k6⟩:=C;have S:s.u.contains (cS h)=false:=by
  cases t:s.u.contains (cS h) with
  | true=>rw[t]at k3;cases k3
  | false=>rfl
 have Z:look h s.o=none:=by
  cases t:look h s.o with
  | some _=>rw[t]at k4;cases k4
  | none=>rfl
 have T:∀p∈ρo,look p.1 s.r=none:=fun p V=>by
  have:=ll.1 k5 p V;cases t:look p.1 s.r with
  | some _=>rw[t]at this;cases this
  | none=>rfl
 refine dK ?_;obtain⟨xs,X,G,b0⟩:=afT (o:={ aL f p i with guard:=none }) A N h1 L;rw[X,iL];have hN:∀b,NN (fun b=>NN c.M ι b∧∀i,bg (bL (bH ((h,m)::ρo)) ι i)≠some b) (bL (bH ((h,m)::ρo)) ι) b→NN c.M ι b:=fun b r=>by
  rcases r with r|⟨j,r⟩
  ·exact r.1
  ·cases M:bL (bH ((h,m)::ρo)) ι j with
   | none=>rw[M]at r;cases r
   | some y=>obtain⟨id,_,h2⟩:=ik M;exact .inr ⟨id,by rw[h2];rw[M]at r;exact r⟩
 have n:∀(i:Nat) (a:AV) (x:Value),args[i]?=some a→xs[i]?=some x→Rel (NN (fun b=>NN c.M ι b∧∀i,bg (bL (bH ((h,m)::ρo)) ι i)≠some b) (bL (bH ((h,m)::ρo)) ι)) w (bL (bH ((h,m)::ρo)) ι) a x:=fun i v x E hx=>by
  obtain⟨u,q1,q2⟩:=b0 i v x E hx;exact wI q2 hN (fun id j e=>gG (ff k1 e).1) q1
 have J:∀p∈ρo,∃y,bL (bH ((h,m)::ρo)) ι p.2=some y:=fun p V=>by
  have:=ll.1 k6 p V;obtain⟨v,E,a0⟩:=aaf.1 this;obtain⟨q,t⟩:=ame.1 E;have R:q<xs.size:=by rw[←G];exact(g7.1 t).1
  obtain⟨g0,h0⟩:=WP a0 (n q v _ t (h8 R));exact⟨_,h0⟩
 refine (hc _ w _ xs (A.hs.ub rfl k1 hO H k2) G n).mono ?_
 rintro e w' ⟨x,v,s1,ι1,rfl,⟨rfl,I,W⟩,P,Y⟩
 obtain⟨g1,g2,g3⟩:=A.hs.DD rfl k1 hO H S Z T J P I W B;have D:aI c (gH h z o2 s) a w' (cJ ι ι1 h m):=⟨g1,A.dfr,A.n,fun k v hk=>by
  obtain⟨u,hu,rfl⟩:=lJ hk;obtain⟨y,hy,H⟩:=A.tmp k u hu;exact⟨y,hy,g2 H⟩⟩
 exact hK _ _ (k _ _ _ (D.put (ge hd) (g3 Y F)))
theorem kI b e ρo{g}{args}{V1}{O O1}{ar j}{U}(u:lL c.P g args O e ar U (fun v o=>v=V1∧cB o.o O1∧look e o.r=some j))
  (k:OT c Q l d (aJ f p (i+1)) ((gH b j ((dR (bH ((b,e)::ρo)) O1 ρo).getD []) s).put (aL f p i).dst ((eM (bH ((b,e)::ρo)) V1).getD .any)))
  (z:aJ f p i=aL f p i::aJ f p (i+1):=by kernel_rfl) (y:cv d s (aL f p i)=true:=by kernel_rfl) (m:cN c.P g=true:=by kernel_rfl) (q:DV id s (aL f p i) ((b,e)::ρo)=some (g,args):=by kernel_rfl)
  (r:d9 ((b,e)::ρo) s.o ρo=some O:=by kernel_rfl) (A:look b s.r=some ar:=by kernel_rfl) (t:(dR (bH ((b,e)::ρo)) O1 ρo).isSome=true:=by kernel_rfl) (C:(eM (bH ((b,e)::ρo)) V1).isSome=true:=by kernel_rfl)
  (x:cQ c.n (aL f p i).dst=true:=by kernel_rfl) (n:FQ s b e ρo U args=true:=by kernel_rfl):OT c Q l d (aJ f p i) s:=by
 rw[z];exact eL _ y fun a w ι B=>aag B (fun h=>h) b e ρo u k m q r A t C x n
end
end Go.Proofs.YtocgkfoifehcbaaGreat
namespace Go.Proofs.YtocgkfoifehcbaaGreat
set_option linter.all false
open Go.RowKit
variable[FM]
section
variable{P:Program}{n:Nat}{s:AS}{o:Oper}
def WQ(P:Program)(n:Nat)(s:AS)(o:Oper):Option (ByteArray×Int×Int):=match lQ n o,o.op with
 | true,.slice T x lo a none=>match P.underlying T,s.ev x with
  | some .string,some (.str b)=>match lq s b.size lo a with
   | some (i,j)=>some (b,i,j)
   | none=>none
  | _,_=>none
 | _,_=>none
theorem Cy{b:ByteArray}{i j:Int}(k:cT i j b.size=true)(h:WQ P n s o=some (b,i,j):=by kernel_rfl):cd P n s o=some (s.put o.dst (.str (b.extract i.toNat j.toNat))):=by
 unfold WQ at h;split at h
 case h_2=>cases h
 rename_i T x lo t e g;obtain⟨d,e,p⟩:=pu e;split at h
 case h_2=>cases h
 rename_i b' q r;split at h
 case h_2=>cases h
 rename_i u v c;injection h with h;injection h with l a;injection a with a m;subst l;subst a;subst m
 simp only[cT,g6,ob]at k;have f:d<n:=hF p;unfold cd lD kw;simp[g,e,cQ,f,r,q,c,k]
end
mutual
def AV.o9:AV→Bool
 | .sit _ _ _ _=>false
 | .agg cs=>nR cs
 | .tup cs=>nR cs
 | .fno _ cs=>nR cs
 | _=>true
def nR:b6→Bool
 | []=>true
 | c::r=>c.o9&&nR r
end
theorem wA:∀{l},nR l=true→∀(i:Nat) x,l[i]?=some x→x.o9=true
 | [],_,i,x,a=>by grind
 | c::r,h,0,x,a=>by grind[nR]
 | c::r,h,i+1,x,a=>by simp only[nR,g6]at h;exact wA h.2 i x a
section
variable{w w':World}{g:Nat}{d:ByteArray}{p0:Nat}
theorem Vj(a:w.heap[g]?=some (.stringIter d p0))(c:∀b,b≠g→w'.heap[b]?=w.heap[b]?){b o}{v}(h:w.cell? ⟨b,o,none⟩=some v):w'.cell? ⟨b,o,none⟩=some v:=by
 by_cases e:b=g
 ·subst e;simp[World.cell?,a]at h
 grind[Gj]
theorem Rel.iter{N:Nat→Prop}{ι:Env}{v:AV}{x:Value}(h:Rel N w ι v x)(L:w.heap[g]?=some (.stringIter d p0))(M:w.heap.size≤w'.heap.size)(O:∀b,b≠g→w'.heap[b]?=w.heap[b]?):
  (v.o9=true∨∀i,ι i=none)→Rel N w' ι v x:=by
 induction h with
 | int ι k n=>intro _;exact .int _ _ _
 | bool ι b=>intro _;exact .bool _ _
 | str ι s=>intro _;exact .str _ _
 | nils ι=>intro _;exact .nils _
 | sl0 ι A c=>intro _;exact .sl0 _ _ _
 | sl ι l b o c sz z R F I p G E D t =>
  intro _;exact .sl ι l b o c sz z R (nx F M) I p (fun j e H i x a=>Vj L O (G j e H i x a)) (fun j e H i x a=>t j e H i x a (.inr fun _=>rfl)) D
 | fn ι f aV K u E t=>intro _;exact .fn _ f aV K u (fun i c y p C=>t i c y p C (.inr fun _=>rfl))
 | fno ι f aV K u E t=>intro q;exact .fno ι f aV K u (fun i c y p C=>t i c y p C (q.imp (fun q=>wA (by simpa[AV.o9]using q) i c p) id))
 | nilf ι=>intro _;exact .nilf _
 | nilp ι=>intro _;exact .nilp _
 | any ι x h=>intro _;exact .any _ _ h
 | ptr ι id off g h=>intro _;exact .ptr _ _ _ _ h
 | eptr ι id sz j off g n c h=>intro _;exact .eptr _ _ _ _ _ _ n c h
 | sref ι id sz off m n c P A B h Q=>intro _;exact .sref _ _ _ _ _ n c P A B h Q
 | cptr ι cs b o z F I p G E t =>
  intro _;exact .cptr ι cs b o z (nx F M) I p (fun i x a=>Vj L O (G i x a)) (fun i x a=>t i x a (.inr fun _=>rfl))
 | adr ι g off=>intro _;exact .adr _ _ _
 | pp ι id g off h=>intro _;exact .pp _ _ _ _ h
 | sit ι id g s S h _ _ _ =>
  intro q;rcases q with q|q
  ·cases q
  ·rw[q]at h;cases h
 | ref ι id A n c h=>intro _;exact .ref _ _ _ _ _ h
 | nilm ι=>intro _;exact .nilm _
 | vv ι x h=>intro _;exact .vv _ _ h
 | lk ι id v x h p=>intro _;exact .lk _ _ _ _ h p
 | mref ι id q r v h C=>intro _;exact .mref _ _ _ _ v h C
 | agg ι cs vs u p E t=>intro q;exact .agg ι cs vs u p (fun i x v a J=>t i x v a J (q.imp (fun q=>wA (by grind[AV.o9]) i x a) id))
 | tup ι cs vs u E t=>intro q;exact .tup ι cs vs u (fun i x v a J=>t i x v a J (q.imp (fun q=>wA (by grind[AV.o9]) i x a) id))
theorem Tl{B}{e}{sz}{v}{n}{xs}(o:w.heap[g]?=some (.stringIter d p0))(m:∀b,b≠g→w'.heap[b]?=w.heap[b]?)(h:w.ownsRow B e sz v n xs):w'.ownsRow B e sz v n xs :=
 fS h fun f a=>m f fun e'=>by
  obtain⟨c,_⟩|⟨k,i,j,c,_,l,_⟩:=h.2
  ·rw[c]at a;cases a
  ·rw[c]at a;have a:some k=some f:=a
   grind
theorem im.iter{N:Nat→Prop}{t:Prop}{o:Option Value}{c:AV}{x:Value}(h:im N w t o c x)(n:w.heap[g]?=some (.stringIter d p0))(A:w.heap.size≤w'.heap.size)(p:∀b,b≠g→w'.heap[b]?=w.heap[b]?):im N w' t o c x:=by
 rcases h with h|⟨s,m,r,u,v,z,k⟩|⟨s,e,sz,l,r,u,v,z,k⟩
 ·exact .inl (h.iter n A p (.inr fun _=>rfl))
 ·refine .inr (.inl ⟨s,m,r,u,v,z,?_⟩);unfold IZ at k⊢;cases m with
  | none=>exact k
  | some l =>
   obtain⟨B,E,C,q,f,D⟩:=k;exact⟨B,E,C,q,(p B (fun e=>by subst e;rw[n]at f;cases f)).trans f,D⟩
 ·refine .inr (.inr ⟨s,e,sz,l,r,u,v,z,?_⟩);obtain⟨xs,H,I,J,K⟩:=k;refine⟨xs,Tl n p H,I,J,fun j c G i a F=>?_⟩;obtain⟨y,q,f⟩:=K j c G i a F;exact⟨y,q,f.iter n A p (.inr fun _=>rfl)⟩
end
def zy(t:Nat):List ee→Bool
 | []=>true
 | (k,v)::r=>(Nat.beq k t||v.o9)&&zy t r
def vX:List f6→Bool
 | []=>true
 | (_,cs)::r=>nR cs&&vX r
theorem RM{t k}{v}:∀{l},zy t l=true→look k l=some v→k≠t→v.o9=true
 | [],_,h,_=>by cases h
 | (j,x)::r,a,h,b=>by
  simp only[zy,g6]at a;simp only[look]at h;split at h
  ·simp_all
  ·exact RM a.2 h b
theorem SQ{k}{cs}:∀{l},vX l=true→look k l=some cs→nR cs=true
 | [],_,h=>by cases h
 | (j,x)::r,a,h=>by
  simp only[vX,g6]at a;simp only[look]at h;split at h
  ·grind
  ·exact SQ a.2 h
section
variable{d:Cx}{s:AS}{a:Act}{w:World}{ι:Env}
theorem HS.iter{M:Nat→Prop}{t:az}(h:HS M t w ι s){g:Nat}{K r:ByteArray}{p0 p1:Nat}(f:w.heap[g]?=some (.stringIter K p0))(G:t.w.heap.size≤g)(H:vX s.o=true):
  HS M t { w with heap:=w.heap.setIfInBounds g (.stringIter r p1) } ι s:=by
 have d:∀b,b≠g→({ w with heap:=w.heap.setIfInBounds g (.stringIter r p1) }:World).heap[b]?=w.heap[b]?:=fun b E=>by
  simp only[];rw[ab7 (fun e=>E e.symm)]
 have m:w.heap.size≤({ w with heap:=w.heap.setIfInBounds g (.stringIter r p1) }:World).heap.size:=by simp
 refine⟨h.below.trans ⟨rfl,rfl,rfl,m,fun k a _=>d k (by omega)⟩,h.old,h.use,fun i k a=>⟨(h.own i k a).1,nx (h.own i k a).2 m⟩,h.inj,h.ko,h.kr,fun i cs l q=>?_,fun i ar l q=>?_,h.pin⟩
 ·obtain⟨u,T,vs,y,o,p⟩:=h.objs i cs l q;refine⟨u,T,vs,y,(d u (fun e=>by subst e;rw[f]at o;cases o)).trans o,p.len,p.one,fun j x v n J=>(p.rel j x v n J).iter f m d (.inl (wA (SQ H l) j x n))⟩
 ·obtain⟨v,xs,z,A,B,C,D⟩:=h.arrs i ar l q;refine⟨v,xs,z,Tl f d A,B,C,fun j e F k c a=>?_⟩;obtain⟨x,n,I⟩:=D j e F k c a;exact⟨x,n,I.iter f m d⟩
def K1(t id g:Nat)(b:ByteArray)(p:Nat)(s:AS):AS:={ s with t:=bj t (.sit id g b p) s.t }
theorem aI.iter(h:aI d s a w ι){t id g:Nat}{b:ByteArray}{p p1:Nat}(u:look t s.t=some (.sit id g b p))(c:d.w0.w.heap.size≤g)(r:zy t s.t=true)(l:vX s.o=true):
  a.tmps[t]?=some (.pointer (some ⟨g,0,none⟩))∧w.heap[g]?=some (.stringIter b p)∧aI d (K1 t id g b p1 s) a { w with heap:=w.heap.setIfInBounds g (.stringIter b p1) } ι:=by
 obtain⟨x,n,m⟩:=h.tmp t _ u;cases m with
 | sit _ _ _ _ _ B j o i =>
  refine⟨n,i,⟨⟨(h.hs.iter i c l).below,h.hs.old,h.hs.use,(h.hs.iter i c l).own,h.hs.inj,h.hs.ko,h.hs.kr,(h.hs.iter i c l).objs,(h.hs.iter i c l).arrs,h.hs.pin⟩,h.dfr,h.n,fun k v f=>?_⟩⟩;have z:∀b',b'≠g→({ w with heap:=w.heap.setIfInBounds g (.stringIter b p1) }:World).heap[b']?=w.heap[b']?:=fun b' q=>by
   simp only[];rw[ab7 (fun e=>q e.symm)]
  simp only[K1,cp]at f;split at f
  ·rename_i e;subst e;injection f with f;subst f
   exact⟨_,n,.sit _ _ _ _ _ B (by simpa using j) o (by simp[alO,j])⟩
  ·rename_i e;obtain⟨y,A,m⟩:=h.tmp k v f;exact⟨y,A,m.iter i (by simp) z (.inl (RM r f e))⟩
def Md(id:Nat)(s:AS):AS:={ s with u:=id::s.u }
theorem aI.range(h:aI d s a w ι){id:Nat}(C:has s.u id=false)(b:ByteArray):
  aI d (Md id s) a (w.iter b 0) (ext ι id (.int .u64 (w.heap.size:Nat)))∧Rel (NN d.M (ext ι id (.int .u64 (w.heap.size:Nat)))) (w.iter b 0) (ext ι id (.int .u64 (w.heap.size:Nat))) (.sit id w.heap.size b 0) (.pointer (some ⟨w.heap.size,0,none⟩)):=by
 have O:=h.hs.free C;have p:=h.hs.fresh (.stringIter b 0);have t:=fa O (.int .u64 (w.heap.size:Nat));have m:∀g,NN d.M (ext ι id (.int .u64 (w.heap.size:Nat))) g→NN d.M ι g:=fun g l=>by
  rcases gJ l with l|l
  ·exact l
  ·cases l
 have z:∀{i g},bg (ext ι id (.int .u64 (w.heap.size:Nat)) i)=some g→bg (ι i)=some g:=fun {i g} l=>by
  by_cases e:i=id
  ·subst e;rw[cH]at l;cases l
  ·rw[bR _ _ e]at l;exact l
 have sm:∀i,(∃c,look i s.o=some c)∨(∃c,look i s.r=some c)→i≠id:=fun i f e=>by
  subst e;obtain⟨c,f⟩|⟨c,f⟩:=f
  ·have:=h.hs.ko i c f;rw[C]at this;cases this
  ·have:=h.hs.kr i c f;rw[C]at this;cases this
 refine⟨⟨⟨p.below,h.hs.old,fun i y u=>?_,fun i g l=>p.own i g (z l),fun i S g l A=>h.hs.inj i S g (z l) (z A),fun i c f=>dN (h.hs.ko i c f),fun i c f=>dN (h.hs.kr i c f),fun i c f o=>?_,fun i c f o=>?_,fun i v o=>⟨t i v (h.hs.pin i v o).1,nS (h.hs.pin i v o).2⟩⟩,h.dfr,h.n,fun k v Q=>?_⟩,?_⟩
 ·by_cases e:i=id
  ·subst e;exact iV _ _
  ·rw[bR _ _ e]at u;exact dN (h.hs.use i y u)
 ·have e:=sm i (.inl ⟨c,f⟩);rw[bR _ _ e]at o;obtain⟨g,T,vs,D,E,F⟩:=p.objs i c f o;exact⟨g,T,vs,(bR _ _ e).trans D,E,F.mono (h7 _) (fun b _ n=>m b n) (fun _ _ _=>rfl) t⟩
 ·have e:=sm i (.inr ⟨c,f⟩);rw[bR _ _ e]at o;obtain⟨v,xs,I,J,K,L,M⟩:=p.arrs i c f o;refine⟨v,xs,(bR _ _ e).trans I,J,K,L,fun j G N q x P=>?_⟩;obtain⟨y,u,B⟩:=M j G N q x P;exact⟨y,u,B.mono (h7 _) (fun b _ n=>m b n) (fun _ _ _=>rfl) (fun r H=>t _ _ H) (fun _ _=>rfl) (fun h=>h)⟩
 ·obtain⟨x,R,B⟩:=h.tmp k v Q;exact⟨x,R,B.mono (by simp[World.iter]) (fun b _ n=>m b n) (fun b n _=>mm _ _ _ n) t⟩
 ·refine .sit _ _ _ _ _ (cH _ _ _) (by simp[World.iter]) (fun n=>?_) (w.iter_heap b 0);have:=mq h.hs (m _ n);omega
end
section
variable{d:Cx}{Q:Exit→Act→World→Prop}{e:ck}{s:AS}{c:Array Oper}{f:Func}{p:d4}{i:Nat}
def Wu(P:Program)(s:AS)(o:Oper):Option ByteArray:=match o.op with
 | .range T x=>match P.underlying T,s.ev x with
  | some .string,some (.str b)=>some b
  | _,_=>none
 | _=>none
theorem Gs(id:Nat){b:ByteArray}(k:∀g,d.w0.w.heap.size≤g→OT d Q e c (aJ f p (i+1)) ((Md id s).put (aL f p i).dst (.sit id g b 0)))(z:aJ f p i=aL f p i::aJ f p (i+1):=by kernel_rfl)(y:cv c s (aL f p i)=true:=by kernel_rfl)
  (h:Wu d.P s (aL f p i)=some b:=by kernel_rfl) (A:has s.u id=false:=by kernel_rfl) (v:cQ d.n (aL f p i).dst=true:=by kernel_rfl):OT d Q e c (aJ f p i) s:=by
 rw[z];refine eL _ y fun a w ι m=>?_;refine v9 rfl fun K r=>?_;unfold Wu at h;split at h
 case h_2=>cases h
 rename_i T x l;split at h
 case h_2=>cases h
 rename_i b' t B;injection h with h;subst h
 obtain⟨o,q⟩:=m.range A b';have n:=m.ev B;generalize u:a.eval x=X at n;cases n;have j:(execOp a.eval ({ aL f p i with guard:=none }:Oper)).run d.P w=.ok (.value (.pointer (some ⟨w.heap.size,0,none⟩))) (w.iter b' 0):=by
  unfold execOp;simp[l,u,run_range_string w T b' t]
 refine dK ?_;rw[j];exact r _ _ (k _ m.hs.below.size _ _ _ (o.put (ge v) q))
def Ck(s:AS)(o:Oper):Option (Nat×Nat×Nat×ByteArray×Nat):=match o.op with
 | .next (.tmp t) true=>match look t s.t with
  | some (.sit id g b p)=>some (t,id,g,b,p)
  | _=>none
 | _=>none
theorem Hv(t:Nat){id g:Nat}{b:ByteArray}{j:Nat}(m:decide (j<b.size)=true)(u:d.w0.w.heap.size≤g)
  (k:OT d Q e c (aJ f p (i+1)) ((K1 t id g b (j+(Utf8.decode b j).2) s).put (aL f p i).dst (.tup [.bool true,.int .i64 (j:Nat),.int .i32 ((Utf8.decode b j).1:Nat)])))
  (J:aJ f p i=aL f p i::aJ f p (i+1):=by kernel_rfl) (I:cv c s (aL f p i)=true:=by kernel_rfl) (h:Ck s (aL f p i)=some (t,id,g,b,j):=by kernel_rfl) (H:cQ d.n (aL f p i).dst=true:=by kernel_rfl)
  (y:(zy t s.t&&vX s.o)=true:=by kernel_rfl):OT d Q e c (aJ f p i) s:=by
 rw[J];refine eL _ I fun a w ι L=>?_;refine v9 rfl fun K F=>?_;have m:=il m;unfold Ck at h;split at h
 case h_2=>cases h
 rename_i B z;split at h
 case h_2=>cases h
 rename_i N A b' l M;simp only[qv,u4]at h;obtain⟨rfl,rfl,rfl,rfl,rfl⟩:=h;simp only[g6]at y;obtain⟨C,D,E⟩:=L.iter (p1:=l+(Utf8.decode b' l).2) M u y.1 y.2;have G:a.eval (.tmp B)=.pointer (some ⟨A,0,none⟩):=by show a.tmps.getD B undef=_;rw[qk,C];rfl
 have r:(execOp a.eval ({ aL f p i with guard:=none }:Oper)).run d.P w=.ok (.value (.tuple #[.bool true,.int .i64 (l:Nat),.int .i32 ((Utf8.decode b' l).1:Nat)])) { w with heap:=w.heap.setIfInBounds A (.stringIter b' (l+(Utf8.decode b' l).2)) }:=by
  unfold execOp;simp only[z,G];simp[Instr.next,getObj,setObj,n4,Sem.run,D,Result.andThen,m,goInt]
 refine dK ?_;rw[r];refine F _ _ (k _ _ _ (E.put (ge H) (.tup _ _ [.bool true,.int .i64 (l:Nat),.int .i32 ((Utf8.decode b' l).1:Nat)] rfl fun q x v n o=>?_)));rcases q with _|_|_|q
 ·simp at n o;subst n;subst o;exact .bool _ _
 ·simp at n o;subst n;subst o;exact .int _ _ _
 ·simp at n o;subst n;subst o;exact .int _ _ _
 ·simp at n
theorem Ga(t:Nat){id g:Nat}{b:ByteArray}{l:Nat}(j:decide (l<b.size)=false)(k:OT d Q e c (aJ f p (i+1)) (s.put (aL f p i).dst (.tup [.bool false])))
  (G:aJ f p i=aL f p i::aJ f p (i+1):=by kernel_rfl) (F:cv c s (aL f p i)=true:=by kernel_rfl) (h:Ck s (aL f p i)=some (t,id,g,b,l):=by kernel_rfl) (E:cQ d.n (aL f p i).dst=true:=by kernel_rfl):OT d Q e c (aJ f p i) s:=by
 rw[G];refine eL _ F fun a w ι r=>?_;refine v9 rfl fun K C=>?_;have j:¬ l<b.size:=of_decide_eq_false j;unfold Ck at h;split at h
 case h_2=>cases h
 rename_i y n;split at h
 case h_2=>cases h
 rename_i J z b' L I;simp only[qv,u4]at h;obtain⟨rfl,rfl,rfl,rfl,rfl⟩:=h;obtain⟨x,A,H⟩:=r.tmp _ _ I;cases H with
 | sit _ _ _ _ _ _ _ _ B =>
  have D:a.eval (.tmp y)=.pointer (some ⟨z,0,none⟩):=by show a.tmps.getD y undef=_;rw[qk,A];rfl
  have m:(execOp a.eval ({ aL f p i with guard:=none }:Oper)).run d.P w=.ok (.value (.tuple #[.bool false])) w:=by
   unfold execOp;simp only[n,D];simp[Instr.next,getObj,n4,Sem.run,B,Result.andThen,j]
  refine dK ?_;rw[m];refine C _ _ (k _ _ _ (r.put (ge E) (.tup _ _ [.bool false] rfl fun q x v o u=>?_)));rcases q with _|q
  ·simp at o u;subst o;subst u;exact .bool _ _
  ·simp at o
end
end Go.Proofs.YtocgkfoifehcbaaGreat
namespace Go.Proofs.YtocgkfoifehcbaaGreat
set_option linter.all false
open Go.RowKit
variable[FM]
def nD(b:Bool)(id:Nat):AV:=match b with|true=>.ptr id 0|false=>.nilp
theorem E8{o}:∀{O1},(O1.map fun p=>look p.1 o)=(O1.map fun p=>some p.2)→cB o O1
 | [],_=>trivial
 | (j,c)::r,h=>by
  simp only[n5,alt]at h;exact⟨h.1,E8 h.2⟩
section
variable{j:Cx}{Q:Exit→Act→World→Prop}{q:ck}{e:Exit}{s:AS}{m:Array Oper}{l:List Oper}{f:Func}{p:d4}{i:Nat}{fn:Func}
theorem gI{V:AV}{O1:List f6}{a:Nat}{ar:bZ}(h:gz j.P s fn.results.toList=some [V]:=by kernel_rfl)(b:look a s.r=some ar:=by kernel_rfl)(c:(O1.map fun p=>look p.1 s.o)=(O1.map fun p=>some p.2):=by kernel_rfl):
  VE (fm:=fm0) j (bodyPost j.P fn (bP j.M j.w0 (fun v s=>v=V∧cB s.o O1∧look a s.r=some ar))) [] .ret s:=rr rfl h ⟨rfl,E8 c,b⟩
theorem n6{l:b6}{O1:List f6}{a:Nat}{ar:bZ}(h:gz j.P s fn.results.toList=some l:=by kernel_rfl)(b:look a s.r=some ar:=by kernel_rfl)(c:(O1.map fun p=>look p.1 s.o)=(O1.map fun p=>some p.2):=by kernel_rfl)(d:oe l=.tup l:=by kernel_rfl):
  VE (fm:=fm0) j (bodyPost j.P fn (bP j.M j.w0 (fun v s=>v=.tup l∧cB s.o O1∧look a s.r=some ar))) [] .ret s:=rr rfl h ⟨d,E8 c,b⟩
theorem O0 d i n et sz(h:OT j Q q m l (CO d i n et sz s))(a:has s.u d=false:=by kernel_rfl)(b:C2 i n s=true:=by kernel_rfl):OT j Q q m l s:=by
 grind[C2,CO,Zz]
theorem rb(g:FuncId)(b:Array Operand)(l:b6)(k:OT j Q q m (aJ f p (i+1)) (s.put (aL f p i).dst (.fno g l)))(z:aJ f p i=aL f p i::aJ f p (i+1):=by kernel_rfl)(x:cv m s (aL f p i)=true:=by kernel_rfl)
  (d:(aL f p i).op=.makeFunc (.func g) #[] b:=by kernel_rfl) (v:dA s b.toList=some l:=by kernel_rfl) (u:cQ j.n (aL f p i).dst=true:=by kernel_rfl):OT j Q q m (aJ f p i) s:=by
 rw[z];refine eL _ x fun a w ι h=>?_;refine v9 rfl fun K t=>?_;obtain⟨A,B⟩:=lV h v;have r:Rel (NN j.M ι) w ι (.fno g l) (.func (.func g) #[] (b.map a.eval)):=by
  have e:=Rel.fno (N:=NN j.M ι) (w:=w) ι g l (b.map a.eval).toList (by simp at A⊢;omega) (fun i c y n o=>B i c y n (by simpa using o));rw[aaC]at e;exact e
 refine dK ?_;unfold execOp;simp only[d,Instr.makeFunc,n4,By,pt,amP];exact t _ _ (k _ _ _ (h.put (ge u) r))
def aj8(d id:Nat)(cs:b6)(s:AS):AS:=⟨bj d (.ptr id 0) s.t,bj id cs s.o,s.r,id::s.u⟩
def Mm(P:Program)(o:Oper):Option (Nat×Nat×b6):=match o.op,o.dst with
 | .alloc T,some d=>match fE P T with|some cs=>some (T,d,cs)|none=>none
 | _,_=>none
theorem O2(id:Nat){T d:Nat}{cs:b6}(k:OT j Q q m (aJ f p (i+1)) (aj8 d id cs s))(h:Mm j.P (aL f p i)=some (T,d,cs):=by kernel_rfl)(O:aJ f p i=aL f p i::aJ f p (i+1):=by kernel_rfl)(M:cv m s (aL f p i)=true:=by kernel_rfl)
  (L:cQ j.n (aL f p i).dst=true:=by kernel_rfl) (C:has s.u id=false:=by kernel_rfl) (I:Nat.beq T ((id-450000) % 1000)=true:=by kernel_rfl):OT j Q q m (aJ f p i) s:=by
 rw[O];refine eL _ M fun a w ι y=>?_;refine v9 rfl fun K H=>?_;unfold Mm at h;split at h
 case h_2=>cases h
 rename_i T' E x l;split at h
 case h_2=>cases h
 rename_i t r;simp only[qv,u4]at h;obtain⟨rfl,rfl,rfl⟩:=h;unfold fE at r;cases c:j.P.info? T' with
 | none=>simp[c]at r
 | some R =>
  cases g:R.zero with
  | none=>simp[c,g]at r
  | some D =>
   simp only[c,go,g]at r;have J:=oh (NN j.M ι) w ι r;have z:=y.hs.alloc (d:=id) C (T:=T') (fun _ _=>iO I) J;have P:=y.hs.free C;have F:aI j { s with o:=bj id t s.o,u:=id::s.u } a (w.alloc (.cells D.cells.toList.toArray T')) (ext ι id (.pointer (some ⟨w.heap.size,0,none⟩))):=by
    refine y.world z rfl (by simp) (fun b B e=>?_) (fun b B _=>mm _ _ _ B) (fa P _);rcases gJ e with e|e
    ·exact e
    ·injection e with e;simp only[]at e;omega
   have A:=F.put (d:=some E) (fun k N=>ge L k (by rw[l];exact N)) (v:=.ptr id 0) (.ptr _ _ _ _ (cH _ _ _));simp only[aaC]at A;have n:(execOp a.eval ({ aL f p i with guard:=none }:Oper)).run j.P w=.ok (.value (.pointer (some ⟨w.heap.size,0,none⟩))) (w.alloc (.cells D.cells T')):=by
    unfold execOp;simp[x,Instr.alloc,zeroValue,typeInfo,c,g,newVar,newRow]
   refine dK ?_;rw[n];have G:=k _ _ _ A;refine H _ _ ?_;show _;simp only[l];exact G
end
end Go.Proofs.YtocgkfoifehcbaaGreat
namespace Go.Proofs.YtocgkfoifehcbaaGreat
set_option linter.all false
open Go.RowKit
set_option maxHeartbeats 1000000 in
set_option maxRecDepth 100000 in
theorem af9(b:Nat)(w:World)(a:w.cell? ⟨b,0,none⟩=some (.pointer (some ⟨b,0,none⟩))):
  Calls Tryz.prog 123 #[.pointer (some ⟨b,0,none⟩)] w fun e w'=>e=.returned (.tuple #[])∧w'=w:=by
 go_enter Tryz.func123,Tryz.ntmps123
 go_wp2
 rw[Lib.run_neq_ptr_same w _ (te:=119) (by kernel_rfl) (j:=(Tryz.prog.info? 119).get (by kernel_rfl)) (by kernel_rfl)]
 go_wp2
 go_end0
 exact⟨rfl,rfl⟩
set_option maxHeartbeats 1000000 in
set_option maxRecDepth 100000 in
theorem acJ(b:Nat)(w:World)(d:w.cell? ⟨b,0,none⟩=some (.pointer none))(a:w.shape? b=some (119,2))(c:w.frozen? ⟨b,0,none⟩=false):
  Calls Tryz.prog 123 #[.pointer (some ⟨b,0,none⟩)] w fun e w'=>e=.returned (.tuple #[])∧w'=w.setCell ⟨b,0,none⟩ (.pointer (some ⟨b,0,none⟩)):=by
 go_enter Tryz.func123,Tryz.ntmps123
 go_wp2
 rw[Lib.run_to_unsafe w ⟨b,0,none⟩ (t:=119) (by kernel_rfl) (by kernel_rfl) (j:=(Tryz.prog.info? 119).get (by kernel_rfl)) (by kernel_rfl) (il (by kernel_rfl)) a (Nat.zero_lt_succ 1)];simp only[Result.andThen];rw[anr]
 go_wp2
 rw[run_callFunc_extern Tryz.func157 (by kernel_rfl) (by kernel_rfl) (by kernel_rfl) (e:=Extern.AbiNoEscape.same) (by kernel_rfl)];rw[Lib.run_noEscape];simp only[Result.andThen];rw[anr]
 go_wp2
 rw[Lib.run_from_unsafe w ⟨b,0,none⟩ (u:=119) (by kernel_rfl) (by kernel_rfl) (j:=(Tryz.prog.info? 119).get (by kernel_rfl)) (by kernel_rfl) a (by kernel_rfl)];simp only[Result.andThen];rw[anr]
 go_wp2
 go_end0
 exact⟨rfl,rfl⟩
set_option maxHeartbeats 1000000 in
set_option maxRecDepth 100000 in
theorem agn(b g a:Nat)(p:Value)(c:Array Value)(l:List UInt8)(w:World)(f:w.heap[b]?=some (.cells #[p,.slice (some ⟨g,0,none⟩) l.length a] 119 (0,0)))(q:w.heap[g]?=some (.cells c 5 (0,0)))(k:l≠[])(s:l.length≤a)(h:a≤maxLen)(o:c.size=a)
  (d:∀j x,l[j]?=some x→w.cell? ((⟨g,0,none⟩:Addr).add j)=some (.int .u8 x.toNat)) :
  Calls Tryz.prog 71 #[.pointer (some ⟨b,0,none⟩)] w fun e w'=>e=.returned (.string ⟨l.toArray⟩)∧w'=w.drew.freeze ⟨g,0,none⟩ l.length:=by
 have r:l.length≠0:=by simpa using k
 have c1:w.drew.cell? ⟨b,1,none⟩=some (.slice (some ⟨g,0,none⟩) l.length a):=by
  have:w.drew.heap[b]?=some (.cells #[p,.slice (some ⟨g,0,none⟩) l.length a] 119 (0,0)):=f;rw[al0 this];rfl
 have m:(Builtin.unsafeSliceData_ #[117] 173 #[.slice (some ⟨g,0,none⟩) l.length a]).run Tryz.prog w.drew=.ok (.pointer (some ⟨g,0,none⟩)) w.drew :=
  amS _ _ _ _ _ _ (by omega)
 have n:(Builtin.unsafeString_ #[173,3] 9 #[.pointer (some ⟨g,0,none⟩),.int .i64 l.length]).run Tryz.prog w.drew=.ok (.string ⟨l.toArray⟩) (w.drew.freeze ⟨g,0,none⟩ l.length):=by
  refine Lib.run_unsafeString_row w.drew 173 3 9 5 (by kernel_rfl) (by kernel_rfl) g c.size (by have i:w.drew.heap[g]?=some (.cells c 5 (0,0)):=q;simp[World.shape?,i]) l k (by omega) (by unfold maxLen at h;omega) ?_;intro j x t;exact d j x t
 go_enter anC,ans
 go_wp2
 go_region
 all_goals (go_wp2;go_ret;exact⟨rfl,rfl⟩)
variable[FM]
def yF(F:Nat)(s:AS)(o:Oper):Option AV:=match o.op with
 | .call c=>match c.callee,c.args.toList with
  | .value (.func g),[x]=>match Nat.beq g F with
   | true=>s.ev x
   | false=>none
  | _,_=>none
 | _=>none
theorem JP{d:Cx}{s:AS}{a:Act}{w:World}{ι:Env}(m:aI d s a w ι){F:Nat}{o:Oper}{v:AV}(h:yF F s o=some v)(i:cN d.P F=true):
  ∃x,Rel (NN d.M ι) w ι v x∧(execOp a.eval ({ o with guard:=none }:Oper)).run d.P w=.ok (.enter F #[x]) w:=by
 unfold yF at h;split at h
 case h_2=>cases h
 rename_i c k;split at h
 case h_2=>cases h
 rename_i g x b e;split at h
 case h_2=>cases h
 rename_i j;have j:=iO j;subst j;obtain⟨q,p,n,_⟩:=ld (o:={ o with guard:=none }) m k b (f:=g) (aV:=[]) rfl i;have l:q=[]:=ne (by grind);subst l;have r:c.args = #[x]:=by grind
 exact⟨a.eval x,m.ev h,by grind⟩
section
variable{c:Cx}{Q:Exit→Act→World→Prop}{l:ck}{s:AS}{d:Array Oper}{f:Func}{p:d4}{i:Nat}
def QQ(id T:Nat)(s:AS):Option (Bool×AV):=match Nat.ble 450000 id&&Nat.ble (id+1) 500000&&Nat.beq T ((id-450000) % 1000),look id s.o with
 | true,some [.nilp,c1]=>some (false,c1)
 | true,some [.ptr i 0,c1]=>match Nat.beq i id with|true=>some (true,c1)|false=>none
 | _,_=>none
def Hn(id:Nat)(c1:AV)(s:AS):AS:={ s with o:=bj id [.ptr id 0,c1] s.o }
theorem E2(id:Nat){b:Bool}{c1:AV}(k:OT c Q l d (aJ f p (i+1)) ((Hn id c1 s).put (aL f p i).dst (.tup [])))(R:c.P=Tryz.prog:=by rfl)
  (hl:aJ f p i=aL f p i::aJ f p (i+1):=by kernel_rfl) (hg:cv d s (aL f p i)=true:=by kernel_rfl) (h:yF 123 s (aL f p i)=some (.ptr id 0):=by kernel_rfl)
  (n:QQ id 119 s=some (b,c1):=by kernel_rfl) (Y:cQ c.n (aL f p i).dst=true:=by kernel_rfl):OT c Q l d (aJ f p i) s:=by
 rw[hl];refine eL _ hg fun a w ι H=>?_;refine v9 rfl fun K X=>?_;have M:cN c.P 123=true:=by rw[R];kernel_rfl
 obtain⟨x,y,hr⟩:=JP H h M;cases y with
 | ptr _ _ _ g z =>
 have V:∃c0,look id s.o=some [c0,c1]∧(Nat.ble 450000 id&&Nat.ble (id+1) 500000&&Nat.beq 119 ((id-450000) % 1000))=true∧c0=nD b id:=by
  unfold QQ at n;split at n
  ·rename_i G B;injection n with n;injection n with o r;subst o;subst r;exact⟨_,B,G,rfl⟩
  ·rename_i G B;split at n
   ·rename_i j _ _ _ _ N;have N:=iO N;subst N;injection n with n;injection n with o r;subst o;subst r;exact⟨_,B,G,rfl⟩
   ·cases n
  ·cases n
 obtain⟨c0,ho,I,C⟩:=V;simp only[g6]at I;obtain⟨g',T,vs,o,r,F⟩:=H.hs.objs id _ ho (by rw[z];rfl);rw[z]at o;injection o with o;injection o with o;injection o with o;injection o with o;subst o
 have S:T.1=119:=by
  rw[T.2 (hF I.1.1) (anc (hF I.1.2))];exact(iO I.2).symm
 have P:vs.size=2:=by have:=F.len;simp at this;omega
 obtain⟨J,E,rfl⟩:∃J E,vs = #[J,E]:=⟨vs[0],vs[1],by apply anN (by simp[P]);intro i G B;simp at B;rcases i with _|_|i;rfl;rfl;omega⟩;have r0:=F.rel 0 c0 J rfl rfl;have r1:=F.rel 1 c1 E rfl rfl;rw[S]at r;have t:w.cell? ⟨g,0,none⟩=some J:=by rw[al0 r];rfl
 refine dK ?_;rw[hr,iL];have O : @Cells (NN c.M ι) w ι [.ptr id 0,c1] [.pointer (some ⟨g,0,none⟩),E]:=⟨rfl,fun v u=>by
  rcases l3.1 u with rfl|u
  ·rfl
  ·exact F.one v (nw _ u),fun q x v y u=>by
  rcases q with _|_|q
  ·simp at y u;subst y;subst u;exact .ptr _ _ _ _ z
  ·simp at y u;subst y;subst u;exact r1
  ·simp at y⟩
 have A:∀w',w'=w.setRow g #[.pointer (some ⟨g,0,none⟩),E]→aI c (Hn id c1 s) a w' ι:=fun w' D=>by
  subst D;have W:=H.hs.setObj (T:=T) z (by rw[S];exact r) O;have L:bg (ι id)=some g:=by rw[z];rfl
  exact H.world W rfl (by simp) (fun b _ n=>n) (fun b _ n=>eT (fun e=>n (.inr ⟨id,by rw[e];exact L⟩))) (fun _ _ h=>h)
 have U:∀w',aI c (Hn id c1 s) a w' ι→K (a.put (aL f p i).dst (.tuple #[])) w':=fun w' D=>X _ _ (k _ _ _ (D.put (ge Y) (.tup _ [] [] rfl (fun q x v y u=>by simp at y))));rw[R];cases b with
 | true =>
  subst C;cases r0 with
  | ptr _ _ _ g2 m =>
   rw[z]at m;injection m with m;injection m with m;injection m with m;injection m with m;subst m
   refine (af9 g w t).mono ?_
   rintro e w' ⟨Z,D⟩
   subst Z;rw[D];exact U _ (A _ (setRow_self w g _ _ _ r).symm)
 | false =>
  subst C;cases r0 with
  | nilp =>
   refine (acJ g w t (by simp[World.shape?,r]) (Lib.frozen_of_heap r 0)).mono ?_
   rintro e w' ⟨rfl,rfl⟩
   exact U _ (A _ (by rw[setCell_eq_setRow w g 0 _ _ _ _ r];rfl))
end
def pj(L:b5):Bool:=L.all (fun n=>decide (0≤n)&&decide (n<256))&&!L.isEmpty
def bytesOf(L:b5):ByteArray:=⟨(L.map fun n=>UInt8.ofNat n.toNat).toArray⟩
theorem HS.gone{M:Nat→Prop}{P:az}{w w':World}{ι:Env}{s:AS}(h:HS M P w ι s){id g:Nat}{ar:bZ}(U:look id s.r=some ar)(A:bg (ι id)=some g)(H:P.pv id=none)(I:w'.os=w.os)(K:w'.tape=w.tape)(J:w'.output=w.output)(n:w'.heap.size=w.heap.size)(B:∀b,b≠g→w'.heap[b]?=w.heap[b]?):
  HS M P w' (gg ι id) { s with t:=dB id s.t,o:=eS id s.o }∧(∀{v:AV} {x:Value},Rel (NN M ι) w ι v x→Rel (NN M (gg ι id)) w' (gg ι id) (v.cW id) x):=by
 have Q:∀b,b<w.heap.size→¬ NN M ι b→w'.heap[b]?=w.heap[b]?:=fun b _ f=>B b (fun e=>f (.inr ⟨id,by rw[e];exact A⟩));have T:∀{v:AV} {x:Value},Rel (NN M ι) w ι v x→Rel (NN M (gg ι id)) w' (gg ι id) (v.cW id) x:=fun N =>
  (N.cW (fun i p=>fM ι p)).mono (by rw[n];exact h7 _) (fun b _ f=>lB b f) Q (fun _ _ h=>h)
 refine⟨⟨?_,h.old,fun i y m=>h.use i y (nJ m).2,fun i b f=>?_,fun i i' b f F=>h.inj i i' b (kU f).2 (kU F).2,fun i cs p=>?_,h.kr,fun i cs p l=>?_,fun i a p l=>?_,fun i y l=>?_⟩,T⟩
 ·refine h.below.trans ⟨I,K,J,by rw[n];exact h7 _,fun k G X=>B k (fun e=>?_)⟩;subst e;rcases (h.own id k A).1 with E|E
  ·exact absurd G (afl.2 E)
  ·exact X E
 ·obtain⟨q1,q2⟩:=h.own i b (kU f).2;exact⟨q1,by rw[n];exact q2⟩
 ·obtain⟨u,L,_⟩:=kv p;exact h.ko i u L
 ·obtain⟨u,L,rfl⟩:=kv p;obtain⟨y,m⟩:=BH l;obtain⟨d,m⟩:=nJ m;obtain⟨R,T',vs,q,D,z⟩:=h.objs i u L (by rw[fM ι d]at l;exact l);refine⟨R,T',vs,(fM ι d).trans q,(B R (fun e=>d (h.inj i id g (by rw[q,e];rfl) A))).trans D,by rw[l4];exact z.len,z.one,fun j x v O N=>?_⟩;obtain⟨y,m,rfl⟩:=mi O;exact T (z.rel j y v m N)
 ·obtain⟨y,m⟩:=yd.mp l;obtain⟨d,m⟩:=nJ m;obtain⟨v,xs,q,D,z,V,W⟩:=h.arrs i a p (by rw[m];rfl);refine⟨v,xs,(fM ι d).trans q,fS D (fun b f=>B b (fun e=>d (h.inj i id g (by rw[q,← e];exact f) A))),z,V,fun j e Z k c Y=>?_⟩;obtain⟨x,O,hr⟩:=W j e Z k c Y;refine⟨x,O,hr.mono (by rw[n];exact h7 _) (fun b _ f=>lB b f) Q (fun r S=>(fM ι (h.AG U S)).trans S) (fun r C=>B r (fun e=>?_)) (fun h=>h)⟩;subst e;exact h.AG U C (h.inj _ id r (by rw[C];rfl) A)
 ·have e:i≠id:=fun e=>by subst e;rw[H]at l;cases l
  exact⟨(fM ι e).trans (h.pin i y l).1,(h.pin i y l).2⟩
section
variable{m:Cx}{Q:Exit→Act→World→Prop}{r:ck}{s:AS}{d:Array Oper}{f:Func}{p:d4}{i:Nat}
def D5(id a T b:Nat)(s:AS):Option f7:=match Nat.ble 450000 id&&Nat.ble (id+1) 500000&&Nat.beq T ((id-450000) % 1000)&&Nat.ble (a+1) TG&&(match s.u.contains (cS a) with|true=>false|false=>true),look id s.o,look a s.r with
 | true,some [_,.ref i],some ar=>match Nat.beq i a&&Nat.beq ar.e b&&Nat.beq ar.sz 1 with|true=>some ar.l|false=>none
 | _,_,_=>none
theorem FE(id P:Nat){L:b5}(hL:pj L=true)(k:OT m Q r d (aJ f p (i+1)) ({ s with t:=dB P s.t,o:=eS P s.o }.put (aL f p i).dst (.str (bytesOf L))))(hP:m.P=Tryz.prog:=by rfl)
  (hl:aJ f p i=aL f p i::aJ f p (i+1):=by kernel_rfl) (hg:cv d s (aL f p i)=true:=by kernel_rfl) (h:yF 71 s (aL f p i)=some (.ptr id 0):=by kernel_rfl)
  (B:D5 id P 119 5 s=some (L.map (ak .u8)):=by kernel_rfl) (hd:cQ m.n (aL f p i).dst=true:=by kernel_rfl):OT m Q r d (aJ f p i) s:=by
 rw[hl];refine eL _ hg fun a w ι H=>?_;refine v9 rfl fun K hK=>?_;have f0:cN m.P 71=true:=by rw[hP];kernel_rfl
 obtain⟨x,hx,hr⟩:=JP H h f0;cases hx with
 | ptr _ _ _ g hι =>
 unfold D5 at B;split at B
 case h_2=>cases B
 rename_i c0 j ar ht ho ha;split at B
 case h_2=>cases B
 rename_i R;simp only[g6]at ht R;obtain⟨⟨R,N⟩,F⟩:=R;have R:=iO R;subst R;have N:=iO N;have F:=iO F;injection B with B
 obtain⟨⟨⟨⟨t1,t2⟩,t3⟩,t4⟩,t5⟩:=ht;obtain⟨g',T,vs,C,e2,e3⟩:=H.hs.objs id _ ho (by rw[hι];rfl);rw[hι]at C;injection C with C;injection C with C;injection C with C;injection C with C;subst C
 have hT:T.1=119:=by
  rw[T.2 (hF t1) (anc (hF t2))];exact(iO t3).symm
 have k0:vs.size=2:=by have:=e3.len;simp at this;omega
 obtain⟨x0,x1,rfl⟩:∃x0 x1,vs = #[x0,x1]:=⟨vs[0],vs[1],by apply anN (by simp[k0]);intro i U h2;simp at h2;rcases i with _|_|i;rfl;rfl;omega⟩;have r1:=e3.rel 1 _ x1 rfl rfl;rw[hT]at e2;cases r1 with
 | ref _ _ A n c hc =>
 obtain⟨v,xs,U,h2,h3,h4,h5⟩:=H.hs.arrs j ar ha (by rw[hc];rfl);rw[hc]at U;injection U with U;subst U
 simp only[pj,g6]at hL;have W:ar.l.length=L.length:=by rw[B];simp
 have a0:L≠[]:=by intro e;rw[e]at hL;simp at hL
 have q0:0<L.length:=amn.2 a0;obtain⟨_,h0⟩|⟨D,p0,S,hv,r0,M,hn,V,g0,l0⟩:=h2.2
 ·omega
 injection hv with v1 v2 v3
 subst v1;subst v2;subst v3;rw[N]at M
 let l:List UInt8:=L.map fun n=>UInt8.ofNat n.toNat
 have G:l.length=ar.l.length:=by simp[l,W]
 have I:∀(q:Nat) (n:Int),L[q]?=some n→0≤n∧n<256:=fun q n z=>by
  have:=ll.1 hL.1 n (jt z);simpa using this
 have o0:∀(q:Nat) (n:Int),L[q]?=some n→xs[q]?=some (.int .u8 n):=fun q n z=>by
  obtain⟨x,hx,O⟩:=h5 q [.int .u8 n] (by rw[B,th,z];rfl) 0 (.int .u8 n) rfl;rw[F]at hx;have O:=O.flat (by have:=hF t4;omega);cases O;simpa using hx
 have J:∀(q:Nat) (x:UInt8),l[q]?=some x→w.cell? ((⟨D,0,none⟩:Addr).add q)=some (.int .u8 x.toNat):=fun q x z=>by
  simp only[l,th]at z;cases E:L[q]? with
  | none=>rw[E]at z;cases z
  | some n =>
   rw[E]at z;simp only[If,qv]at z;have Z:=o0 q n E;rw[←l0,u5]at Z;split at Z
   ·obtain⟨b0,b1⟩:=I q n E;have e0:w.cell? ⟨D,q,none⟩=S[q]?:=al0 M q;have:((⟨D,0,none⟩:Addr).add q)=⟨D,q,none⟩:=by
     simp only[Addr.add,z5];split
     ·rename_i e;rw[e]
     ·rfl
    rw[this,e0,← aas,Z,← z];have m0:(((UInt8.ofNat n.toNat).toNat:Nat):Int)=n:=by
     rw[UInt8.toNat_ofNat',amD (by omega)];omega
    rw[m0]
   ·cases Z
 refine dK ?_;rw[hr,iL,hP];refine (agn g D c x0 S l w (by rw[G];exact e2) M (by intro e;rw[e]at G;simp at G;omega) (by rw[G];exact hn) V (by rw[g0,F];omega) J).mono ?_
 rintro e w' ⟨rfl,rfl⟩
 have d0:bg (ι j)=some D:=by rw[hc];rfl
 have i0:∀b,b≠D→(w.drew.freeze ⟨D,0,none⟩ l.length).heap[b]?=w.heap[b]?:=fun b B=>by
  unfold World.freeze;split
  ·rfl
  ·simp only[World.drew];rw[Array.getElem?_modify,io (fun e=>B e.symm)]
 have X:s.u.contains (cS j)=false:=by
  cases z:s.u.contains (cS j) with
  | true=>rw[z]at t5;cases t5
  | false=>rfl
 obtain⟨q1,q2⟩:=H.hs.gone (w':=w.drew.freeze ⟨D,0,none⟩ l.length) ha d0 (H.hs.np X) (by unfold World.freeze;split<;>rfl) (by unfold World.freeze;split<;>rfl) (by unfold World.freeze;split<;>rfl) (by unfold World.freeze;split;rfl;simp only[World.drew,Array.size_modify]) i0;have Y:aI m { s with t:=dB j s.t,o:=eS j s.o } a (w.drew.freeze ⟨D,0,none⟩ l.length) (gg ι j):=⟨q1,H.dfr,H.n,fun k v hk=>by
  obtain⟨u,hu,rfl⟩:=lJ hk;obtain⟨y,hy,hr⟩:=H.tmp k u hu;exact⟨y,hy,q2 hr⟩⟩
 exact hK _ _ (k _ _ _ (Y.put (ge hd) (.str _ _)))
end
end Go.Proofs.YtocgkfoifehcbaaGreat
namespace Go.Proofs.YtocgkfoifehcbaaGreat
set_option linter.all false
open Go.RowKit
variable[FM]
def CG(a:Nat)(c:bZ)(o2:List f6)(b:Nat)(d:bZ)(s:AS):AS:=⟨dB a s.t,zD o2 (eS a s.o),bj b d (bj a c s.r),b::s.u⟩
theorem HS.aiI{M:Nat→Prop}{w0:az}{w w':World}{ι E:Env}{s s1:AS}(h:HS M w0 w ι s){ρo ρ N:ew}{f C:Nat}{ar b0:bZ}{O O1 o2:List f6}(hρ:ρ=(f,C)::ρo)(U:gR ρ N=true)(hO:d9 ρ s.o ρo=some O)(hr:look f s.r=some ar)
  (S0:s.u.contains (cS f)=false) (i1:look f s.o=none) (d1:∀p∈ρo,look p.1 s.r=none) (y0:∀p∈ρo,∃y,bL N ι p.2=some y)
  (S:HS (fun b=>NN M ι b∧∀i,bg (bL N ι i)≠some b) (fC w (bL N ι) O) w' E s1) (v0:cB s1.o O1) (g1:look C s1.r=some b0) (t:dR N O1 ρo=some o2)
  {l H:Nat} {d0:bZ} {R:Value} (s0:has s.u l=false) (a1:look l ρ=none) (b1:H≠C) (c1:look H N=none) (k1:H<TG) (g0:E H=some R) (x0:look H s1.r=some d0) :
  HS M w0 w' (ext (cJ ι E f C) l R) (CG f b0 o2 l d0 s)∧(∀{v:AV} {x:Value},Rel (NN M ι) w ι v x→Rel (NN M (ext (cJ ι E f C) l R)) w' (ext (cJ ι E f C) l R) (v.cW f) x) ∧
   (∀{v v':AV} {x:Value},Rel (NN (fun b=>NN M ι b∧∀i,bg (bL N ι i)≠some b) E) w' E v x→eM ((H,l)::N) v=some v'→Rel (NN M (ext (cJ ι E f C) l R)) w' (ext (cJ ι E f C) l R) v' x):=by
 have f0:look f ρ=some C:=by rw[hρ];simp[look]
 have K:∀i,i≠l→ext (cJ ι E f C) l R i=cJ ι E f C i:=fun i I=>bR _ _ I;have Q:ext (cJ ι E f C) l R l=some R:=cH _ _ _;have l0:∀id j,look id ρ=some j→id≠l:=fun id j e e'=>by rw[e',a1]at e;cases e
 have j1:f≠l:=l0 _ _ f0;have F0:=h.free s0;have p0:∀i,has s.u i=true→i≠l:=fun i I e=>by rw[e,s0]at I;cases I
 have f1:∀id j,(id,j)∈ρo→E j=ι id∧look j N=some id:=fun id j hm=>by
  have F:look j N=some id:=by
   have r0:=U;simp only[gR,g6,ll]at r0;exact qa (r0.1 (id,j) (by rw[hρ];exact nw _ hm)).1
  obtain⟨y,hy⟩:=y0 _ hm;obtain⟨c,hc⟩:=z9 hO hm;have V:=(S.pin j y (by show(match look j O with|some _=>bL N ι j|none=>none)=some y;rw[hc];exact hy)).1;refine⟨?_,F⟩;rw[V,← gG (ι:=ι) F];exact hy.symm
 have f2:∀j id,look j N=some id→cJ ι E f C id=E j:=fun j id e=>by
  have D:=gc U e;unfold cJ;by_cases A:id=f
  ·subst A;rw[iF rfl];rw[f0]at D;injection D with D;rw[D]
  ·rw[io A];have:=kq D;rw[hρ]at this;rcases l3.1 this with P|P
   ·injection P with e4 e5;exact absurd e4 A
   ·exact(f1 id j P).1.symm
 have z:∀{q b},bg (bL N ι q)=some b→∃id,look q N=some id∧bg (ι id)=some b:=fun {q b} hq=>by
  cases he:bL N ι q with
  | none=>rw[he]at hq;cases hq
  | some y=>obtain⟨id,F,D⟩:=ik he;exact⟨id,F,by rw[D];rw[he]at hq;exact hq⟩
 have o3:∀g,bg (some R)=some g→(w.heap.size≤g∨bg (ι f)=some g)∧g<w'.heap.size∧bg (E C)≠some g:=fun g B=>by
  have o0:bg (E H)=some g:=by rw[g0];exact B
  obtain⟨m,W⟩:=S.own H g o0;refine⟨?_,W,fun e=>b1 (S.inj H C g o0 e)⟩;rcases m with m|⟨q,m⟩
  ·exact .inl m
  ·obtain⟨id,F,D⟩:=z m;have:=kq (gc U F);rw[hρ]at this;rcases l3.1 this with P|P
   ·injection P with e4 e5;rw[e4]at D;exact .inr D
   ·have e9:=(f1 id q P).1;have:=S.inj q H g (by rw[e9];exact D) o0;rw[this,c1]at F;cases F
 have m0:w.heap.size≤w'.heap.size:=S.below.size;have ca:∀b,b<w.heap.size→(∀i,bg (bL N ι i)≠some b)→w'.heap[b]?=w.heap[b]?:=fun b Z t=>S.below.block b Z (fun⟨i,I⟩=>t i I);have h0:∀b,b<w.heap.size→¬ NN M ι b→w'.heap[b]?=w.heap[b]?:=fun b Z t=>ca b Z (fun i I=>by
  obtain⟨id,_,e⟩:=z I;exact t (.inr ⟨id,e⟩))
 have i0:∀b,NN M (ext (cJ ι E f C) l R) b→NN (fun b=>NN M ι b∧∀i,bg (bL N ι i)≠some b) E b:=fun b t=>by
  rcases t with t|⟨id,t⟩
  ·exact .inl ⟨.inl t,fun i I=>by obtain⟨id,_,e⟩:=z I;exact h.sep t e⟩
  ·by_cases J:id=l
   ·rw[J,Q]at t;exact .inr ⟨H,by rw[g0];exact t⟩
   rw[K _ J]at t;unfold cJ at t;by_cases A:id=f
   ·rw[iF A]at t;exact .inr ⟨C,t⟩
   ·rw[io A]at t;by_cases hl:∃i,bg (bL N ι i)=some b
    ·obtain⟨q,hq⟩:=hl;obtain⟨a0,F,D⟩:=z hq;have:=h.inj a0 id b D t;subst this;have:=f2 q a0 F;unfold cJ at this;rw[io A]at this;exact .inr ⟨q,by rw[←this];exact t⟩
    ·exact .inl ⟨.inr ⟨id,t⟩,fun i I=>hl ⟨i,I⟩⟩
 have q0:∀b,b<w.heap.size→NN M (ext (cJ ι E f C) l R) b→NN M ι b:=fun b Z t=>by
  rcases t with t|⟨id,t⟩
  ·exact .inl t
  ·by_cases J:id=l
   ·rw[J,Q]at t;rcases (o3 b t).1 with e|e
    ·exact absurd Z (afl.2 e)
    ·exact .inr ⟨f,e⟩
   rw[K _ J]at t;unfold cJ at t;by_cases A:id=f
   ·rw[iF A]at t;rcases (S.own C b t).1 with e|⟨q,e⟩
    ·exact absurd Z (afl.2 e)
    ·obtain⟨a0,_,D⟩:=z e;exact .inr ⟨a0,D⟩
   ·rw[io A]at t;exact .inr ⟨id,t⟩
 have T:∀{v:AV} {x:Value},Rel (NN M ι) w ι v x→Rel (NN M (ext (cJ ι E f C) l R)) w' (ext (cJ ι E f C) l R) (v.cW f) x:=fun hv =>
  (hv.mono m0 q0 h0 (fa F0 R)).cW (fun i I=>by
   by_cases J:i=l
   ·rw[J,Q];exact(cH _ _ _).symm
   ·rw[K _ J,bR _ _ J];exact io I)
 have np:w0.pv f=none:=h.np S0;refine⟨⟨?_,h.old,fun i y hy=>?_,fun i g B=>?_,fun i L g B n=>?_,fun i c I=>?_,fun i a I=>?_,fun i c I V=>?_,fun i a I V=>?_,fun i v V=>?_⟩,T,fun hv e=>wI hv i0 (fun j id e=>?_) e⟩
 ·refine h.below.trans ⟨S.below.os,S.below.tape,S.below.output,m0,fun k hk hG=>ca k (nx hk h.below.size) (fun i I=>?_)⟩;obtain⟨id,_,e⟩:=z I;rcases (h.own id k e).1 with h9|h9
  ·exact absurd hk (afl.2 h9)
  ·exact hG h9
 ·by_cases J:i=l
  ·subst J;exact iV _ _
  rw[K _ J]at hy;unfold cJ at hy;by_cases A:i=f
  ·subst A;exact dN (h.kr i ar hr)
  ·rw[io A]at hy;exact dN (h.use i y hy)
 ·by_cases J:i=l
  ·rw[J,Q]at B;obtain⟨m,W,_⟩:=o3 g B;refine⟨?_,W⟩;rcases m with m|m
   ·exact .inl (oR h.below.size m)
   ·exact(h.own f g m).1
  rw[K _ J]at B;unfold cJ at B;by_cases A:i=f
  ·rw[iF A]at B;obtain⟨m,W⟩:=S.own C g B;refine⟨?_,W⟩;rcases m with m|⟨q,m⟩
   ·exact .inl (oR h.below.size m)
   ·obtain⟨id,_,e⟩:=z m;exact(h.own id g e).1
  ·rw[io A]at B;exact⟨(h.own i g B).1,nx (h.own i g B).2 m0⟩
 ·have t0:∀L,L≠f→bg (E C)=some g→bg (ι L)=some g→False:=fun L o B n=>by
   rcases (S.own C g B).1 with m|⟨q,m⟩
   ·exact absurd (h.own L g n).2 (afl.2 m)
   ·obtain⟨id,F,D⟩:=z m;have:=h.inj id L g D n;subst this;have P:=f2 q id F;unfold cJ at P;rw[io o]at P;have:=S.inj q C g (by rw[←P];exact D) B;subst this;have:=(ff U f0).1;rw[F]at this;injection this with this;exact o this
  have new:∀L,L≠l→bg (some R)=some g→bg (cJ ι E f C L)=some g→False:=fun L o B n=>by
   obtain⟨m,_,q3⟩:=o3 g B;unfold cJ at n;by_cases A:L=f
   ·rw[iF A]at n;exact q3 n
   ·rw[io A]at n;rcases m with m|m
    ·exact absurd (h.own L g n).2 (afl.2 m)
    ·exact A (h.inj L f g n m)
  by_cases J:i=l
  ·by_cases Y:L=l
   ·rw[J,Y]
   ·rw[J,Q]at B;rw[K _ Y]at n;exact(new L Y B n).elim
  by_cases Y:L=l
  ·rw[Y,Q]at n;rw[K _ J]at B;exact(new i J n B).elim
  rw[K _ J]at B;rw[K _ Y]at n;unfold cJ at B n;by_cases A:i=f
  ·by_cases X:L=f
   ·rw[A,X]
   ·rw[iF A]at B;rw[io X]at n;exact(t0 L X B n).elim
  ·by_cases X:L=f
   ·rw[io A]at B;rw[iF X]at n;exact(t0 i A n B).elim
   ·rw[io A]at B;rw[io X]at n;exact h.inj i L g B n
 ·rcases wz I with e|⟨_,e⟩
  ·obtain⟨j,d,m,_,_⟩:=wQ t e;obtain⟨c0,A0⟩:=z9 hO m;obtain⟨a0,cs,p1,p2,p3⟩:=Ci hO A0;have F:=(f1 i j m).2;have D:=(f1 a0 j p1).2;rw[F]at D;injection D with D;subst D
   exact dN (h.ko i cs p2)
  ·obtain⟨u,hu,_⟩:=kv e;exact dN (h.ko i u hu)
 ·have o:look i (bj l d0 (bj f b0 s.r))=some a:=I;rw[cp]at o;split at o
  ·rename_i e;subst e;exact iV _ _
  rw[cp]at o;split at o
  ·rename_i e;subst e;exact dN (h.kr i ar hr)
  ·exact dN (h.kr i a o)
 ·rcases wz I with e|⟨J,e⟩
  ·obtain⟨j,d,m,W,q3⟩:=wQ t e;have e9:=(f1 i j m).2;have G:i≠l:=l0 i j (gc U e9);have F:=f2 j i e9;rw[K _ G,F]at V;rw[K _ G,F];obtain⟨g,T0,vs,r1,r2,r3⟩:=S.objs j d (Kp v0 W) V;exact⟨g,⟨T0.1,Gy (GJ U e9) (ff U (gc U e9)).2.2 T0.2⟩,vs,r1,r2,r3.rn i0 (fun j id e=>(K _ (l0 id j (gc U e))).trans (f2 j id e)) q3⟩
  ·obtain⟨u,hu,rfl⟩:=kv e;have A:i≠f:=fun e=>by rw[e,i1]at hu;cases hu
   have G:i≠l:=p0 i (h.ko i u hu);have F:cJ ι E f C i=ι i:=io A;rw[K _ G,F]at V;rw[K _ G,F];obtain⟨g,T0,vs,r1,r2,r3⟩:=h.objs i u hu V;refine⟨g,T0,vs,r1,(ca g (h.own i g (by rw[r1];rfl)).2 (fun q hq=>?_)).trans r2,⟨by rw[l4];exact r3.len,r3.one,fun k x v hx hv=>?_⟩⟩
   ·obtain⟨id,D,P⟩:=z hq;have:=h.inj id i g P (by rw[r1];rfl);subst this;have:=kq (gc U D);rw[hρ]at this;rcases l3.1 this with e4|e4
    ·injection e4 with e5 e6;exact A e5
    ·exact Kt t e4 J
   ·obtain⟨y,hy,rfl⟩:=mi hx;exact T (r3.rel k y v hy hv)
 ·have o:look i (bj l d0 (bj f b0 s.r))=some a:=I;rw[cp]at o;split at o
  ·rename_i e;subst e;injection o with o;subst o
   rw[Q];obtain⟨v,xs,m,W,q3,q4,q5⟩:=S.arrs H d0 x0 (by rw[g0];rfl);rw[g0]at m;injection m with m;subst m
   refine⟨R,xs,rfl,W,q3,q4,fun j e hj k c hk=>?_⟩;obtain⟨x,hx,e0⟩:=q5 j e hj k c hk;exact⟨x,hx,.inl ((e0.flat (by omega)).mono (h7 _) (fun b _ t=>i0 b t) (fun _ _ _=>rfl) (fun _ _ h=>h))⟩
  rename_i G;rw[cp]at o;split at o
  ·rename_i e;subst e;injection o with o;subst o
   have F:cJ ι E i C i=E C:=iF rfl;rw[K _ G,F]at V;rw[K _ G,F];have l1:=(ff U f0).2.2;obtain⟨v,xs,m,W,q3,q4,q5⟩:=S.arrs C b0 g1 V;refine⟨v,xs,m,W,q3,q4,fun j e hj k c hk=>?_⟩;obtain⟨x,hx,e0⟩:=q5 j e hj k c hk;exact⟨x,hx,.inl ((e0.flat (by omega)).mono (h7 _) (fun b _ t=>i0 b t) (fun _ _ _=>rfl) (fun _ _ h=>h))⟩
  ·rename_i A;have F:cJ ι E f C i=ι i:=io A;rw[K _ G,F]at V;rw[K _ G,F];obtain⟨v,xs,m,W,q3,q4,q5⟩:=h.arrs i a o V;have m1:=(ff U f0).2.1;refine⟨v,xs,m,fS W (fun g B=>ca g (h.own i g (by rw[m];exact B)).2 (fun q hq=>?_)),q3,q4,fun j e hj k c hk=>?_⟩
   ·obtain⟨id,D,P⟩:=z hq;have:=h.inj id i g P (by rw[m];exact B);subst this;have:=kq (gc U D);rw[hρ]at this;rcases l3.1 this with e4|e4
    ·injection e4 with e5 e6;exact A e5
    ·have:=d1 _ e4;rw[o]at this;cases this
   ·obtain⟨x,hx,e0⟩:=q5 j e hj k c hk;have nb:∀q:Nat,eA≤nm i q:=fun q=>alZ _ _;have lb:TG<eA:=by decide
    refine⟨x,hx,e0.mono m0 q0 h0 (fun r k0=>?_) (fun r k0=>ca r (h.kR k0) (fun q hq=>?_)) (fun h=>h)⟩
    ·exact(K _ (p0 _ (QW _ _ _))).trans ((io (fun e=>by have:=nb (j*a.sz+k);omega)).trans k0)
    ·obtain⟨id,D,P⟩:=z hq;have:=h.inj id _ r P (by rw[k0];rfl);have h9:=(ff U (gc U D)).2.1;have:=nb (j*a.sz+k);omega
 ·obtain⟨m,W⟩:=h.pin i v V;have G:i≠l:=p0 i (h.use i v m);refine⟨?_,nS W⟩;have A:i≠f:=fun e=>by rw[e,np]at V;cases V
  exact(K _ G).trans ((io A).trans m)
 ·simp only[look]at e;split at e
  ·rename_i ej;injection e with e;subst e;subst ej;exact Q.trans g0.symm
  ·exact(K _ (l0 id j (gc U e))).trans (f2 j id e)
def nt(c:Cx)(ι:Env)(w:World)(ρ:ew)(args:b6)(xs:Array Value):Prop :=
 args.length=xs.size∧∀(i:Nat) v x,args[i]?=some v→xs[i]?=some x→∀N' a,(∀b,N' b→NN c.M ι b)→(∀id j,look id ρ=some j→a j=ι id)→Rel N' w a v x
def jI(f g:Nat):Value:=.func (.func f) #[.pointer (some ⟨g,0,none⟩)] #[]
def mc(s:AS)(o:Oper)(ρ:ew):Option (FuncId×b6) :=
 match o.op with
 | .call c=>match c.callee with
  | .value a=>match s.ev a,dA s c.args.toList with
   | some (.fn f aV),some l=>match gj ρ l with
    | some l'=>some (f,l'++aV)
    | none=>none
   | _,_=>none
  | _=>none
 | _=>none
def sM(s:AS)(o:Oper)(ρ:ew):Option (Value×b6) :=
 match o.op with
 | .call c=>match c.callee with
  | .value a=>match s.ev a,dA s c.args.toList with
   | some (.vv x),some l=>match gj ρ l with
    | some l'=>some (x,l')
    | none=>none
   | _,_=>none
  | _=>none
 | _=>none
section
variable{d:Cx}{s:AS}{a:Act}{w:World}{ι:Env}
theorem Ho(e:aI d s a w ι){l l'}{xs:Array Operand}{ρ}(b:dA s xs.toList=some l)(c:gj ρ l=some l'):nt d ι w ρ l' (xs.map a.eval):=by
 obtain⟨k,m⟩:=lV e b;refine⟨by grind[uD],fun i v x g h N' n f j=>?_⟩
 grind[uP,wI]
theorem wD(z:aI d s a w ι){o:Oper}{ρ:ew}{g:FuncId}{args:b6}(h:mc s o ρ=some (g,args))(n:cN d.P g=true):
  ∃xs:Array Value,(execOp a.eval o).run d.P w=.ok (.enter g xs) w∧nt d ι w ρ args xs:=by
 unfold mc at h;split at h
 case h_2=>cases h
 rename_i c q;split at h
 case h_2=>cases h
 rename_i K e;split at h
 case h_2=>cases h
 rename_i f aV l E F;split at h
 case h_2=>cases h
 rename_i l' p;injection h with h;injection h with A B;subst A;subst B
 obtain⟨L,r,D,m⟩:=ld z q e E n;obtain⟨p1,I⟩:=Ho z F p;refine⟨_,r,by simp at p1⊢;omega,fun i v x k j N' J t H=>?_⟩;by_cases u:i<l'.length
 ·rw[yw u]at k;rw[An (by rw[←p1];exact u)]at j;exact I i v x k j N' J t H
 ·rw[w3 (by omega)]at k;rw[aea (by rw[←p1];omega)]at j;rw[←p1]at j;exact(m _ v x k (by simpa using j)).mono (h7 _) (fun b _ C=>t b C) (fun _ _ _=>rfl) (fun id y G=>by cases G)
theorem ZM(t:aI d s a w ι){o:Oper}{ρ:ew}{f g j id:Nat}{args:b6}(h:sM s o ρ=some (jI f g,args))(n:cN d.P f=true)(G:look id ρ=some j)(E:ι id=some (.pointer (some ⟨g,0,none⟩))):
  ∃xs:Array Value,(execOp a.eval o).run d.P w=.ok (.enter f xs) w∧nt d ι w ρ (.ptr j 0::args) xs:=by
 unfold sM at h;split at h
 case h_2=>cases h
 rename_i c q;split at h
 case h_2=>cases h
 rename_i A k;split at h
 case h_2=>cases h
 rename_i x l D F;split at h
 case h_2=>cases h
 rename_i l' p;injection h with h;injection h with y z;subst y;subst z
 obtain⟨p1,H⟩:=Ho t F p;have r:=t.ev D;generalize C:a.eval A=X at r;cases r with
 | vv _ _ J =>
  refine⟨#[.pointer (some ⟨g,0,none⟩)]++c.args.map a.eval,?_,by simp at p1⊢;omega,fun i v x e m N' I B u=>?_⟩
  ·unfold execOp;simp only[q,resolve,k,C,jI,Deferred.ofValue,n4,By,pt,invoke];rw[EK n];simp
  ·cases i with
   | zero =>
    simp only[List.getElem?_cons_zero]at e;injection e with e;subst e
    rw[An (by simp)]at m;have b:some (Value.pointer (some ⟨g,0,none⟩))=some x:=m;injection b with b;subst b
    exact .ptr _ _ _ _ ((u id j G).trans E)
   | succ i =>
    simp only[amt]at e;rw[aea (by simp)]at m;exact H i v x e (by simpa using m) N' I B u
end
def tv(ρ:ew):AV→Option AV
 | .tup l=>match gj ρ l with|some l'=>some (.tup l')|none=>none
 | v=>eM ρ v
theorem ajF{N N'}{w w'}{ι ι'}{ρ}(G:∀{v v':AV} {x:Value},Rel N w ι v x→eM ρ v=some v'→Rel N' w' ι' v' x){v v'}{x}(h:Rel N w ι v x)(e:tv ρ v=some v'):Rel N' w' ι' v' x:=by
 unfold tv at e;split at e
 ·split at e
  ·injection e with e;subst e
   cases h with
   | tup _ _ vs a d =>
    refine .tup _ _ vs (by grind[uD]) (fun i c y b f=>?_)
    grind[uP]
  grind
 grind
class GS where
 g:Nat
 p:Bool
class RG [GS]:Prop where
 r:GS.p=false
def iK[GS]:Value:=match GS.p with
 | true=>.bool true
 | false=>.pointer (some ⟨GS.g,0,none⟩)
theorem K5[GS][RG]:iK=.pointer (some ⟨GS.g,0,none⟩):=by unfold iK;rw[RG.r]
class SG [GS] (w0:az):Prop where
 pv:w0.pv 440001=some iK
def SU:d4:=[440009,440001,1440001]
def eO[GS](P:Program)(f:FuncId)(args:b6)(O:List f6)(ar:bZ)(Q:AV→AS→Prop):Prop :=
 ∀M w b xs,b 440001=some iK→HS M (fC w b O) w b ⟨[],O,[(440009,ar)],SU⟩→args.length=xs.size→(∀(i:Nat) a x,args[i]?=some a→xs[i]?=some x→Rel (NN M b) w b a x)→Calls P f xs w (bP M (fC w b O) Q)
theorem kx[GS]{P:Program}{f:FuncId}{fn:Func}{c:Code}{args:b6}{O:List f6}{ar:bZ}{Q:AV→AS→Prop}(m:P.funcs[f]?=some fn)(j:fn.body=some c)(n:Nat)(t:fn.ntmps=n)(s:args.length≤n)
  (h:∀M g [SG g],VE (fm:=fm0) ⟨P,n,M,g⟩ (bodyPost P fn (bP M g Q)) [.c c] .normal ⟨idxs 0 args,O,[(440009,ar)],SU⟩) (i:(look 440001 O).isSome=true:=by kernel_rfl):eO P f args O ar Q:=by
 intro M w d xs q b o u;obtain⟨c0,l⟩:=yd.1 i;haveI:SG (fC w d O):=⟨by show(match look 440001 O with|some _=>d 440001|none=>none)=_;grind⟩;refine amy m j ?_;refine rQ (h M (fC w d O) { tmps:=xs++Array.replicate (fn.ntmps-xs.size) undef,defers:=[] } w d ?_) (fun e a w' p=>?_)
 ·refine @aI.mk fm0 _ _ _ _ _ ⟨b.below,b.old,b.use,b.own,b.inj,b.ko,b.kr,b.objs,b.arrs,b.pin⟩ rfl ?_ (fun k v r=>?_)
  ·grind
  grind[nM]
 ·cases e<;>exact p
theorem ahl[GS](n:GS.p=true){P:Program}{f:FuncId}{args cs:b6}{ar:bZ}{V1:AV}{Q:AS→Prop}(h:eO P f args [(440001,cs)] ar (fun v s=>v=V1∧Q s)):aZ P f args (fun v _=>v=V1):=fun M w xs u z=>by
 have p:iK=.bool true:=by unfold iK;rw[n]
 let l:Env:=fun i=>if i=440001 then some iK else none
 have A:∀{i y},l i=some y→i=440001∧y=iK:=fun {i y} q=>by
  by_cases e:i=440001
  ·exact⟨e,by simpa[l,e]using q.symm⟩
  ·simp[l,e]at q
 have r:∀i,bg (l i)=none:=fun i=>by
  by_cases e:i=440001<;>simp[l,e,p,bg]
 have t:∀g,¬ (fC w l [(440001,cs)]).G g:=fun g ⟨i,d⟩=>by rw[r]at d;cases d
 refine (h M w l xs (by simp[l]) ⟨⟨rfl,rfl,rfl,h7 _,fun _ _ _=>rfl⟩,fun b m=>⟨u b m,t b⟩,fun i y q=>?_,fun i g n=>?_,fun i F g n=>?_,fun i c d=>?_,fun i c d=>?_,fun i c d o=>?_,fun i c d o=>?_,fun i v o=>?_⟩ z.1 (fun i a x B C=>?_)).mono ?_
 ·rw[(A q).1];rfl
 ·rw[r]at n;cases n
 ·rw[r]at n;cases n
 ·simp only[look]at d;split at d
  ·rename_i e;rw[e];rfl
  ·cases d
 ·simp only[look]at d;split at d
  ·rename_i e;rw[e];rfl
  ·cases d
 ·exfalso;by_cases e:i=440001<;>simp[l,e,p,rl]at o
 ·exfalso;simp only[look]at d;split at d
  ·rename_i e;simp[l,e]at o
  ·cases d
 ·have:(match look i [(440001,cs)] with|some _=>l i|none=>none)=some v:=o;split at this
  ·exact⟨this,by rw[(A this).1];rfl⟩
  ·cases this
 ·exact(z.2 i a x B C).mono (h7 _) (fun b _ m=>by
   rcases m with m|⟨i,m⟩
   ·exact m
   ·rw[r]at m;cases m) (fun _ _ _=>rfl) (fun _ _ h=>by cases h)
 ·rintro e w' ⟨x,v,s,ι,rfl,⟨p,_⟩,j,E⟩
  exact⟨x,v,s,ι,rfl,p,⟨⟨j.below.os,j.below.tape,j.below.output,j.below.size,fun k D _=>j.below.block k D (t k)⟩,fun b m=>⟨u b m,fun h=>h⟩,j.use,fun i g n=>⟨(j.own i g n).1.elim .inl (fun h=>(t g h).elim),(j.own i g n).2⟩,j.inj,j.ko,j.kr,j.objs,j.arrs,fun i v o=>by cases o⟩,E⟩
theorem afs[GS]{P}{f}{args}{cs}{ar}{α β:Type}{x}{r}{V:α→AV}{Q:α×β→AS→Prop}(h:x.map Prod.fst=some r)(k:∀{a},x=some a→eO P f args [(440001,cs)] ar (fun v s=>v=V a.1∧Q a s))(b:GS.p=true:=by rfl):aZ P f args (fun v _=>v=V r):=by
 cases x with
 | none=>grind
 | some y=>injection h with h;subst h;exact ahl b (k rfl)
def bS(b a:Nat):ew:=[(a,440009),(b,440001)]
def kE(s:AS)(b a:Nat):Bool :=
 gR (bS b a) (bH (bS b a))&&(AN SU [(b,440001)] 440009&&((match s.u.contains (cS a) with|true=>false|false=>true)&&((match look a s.o with|none=>true|some _=>false) &&
  (match look b s.r with|none=>true|some _=>false))))
def BJ(s:AS)(d c b a:Nat):Bool:=(match has s.u b with|true=>false|false=>true)&&((match look b (bS d c) with|none=>true|some _=>false)&&((match Nat.beq a 440009 with|true=>false|false=>true)&&((match look a (bH (bS d c)) with|none=>true|some _=>false)&&Nat.ble (a+1) TG)))
theorem Yl{s}{d c b a}(h:BJ s d c b a=true):has s.u b=false∧look b (bS d c)=none∧a≠440009∧look a (bH (bS d c))=none∧a<TG:=by
 simp only[BJ,g6]at h;obtain⟨g,i,j,k,f⟩:=h;refine⟨?_,?_,fun e=>?_,?_,hF f⟩
 ·grind
 ·grind
 ·simp_all
 grind
section
variable{c:Cx}{Q:Exit→Act→World→Prop}{m:ck}{s:AS}{d:Array Oper}{f:Func}{p:d4}{i:Nat}
theorem TL[GS]{a:Act}{w:World}{ι:Env}(A:aI c s a w ι)(f d:Nat){g:FuncId}{args:b6}{V1 V2:AV}{O O1 o2:List f6}{ar l:bZ}(hc:eO c.P g args O ar (fun v W=>v=V1∧cB W.o O1∧look 440009 W.r=some l))
  (hg:ι f=some iK) {o:Oper}
  (z:∃xs:Array Value,(execOp a.eval o).run c.P w=.ok (.enter g xs) w∧nt c ι w (bS f d) args xs)
  (Z:d9 (bS f d) s.o [(f,440001)]=some O) (D:look d s.r=some ar) (H:dR (bH (bS f d)) O1 [(f,440001)]=some o2) (T:eM (bH (bS f d)) V1=some V2)
  (hd:cQ c.n o.dst=true) (r:kE s f d=true) {Kn:Act→World→Prop} {Q:Exit→Act→World→Prop} (k:∀x w' X,aI c ((gH d l o2 s).put o.dst V2) (a.put o.dst x) w' (cJ ι X d 440009)→Kn (a.put o.dst x) w'):o.wpIn FF 0 c.P a w Kn Q:=by
 simp only[kE,g6]at r;obtain⟨n,k2,k3,k4,k5⟩:=r;have K:s.u.contains (cS d)=false:=by
  cases t:s.u.contains (cS d) with
  | true=>rw[t]at k3;cases k3
  | false=>rfl
 have S:look d s.o=none:=by
  cases t:look d s.o with
  | some _=>rw[t]at k4;cases k4
  | none=>rfl
 have L:∀p∈[(f,440001)],look p.1 s.r=none:=fun p M=>by
  rw[acN.1 M];cases t:look f s.r with
  | some _=>rw[t]at k5;cases k5
  | none=>rfl
 have C:bL (bH (bS f d)) ι 440001=ι f:=gG (ff n (by
  show look f [(d,440009),(f,440001)]=some 440001;have:f≠d:=fun e=>by
   have h1:=(ff (id:=d) (j:=440009) n (by simp[bS,look])).1;have q:=n;simp only[gR,g6,ll]at q;have E:=(q.1 (f,440001) (by simp[bS])).1;have Y:=gc n (qa E);rw[e]at Y;simp[bS,look]at Y
  simp[look,this])).1
 refine dK ?_;obtain⟨xs,P,U,V⟩:=z;rw[P,iL];have hN:∀b,NN (fun b=>NN c.M ι b∧∀i,bg (bL (bH (bS f d)) ι i)≠some b) (bL (bH (bS f d)) ι) b→NN c.M ι b:=fun b h=>by
  rcases h with h|⟨j,h⟩
  ·exact h.1
  ·cases I:bL (bH (bS f d)) ι j with
   | none=>rw[I]at h;cases h
   | some y=>obtain⟨id,_,E⟩:=ik I;exact .inr ⟨id,by rw[E];rw[I]at h;exact h⟩
 have m:∀(i:Nat) (a:AV) (x:Value),args[i]?=some a→xs[i]?=some x→Rel (NN (fun b=>NN c.M ι b∧∀i,bg (bL (bH (bS f d)) ι i)≠some b) (bL (bH (bS f d)) ι)) w (bL (bH (bS f d)) ι) a x:=fun i v x hv hx =>
  V i v x hv hx _ _ hN (fun id j e=>gG (ff n e).1)
 have G:∀p∈[(f,440001)],∃y,bL (bH (bS f d)) ι p.2=some y:=fun p M=>by
  rw[acN.1 M];exact⟨_,C.trans hg⟩
 refine (hc _ w _ xs (C.trans hg) (A.hs.ub rfl n Z D k2) U m).mono ?_
 rintro e w' ⟨x,v,W,X,rfl,⟨rfl,F,N⟩,J,R⟩
 obtain⟨g1,g2,g3⟩:=A.hs.DD rfl n Z D K S L G J F N H;have B:aI c (gH d l o2 s) a w' (cJ ι X d 440009):=⟨g1,A.dfr,A.n,fun k v hk=>by
  obtain⟨u,hu,rfl⟩:=lJ hk;obtain⟨y,hy,D⟩:=A.tmp k u hu;exact⟨y,hy,g2 D⟩⟩
 exact k _ _ _ (B.put (ge hd) (g3 R T))
theorem Lg[GS]{a}{w}{ι}(E:aI c s a w ι) b e{g}{args}{V1}{O O1}{ar j}(A:eO c.P g args O ar (fun v t=>v=V1∧cB t.o O1∧look 440009 t.r=some j))
  (C:ι b=some iK)
  (n:∃xs:Array Value,(execOp a.eval { aL f p i with guard:=none }).run c.P w=.ok (.enter g xs) w∧nt c ι w (bS b e) args xs)
  (k:OT c Q m d (aJ f p (i+1)) ((gH e j ((dR (bH (bS b e)) O1 [(b,440001)]).getD []) s).put (aL f p i).dst ((eM (bH (bS b e)) V1).getD .any)))
  (y:d9 (bS b e) s.o [(b,440001)]=some O) (D:look e s.r=some ar) (z:(dR (bH (bS b e)) O1 [(b,440001)]).isSome=true) (F:(eM (bH (bS b e)) V1).isSome=true)
  (B:cQ c.n (aL f p i).dst=true) (r:kE s b e=true):wpListIn FF 0 c.P d (Kw c.P Q m) ({ aL f p i with guard:=none }::aJ f p (i+1)) a w:=by
 refine v9 rfl fun K u=>?_;obtain⟨o2,l⟩:=yd.1 z;obtain⟨V2,q⟩:=yd.1 F;rw[l,q]at k;exact TL (o:={ aL f p i with guard:=none }) E b e A C n y D l q B r (fun x w' G h=>u _ _ (k _ _ _ h))
theorem aep[GS]{a:Act}{w:World}{ι:Env}(J:aI c s a w ι)(l n o q:Nat){g:FuncId}{args:b6}{V1:AV}{O O1:List f6}{ar t z:bZ}(hc:eO c.P g args O ar (fun v S=>v=V1∧cB S.o O1∧look 440009 S.r=some t∧look q S.r=some z))(F:∀(N:Nat→Prop) w ι x,Rel N w ι V1 x→∃y,ι q=some y)
  (hg:ι l=some iK)
  (H:∃xs:Array Value,(execOp a.eval { aL f p i with guard:=none }).run c.P w=.ok (.enter g xs) w∧nt c ι w (bS l n) args xs)
  (k:OT c Q m d (aJ f p (i+1)) ((CG n t ((dR (bH (bS l n)) O1 [(l,440001)]).getD []) o z s).put (aL f p i).dst ((tv ((q,o)::bH (bS l n)) V1).getD .any)))
  (hO:d9 (bS l n) s.o [(l,440001)]=some O) (R:look n s.r=some ar) (r:(dR (bH (bS l n)) O1 [(l,440001)]).isSome=true) (hv:(tv ((q,o)::bH (bS l n)) V1).isSome=true)
  (hd:cQ c.n (aL f p i).dst=true) (E:kE s l n=true) (hI:BJ s l n o q=true):wpListIn FF 0 c.P d (Kw c.P Q m) ({ aL f p i with guard:=none }::aJ f p (i+1)) a w:=by
 refine v9 rfl fun K hK=>?_;obtain⟨o2,C⟩:=yd.1 r;obtain⟨V2,P⟩:=yd.1 hv;rw[C,P]at k;simp only[DO]at k;simp only[kE,g6]at E;obtain⟨B,k2,k3,k4,k5⟩:=E;have Y:s.u.contains (cS n)=false:=by
  cases G:s.u.contains (cS n) with
  | true=>rw[G]at k3;cases k3
  | false=>rfl
 have d0:look n s.o=none:=by
  cases G:look n s.o with
  | some _=>rw[G]at k4;cases k4
  | none=>rfl
 have Z:∀p∈[(l,440001)],look p.1 s.r=none:=fun p hp=>by
  rw[acN.1 hp];cases G:look l s.r with
  | some _=>rw[G]at k5;cases k5
  | none=>rfl
 have M:bL (bH (bS l n)) ι 440001=ι l:=gG (ff B (by
  show look l [(n,440009),(l,440001)]=some 440001;have:l≠n:=fun e=>by
   have h1:=(ff (id:=n) (j:=440009) B (by simp[bS,look])).1;have D:=B;simp only[gR,g6,ll]at D;have T:=(D.1 (l,440001) (by simp[bS])).1;have h3:=gc B (qa T);rw[e]at h3;simp[bS,look]at h3
  simp[look,this])).1
 refine dK ?_;obtain⟨xs,c0,f0,g0⟩:=H;rw[c0,iL];have hN:∀b,NN (fun b=>NN c.M ι b∧∀i,bg (bL (bH (bS l n)) ι i)≠some b) (bL (bH (bS l n)) ι) b→NN c.M ι b:=fun b r=>by
  rcases r with r|⟨j,r⟩
  ·exact r.1
  ·cases W:bL (bH (bS l n)) ι j with
   | none=>rw[W]at r;cases r
   | some y=>obtain⟨id,_,T⟩:=ik W;exact .inr ⟨id,by rw[T];rw[W]at r;exact r⟩
 have A:∀(i:Nat) (a:AV) (x:Value),args[i]?=some a→xs[i]?=some x→Rel (NN (fun b=>NN c.M ι b∧∀i,bg (bL (bH (bS l n)) ι i)≠some b) (bL (bH (bS l n)) ι)) w (bL (bH (bS l n)) ι) a x:=fun i v x hv hx =>
  g0 i v x hv hx _ _ hN (fun id j e=>gG (ff B e).1)
 have V:∀p∈[(l,440001)],∃y,bL (bH (bS l n)) ι p.2=some y:=fun p hp=>by
  rw[acN.1 hp];exact⟨_,M.trans hg⟩
 refine (hc _ w _ xs (M.trans hg) (J.hs.ub rfl B hO R k2) f0 A).mono ?_
 rintro e w' ⟨x,v,S,ι1,rfl,⟨rfl,U,a0,b0⟩,X,I⟩
 obtain⟨v3,e0⟩:=F _ _ _ _ I;obtain⟨i1,i2,i3,i4,i5⟩:=Yl hI;obtain⟨g1,g2,g3⟩:=J.hs.aiI rfl B hO R Y d0 Z V X U a0 C i1 i2 i3 i4 i5 e0 b0;have L:aI c (CG n t o2 o z s) a w' (ext (cJ ι ι1 n 440009) o v3):=⟨g1,J.dfr,J.n,fun k v hk=>by
  obtain⟨u,hu,rfl⟩:=lJ hk;obtain⟨y,hy,R⟩:=J.tmp k u hu;exact⟨y,hy,g2 R⟩⟩
 exact hK _ _ (k _ _ _ (L.put (ge hd) (ajF (fun h e=>g3 h e) I P)))
theorem rx[GS][SG c.w0]{g}{args}{V1}{O O1}{ar b}(r:eO c.P g args O ar (fun v l=>v=V1∧cB l.o O1∧look 440009 l.r=some b))
  (k:OT c Q m d (aJ f p (i+1)) ((gH 440009 b ((dR (bH (bS 440001 440009)) O1 [(440001,440001)]).getD []) s).put (aL f p i).dst ((eM (bH (bS 440001 440009)) V1).getD .any)))
  (e:cN c.P g=true:=by kernel_rfl) (x:aJ f p i=aL f p i::aJ f p (i+1):=by kernel_rfl) (u:cv d s (aL f p i)=true:=by kernel_rfl) (n:mc s { aL f p i with guard:=none } (bS 440001 440009)=some (g,args):=by kernel_rfl)
  (o:d9 (bS 440001 440009) s.o [(440001,440001)]=some O:=by kernel_rfl) (y:look 440009 s.r=some ar:=by kernel_rfl) (q:(dR (bH (bS 440001 440009)) O1 [(440001,440001)]).isSome=true:=by kernel_rfl) (z:(eM (bH (bS 440001 440009)) V1).isSome=true:=by kernel_rfl)
  (t:cQ c.n (aL f p i).dst=true:=by kernel_rfl) (h:kE s 440001 440009=true:=by kernel_rfl):OT c Q m d (aJ f p i) s:=by
 rw[x];exact eL _ u fun a w ι j=>Lg j 440001 440009 r ((j.hs.pin _ _ SG.pv).1) (wD j n e) k o y q z t h
theorem UA[GS][SG c.w0] e{b}{g}{args}{V1}{O O1}{ar h j}(B:eO c.P g args O ar (fun v r=>v=V1∧cB r.o O1∧look 440009 r.r=some h∧look b r.r=some j))(l:∀(N:Nat→Prop) w ι x,Rel N w ι V1 x→∃y,ι b=some y)
  (k:OT c Q m d (aJ f p (i+1)) ((CG 440009 h ((dR (bH (bS 440001 440009)) O1 [(440001,440001)]).getD []) e j s).put (aL f p i).dst ((tv ((b,e)::bH (bS 440001 440009)) V1).getD .any)))
  (n:cN c.P g=true:=by kernel_rfl) (E:aJ f p i=aL f p i::aJ f p (i+1):=by kernel_rfl) (D:cv d s (aL f p i)=true:=by kernel_rfl) (t:mc s { aL f p i with guard:=none } (bS 440001 440009)=some (g,args):=by kernel_rfl)
  (z:d9 (bS 440001 440009) s.o [(440001,440001)]=some O:=by kernel_rfl) (F:look 440009 s.r=some ar:=by kernel_rfl) (A:(dR (bH (bS 440001 440009)) O1 [(440001,440001)]).isSome=true:=by kernel_rfl) (G:(tv ((b,e)::bH (bS 440001 440009)) V1).isSome=true:=by kernel_rfl)
  (C:cQ c.n (aL f p i).dst=true:=by kernel_rfl) (o:kE s 440001 440009=true:=by kernel_rfl) (u:BJ s 440001 440009 e b=true:=by kernel_rfl):OT c Q m d (aJ f p i) s:=by
 rw[E];exact eL _ D fun a w ι q=>aep q 440001 440009 e b B l ((q.hs.pin _ _ SG.pv).1) (wD q t n) k z F A G C o u
theorem V8[GS][RG][SG c.w0]{g}{args}{V1}{O O1}{ar b}(r:eO c.P g (.ptr 440001 0::args) O ar (fun v l=>v=V1∧cB l.o O1∧look 440009 l.r=some b))
  (k:OT c Q m d (aJ f p (i+1)) ((gH 440009 b ((dR (bH (bS 440001 440009)) O1 [(440001,440001)]).getD []) s).put (aL f p i).dst ((eM (bH (bS 440001 440009)) V1).getD .any)))
  (h:cN c.P g=true:=by kernel_rfl) (x:aJ f p i=aL f p i::aJ f p (i+1):=by kernel_rfl) (u:cv d s (aL f p i)=true:=by kernel_rfl) (n:sM s { aL f p i with guard:=none } (bS 440001 440009)=some (jI g GS.g,args):=by kernel_rfl)
  (o:d9 (bS 440001 440009) s.o [(440001,440001)]=some O:=by kernel_rfl) (y:look 440009 s.r=some ar:=by kernel_rfl) (q:(dR (bH (bS 440001 440009)) O1 [(440001,440001)]).isSome=true:=by kernel_rfl) (z:(eM (bH (bS 440001 440009)) V1).isSome=true:=by kernel_rfl)
  (t:cQ c.n (aL f p i).dst=true:=by kernel_rfl) (j:kE s 440001 440009=true:=by kernel_rfl):OT c Q m d (aJ f p i) s:=by
 rw[x];exact eL _ u fun a w ι e=>Lg e 440001 440009 r ((e.hs.pin _ _ SG.pv).1) (ZM e n h (by rfl) (((e.hs.pin _ _ SG.pv).1).trans (by rw[K5]))) k o y q z t j
theorem Cf(h n:Nat){g:FuncId}{args:b6}{V1:AV}{O O1:List f6}{ar r:bZ}(U:∀ [GS] [RG],eO c.P g args O ar (fun v M=>v=V1∧cB M.o O1∧look 440009 M.r=some r))
  (k:OT c Q m d (aJ f p (i+1)) ((gH n r ((dR (bH (bS h n)) O1 [(h,440001)]).getD []) s).put (aL f p i).dst ((eM (bH (bS h n)) V1).getD .any)))
  (B:cN c.P g=true:=by kernel_rfl) (X:aJ f p i=aL f p i::aJ f p (i+1):=by kernel_rfl) (W:cv d s (aL f p i)=true:=by kernel_rfl) (A:mc s { aL f p i with guard:=none } (bS h n)=some (g,args):=by kernel_rfl)
  (z:d9 (bS h n) s.o [(h,440001)]=some O:=by kernel_rfl) (Z:look n s.r=some ar:=by kernel_rfl) (o:(dR (bH (bS h n)) O1 [(h,440001)]).isSome=true:=by kernel_rfl) (hv:(eM (bH (bS h n)) V1).isSome=true:=by kernel_rfl)
  (V:cQ c.n (aL f p i).dst=true:=by kernel_rfl) (t:kE s h n=true:=by kernel_rfl) (Y:args.any (zX 440001)=true:=by kernel_rfl):OT c Q m d (aJ f p i) s:=by
 rw[X];refine eL _ W fun a w ι F=>?_;obtain⟨xs,q1,K,L⟩:=wD F A B;have I:=t;simp only[kE,g6]at I;have T:∀b,NN (fun b=>NN c.M ι b∧∀i,bg (bL (bH (bS h n)) ι i)≠some b) (bL (bH (bS h n)) ι) b→NN c.M ι b:=fun b o=>by
  rcases o with o|⟨j,o⟩
  ·exact o.1
  ·cases D:bL (bH (bS h n)) ι j with
   | none=>rw[D]at o;cases o
   | some y=>obtain⟨id,_,x⟩:=ik D;exact .inr ⟨id,by rw[x];rw[D]at o;exact o⟩
 obtain⟨v,G,H⟩:=aaf.1 Y;obtain⟨q,J⟩:=ame.1 G;have E:q<xs.size:=by rw[←K];exact(g7.1 J).1
 obtain⟨y0,hy⟩:=WP H (L q v _ J (h8 E) _ _ T (fun id j e=>gG (ff I.1 e).1));obtain⟨id,u,N⟩:=ik hy;have P:id=h:=by
  have x:look 440001 (bH (bS h n))=some h:=rfl;rw[x]at u;injection u with u;exact u.symm
 subst P;obtain⟨cs,C⟩:∃cs,look id s.o=some cs:=by
  unfold d9 at z;split at z
  ·rename_i cs l A x;exact⟨cs,A⟩
  ·cases z
 obtain⟨S,_,_,R,_,_⟩:=F.hs.objs id cs C (by rw[N];rfl)
 letI:GS:=⟨S,false⟩
 letI:RG:=⟨rfl⟩
 exact Lg F id n U R ⟨xs,q1,K,L⟩ k z Z o hv V t
end
def rA(b a:Nat)(d:Option Tmp)(c:bZ)(O1:List f6)(V1:AV)(s:AS):AS:=(gH a c ((dR (bH (bS b a)) O1 [(b,440001)]).getD []) s).put d ((eM (bH (bS b a)) V1).getD .any)
def CV(d:Option Tmp)(a:bZ)(O1:List f6)(V1:AV)(s:AS):AS:=rA 440001 440009 d a O1 V1 s
def FL(b a:Nat)(s:AS):Bool:=match look b s.o with
 | some (.ref i::_)=>Nat.beq i a
 | _=>false
theorem ahp[GS](b f:Nat)(C:f=440009∨RG){P:Program}{n:Nat}{ops:Array Oper}{s:AS}{o:Oper}{I:Nat}{g:FuncId}{args:b6}{V1:AV}{O O1:List f6}{ar D:bZ}(hc:eO P g args O ar (fun v s1=>v=V1∧cB s1.o O1∧look 440009 s1.r=some D))
  (M:look I s.t=some (.lk b iK)) (S:∀(j:Nat) (o':Oper),ops[j]?=some o'→o'.dst≠some I) (B:mc s o (bS b f)=some (g,args)) (L:cN P g=true)
  (hO:d9 (bS b f) s.o [(b,440001)]=some O) (hr:look f s.r=some ar) (hb:(dR (bH (bS b f)) O1 [(b,440001)]).isSome=true) (hv:(eM (bH (bS b f)) V1).isSome=true)
  (hd:cQ n o.dst=true) (U:kE s b f=true) (H:FL b f s=true) (R:n≤440000):Eu P n ops s (rA b f o.dst D O1 V1 s) o:=by
 refine⟨R,I,b,_,M,S,fun cx C hn fl a w ι V Z F Kn Q hk=>?_⟩;subst C;subst hn;obtain⟨o2,k⟩:=yd.1 hb;obtain⟨V2,u⟩:=yd.1 hv;have K:mc (s.tt (cw fl s.t)) o (bS b f)=some (g,args):=by
  unfold mc at B⊢;split at B
  case h_2=>cases B
  rename_i cl m;split at B
  case h_2=>cases B
  rename_i J l;have W:(s.tt (cw fl s.t)).ev J=s.ev J:=by
   cases J with
   | tmp t =>
    show look t (cw _ _)=look t _;rw[fb,iF (F (.tmp t) t (by simp[m,Op.operands,Call.operands,l]) rfl)]
   | const v=>rfl
   | func g=>rfl
   | global g=>rfl
  have X:dA (s.tt (cw fl s.t)) cl.args.toList=dA s cl.args.toList:=pY (fun x hx=>by
   cases x with
   | tmp t =>
    show look t (cw _ _)=look t _;rw[fb,iF (F (.tmp t) t (by simp[m,Op.operands,Call.operands,l];exact .inr (Dz.1 hx)) rfl)]
   | const v=>rfl
   | func g=>rfl
   | global g=>rfl)
  simp only[m,l,W,X];exact B
 refine TL V b f hc Z (wD V K L) hO hr k u hd U (fun x w' ι1 G=>hk _ _ _ _ (fun id h9 a0 z=>?_) ?_ ?_ ?_ (fun t v i p=>?_) G)
 ·unfold cJ;by_cases e:id=f
  ·exfalso;rcases C with C|C
   ·exact h9 (e.trans C)
   unfold FL at H;split at H
   case h_2=>cases H
   rename_i q r hq;obtain⟨g0,T,vs,W,X,Y⟩:=V.hs.objs b _ hq (by rw[Z,K5];rfl);have N:0<vs.toList.length:=by rw[←Y.len];simp
   have:=Y.rel 0 _ _ rfl (h6 N);rw[iO H]at this;generalize vs.toList[0]=y at this;cases this with
   | ref _ _ A n c h=>rw[e,h]at z;cases z
  ·rw[io e];exact z
 ·unfold rA;rw[k,u];cases o.dst<;>rfl
 ·unfold rA;rw[k,u];cases o.dst<;>rfl
 ·unfold rA;rw[k,u];cases o.dst<;>rfl
 ·unfold rA at p;rw[k,u]at p;simp only[DO]at p;cases E:o.dst with
  | none =>
   rw[E]at p i;rcases i with i|i
   ·show look t (dB _ (cw _ _))=_;rw[sO,fb,iF i];exact p
   ·cases i
  | some d =>
   rw[E]at p i;simp only[AS.put,gH,cp]at p⊢;by_cases e:t=d
   ·rw[iF e]at p⊢;exact p
   ·rw[io e]at p⊢;rcases i with i|i
    ·show look t (dB _ (cw _ _))=_;rw[sO,fb,iF i];exact p
    ·injection i with i;exact(e i).elim
section
variable{P:Program}{n:Nat}{c:AS}{b:Array Oper}{d:List Tag}{K:Nat}{a:ek}{o:Oper}
theorem Ix[GS] m q{g}{args}{V1}{O O1}{ar e}(x:eO P g args O ar (fun v r=>v=V1∧cB r.o O1∧look 440009 r.r=some e))
  (f:cN P g=true:=by kernel_rfl) (z:CV o.dst e O1 V1 (nth a m)=nth a (m+1):=by kernel_rfl) (i:look q (nth a m).t=some (.lk 440001 iK):=by kernel_rfl) (l:CW q b.toList=true:=by kernel_rfl) (A:o.guard.isNone=true:=by kernel_rfl)
  (s:mc (nth a m) o (bS 440001 440009)=some (g,args):=by kernel_rfl)
  (u:d9 (bS 440001 440009) (nth a m).o [(440001,440001)]=some O:=by kernel_rfl) (B:look 440009 (nth a m).r=some ar:=by kernel_rfl) (w:(dR (bH (bS 440001 440009)) O1 [(440001,440001)]).isSome=true:=by kernel_rfl) (C:(eM (bH (bS 440001 440009)) V1).isSome=true:=by kernel_rfl)
  (y:cQ n o.dst=true:=by kernel_rfl) (p:kE (nth a m) 440001 440009=true:=by kernel_rfl) (t:FL 440001 440009 (nth a m)=true:=by kernel_rfl) (k:Nat.ble n 440000=true:=by kernel_rfl):fK P n c b d K a o (.s (m+1)):=by
 have h:=ahp 440001 440009 (.inl rfl) (ops:=b) x i (fun j D E=>TH l D (by grind)) s f u B w C y p t (hF k);rw[show rA 440001 440009 o.dst e O1 V1 (nth a m)=nth a (m+1) from z]at h;exact⟨by rw[show o.guard=none by simp_all];rfl,.inr (.inl h)⟩
end
end Go.Proofs.YtocgkfoifehcbaaGreat
namespace Go.Proofs.YtocgkfoifehcbaaGreat
set_option linter.all false
open Go.RowKit
variable[FM]
def VY(o:List f6)(e:Nat)(t:b6):AV→AV
 | .ptr id _=>match Nat.beq id e with|true=>.cptr t|false=>match look id o with|some cs=>.cptr cs|none=>.any
 | _=>.any
def stepT(o:List f6)(e:Nat)(t:b6):AV→AV
 | .fno f cs=>.fn f (cs.map (VY o e t))
 | v=>v
def aaI:AV→AV:=fun _=>.any
def aeg:AV→AV
 | .fno f cs=>.fn f (cs.map aaI)
 | v=>v
def m6(o:List f6)(e:Nat)(cs:b6):Nat→b6
 | 0=>cs.map aeg
 | d+1=>cs.map (stepT o e (m6 o e cs d))
def yL(o:List f6)(e r:Nat):AV→Bool
 | .ptr id off=>Nat.beq off 0&&((match Nat.beq id r with|true=>false|false=>true)&&(Nat.beq id e||match look id o with|some cs=>ex [] cs|none=>false))
 | _=>false
def CM(o:List f6)(e r:Nat):AV→Bool
 | .fno _ cs=>cs.all (yL o e r)
 | _=>false
theorem Mo{o}{e r}{v}(h:CM o e r v=true):∃f cs,v=.fno f cs∧cs.all (yL o e r)=true:=by
 cases v<;>first|(exact⟨_,_,rfl,h⟩)|cases h
theorem SS{o:List f6}{e r:Nat}{v:AV}(h:yL o e r v=true):∃id,v=.ptr id 0∧id≠r∧(id=e∨∃cs,look id o=some cs∧ex [] cs=true):=by
 cases v<;>first|grind[yL]|skip
 rename_i id off;simp only[yL,g6,zt]at h;obtain⟨b,c,a⟩:=h;have:=iO b;subst this;refine⟨id,rfl,(fun e=>by simp_all),?_⟩;rcases a with a|a
 ·simp_all
 grind
theorem Ob{M:Nat→Prop}{t:az}{w:World}{ι:Env}{s:AS}(h:HS M t w ι s){N':Nat→Prop}{id g:Nat}{b cs:b6}(l:ι id=some (.pointer (some ⟨g,0,none⟩)))(q:look id s.o=some b)(p:¬ N' g)(n:cs.length=b.length)
  (r:∀vs:d5,(∀(i:Nat) (x:AV) (v:Value),b[i]?=some x→vs[i]?=some v→Rel (NN M ι) w ι x v)→∀(i:Nat) (c:AV) (v:Value),cs[i]?=some c→vs[i]?=some v→Rel N' w bA c v) (ι':Env):Rel N' w ι' (.cptr cs) (.pointer (some ⟨g,0,none⟩)):=by
 obtain⟨u,T,vs,a,o,k⟩:=h.objs id b q (by rw[l];rfl);rw[l]at a;injection a with a;injection a with a;injection a with a;injection a with a;subst a
 have d:=k.len;refine .cptr _ cs g 0 (fun i=>(vs[i]?).getD (.bool true)) (h.own id g (by rw[l];rfl)).2 p (fun i=>?_) (fun i c j=>?_) (fun i c j=>?_)
 ·cases e:vs[i]? with
  | none=>rfl
  | some v=>exact k.one v (by rw[←aas]at e;exact jt e)
 ·have f:i<vs.size:=by have:=(g7.1 j).1;rw[n,d]at this;simpa using this
  rw[amm w g _ vs T (0,0) o,z5];simp[h8 f]
 ·have f:i<vs.size:=by have:=(g7.1 j).1;rw[n,d]at this;simpa using this
  have m:vs.toList[i]?=some vs[i]:=by simp
  have:=r vs.toList k.rel i c _ j m
  grind
theorem Mw{M:Nat→Prop}{T:az}{w:World}{ι:Env}{s:AS}(h:HS M T w ι s){N':Nat→Prop}{r e:Nat}{cs:b6}(P:∀b,N' b→NN M ι b)(D:∀b,N' b→M b∨bg (ι r)=some b)(Q:look e s.o=some cs)(H:e≠r)(K:cs.all (CM s.o e r)=true):
  ∀(d:Nat) (vs:d5),(∀(i:Nat) (x:AV) (v:Value),cs[i]?=some x→vs[i]?=some v→Rel (NN M ι) w ι x v)→∀(i:Nat) (c:AV) (v:Value),(m6 s.o e cs d)[i]?=some c→vs[i]?=some v→Rel N' w bA c v
 | 0,vs,A,i,c,v,a,E=>by
  simp only[m6,th]at a;cases o:cs[i]? with
  | none=>rw[o]at a;cases a
  | some x =>
   rw[o]at a;injection a with a;subst a
   obtain⟨f,aV,rfl,k⟩:=Mo (ll.1 K x (jt o));have z:=A i _ v o E;cases z with
   | fno _ _ _ N J z =>
    refine .fn _ f _ N (by simpa using J) (fun j c y l L=>?_);rw[th]at l;cases n:aV[j]? with
    | none=>rw[n]at l;cases l
    | some q =>
     rw[n]at l;injection l with l;subst l
     obtain⟨id,rfl,_,_⟩:=SS (ll.1 k q (jt n));have G:=z j _ y n L;cases G with
     | ptr _ _ _ g C=>exact .any _ _ rfl
 | d+1,vs,A,i,c,v,a,E=>by
  simp only[m6,th]at a;cases o:cs[i]? with
  | none=>rw[o]at a;cases a
  | some x =>
   rw[o]at a;injection a with a;subst a
   obtain⟨f,aV,rfl,k⟩:=Mo (ll.1 K x (jt o));have z:=A i _ v o E;cases z with
   | fno _ _ _ N J z =>
    refine .fn _ f _ N (by simpa using J) (fun j c y l L=>?_);rw[th]at l;cases n:aV[j]? with
    | none=>rw[n]at l;cases l
    | some q =>
     rw[n]at l;injection l with l;subst l
     obtain⟨id,rfl,I,t⟩:=SS (ll.1 k q (jt n));have G:=z j _ y n L;cases G with
     | ptr _ _ _ g C =>
      have B:¬ N' g:=fun p=>by
       rcases D g p with p|p
       ·exact h.sep p (by rw[C];rfl)
       ·exact I (h.inj id r g (by rw[C];rfl) p)
      simp only[VY];cases u:Nat.beq id e with
      | true =>
       have:=iO u;subst this;exact Ob h C Q B (by cases d<;>simp[m6]) (fun F m i c v=>Mw h P D Q H K d F m i c v) _
      | false =>
       rcases t with t|⟨R,O,S⟩
       ·subst t;rw[anq]at u;cases u
       ·simp only[O];exact Ob h C O B rfl (fun F m i c v a E=>(((m i c v a E).pure (mb S i c a) bA).mono (h7 _) (fun b _ p=>P b p) (fun _ _ _=>rfl) (fun _ _ h=>h))) _
def Pu(k r e:Nat)(d:Nat)(s:AS):AS:=match look e s.o with
 | some cs=>⟨[(k,.ptr r 0)],[(r,m6 s.o e cs d)],[],[r]⟩
 | none=>s
def Wr(k r e:Nat)(s:AS):Bool:=match look e s.o,look r s.o with
 | some cs,some a=>cs.all (CM s.o e r)&&(a.all (CM s.o e r)&&(s.u.all (fun n=>Nat.ble (n+1) 1000000)&&((match Nat.beq e r with|true=>false|false=>true)&&match look k s.t with|some (.ptr i 0)=>Nat.beq i r|_=>false)))
 | _,_=>false
theorem XZ{p:Cx}{Q:Exit→Act→World→Prop}{O:ck}{e:Exit}{s:AS}(k r B d:Nat)(h:VE p Q O e (Pu k r B d s))(f:Wr k r B s=true:=by kernel_rfl)(z:look r s.o=look B s.o:=by kernel_rfl):VE p Q O e s:=fun a w ι n=>by
 unfold Wr at f;split at f
 case h_2=>cases f
 rename_i cs u E N;simp only[g6]at f;obtain⟨P,b2,R,M,C⟩:=f;have I:B≠r:=fun e=>by subst e;rw[anq]at M;cases M
 have F:u=cs:=by rw[E,N]at z;injection z
 subst F;unfold Pu at h;rw[E]at h;have X:look k s.t=some (.ptr r 0):=by
  split at C
  ·rename_i i l;rw[l,iO C]
  ·cases C
 obtain⟨x,Z,K⟩:=n.tmp k _ X;have np:∀id,p.w0.pv id=none:=fun id=>by
  cases q:p.w0.pv id with
  | none=>rfl
  | some v =>
   have:=(n.hs.pin id v q).2;have:=ll.1 R (cS id) (by simpa using this);have:=hF this;unfold cS at this;omega
 let ι':Env:=fun i=>if i=r then ι r else none
 have L:∀{i y},ι' i=some y→i=r∧ι r=some y:=fun {i y} o=>by
  by_cases e:i=r
  ·exact⟨e,by simpa[ι',e]using o⟩
  ·simp[ι',e]at o
 have A:∀{i g},bg (ι' i)=some g→i=r∧bg (ι r)=some g:=fun {i g} m=>by
  cases G:ι' i with
  | none=>rw[G]at m;cases m
  | some y=>obtain⟨q1,q2⟩:=L G;exact⟨q1,by rw[q2,← G];exact m⟩
 have V:∀b,NN p.M ι' b→NN p.M ι b:=fun b f=>by
  rcases f with f|⟨i,f⟩
  ·exact .inl f
  ·exact .inr ⟨r,(A f).2⟩
 have J:∀b,NN p.M ι' b→p.M b∨bg (ι r)=some b:=fun b f=>by
  rcases f with f|⟨i,f⟩
  ·exact .inl f
  ·exact .inr (A f).2
 refine h a w ι' ⟨⟨n.hs.below,n.hs.old,fun i y o=>?_,fun i g m=>n.hs.own r g (A m).2,fun i i' g m H=>(A m).1.trans (A H).1.symm,fun i c l=>?_,fun i c l=>(by cases l),fun i c l q=>?_,fun i c l=>(by cases l),fun i v q=>by rw[np i]at q;cases q⟩,n.dfr,n.n,fun j v t=>?_⟩
 ·rw[(L o).1];exact fJ (by simp)
 ·simp only[look]at l;split at l
  ·rename_i e;rw[e];exact fJ (by simp)
  ·cases l
 ·simp only[look]at l;split at l
  case isFalse=>cases l
  rename_i e;subst e;injection l with l;subst l
  obtain⟨y,o⟩:=BH q;obtain⟨g,T,vs,S,U,D⟩:=n.hs.objs i u N (by rw[(L o).2,← o];exact q);refine⟨g,T,vs,by simp only[ι'];exact S,U,⟨?_,D.one,fun j c v W Y=>?_⟩⟩
  ·have:=D.len;cases d<;>simpa[m6]using this
  ·exact(Mw n.hs V J E I P d vs.toList D.rel j c v W Y).mono (h7 _) (fun _ _ h=>h) (fun _ _ _=>rfl) (fun id y o=>by cases o)
 ·simp only[look]at t;split at t
  case isFalse=>cases t
  rename_i e;subst e;injection t with t;subst t
  refine⟨x,Z,?_⟩;cases K with
  | ptr _ _ _ g m=>exact .ptr _ _ _ g (by simp only[ι',iF rfl];exact m)
def lkV[GS](f:FuncId)(b:Bool):Value:=match b with|true=>jI f GS.g|false=>.nilFunc
def eQ[GS](f:FuncId)(b:Bool):AV:=.vv (lkV f b)
def Sj(op:BinOp)(b:Bool):Bool:=match op with|.eql=>!b|_=>b
def qj(s:AS)(k:Nat):Bool:=match look k s.t with|some v=>v.Ef|none=>false
section
variable{c:Cx}{Q:Exit→Act→World→Prop}{m:ck}{s:AS}{j:Array Oper}{f:Func}{p:d4}{i:Nat}{e:Exit}{l:List Oper}
theorem aja[GS][SG c.w0]{a}{w}{ι}(f:aI c s a w ι){k off}(h:look k s.t=some (.ptr 440001 off)):aI c (lz k (.adr GS.g off) s) a w ι:=by
 refine f.kZ (fun y j=>?_) ⟨_,h⟩;obtain⟨x,d,i⟩:=f.tmp k _ h;rw[j]at d;injection d with d;subst d
 cases i with
 | ptr _ _ _ g b =>
  have e:=(f.hs.pin _ _ SG.pv).1;unfold iK at e;split at e
  ·grind
  rw[e]at b;injection b with b;injection b with b;injection b with b;injection b with b;subst b
  exact .adr _ _ _
theorem aaK[GS][RG][SG c.w0]{a}{w}{ι}(d:aI c s a w ι){k off}(e:look k s.t=some (.adr GS.g off)):aI c (lz k (.ptr 440001 off) s) a w ι:=by
 refine d.kZ (fun y g=>?_) ⟨_,e⟩;obtain⟨x,b,f⟩:=d.tmp k _ e;rw[g]at b;injection b with b;subst b
 cases f with
 | adr _ _ _=>exact .ptr _ _ _ _ (((d.hs.pin _ _ SG.pv).1).trans (by rw[K5]))
theorem adt[GS][SG c.w0]{a}{w}{ι}(e:aI c s a w ι){k}(d:qj s k=true):aI c (lz k (.lk 440001 iK) s) a w ι:=by
 unfold qj at d;split at d
 ·rename_i v f;refine e.kZ (fun y h=>?_) ⟨_,f⟩;obtain⟨x,b,g⟩:=e.tmp k _ f;rw[h]at b;injection b with b;subst b
  exact .lk _ _ _ _ ((e.hs.pin _ _ SG.pv).1) (g.one d)
 grind
theorem adk[GS][SG c.w0] k off(h:VE c Q m e (lz k (.adr GS.g off) s))(b:look k s.t=some (.ptr 440001 off):=by kernel_rfl):VE c Q m e s:=fun a w ι d=>h a w ι (aja d b)
theorem Wj[GS][RG][SG c.w0] k off(h:OT c Q m j l (lz k (.ptr 440001 off) s))(b:look k s.t=some (.adr GS.g off):=by kernel_rfl):OT c Q m j l s:=fun a w ι d=>h a w ι (aaK d b)
theorem Gz[GS][SG c.w0] k(h:VE c Q m e (lz k (.lk 440001 iK) s))(b:qj s k=true:=by kernel_rfl):VE c Q m e s:=fun a w ι d=>h a w ι (adt d b)
theorem KR(k:Nat)(h:OT c Q m j l (lz k .any s))(d:qj s k=true:=by kernel_rfl):OT c Q m j l s:=fun a w ι f=>by
 unfold qj at d;split at d
 ·rename_i v g;refine h a w ι (f.kZ (fun y i=>?_) ⟨_,g⟩);obtain⟨n,b,e⟩:=f.tmp k _ g;rw[i]at b;injection b with b;subst b
  exact .any _ _ (e.one d)
 ·cases d
theorem U4[GS](g:FuncId)(b:Bool)(op:BinOp)(T T':TypeId)(x y:Operand)(d:Nat)(k:OT c Q m j (aJ f p (i+1)) (s.put (some d) (.bool (Sj op b))))
  (I:aJ f p i=aL f p i::aJ f p (i+1):=by kernel_rfl) (H:cv j s (aL f p i)=true:=by kernel_rfl) (o:(aL f p i).op=.binOp op T x y T':=by kernel_rfl) (G:(aL f p i).dst=some d:=by kernel_rfl) (J:Nat.ble (d+1) c.n=true:=by kernel_rfl)
  (L:s.ev x=some (eQ g b):=by kernel_rfl) (M:s.ev y=some .nilf:=by kernel_rfl) (r:(zJ op&&(match c.P.underlying T with|some (.func _ _ _)=>true|_=>false))=true:=by kernel_rfl):OT c Q m j (aJ f p i) s:=by
 rw[I];refine eL _ H fun a w ι E=>?_;refine v9 rfl fun K F=>?_;have B:d<c.n:=hF J;simp only[g6]at r;obtain⟨h,r⟩:=r;split at r
 case h_2=>cases r
 rename_i N O P t;have e:=E.ev L;have v:=E.ev M;have u:a.eval y=.nilFunc:=by
  generalize a.eval y=Y at v;cases v with
  | nilf _=>rfl
 have run:(execOp a.eval { aL f p i with guard:=none }).run c.P w=.ok (.value (.bool (Sj op b))) w:=by
  cases b with
  | true =>
   have l:a.eval x=jI g GS.g:=by
    generalize a.eval x=X at e;cases e with
    | vv _ _ _=>rfl
   have z:∀{q:BinOp},q=.eql∨q=.neq→(eqGuard q T x y (jI g GS.g) .nilFunc).run c.P w=.ok () w:=by
    intro q D;rcases D with rfl|rfl<;>simp[eqGuard,jI]
   have A:(Op.equalIn 10000 T (jI g GS.g) .nilFunc).run c.P w=.ok false w:=by
    unfold Op.equalIn;rw[n4,ls t w];rfl
   unfold execOp;simp only[o,l,u,n4];cases op<;>simp[zJ]at h
   ·have n:binOp .eql T (jI g GS.g) .nilFunc=(do pure (.bool (← Op.equalIn 10000 T (jI g GS.g) .nilFunc))):=rfl;rw[z (.inl rfl),n];simp only[pt,n4,A,By];rfl
   ·have n:binOp .neq T (jI g GS.g) .nilFunc=(do pure (.bool (!(← Op.equalIn 10000 T (jI g GS.g) .nilFunc)))):=rfl;rw[z (.inr rfl),n];simp only[pt,n4,A,By];rfl
  | false =>
   have l:a.eval x=.nilFunc:=by
    generalize a.eval x=X at e;cases e with
    | vv _ _ _=>rfl
   have z:∀{q:BinOp},q=.eql∨q=.neq→(eqGuard q T x y .nilFunc .nilFunc).run c.P w=.ok () w:=by
    intro q D;rcases D with rfl|rfl<;>simp[eqGuard]
   have A:(Op.equalIn 10000 T .nilFunc .nilFunc).run c.P w=.ok true w:=by
    unfold Op.equalIn;rw[n4,ls t w];rfl
   unfold execOp;simp only[o,l,u,n4];cases op<;>simp[zJ]at h
   ·have n:binOp .eql T .nilFunc .nilFunc=(do pure (.bool (← Op.equalIn 10000 T .nilFunc .nilFunc))):=rfl;rw[z (.inl rfl),n];simp only[pt,n4,A,By];rfl
   ·have n:binOp .neq T .nilFunc .nilFunc=(do pure (.bool (!(← Op.equalIn 10000 T .nilFunc .nilFunc)))):=rfl;rw[z (.inr rfl),n];simp only[pt,n4,A,By];rfl
 refine dK ?_;rw[run];refine F _ _ ?_;show wpListIn FF 0 _ _ _ _ (a.put (aL f p i).dst _) _;rw[G];exact k _ _ _ (E.put (fun k C=>by injection C with C;subst C;exact B) (.bool _ _))
end
def pr{α:Type}(_:α):AV:=.tup []
def anyS(k j:Nat)(s:AS):AS:=match look k s.t with|some (.agg cs)=>lz k (.agg (cs.set j .any)) s|_=>s
section
variable{d:Cx}{Q:Exit→Act→World→Prop}{e:ck}{s:AS}{b:Array Oper}{l:List Oper}
theorem agT(k j:Nat)(h:OT d Q e b l (anyS k j s)):OT d Q e b l s:=fun a w ι m=>by
 unfold anyS at h;split at h
 ·rename_i cs n;refine h a w ι (m.kZ (fun y r=>?_) ⟨_,n⟩);obtain⟨x,g,o⟩:=m.tmp k _ n;rw[r]at g;injection g with g;subst g
  cases o with
  | agg _ _ vs q p o =>
   refine .agg _ _ vs (by simpa using q) p (fun i c v f t=>?_);rw[amf]at f;split at f
   ·split at f
    ·injection f with f;subst f;exact .any _ _ (by grind)
    grind
   grind
 ·exact h a w ι m
end
section
variable{a:Cx}{s:AS}{fn:Func}
theorem QH{l}{O1}{d c}{ar b}(h:gz a.P s fn.results.toList=some l:=by kernel_rfl)(e:look d s.r=some ar:=by kernel_rfl)(i:look c s.r=some b:=by kernel_rfl)(f:(O1.map fun p=>look p.1 s.o)=(O1.map fun p=>some p.2):=by kernel_rfl)(g:oe l=.tup l:=by kernel_rfl):
  VE (fm:=fm0) a (bodyPost a.P fn (bP a.M a.w0 (fun v s=>v=.tup l∧cB s.o O1∧look d s.r=some ar∧look c s.r=some b))) [] .ret s :=by grind[rr,E8]
end
def o5{α:Type}(c:Bool)(B:Option (List α)):Option (List α):=match c with
 | true=>(match B with|some []=>some []|_=>none)
 | false=>B
theorem VH{α}{c}{B:Option (List α)}{r}(a:c=true)(h:o5 c B=some r):some []=some r:=by
 grind[o5]
theorem LW{α}{c}{B:Option (List α)}{r}(h:o5 c B=some r):B=some r:=by
 unfold o5 at h
 grind
theorem XO{P}{f}{Q}(h:aZ P f [.vv .nilFunc,.vv .nilFunc] Q):aZ P f [.nilf,.nilf] Q:=fun M w xs d b =>
 h M w xs d ⟨b.1,fun i v y a c=>by
  have e:∀y,Rel M w bA .nilf y→Rel M w bA (.vv .nilFunc) y:=fun y g=>by cases g;exact .vv _ _ rfl
  match i,a with
  | 0,a=>injection a with a;subst a;exact e y (b.2 0 _ y rfl c)
  | 1,a=>injection a with a;subst a;exact e y (b.2 1 _ y rfl c)⟩
end Go.Proofs.YtocgkfoifehcbaaGreat
namespace Go.Proofs.YtocgkfoifehcbaaGreat
set_option linter.all false
open Go.RowKit
variable[FM]
def px(ops:Array Oper)(z:Nat):Bool:=(List.range ops.size).all fun m=>Nat.ble (m+1) z||match ops[m]? with
 | some o=>((c7 o).all fun j=>decide (j<m))&&(List.range m).all fun i=>(nh ops m (c7 o)).contains i
 | none=>false
theorem tO{ops:Array Oper}{z m}{o}(h:px ops z=true)(c:z≤m)(a:ops[m]?=some o):(∀j∈c7 o,j<m)∧∀i,i<m→i∈nh ops m (c7 o):=by
 unfold px at h;simp only[ll,T4,zt]at h;have b:m<ops.size:=(lc.1 a).1;rcases h m b with h|h
 ·have:=hF h;omega
 simp_all
section
variable{d:Cx}{ops:Array Oper}{c:List Tag}{K:Nat}{σ:Nat→AS}{f:AS}
theorem EC{K:Exit→Act→World→Prop}{z:Nat}(k:px ops z=true)(C:∀(n:Nat) (o:Oper),n<z→ops[n]?=some o→∀j∈c7 o,j<n):∀(c:Nat) (listed:Array Bool) (a:Act) (w:World) (m:Nat),i8 listed=c→z≤m→m≤ops.size→listed.size=ops.size→(∀i,i<ops.size→(listed[i]?=some true↔i<m))→wpListIn FF 0 d.P ops K (ops.toList.drop m) a w→wpAnyIn FF 0 d.P .any ops K c listed a w:=by
 have A:∀(listed:Array Bool) (a:Act) (w:World),(∀i,i<ops.size→listed[i]?=some true)→Region.ready .any ops listed=[]:=by
  intro listed a w B;cases H:Region.ready .any ops listed with
  | nil=>rfl
  | cons j r =>
   exfalso;obtain⟨t,o,y,_⟩:=lP (ops:=ops) (listed:=listed) (i:=j) (by rw[H];simp);exact t (B j (lc.1 y).1)
 intro c
 induction c with
 | zero =>
  intro listed a w m hl hz hm I b s;have T:m=ops.size:=by
   refine In fun V=>?_;have:=tP hl m (by omega);have h2:=(b m (by omega)).1 this;omega
  subst T;have O:ops.toList.drop ops.size=[]:=la (by simp);rw[O]at s;exact⟨A listed a w (fun i v=>(b i v).2 v),s⟩
 | succ c ih =>
  intro listed a w m hl hz hm I b s;by_cases U:m=ops.size
  ·subst U;have O:ops.toList.drop ops.size=[]:=la (by simp);rw[O]at s;have H:=A listed a w (fun i v=>(b i v).2 v);exact⟨fun _=>s,fun j f=>by rw[H]at f;cases f⟩
  ·have x:m<ops.size:=by omega
   have y:=h8 (xs:=ops) x;obtain⟨D,Z⟩:=tO k hz y;have t:listed[m]?=some false:=by
    have N:m<listed.size:=by omega
    rw[h8 N];cases M:listed[m] with
    | false=>rfl
    | true =>
     have:=(b m x).1 (by rw[h8 N,M]);omega
   have u:ops.toList.drop m=ops[m]::ops.toList.drop (m+1):=by
    rw[kp (by rw[yk];omega)];simp
   refine⟨fun H=>?_,fun i v=>?_⟩
   ·exfalso;have E:m∈Region.ready .any ops listed:=by
     unfold Region.ready;simp only[ald,T4,g6,BY];refine⟨x,by rw[qk,t];rfl,?_⟩;rw[y];simp only[If,DO,OR,zt,BY];intro e he;by_cases M:Region.binds .any e=true
     ·right;have f:e.on∈c7 ops[m]:=qt.2 ⟨e,he,M,rfl⟩;have:=D _ f;rw[qk,(b e.on (by omega)).2 this];rfl
     ·left;simpa using M
    rw[H]at E;cases E
   ·obtain⟨F,o,l,P⟩:=lP v;have R:i<ops.size:=(lc.1 l).1;have Q:i=m:=by
     have N:¬ i<m:=fun h=>F ((b i R).2 h);refine In fun V=>?_;obtain⟨g1,g2⟩:=tO k (by omega) l
     -- m is among those that i waits for;so m is listed
     have cl:∀(n:Nat) (S:d4),(∀j∈S,j<m)→∀j∈nh ops n S,j<m:=by
      intro n
      induction n with
      | zero=>intro S h j f;exact h j f
      | succ n J =>
       intro S h j f;unfold nh at f;split at f
       ·rename_i hc;have hn:n∈S:=by simpa using hc
        refine J _ (fun q g=>?_) j f;rcases kb.1 g with g|g
        ·exact h q g
        ·split at g
         ·rename_i o' G;have c0:=h n hn
          -- the edges of an operation that is listed: those of n are below n,or listed
          by_cases Y:z≤n
          ·have:=(tO k Y G).1 q g;omega
          ·have:=C n o' (by omega) G q g;omega
         ·cases g
       ·exact J S h j f
     have:m<m:=cl i _ (fun j f=>by
      have:=P j f;have a0:=g1 j f;exact(b j (by omega)).1 this) m (g2 m (by omega))
     omega
    subst Q;have b0:=tA t;rw[y]at l;injection l with l;subst l
    have p:∀L w',wpListIn FF 0 d.P ops K (ops.toList.drop (i+1)) L w'→wpAnyIn FF 0 d.P .any ops K c (listed.setIfInBounds i true) L w':=fun L w' W=>by
     refine ih _ L w' (i+1) (by omega) (by omega) (by omega) (by simpa using I) (fun j f=>?_) W;rw[dS (by omega)];constructor
     ·rintro (e|h)
      ·omega
      ·have:=(b j f).1 h;omega
     ·intro h;by_cases e:j=i
      ·exact .inl e
      ·exact .inr ((b j f).2 (by omega))
    unfold wpOpIn;simp only[y];rw[u]at s;unfold wpListIn at s;split at s
    ·rename_i X;rw[iF X];exact T1 p (fun _ _ _ _ h=>h) s
    ·rename_i X;rw[io X];exact⟨s.1,p _ _ s.2⟩
theorem db.aeJ{T:Exit→Act→World→Prop}(S:Stat ops c K)(X:lX d.P d.n f ops c K σ){z:Nat}(J:c.length=z)(F:z≤ops.size)(m:px ops z=true)(U:∀a w ι,aI d (σ K) a w ι→wpListIn FF 0 d.P ops T (ops.toList.drop z) a w):
  ∀(l:Nat) (listed:Array Bool) (a:Act) (w:World) (k:Nat) (ι:Env),i8 listed=l→(∀i,z≤i→listed[i]?≠some true)→db d ops c K σ listed a w k ι→wpAnyIn FF 0 d.P .any ops T l listed a w:=by
 have p:∀(n:Nat) (o:Oper),n<z→ops[n]?=some o→∀j∈c7 o,j<n:=fun n o hn A=>S.lex n _ _ A (h6 (by rw[J];exact hn));have B:∀(listed:Array Bool) (a:Act) (w:World) (k:Nat) (ι:Env),db d ops c K σ listed a w k ι→(∀i,i<z→listed[i]?=some true)→aI d (σ K) a w ι:=by
  intro listed a w k ι h g;have hk:k=K:=by
   have:=h.kK;rcases S.last with h0|⟨i,r⟩
   ·omega
   ·have M:i<z:=by rw[←J];exact(g7.1 r).1
    have:=(h.wr i K r).1 (g i M);omega
  subst hk;exact⟨h.hs,h.dfr,h.n,fun t v hv=>h.tmp t v hv (fun i o tg _ Q _ _=>g i (by rw[←J];exact(g7.1 Q).1))⟩
 intro l
 induction l with
 | zero =>
  intro listed a w k ι H s h;have g:∀i,i<z→listed[i]?=some true:=fun i r=>tP H i (by rw[h.sz];omega);exact EC m p 0 listed a w z H (h7 _) F h.sz (fun i r=>⟨fun x=>In fun C=>s i (by omega) x,g i⟩) (U a w ι (B listed a w k ι h g))
 | succ l ih =>
  intro listed a w k ι H s h;by_cases g:∀i,i<z→listed[i]?=some true
  ·exact EC m p (l+1) listed a w z H (h7 _) F h.sz (fun i r=>⟨fun x=>In fun C=>s i (by omega) x,g i⟩) (U a w ι (B listed a w k ι h g))
  ·refine⟨fun hr=>?_,fun i r=>?_⟩
   ·exfalso;apply g;intro i
    induction i using Nat.strongRecOn with
    | _ i R =>
     intro r;have A:=h8 (xs:=ops) (show i<ops.size by omega);cases D:listed[i]? with
     | none=>rw[ah6,h.sz]at D;omega
     | some b =>
      cases b with
      | true=>rfl
      | false =>
       exfalso;have I:i∈Region.ready .any ops listed:=by
        unfold Region.ready;simp only[ald,T4,g6,BY];refine⟨by omega,by rw[qk,D];rfl,?_⟩;rw[A];simp only[If,DO,OR,zt,BY];intro e Z;by_cases G:Region.binds .any e=true
        ·right;have P:e.on∈c7 ops[i]:=qt.2 ⟨e,Z,G,rfl⟩;have E:=p i _ r A e.on P;rw[qk,R e.on E (by omega)];rfl
        ·left;simpa using G
       rw[hr]at I;cases I
   ·obtain⟨y,o,A,L⟩:=lP r;have N:i<ops.size:=(lc.1 A).1;have u:i<listed.size:=by rw[h.sz];exact N
    have hf:listed[i]?=some false:=by
     rw[h8 u]at y⊢;cases G:listed[i] with
     | true=>rw[G]at y;exact(y rfl).elim
     | false=>rfl
    have a0:=tA hf;have O:i<z:=by
     refine In fun C=>g fun q V=>?_;obtain⟨_,Y⟩:=tO m (by omega) A;exact ve h.cl i _ (fun j P=>L j P) q (Y q (by omega))
    refine h.one S X (by rw[J];exact O) r (fun W w' k' ι' I=>ih _ W w' k' ι' (by omega) (fun q V x=>?_) I);rcases (dS u).1 x with e|x
    ·omega
    ·exact s q V x
end
theorem Wi{e:Cx}{Q:Exit→Act→World→Prop}{B:ck}{f:Func}{p:d4}{i:AS}{c:List Tag}(z K:Nat)(r:List ee)(k:List f6)(rl:List (Nat×bZ))(u:List (AS→AS))
  (v:fe e.P e.n i (dr f p) c K (pP i r k rl u) (aJ f p 0) c) (h:OT e Q B (dr f p) (aJ f p z) (KL i r k rl u K))
  (j:kV f p=true:=by kernel_rfl) (G:e.P.follows .mixedOrders=true:=by kernel_rfl) (s:uY (dr f p) c K z=true:=by kernel_rfl) (F:nK c K=true:=by kernel_rfl) (d:mu (aJ f p 0) c r=true:=by kernel_rfl) (x:jx i.u k=true:=by kernel_rfl) (l:jx i.u rl=true:=by kernel_rfl)
  (t:(Nat.ble z (dr f p).size&&px (dr f p) z)=true:=by kernel_rfl):VE e Q (.c (cat f p)::B) .normal i:=by
 have D:aJ f p 0=(dr f p).toList:=by simp[aJ]
 have E:aJ f p z=(dr f p).toList.drop z:=rfl;rw[E]at h;cases g:cat f p with
 | region id ops b =>
  cases b with
  | false=>unfold kV at j;rw[g]at j;cases j
  | true =>
   have H:dr f p=ops:=by unfold dr;rw[g];rfl
   rw[D]at v d;rw[H]at v d s h t;rw[g6]at t;intro a w ι o;obtain⟨C,m,_⟩:=AH s F;have A:=AR (P:=e.P) (n:=e.n) c K r k rl (pP i r k rl u) d x l (by unfold pP;cases u<;>rfl) v;refine amQ G (db.aeJ C A m (hF t.1) t.2 (fun a w ι s=>h a w ι s) ops.size _ a _ 0 ι (by simp[i8]) (fun q _ y=>?_) (db.start C A o));rw[age]at y;split at y<;>cases y
 | _=>unfold kV at j;rw[g]at j;cases j
end Go.Proofs.YtocgkfoifehcbaaGreat
namespace Go.Proofs.YtocgkfoifehcbaaGreat
set_option linter.all false
open Go.RowKit
variable[FM]
structure fD(E:Nat→Prop)(b b':az):Prop where
 os:b'.w.os=b.w.os
 tape:b'.w.tape=b.w.tape
 output:b'.w.output=b.w.output
 size:b.w.heap.size≤b'.w.heap.size
 block:∀k,k<b.w.heap.size→¬ b.G k→¬ E k→b'.w.heap[k]?=b.w.heap[k]?
 O:∀g,b'.O g→b.O g
 pv:b'.pv=b.pv
theorem fD.refl E b:fD E b b:=⟨rfl,rfl,rfl,h7 _,fun _ _ _ _=>rfl,fun _ h=>h,rfl⟩
theorem fD.trans{E:Nat→Prop}{b b' c:az}(h:fD E b b')(k:fD E b' c):fD E b c :=
 ⟨k.os.trans h.os,k.tape.trans h.tape,k.output.trans h.output,oR h.size k.size,fun i e a d=>by
  have l:¬ b'.G i:=fun j=>by
   rcases h.O i (.inr j)with f|f
   ·grind
   grind
  exact(k.block i (nx e h.size) l d).trans (h.block i e a d),fun g a=>h.O g (k.O g a),k.pv.trans h.pv⟩
theorem fD.mono{E E'}{b b'}(h:fD E b b')(a:∀k,E k→E' k):fD E' b b' :=
 ⟨h.os,h.tape,h.output,h.size,fun i d c e=>h.block i d c (fun h=>e (a i h)),h.O,h.pv⟩
def iC(b:az)(ι:Env)(w:World):az:=⟨w,fun g=>∃id,bg (ι id)=some g,b.pv⟩
theorem aI.step{d:Cx}{s:AS}{a:Act}{w w':World}{ι:Env}(h:aI d s a w ι){E E':Nat→Prop}(P:w'.os=w.os)(Q:w'.tape=w.tape)(R:w'.output=w.output)(m:w.heap.size≤w'.heap.size)
  (J:∀k,E k→d.M k) (I:∀k,k<w.heap.size→¬ E k→w'.heap[k]?=w.heap[k]?) (n:∀k,E' k→w.heap.size≤k∧k<w'.heap.size) :
  aI ⟨d.P,d.n,fun k=>d.M k∨E' k,iC d.w0 ι w'⟩ s a w' ι∧fD E d.w0 (iC d.w0 ι w'):=by
 have q:∀{id g},bg (ι id)=some g→w'.heap[g]?=w.heap[g]?:=fun {id g} c=>I g (h.hs.own id g c).2 (fun C=>h.hs.sep (J g C) c);have B:∀b,b<w.heap.size→NN (fun k=>d.M k∨E' k) ι b→NN d.M ι b:=fun b f l=>by
  rcases l with (l|l)|l
  ·exact .inl l
  ·have:=(n b l).1;omega
  ·exact .inr l
 have t:∀b,b<w.heap.size→¬ NN d.M ι b→w'.heap[b]?=w.heap[b]?:=fun b f l=>I b f (fun C=>l (.inl (J b C)));refine⟨⟨⟨⟨rfl,rfl,rfl,h7 _,fun _ _ _=>rfl⟩,fun b f=>?_,h.hs.use,fun id g c=>⟨.inr ⟨id,c⟩,nx (h.hs.own id g c).2 m⟩,h.hs.inj,h.hs.ko,h.hs.kr,fun i cs D G=>?_,fun i ar D G=>?_,h.hs.pin⟩,h.dfr,h.n,fun k v p=>?_⟩,
  ⟨P.trans h.hs.below.os,Q.trans h.hs.below.tape,R.trans h.hs.below.output,oR h.hs.below.size m,fun k t S F=>(I k (nx t h.hs.below.size) F).trans (h.hs.below.block k t S),fun g c=>?_,rfl⟩⟩
 ·rcases f with f|f
  ·exact⟨nx (h.hs.old b f).1 (oR h.hs.below.size m),fun⟨id,o⟩=>h.hs.sep f o⟩
  ·exact⟨(n b f).2,fun⟨id,o⟩=>by have:=(n b f).1;have:=(h.hs.own id b o).2;omega⟩
 ·obtain⟨g,T,vs,u,z,A⟩:=h.hs.objs i cs D G;exact⟨g,T,vs,u,(q (id:=i) (by rw[u];rfl)).trans z,A.mono m B t (fun _ _ h=>h)⟩
 ·obtain⟨v',xs,u,z,A,M,N⟩:=h.hs.arrs i ar D G;refine⟨v',xs,u,fS z (fun g c=>q (id:=i) (by rw[u];exact c)),A,M,fun j e U K L p=>?_⟩;obtain⟨y,X,H⟩:=N j e U K L p;exact⟨y,X,H.mono m B t (fun _ h=>h) (fun r O=>q (id:=nm i (j*ar.sz+K)) (by rw[O];rfl)) (fun h=>h)⟩
 ·obtain⟨x,W,V⟩:=h.tmp k v p;exact⟨x,W,V.mono m B t (fun _ _ h=>h)⟩
 ·rcases c with c|⟨id,c⟩
  ·exact .inl (oR (oR h.hs.below.size m) c)
  ·exact(h.hs.own id g c).1
theorem HS.NF{M l E:Nat→Prop}{b b':az}{w:World}{ι:Env}{s:AS}(h:HS l b' w ι s)(a:fD E b b')(F:∀k,E k→k<b.w.heap.size→w.heap[k]?=b.w.heap[k]?)(x:∀k,M k→l k∧k<b.w.heap.size∧¬ b.G k):HS M b w ι s:=by
 have z:∀b,b<w.heap.size→NN M ι b→NN l ι b:=fun b _ H=>H.elim (fun h=>.inl (x b h).1) .inr;refine⟨⟨h.below.os.trans a.os,h.below.tape.trans a.tape,h.below.output.trans a.output,oR a.size h.below.size,fun k d G=>?_⟩,fun k d=>(x k d).2,h.use,fun id g c=>⟨a.O g (h.own id g c).1,(h.own id g c).2⟩,h.inj,h.ko,h.kr,fun i cs r f=>?_,fun i ar r f=>?_,fun i v f=>h.pin i v (by rw[a.pv];grind)⟩
 ·have J:¬ b'.G k:=fun p=>by
   rcases a.O k (.inr p)with D|D
   ·grind
   grind
  exact Classical.byCases (fun q:E k=>F k q d) (fun q=>(h.below.block k (nx d a.size) J).trans (a.block k d G q))
 ·obtain⟨g,T,vs,m,n,o⟩:=h.objs i cs r f;exact⟨g,T,vs,m,n,o.mono (by omega) z (fun _ _ _=>rfl) (fun _ _ h=>h)⟩
 ·obtain⟨v',xs,m,n,o,B,C⟩:=h.arrs i ar r f;refine⟨v',xs,m,n,o,B,fun j e I L A t=>?_⟩;obtain⟨y,K,u⟩:=C j e I L A t;exact⟨y,K,u.mono (by omega) z (fun _ _ _=>rfl) (fun _ h=>h) (fun _ _=>rfl) (fun h=>h)⟩
theorem HS.WI{M a E}{b b'}{w}{ι}{s}(h:HS a b' w ι s)(d:fD E b b')(f:∀k,E k→b.w.heap.size≤k)(c:∀k,M k→a k∧k<b.w.heap.size∧¬ b.G k):HS M b w ι s:=h.NF d (fun k g e=>absurd e (by grind)) c
def iA(v:AV)(x:Value):Prop:=∀N w ι,Rel N w ι v x
def zu(P:Program)(f:FuncId)(args:b6)(R:World→World→AV→Prop):Prop :=
 ∀M w xs,(∀b,M b→b<w.heap.size)→uc M w args xs →
  Calls P f xs w fun e w'=>∃x v,e=.returned x∧Below w.heap.size w w'∧R w w' v∧iA v x
def q8(P:Program)(f:FuncId)(args:b6)(E:Nat→Prop)(Φ:World→Prop)(V:AV)(R:World→Prop):Prop :=
 ∀(M:Nat→Prop) w xs,(∀b,M b→b<w.heap.size∧¬ E b)→(∀b,E b→b<w.heap.size)→Φ w→uc (fun b=>M b∨E b) w args xs →
  Calls P f xs w fun e w'=>∃x,e=.returned x∧w'.os=w.os∧w'.tape=w.tape∧w'.output=w.output∧w.heap.size≤w'.heap.size∧(∀k,k<w.heap.size→¬ E k→w'.heap[k]?=w.heap[k]?)∧R w'∧iA V x
theorem MB{b}{s}{a}{w}{ι}(e:aI b s a w ι){o}{g}{args}(c:eG s o=some (g,args))(d:cN b.P g=true):
  ∃xs,(execOp a.eval o).run b.P w=.ok (.enter g xs) w∧uc (NN b.M ι) w args xs:=by
 unfold eG at c;split at c
 ·grind[ld,xn]
 grind
section
variable{d:Cx}{Q:Exit→Act→World→Prop}{l:ck}{s:AS}{j:Array Oper}{f:Func}{p:d4}{i:Nat}
theorem VO{g}{args}{R}(B:zu d.P g args R)
  (k:∀v w b',R w b'.w v→(∀k,d.M k→k<d.w0.w.heap.size∧¬ d.w0.G k)→d.w0.w.heap.size≤w.heap.size→(∀k,b'.G k→k<w.heap.size)→fD (fun _=>False) d.w0 b'→∃E:Nat→Prop,(∀k,E k→w.heap.size≤k∧k<b'.w.heap.size)∧OT ⟨d.P,d.n,fun c=>d.M c∨E c,b'⟩ Q l j (aJ f p (i+1)) (s.put (aL f p i).dst v))
  (F:aJ f p i=aL f p i::aJ f p (i+1):=by kernel_rfl) (D:cv j s (aL f p i)=true:=by kernel_rfl) (r:cN d.P g=true:=by kernel_rfl)
  (u:eG s { aL f p i with guard:=none }=some (g,args):=by kernel_rfl) (C:cQ d.n (aL f p i).dst=true:=by kernel_rfl):OT d Q l j (aJ f p i) s:=by
 rw[F];refine eL _ D fun a w ι o=>?_;refine v9 rfl fun K z=>?_;refine dK ?_;obtain⟨xs,t,H⟩:=MB o u r;rw[t,iL];refine (B (NN d.M ι) w xs (fun b m=>mq o.hs m) H).mono ?_
 rintro e w' ⟨x,v,rfl,m,A,G⟩
 obtain⟨E,y,n⟩:=k v w (iC d.w0 ι w') A o.hs.old o.hs.below.size (fun k ⟨id,n⟩=>(o.hs.own id k n).2) (o.step (E':=fun _=>False) m.os m.tape m.output m.size (fun _ h=>h.elim) (fun k n _=>m.block k n) (fun _ h=>h.elim)).2;have q:=(o.step (E:=fun _=>False) (E':=E) m.os m.tape m.output m.size (fun _ h=>h.elim) (fun k n _=>m.block k n) y).1;exact z _ _ (n _ _ _ (q.put (ge C) (G _ _ _)))
theorem WG{g:FuncId}{args:b6}{E:Nat→Prop}{Φ R:World→Prop}{V:AV}(A:q8 d.P g args E Φ V R){o:Oper}{a:Act}{w:World}{ι:Env}(c:aI d s a w ι)(u:eG s o=some (g,args))(n:cN d.P g=true)(B:cQ d.n o.dst=true)
  (l:∀k,E k→d.M k) (I:∀w,d.w0.w.heap.size≤w.heap.size→(∀k,E k→w.heap[k]?=d.w0.w.heap[k]?)→Φ w) {Kn:Act→World→Prop} {t:Exit→Act→World→Prop}
  (k:∀b' x w',fD E d.w0 b'→R b'.w→b'=iC d.w0 ι w'→aI ⟨d.P,d.n,d.M,b'⟩ (s.put o.dst V) (a.put o.dst x) w' ι→Kn (a.put o.dst x) w'):o.wpIn FF 0 d.P a w Kn t:=by
 refine dK ?_;obtain⟨xs,q,r⟩:=MB c u n;rw[q,iL];have p:∀k,E k→k<w.heap.size:=fun k m=>nx (c.hs.old k (l k m)).1 c.hs.below.size;refine (A (fun b=>NN d.M ι b∧¬ E b) w xs (fun b f=>⟨mq c.hs f.1,f.2⟩) p (I w c.hs.below.size (fun k m=>c.hs.below.block k (c.hs.old k (l k m)).1 (c.hs.old k (l k m)).2)) ⟨r.1,fun i v y G H=>(r.2 i v y G H).mono (h7 _) (fun b _ f=>?_) (fun _ _ _=>rfl) (fun _ _ h=>h)⟩).mono ?_
 ·rcases f with f|f
  ·exact f.1
  ·exact .inl (l b f)
 rintro e w' ⟨x,rfl,J,K,L,M,N,z,F⟩
 obtain⟨j,D⟩:=c.step (E:=E) (E':=fun _=>False) J K L M l N (fun _ h=>h.elim);refine k (iC d.w0 ι w') x w' D z rfl ?_;have C:(fun k=>d.M k∨False)=d.M:=by funext k;simp
 rw[C]at j;exact j.put (ge B) (F _ _ _)
theorem act{g}{args}{E}{Φ R}{V}(q:q8 d.P g args E Φ V R)(n:∀k,E k→d.M k)(v:∀w,d.w0.w.heap.size≤w.heap.size→(∀k,E k→w.heap[k]?=d.w0.w.heap[k]?)→Φ w)
  (k:∀b',fD E d.w0 b'→R b'.w→(∀k,d.M k→k<d.w0.w.heap.size∧¬ d.w0.G k)→OT ⟨d.P,d.n,d.M,b'⟩ Q l j (aJ f p (i+1)) (s.put (aL f p i).dst V))
  (u:aJ f p i=aL f p i::aJ f p (i+1):=by kernel_rfl) (t:cv j s (aL f p i)=true:=by kernel_rfl) (c:cN d.P g=true:=by kernel_rfl)
  (b:eG s { aL f p i with guard:=none }=some (g,args):=by kernel_rfl) (r:cQ d.n (aL f p i).dst=true:=by kernel_rfl):OT d Q l j (aJ f p i) s:=by
 rw[u];refine eL _ t fun a w ι e=>?_;refine v9 rfl fun K o=>?_;exact WG q e b c r n v (fun b' x w' b h _ m=>o _ _ (k b' b h e.hs.old _ _ _ m))
end
theorem mN{c}{fn}{s}{f}{l}(h:gz c.P s fn.results.toList=some l)(j:∀w ι x,HS c.M c.w0 w ι s→Rel (NN c.M ι) w ι (oe l) x→f (.returned x) w):VE (fm:=fm0) c (bodyPost c.P fn f) [] .ret s:=fun a w ι b=>by
 letI:FM:=fm0
 obtain⟨vs,g,e,d⟩:=yW b h;refine⟨b.dfr,_,IV g,j w ι _ b.hs ?_⟩
 match l,vs,e,d with
 | [],[],_,d=>exact .tup _ _ _ rfl (fun i x v k _=>by grind)
 | [v],[y],_,d=>exact d 0 v y rfl rfl
 | v::u::r,y::z::q,e,d=>exact .tup _ _ _ e d
theorem acH{P:Program}{f:FuncId}{fn:Func}{c:Code}{args:b6}{R:World→World→AV→Prop}(r:P.funcs[f]?=some fn)(d:fn.body=some c)(n:Nat)(A:fn.ntmps=n)(z:args.length≤n)
  (h:∀M w,VE (fm:=fm0) ⟨P,n,M,gC w⟩ (bodyPost P fn (fun e w'=>∃x v,e=.returned x∧Below w.heap.size w w'∧R w w' v∧iA v x)) [.c c] .normal ⟨idxs 0 args,[],[],[]⟩):zu P f args R:=by
 intro M w xs q p;refine amy r d ?_;refine rQ (h M w { tmps:=xs++Array.replicate (fn.ntmps-xs.size) undef,defers:=[] } w bA ?_) (fun e a w' s=>?_)
 ·refine @aI.mk fm0 _ _ _ _ _ ⟨⟨rfl,rfl,rfl,h7 _,fun _ _ _=>rfl⟩,fun b d=>⟨q b d,fun h=>h⟩,fun i y u=>(by cases u),fun i g m=>(by cases m),fun i B g m=>(by cases m),fun i cs j=>(by cases j),fun i a j=>(by cases j),fun i cs j=>(by cases j),fun i a j=>(by cases j),fun i v t=>(by cases t)⟩ rfl ?_ (fun k v o=>?_)
  ·have:=p.1;simp;omega
  ·rw[nM,iF (n3 _),aiE]at o;have l:k<xs.size:=by rw[←p.1];exact(g7.1 o).1
   refine⟨xs[k],?_,(p.2 k v _ o (h8 l)).mono (h7 _) (fun b _ d=>?_) (fun _ _ _=>rfl) (fun _ _ h=>h)⟩
   ·simp only[];rw[An l,h8 l]
   ·rcases d with d|⟨id,d⟩
    ·exact d
    ·cases d
 ·cases e<;>exact s
theorem aiS{P:Program}{f:FuncId}{fn:Func}{c:Code}{args args':b6}{E:Nat→Prop}{Φ R:World→Prop}{V:AV}{id0:Nat}{v0:Value}{ar:bZ}(Y:P.funcs[f]?=some fn)(d:fn.body=some c)(n:Nat)(hn:fn.ntmps=n)(hl:args.length≤n)(L:args'.length=args.length)
  (D:∀g,bg (some v0)=some g→E g)
  (m:∀w,Φ w→∃F,w.ownsRow 0 ar.e ar.sz v0 ar.l.length F∧(∀e∈ar.l,e.length=ar.sz)∧(∀x∈F,x.oneCell'=true)∧∀(j:Nat) (e:b6),ar.l[j]?=some e→∀(i:Nat) (c:AV),e[i]?=some c→∃x,F[j*ar.sz+i]?=some x∧iA c x)
  (z:∀(N:Nat→Prop) (w:World) (i:Nat) (a b:AV) (x:Value),args[i]?=some a→args'[i]?=some b→Rel N w bA a x→Rel N w (ext bA id0 v0) b x)
  (h:∀M w,(∀g,E g→bg (some v0)≠some g→M g)→Φ w→VE (fm:=fm0) ⟨P,n,M,nC w id0 v0⟩ (bodyPost P fn (fun e w'=>∃x,e=.returned x∧w'.os=w.os∧w'.tape=w.tape∧w'.output=w.output∧w.heap.size≤w'.heap.size∧(∀k,k<w.heap.size→¬ E k→w'.heap[k]?=w.heap[k]?)∧R w'∧iA V x)) [.c c] .normal ⟨idxs 0 args',[],[(id0,ar)],[id0,cS id0]⟩):q8 P f args E Φ V R:=by
 intro M w xs Q W S u;obtain⟨F,m,B,C,I⟩:=m w S;refine amy Y d ?_;have T:∀i y,ext bA id0 v0 i=some y→i=id0∧y=v0:=fun i y t=>by
  by_cases e:i=id0
  ·subst e;rw[cH]at t;injection t with t;exact⟨rfl,t.symm⟩
  ·rw[bR _ _ e]at t;cases t
 have o:∀i g,bg (ext bA id0 v0 i)=some g→i=id0∧bg (some v0)=some g:=fun i g p=>by
  cases A:ext bA id0 v0 i with
  | none=>rw[A]at p;cases p
  | some y=>obtain⟨G,H⟩:=T i y A;rw[A,H]at p;exact⟨G,p⟩
 have O:args'.length=xs.size:=by rw[L];exact u.1
 refine rQ (h (fun b=>M b∨(E b∧bg (some v0)≠some b)) w (fun g G H=>.inr ⟨G,H⟩) S { tmps:=xs++Array.replicate (fn.ntmps-xs.size) undef,defers:=[] } w (ext bA id0 v0) ?_) (fun e a w' Z=>?_)
 ·refine @aI.mk fm0 _ _ _ _ _ ⟨⟨rfl,rfl,rfl,h7 _,fun _ _ _=>rfl⟩,fun b d=>?_,fun i y t=>?_,fun i g p=>⟨.inr (o i g p).2,JE m (o i g p).2⟩,fun i i' g p J=>(o i g p).1.trans (o i' g J).1.symm,fun i cs l=>(by cases l),fun i a l=>?_,fun i cs l=>(by cases l),fun i a l hp=>?_,fun i v hv=>?_⟩ rfl ?_ (fun k v K=>?_)
  ·rcases d with d|d
   ·exact⟨(Q b d).1,fun p=>(Q b d).2 (D b p)⟩
   ·exact⟨W b d.1,d.2⟩
  ·rw[(T i y t).1];exact fJ (by simp)
  ·simp only[look]at l;split at l
   ·rename_i e;subst e;exact fJ (by simp)
   ·cases l
  ·simp only[look]at l;split at l
   ·rename_i e;subst e;injection l with l;subst l
    exact⟨v0,F,cH _ _ _,m,B,C,fun j e A k c X=>by obtain⟨x,u,hr⟩:=I j e A k c X;exact⟨x,u,.inl (hr _ _ _)⟩⟩
   ·cases l
  ·have q:(if i=id0 then some v0 else none)=some v:=hv;split at q
   ·rename_i e;subst e;injection q with q;subst q
    exact⟨cH _ _ _,by simp⟩
   ·cases q
  ·have:=u.1;simp;omega
  ·rw[nM,iF (n3 _),aiE]at K;have r:k<xs.size:=by rw[←O];exact(g7.1 K).1
   have s:k<args.length:=by rw[u.1];exact r
   refine⟨xs[k],?_,?_⟩
   ·simp only[];rw[An r,h8 r]
   ·have U:=z _ w k _ v _ (h6 s) K (u.2 k _ _ (h6 s) (h8 r));refine U.mono (h7 _) (fun b _ d=>?_) (fun _ _ _=>rfl) (fun _ _ h=>h);rcases d with (d|d)|⟨id,d⟩
    ·exact .inl d
    ·exact .inr d.1
    ·exact .inr (D b (o id b d).2)
 ·cases e<;>exact Z
section
variable{d:Cx}{ops:Array Oper}{c:List Tag}{σ g:Nat→AS}{l f:AS}
theorem db.acj{R:Exit→Act→World→Prop}(V:Stat ops c 0)(X:lX d.P d.n l ops c 0 σ){z:Nat}(U:c.length=z)(G:z+1≤ops.size)(m:px ops (z+1)=true)(P:∀(o:Oper),ops[z]?=some o→∀j∈c7 o,j<z)(S:∀a w ι,aI d (σ 0) a w ι→wpListIn FF 0 d.P ops R (ops.toList.drop (z+1)) a w):
  ∀(g:Nat) (listed:Array Bool) (a:Act) (w:World) (k:Nat) (ι:Env),i8 listed=g→listed[z]?=some true→(∀i,z+1≤i→listed[i]?≠some true)→db d ops c 0 σ listed a w k ι→wpAnyIn FF 0 d.P .any ops R g listed a w:=by
 have p:∀(n:Nat) (o:Oper),n<z+1→ops[n]?=some o→∀j∈c7 o,j<n:=fun n o hn x=>by
  by_cases e:n=z
  ·subst e;exact P o x
  ·exact V.lex n _ _ x (h6 (by rw[U];omega))
 have C:∀(listed:Array Bool) (a:Act) (w:World) (k:Nat) (ι:Env),db d ops c 0 σ listed a w k ι→(∀i,i<z+1→listed[i]?=some true)→aI d (σ 0) a w ι:=by
  intro listed a w k ι h f;have hk:k=0:=by have:=h.kK;omega
  subst hk;exact⟨h.hs,h.dfr,h.n,fun t v hv=>h.tmp t v hv (fun i o tg _ O _ _=>f i (by have:=(g7.1 O).1;omega))⟩
 intro g
 induction g with
 | zero =>
  intro listed a w k ι I B u h;have f:∀i,i<z+1→listed[i]?=some true:=fun i A=>tP I i (by rw[h.sz];omega);exact EC m p 0 listed a w (z+1) I (h7 _) G h.sz (fun i A=>⟨fun y=>In fun D=>u i (by omega) y,f i⟩) (S a w ι (C listed a w k ι h f))
 | succ g ih =>
  intro listed a w k ι I B u h;by_cases f:∀i,i<z+1→listed[i]?=some true
  ·exact EC m p (g+1) listed a w (z+1) I (h7 _) G h.sz (fun i A=>⟨fun y=>In fun D=>u i (by omega) y,f i⟩) (S a w ι (C listed a w k ι h f))
  ·refine⟨fun hr=>?_,fun i A=>?_⟩
   ·exfalso;apply f;intro i
    induction i using Nat.strongRecOn with
    | _ i Q =>
     intro A;have x:=h8 (xs:=ops) (show i<ops.size by omega);cases E:listed[i]? with
     | none=>rw[ah6,h.sz]at E;omega
     | some b =>
      cases b with
      | true=>rfl
      | false =>
       exfalso;have J:i∈Region.ready .any ops listed:=by
        unfold Region.ready;simp only[ald,T4,g6,BY];refine⟨by omega,by rw[qk,E];rfl,?_⟩;rw[x];simp only[If,DO,OR,zt,BY];intro e Z;by_cases H:Region.binds .any e=true
        ·right;have N:e.on∈c7 ops[i]:=qt.2 ⟨e,Z,H,rfl⟩;have F:=p i _ A x e.on N;rw[qk,Q e.on F (by omega)];rfl
        ·left;simpa using H
       rw[hr]at J;cases J
   ·obtain⟨s,o,x,K⟩:=lP A;have L:i<ops.size:=(lc.1 x).1;have r:i<listed.size:=by rw[h.sz];exact L
    have hf:listed[i]?=some false:=by
     rw[h8 r]at s⊢;cases H:listed[i] with
     | true=>rw[H]at s;exact(s rfl).elim
     | false=>rfl
    have a0:=tA hf;have M:i<z:=by
     refine In fun D=>f fun q T=>?_;have b0:i≠z:=fun e=>by subst e;exact s B
     obtain⟨_,Y⟩:=tO m (by omega) x;exact ve h.cl i _ (fun j N=>K j N) q (Y q (by omega))
    refine h.one V X (by rw[U];exact M) A (fun W w' k' ι' J=>ih _ W w' k' ι' (by omega) ((dS r).2 (.inr B)) (fun q T y=>?_) J);rcases (dS r).1 y with e|y
    ·omega
    ·exact u q T y
theorem db.alE{M:Exit→Act→World→Prop}(V:Stat ops c 0)(X:lX d.P d.n l ops c 0 σ){z:Nat}{D:Oper}(S:c.length=z)(T:z+1≤ops.size)(t:px ops (z+1)=true)(x:ops[z]?=some D)(K:∀j∈c7 D,j<z)(O:D.guard=none)
  (J:∀(listed:Array Bool) (a:Act) (w:World) (ι:Env),db d ops c 0 σ listed a w 0 ι→listed[z]?≠some true→(∀j∈c7 D,listed[j]?=some true)→∀(Kn:Act→World→Prop),(∀n g f B w',lX n.P n.n f ops c 0 g→db n ops c 0 g (listed.setIfInBounds z true) B w' 0 ι→(∀a w ι,aI n (g 0) a w ι→wpListIn FF 0 n.P ops M (ops.toList.drop (z+1)) a w)→n.P=d.P→Kn B w')→D.wpIn FF 0 d.P a w Kn M) :
  ∀(m:Nat) (listed:Array Bool) (a:Act) (w:World) (k:Nat) (ι:Env),i8 listed=m→(∀i,z≤i→listed[i]?≠some true)→db d ops c 0 σ listed a w k ι→wpAnyIn FF 0 d.P .any ops M m listed a w:=by
 intro m
 induction m with
 | zero =>
  intro listed a w k ι W r h;exact absurd (tP W z (by rw[h.sz];omega)) (r z (h7 _))
 | succ m ih =>
  intro listed a w k ι W r h;refine⟨fun hr=>?_,fun i P=>?_⟩
  ·exfalso;have key:∀i,i<z+1→listed[i]?=some true:=by
    intro i
    induction i using Nat.strongRecOn with
    | _ i U =>
     intro P;have s:=h8 (xs:=ops) (show i<ops.size by omega);cases H:listed[i]? with
     | none=>rw[ah6,h.sz]at H;omega
     | some b =>
      cases b with
      | true=>rfl
      | false =>
       exfalso;have C:i∈Region.ready .any ops listed:=by
        unfold Region.ready;simp only[ald,T4,g6,BY];refine⟨by omega,by rw[qk,H];rfl,?_⟩;rw[s];simp only[If,DO,OR,zt,BY];intro e he;by_cases L:Region.binds .any e=true
        ·right;have G:e.on∈c7 ops[i]:=qt.2 ⟨e,he,L,rfl⟩;have I:e.on<i:=by
          by_cases A:i<z
          ·exact V.lex i _ _ s (h6 (by rw[S];exact A)) e.on G
          ·have:i=z:=by omega
           subst this;rw[x]at s;injection s with s
           rw[←s]at G;exact K _ G
         rw[qk,U e.on I (by omega)];rfl
        ·left;simpa using L
       rw[hr]at C;cases C
   exact r z (h7 _) (key z (by omega))
  ·obtain⟨u,o,s,E⟩:=lP P;have Q:i<ops.size:=(lc.1 s).1;have p:i<listed.size:=by rw[h.sz];exact Q
   have hf:listed[i]?=some false:=by
    rw[h8 p]at u⊢;cases L:listed[i] with
    | true=>rw[L]at u;exact(u rfl).elim
    | false=>rfl
   have b0:=tA hf;by_cases A:i=z
   ·subst A;rw[x]at s;injection s with s;subst s
    have hk:k=0:=by have:=h.kK;omega
    subst hk;unfold wpOpIn;simp only[x];have hw:Region.wanted D (yielded ops a.tmps)=true:=by simp[Region.wanted,O]
    rw[iF hw];refine (J listed a w ι h u E _ fun n g f B w' N C R Z=>?_);have:=db.acj V N S T t (fun o' v=>by rw[x]at v;injection v with v;subst v;exact K) R m _ B w' 0 ι (by omega) ((dS p).2 (.inl rfl)) (fun q c0 y=>by
     rcases (dS p).1 y with e|y
     ·omega
     ·exact r q (by omega) y) C
    rw[Z]at this;exact this
   ·have F:i<z:=by
     refine In fun a0=>?_;obtain⟨_,Y⟩:=tO t (by omega) s;exact r z (h7 _) (ve h.cl i _ (fun j G=>E j G) z (Y z (by omega)))
    refine h.one V X (by rw[S];exact F) P (fun B w' k' ι' C=>ih _ B w' k' ι' (by omega) (fun q R y=>?_) C);rcases (dS p).1 y with e|y
    ·omega
    ·exact r q R y
end
theorem U6{α:Type}:∀(m l l':List (Nat×α)) (k:Nat),(∃p∈m,p.1=k)→look k (ij m l)=look k (ij m l')
 | [],l,l',k,⟨p,a,_⟩=>by cases a
 | (j,x)::r,l,l',k,⟨p,a,e⟩=>by
  by_cases h:∃q∈r,q.1=k
  ·exact U6 r _ _ k h
  ·rcases l3.1 a with rfl|a
   ·have key:∀(r l:List (Nat×α)),(¬ ∃q∈r,q.1=k)→look k (ij r l)=look k l:=by
     intro r
     induction r with
     | nil=>intro l _;rfl
     | cons q r i =>
      intro l b;obtain⟨c,d⟩:=q;show look k (ij r (bj c d l))=_;rw[i _ (fun⟨n,f,g⟩=>b ⟨n,nw _ f,g⟩),cp,io (fun e'=>b ⟨(c,d),pe,e'.symm⟩)]
    grind[look,ij,bj,cp]
   grind
theorem aaO{s:AS}{o:Oper}(t:List ee)(d:∀x∈o.op.operands.toList,(s.tt t).ev x=s.ev x):eG (s.tt t) o=eG s o:=by
 unfold eG;cases b:o.op with
 | call c =>
  simp only;cases a:c.callee with
  | value e =>
   simp only;have f:=d e (by simp[b,Op.operands,Call.operands,a]);have g:dA (s.tt t) c.args.toList=dA s c.args.toList:=pY (fun x h=>d x (by simp[b,Op.operands,Call.operands,a];exact .inr (Dz.1 h)));rw[f,g]
  | _=>rfl
 | _=>rfl
theorem IY{α}{k}:∀(r l:List (Nat×α)),(¬ ∃q∈r,q.1=k)→look k (ij r l)=look k l
 | [],l,_=>rfl
 | (b,c)::r,l,a=>by
  show look k (ij r (bj b c l))=_;rw[IY r _ (fun⟨f,d,e⟩=>a ⟨f,nw _ d,e⟩),cp,io (fun e'=>a ⟨(b,c),pe,e'.symm⟩)]
def E3(o:Oper):d4:=o.op.operands.toList.filterMap fun x=>match x with|.tmp t=>some t|_=>none
def WM(ops:Array Oper)(z d:Nat):Bool:=match ops[z]? with
 | some a=>(match a.dst with|some b=>Nat.beq b d|none=>false)&&((match a.guard with|none=>true|some _=>false)&&((List.range z).all fun j=>match ops[j]? with
  | some c=>(match c.dst with|some t=>(match Nat.beq t d with|true=>false|false=>true)&&(match (E3 a).contains t with|true=>(c7 a).contains j|false=>true)|none=>true)
  | none=>false))
 | none=>false
theorem als{l:Cx}{Q:Exit→Act→World→Prop}{ks:ck}{f:Func}{p:d4}{A:AS}{c:List Tag}(z d:Nat)(u:List ee){g:FuncId}{args:b6}{E:Nat→Prop}{Φ R:World→Prop}{V:AV}(q0:q8 l.P g args E Φ V R)
  (hE:∀k,E k→l.M k) (hΦ:∀w,l.w0.w.heap.size≤w.heap.size→(∀k,E k→w.heap[k]?=l.w0.w.heap[k]?)→Φ w)
  (U:fe l.P l.n A (dr f p) c 0 [ir A u [] []] (aJ f p 0) c) (K:fe l.P l.n (A.put (some d) V) (dr f p) c 0 [ir (A.put (some d) V) u [] []] (aJ f p 0) c)
  (h:∀b',fD E l.w0 b'→R b'.w→(∀k,l.M k→k<l.w0.w.heap.size∧¬ l.w0.G k)→OT ⟨l.P,l.n,l.M,b'⟩ Q ks (dr f p) (aJ f p (z+1)) (ir (A.put (some d) V) u [] []))
  (v0:cQ l.n (some d)=true:=by kernel_rfl) (r0:cN l.P g=true:=by kernel_rfl) (h1:eG (ir A u [] []) (aL f p z)=some (g,args):=by kernel_rfl)
  (C:WM (dr f p) z d=true:=by kernel_rfl) (hc:kV f p=true:=by kernel_rfl) (hm:l.P.follows .mixedOrders=true:=by kernel_rfl) (hs:uY (dr f p) c 0 z=true:=by kernel_rfl) (s:mu (aJ f p 0) c u=true:=by kernel_rfl)
  (hz:(Nat.ble (z+1) (dr f p).size&&(px (dr f p) (z+1)&&(c7 (aL f p z)).all fun j=>Nat.ble (j+1) z))=true:=by kernel_rfl):VE l Q (.c (cat f p)::ks) .normal A:=by
 have e0:aJ f p 0=(dr f p).toList:=by simp[aJ]
 have ez:aJ f p (z+1)=(dr f p).toList.drop (z+1):=rfl;have k0:∀y,(dr f p)[z]?=some y→aL f p z=y:=fun y G=>by
  unfold aL;obtain⟨y0,he⟩:=lc.1 G;rw[kp (by rw[yk];exact y0)];simp[he]
 rw[ez]at h;cases X:cat f p with
 | region id ops b =>
  cases b with
  | false=>unfold kV at hc;rw[X]at hc;cases hc
  | true =>
   have ho:dr f p=ops:=by unfold dr;rw[X];rfl
   rw[e0]at U K s;rw[ho]at U K s hs h hz C k0;simp only[g6]at hz;obtain⟨O,T0,m0⟩:=hz;have O:=hF O;unfold WM at C;split at C
   case h_2=>cases C
   rename_i y G;rw[k0 y G]at h1 m0;simp only[g6,ll,T4]at C;obtain⟨B,I,W⟩:=C;have B:y.dst=some d:=by
    split at B
    ·rename_i d' t0;rw[t0,iO B]
    ·cases B
   have I:y.guard=none:=by
    cases S:y.guard with
    | none=>rfl
    | some _=>rw[S]at I;cases I
   have a1:∀j∈c7 y,j<z:=fun j D=>hF (ll.1 m0 j D);have d0:∀j J t,j<z→ops[j]?=some J→J.dst=some t→t≠d∧(t∈E3 y→j∈c7 y):=fun j J t D m ht=>by
    have:=W j D;rw[m]at this;simp only[ht,g6]at this;refine⟨fun e=>?_,fun hm=>?_⟩
    ·rw[e]at this;rw[show Nat.beq d d=true from anq d]at this;cases this.1
    ·have T:=this.2;rw[show(E3 y).contains t=true by simpa using hm]at T;simpa using T
   intro a w ι l0;obtain⟨st,c0,_⟩:=AH hs rfl;have dy:=AR (P:=l.P) (n:=l.n) c 0 u [] [] [ir A u [] []] s rfl rfl rfl U;have x0:∀q∈u,∃(i:Nat) (o:Oper),i<z∧ops[i]?=some o∧o.dst=some q.1:=fun q S=>by
    obtain⟨i,o,tg,g1,g2,_,g4⟩:=KY s q S;exact⟨i,o,by have:=(g7.1 g2).1;omega,by simpa using g1,g4⟩
   refine amQ hm (db.alE st dy c0 O T0 G a1 I (fun listed a w ι r c1 Y Kn p0=>?_) ops.size _ a _ 0 ι (by simp[i8]) (fun q _ Z=>?_) (db.start st dy l0))
   case refine_2=>rw[age]at Z;split at Z<;>cases Z
   have F:z<listed.size:=by rw[r.sz];omega
   have F0:∀t,t∈E3 y→eZ ops c listed t=true:=fun t ht=>kJ.2 fun j J tj m S0 _ L=>by
    have D:j<z:=by have:=(g7.1 S0).1;omega
    exact Y j ((d0 j J t D m L).2 ht)
   have o0:eG (((nth [ir A u [] []]) 0).tt (cw (eZ ops c listed) ((nth [ir A u [] []]) 0).t)) y=some (g,args):=by
    rw[aaO _ (fun x hx=>?_)]
    ·exact h1
    ·cases x with
     | tmp t =>
      show look t (cw _ _)=look t _;rw[fb,iF (F0 t (am2.2 ⟨.tmp t,hx,rfl⟩))]
     | _=>rfl
   refine WG q0 r.O3 o0 r0 (by rw[B];exact v0) hE hΦ (fun b' x w' hG hR _ H=>?_);refine p0 ⟨l.P,l.n,l.M,b'⟩ (nth [ir (A.put (some d) V) u [] []]) _ _ _ (AR (P:=l.P) (n:=l.n) c 0 u [] [] [ir (A.put (some d) V) u [] []] s rfl rfl rfl K) ?_ (fun a w ι hs=>h b' hG hR r.hs.old a w ι hs) rfl;rw[B]at H⊢;refine⟨by simp[r.sz],fun j J m D j' a0=>?_,h7 _,fun j m' b0=>?_,H.hs.of_eq rfl rfl rfl,fun j J b1 d' m D A0 L f0=>?_,H.dfr,H.n,fun t v hv i0=>?_⟩
   ·rw[dS F]at D⊢;rcases D with rfl|D
    ·rw[G]at m;injection m with m;subst m;exact .inr (Y j' a0)
    ·exact .inr (r.cl j J m D j' a0)
   ·have w0:j<ops.size:=by have:=(g7.1 b0).1;omega
    have:=st.chain j _ m' (h8 w0) b0;omega
   ·exact r.al j J b1 d' m D A0 L (fun Z=>f0 ((dS F).2 (.inr Z)))
   ·have g0:(∀(i:Nat) (o:Oper) (tg:Tag),ops[i]?=some o→c[i]?=some tg→tg.fF=true→o.dst=some t→listed[i]?=some true):=fun i o tg h1 T U h4=>by
     have hi:i<z:=by have:=(g7.1 T).1;omega
     rcases (dS F).1 (i0 i o tg h1 T U h4)with e|e
     ·omega
     ·exact e
    have h0:=kJ.2 g0;have N:look t (ij u (bj d V A.t))=some v:=hv;refine H.tmp t v ?_;show look t (bj d V (cw (eZ ops c listed) (ij u A.t)))=some v;rw[cp,fb,iF h0];by_cases M:∃q∈u,q.1=t
    ·obtain⟨q,S,rfl⟩:=M;obtain⟨i,o,g1,g2,g3⟩:=x0 q S;rw[io (d0 i o q.1 g1 g2 g3).1,← U6 u _ _ q.1 ⟨q,S,rfl⟩];exact N
    ·rw[IY _ _ M,cp]at N;rw[IY _ _ M];exact N
 | _=>grind[kV]
end Go.Proofs.YtocgkfoifehcbaaGreat
namespace Go.Proofs.YtocgkfoifehcbaaGreat
set_option linter.all false
open Go.RowKit
variable[FM]
theorem HS.Ev{M:Nat→Prop}{w0:az}{w:World}{ι:Env}{s:AS}(h:HS M w0 w ι s){id g n c k:Nat}{ar:bZ}(f0:w0.pv id=none)(m0:id<TG)(Z:look id s.r=some ar)(E:ι id=some (.slice (some ⟨g,0,none⟩) n c))(O:k≤ar.l.length):
  HS M w0 w (rep ι id (.slice (some ⟨g,0,none⟩) k c)) { t:=dB id s.t,o:=eS id s.o,r:=bj id { ar with l:=ar.l.take k } s.r,u:=s.u }∧(∀b,NN M (rep ι id (.slice (some ⟨g,0,none⟩) k c)) b→NN M ι b):=by
 generalize Q:Value.slice (some ⟨g,0,none⟩) k c=v';have a0:bg (some v')=bg (ι id):=by rw[E,← Q];rfl
 have d:∀i,i≠id→rep ι id v' i=ι i:=fun i f=>qI _ _ f;have B:∀i,bg (rep ι id v' i)=bg (ι i):=fun i=>by
  by_cases e:i=id
  ·subst e;rw[lA,a0]
  ·rw[d i e]
 have R:∀b,NN M (rep ι id v') b→NN M ι b:=fun b m=>by
  rcases m with m|⟨i,m⟩
  ·exact .inl m
  ·exact .inr ⟨i,by rw[←B];exact m⟩
 have ho:∀k r,ι k=some (.map r)→rep ι id v' k=some (.map r):=fun k r O=>by
  rw[d];exact O;intro e;subst e;rw[E]at O;cases O
 refine⟨⟨h.below,h.old,fun i y U=>?_,fun i J c0=>h.own i J (by rw[←B];exact c0),fun i i' J K h2=>h.inj i i' J (by rw[←B];exact K) (by rw[←B];exact h2),fun i cs f=>?_,fun i a f=>?_,fun i cs f A=>?_,fun i a f A=>?_,fun i y A=>(by
  have e:i≠id:=fun e=>by subst e;rw[f0]at A;cases A
  exact⟨(d i e).trans (h.pin i y A).1,(h.pin i y A).2⟩)⟩,R⟩
 ·by_cases e:i=id
  ·subst e;exact h.use i _ E
  ·rw[d i e]at U;exact h.use i y U
 ·obtain⟨u,K,_⟩:=kv f;exact h.ko i u K
 ·simp only[cp]at f;by_cases e:i=id
  ·subst e;exact h.use i _ E
  ·rw[io e]at f;exact h.kr i a f
 ·obtain⟨u,K,rfl⟩:=kv f;have e:i≠id:=by
   rintro rfl
   obtain⟨J,T,vs,p,_,_⟩:=h.objs i u K (by rw[E];rfl);rw[E]at p;cases p
  rw[d i e]at A;obtain⟨J,T,vs,p,I,D⟩:=h.objs i u K A;refine⟨J,T,vs,(d i e).trans p,I,by rw[l4];exact D.len,D.one,fun j x v H P=>?_⟩;obtain⟨y,U,rfl⟩:=mi H;exact((D.rel j y v U P).cW d).mono (h7 _) (fun b _ m=>R b m) (fun _ _ _=>rfl) (fun _ _ h=>h)
 ·simp only[cp]at f;by_cases e:i=id
  ·subst e;rw[iF rfl]at f;injection f with f;subst f
   obtain⟨v,xs,p,I,D,X,Y⟩:=h.arrs i ar Z (by rw[E];rfl);rw[E]at p;injection p with p;subst p
   obtain⟨P,_⟩|⟨g1,i0,W,P,m,hg,k0,N,F,G⟩:=I.2
   ·cases P
   injection P with L hn b0
   injection L with L;injection L with L;subst L;subst b0
   have h0:k*ar.sz≤ar.l.length*ar.sz:=ye _ O;have o0:=I.1;have C:(ar.l.take k).length=k:=by rw[Dj];omega
   refine⟨v',xs.take (k*ar.sz),lA _ _ _,⟨?_,.inr ⟨g,c,W,?_,m,hg,?_,N,F,?_⟩⟩,fun e he=>D e (nk he),fun x H=>X x (nk H),fun j e hj q V S=>?_⟩
   ·simp only[C];rw[Dj];omega
   ·simp only[C];rw[←Q]
   ·simp only[C];omega
   ·simp only[C];rw[←G,List.take_take];congr 1;omega
   ·have z:(ar.l.take k)[j]?=some e:=hj;rw[u5]at z;split at z
    ·rename_i d0;obtain⟨x,H,hr⟩:=Y j e z q V S;have l0:q<ar.sz:=by rw[←D e (jt z)];exact(g7.1 S).1
     have e0:j*ar.sz+q<k*ar.sz:=by
      have:(j+1)*ar.sz≤k*ar.sz:=ye _ d0;rw[ac6,al4]at this;omega
     exact⟨x,by rw[u5,iF e0];exact H,.inl ((hr.flat (by omega)).mono (h7 _) (fun b _ m=>R b m) (fun _ _ _=>rfl) (fun _ _ h=>h))⟩
    ·cases z
  ·rw[io e]at f;rw[d i e]at A;obtain⟨v1,g0,p,I,D,X,Y⟩:=h.arrs i a f A;refine⟨v1,g0,(d i e).trans p,I,D,X,fun j el hj q V S=>?_⟩;obtain⟨x,H,hr⟩:=Y j el hj q V S;exact⟨x,H,hr.mono (h7 _) (fun b _ m=>R b m) (fun _ _ _=>rfl) (ho _) (fun _ _=>rfl) (fun h=>h)⟩
theorem aI.Ev{d}{s}{a}{w}{ι}(h:aI d s a w ι){id g n c k}{ar}(f:d.w0.pv id=none)(m:id<TG)(e:look id s.r=some ar)(F:ι id=some (.slice (some ⟨g,0,none⟩) n c))(B:k≤ar.l.length):
  aI d { t:=dB id s.t,o:=eS id s.o,r:=bj id { ar with l:=ar.l.take k } s.r,u:=s.u } a w (rep ι id (.slice (some ⟨g,0,none⟩) k c)):=by
 obtain⟨p,q⟩:=h.hs.Ev f m e F B;refine⟨p,h.dfr,h.n,fun j v A=>?_⟩;obtain⟨u,D,rfl⟩:=lJ A;obtain⟨x,E,C⟩:=h.tmp j u D;exact⟨x,E,(C.cW (fun i z=>qI _ _ z)).mono (by omega) (fun b _ y=>q b y) (fun _ _ _=>rfl) (fun _ _ h=>h)⟩
theorem Uh{α:Type}(xs:List α)(a b m:Nat)(c:a≤b)(d:b+m≤xs.length) j:(xs.take a++(xs.drop b).take m++xs.drop (a+m))[j]?=if j<a then xs[j]? else if j<a+m then xs[b+(j-a)]? else xs[j]?:=by
 grind
theorem B6{α:Type}(xs:List α) a b m(c:a≤b)(d:b+m≤xs.length):(xs.take a++(xs.drop b).take m++xs.drop (a+m)).length=xs.length:=by
 grind
section
variable{C:Cx}{Q:Exit→Act→World→Prop}{E:ck}{s:AS}{D:Array Oper}{f:Func}{p:d4}{i:Nat}{α:Type}
theorem afG{a:Act}{w:World}{ι:Env}(hs:aI C s a w ι){id:Nat}{et:TypeId}{sz m off d bytes:Nat}{l:f7}{T ty:TypeId}{X Y:Value}(i0:id<TG)(f0:C.w0.pv id=none)(hX:Rel (NN C.M ι) w ι (.sref id sz 0 m) X)(hY:Rel (NN C.M ι) w ι (.sref id sz off d) Y)
  (hr:look id s.r=some ⟨et,sz,l⟩) (H:iJ C.P T=some (et,sz,bytes)) (h1:1≤m) (h2:m≤off) (h3:off+d≤l.length) :
  ∃x w' ι',(Builtin.append_ #[T,T] ty #[X,Y]).run C.P w=.ok x w'∧Rel (NN C.M ι') w' ι' (.ref id) x ∧
   aI C { t:=dB id s.t,o:=eS id s.o,r:=bj id ⟨et,sz,l.take m++(l.drop off).take d⟩ s.r,u:=s.u } a w' ι':=by
 obtain⟨e,O,z,S,U,v0,w0,g1⟩:∃e O z,C.P.underlying T=some (.slice e)∧C.P.info? e=some O∧e=et∧O.size=sz∧z=():=by
  unfold iJ at H;split at H
  ·rename_i e hu;split at H
   ·rename_i O p0;split at H
    ·split at H
     ·injection H with H;injection H with e1 H;injection H with e2 e3
      exact⟨e,O,(),hu,p0,e1,e2,rfl⟩
     ·cases H
    ·cases H
   ·cases H
  ·cases H
 subst v0;subst w0;cases hX with
 | sref _ _ _ _ _ n c c' A B V hB =>
  rcases hB with hB|⟨g,rfl,rfl,e0,K⟩
  ·omega
  rw[aix]at K;subst K;simp only[Nat.zero_mul]at *;obtain⟨v,xs,e1,e2,e3,e4,e5⟩:=hs.hs.arrs id _ hr (by rw[V];rfl);rw[V]at e1;injection e1 with e1;subst e1
  obtain⟨hv,_⟩|⟨g',T0,f,hv,hb,hg,d0,A0,J,y⟩:=e2.2
  ·cases hv
  injection hv with hA hn K
  injection hA with hA;injection hA with hA;subst hA;subst K
  simp only at hn d0 J y e3 e5;have k0:xs.length=l.length*O.size:=e2.1;by_cases s0:d=0
  ·-- nothing is behind
   subst s0;have G:(Builtin.append_ #[T,T] ty #[.slice (some ⟨g,0,none⟩) m c',Y]).run C.P w=.ok (.slice (some ⟨g,0,none⟩) m c') w:=by
    have y0:∀a:Addr,(loadCells a 0).run C.P w=.ok #[] w:=fun a=>by simp[loadCells,loadCellsFrom]
    cases hY with
    | sref _ _ _ _ _ n2 c2 c3 A2 B2 _ _ =>
     cases B2 with
     | none=>simp[Builtin.append_,ls S,sizeOf,typeInfo,U,Builtin.lenOf,Builtin.firstCells,e0,storeCells]
     | some b=>simp[Builtin.append_,ls S,sizeOf,typeInfo,U,Builtin.lenOf,Builtin.firstCells,y0,e0,storeCells]
   have hl:(l.take m++(l.drop off).take 0)=l.take m:=by simp
   rw[hl];refine⟨_,w,_,G,.ref _ _ _ _ _ (lA _ _ _),hs.Ev (k:=m) f0 i0 hr V (by show m≤l.length;omega)⟩
  ·cases hY with
   | sref _ _ _ _ _ n2 c2 c3 A2 B2 L a0 =>
    rw[V]at L;injection L with L;injection L with Z q2 q3;subst Z;subst q2;subst q3
    rcases a0 with a0|⟨g2,Z,rfl,S0,_⟩
    ·omega
    injection Z with Z;injection Z with Z;subst Z
    generalize hz:O.size=sz at *;have i:∀p q:Nat,p≤q→p*sz≤q*sz:=fun p q h=>ye _ h;have d1:(m+d)*sz=m*sz+d*sz:=ac6 _ _ _;have f1:(off+d)*sz=off*sz+d*sz:=ac6 _ _ _;have i1:=i m off h2;have i2:=i (off+d) l.length h3;have i3:=i l.length c' d0;have R:((xs.drop (off*sz)).take (d*sz)).length=d*sz:=by rw[Dj,ah0];omega
    have x0:∀j,j<l.length*sz→f[j]?=xs[j]?:=fun j E=>by
     rw[←y,u5,iF E,aas]
    have G:=run_append_room (P:=C.P) w T ty e O S U g m c' f hg ⟨g,off*sz,none⟩ d c3 ((xs.drop (off*sz)).take (d*sz)) (by rw[hz];exact R) (fun j u E=>by
      rw[af0,amm _ _ _ _ e (0,0) hg];rw[u5]at E;split at E
      ·rename_i c1;rw[Qf]at E;rw[x0 _ (by omega)];exact E
      ·cases E) (fun u hu=>e4 u (tl (nk hu))) (by omega) (by rw[hz,R];omega)
    rw[hz,R]at G;have N:=hs.hs.SZ (l':=l.take m++(l.drop off).take d++l.drop (m+d)) (xs':=xs.take (m*sz)++(xs.drop (off*sz)).take (d*sz)++xs.drop (m*sz+d*sz)) hr V hg (B6 l m off d h2 h3) (fun e he=>by
      rcases kb.1 he with he|he
      ·rcases kb.1 he with he|he
       ·exact e3 e (nk he)
       ·exact e3 e (tl (nk he))
      ·exact e3 e (tl he)) (by rw[B6 xs _ _ _ i1 (by omega)];exact k0) (fun x D=>by
      rcases kb.1 D with D|D
      ·rcases kb.1 D with D|D
       ·exact e4 x (nk D)
       ·exact e4 x (tl (nk D))
      ·exact e4 x (tl D)) (fun j el E q c0 hq=>by
      rw[Uh l m off d h2 h3]at E;simp only;have I:∀W,l[W]?=some el→∃x,xs[W*sz+q]?=some x∧Rel (NN C.M ι) w bA c0 x:=fun W Q=>by
       obtain⟨x,D,F⟩:=e5 W el Q q c0 hq;exact⟨x,D,F.flat (by omega)⟩
      have g0:∀W,l[W]?=some el→q<sz:=fun W Q=>by rw[←e3 el (jt Q)];exact(g7.1 hq).1
      have l0:∀p r:Nat,p<r→q<sz→p*sz+q<r*sz:=fun p r h hq=>by
       have:=i (p+1) r h;rw[ac6,al4]at this;omega
      rw[Uh xs (m*sz) (off*sz) (d*sz) i1 (by omega)];split at E
      ·rename_i b0;obtain⟨x,D,F⟩:=I j E;rw[iF (l0 j m b0 (g0 j E))];exact⟨x,D,.inl F⟩
      ·rename_i b0;have b1:=i m j (by omega);split at E
       ·rename_i M;obtain⟨x,D,F⟩:=I _ E;have h9:=l0 j (m+d) M (g0 _ E);rw[io (by omega),iF (by omega)];refine⟨x,?_,.inl F⟩;rw[←D];congr 1;rw[ac6,Nat.sub_mul];omega
       ·rename_i M;have F0:=i (m+d) j (by omega);obtain⟨x,D,F⟩:=I j E;rw[io (by omega),io (by omega)];exact⟨x,D,.inl F⟩)
    have hC:f.toList.take (m*sz)++(xs.drop (off*sz)).take (d*sz)++f.toList.drop (m*sz+d*sz)=(xs.take (m*sz)++(xs.drop (off*sz)).take (d*sz)++xs.drop (m*sz+d*sz))++f.toList.drop (xs.take (m*sz)++(xs.drop (off*sz)).take (d*sz)++xs.drop (m*sz+d*sz)).length:=by
     have key:∀(c:d5) (k n:Nat),k≤n→n≤c.length→c.drop k=(c.take n).drop k++c.drop n:=fun c k n h1 h2=>by
      conv=>lhs;rw[←aeq n c]
      rw[List.drop_append_of_le_length (by rw[Dj];omega)]
     have o0:l.length*sz≤f.toList.length:=by have:f.toList.length=f.size:=yk;rw[this,J];exact i3
     have a1:f.toList.take (m*sz)=xs.take (m*sz):=by
      rw[←y,List.take_take];congr 1;omega
     rw[B6 xs _ _ _ i1 (by omega),k0,key f.toList (m*sz+d*sz) (l.length*sz) (by omega) o0,y,a1];simp only[u3]
    rw[←hC]at N;have m0:bg (ι id)=some g:=by rw[V];rfl
    have t0:=hs.world N rfl (by simp) (fun b _ hb=>hb) (fun b _ hb=>eT (fun e=>hb (.inr ⟨id,by rw[e];exact m0⟩))) (fun _ _ h=>h);have r0:look id (bj id (⟨e,sz,l.take m++(l.drop off).take d++l.drop (m+d)⟩:bZ) s.r)=some ⟨e,sz,l.take m++(l.drop off).take d++l.drop (m+d)⟩:=by rw[cp,iF rfl]
    have h0:=t0.Ev (k:=m+d) f0 i0 r0 V (by show m+d≤(l.take m++(l.drop off).take d++l.drop (m+d)).length;rw[B6 l m off d h2 h3];omega);have q0:(l.take m++(l.drop off).take d++l.drop (m+d)).take (m+d)=l.take m++(l.drop off).take d:=by
     have:(l.take m++(l.drop off).take d).length=m+d:=by rw[kc,Dj,Dj,ah0];omega
     rw[amC (by omega),Dk (by omega)]
    simp only[q0,GK]at h0;exact⟨_,_,rep ι id (.slice (some ⟨g,0,none⟩) (m+d) c'),G,.ref _ _ _ _ _ (lA _ _ _),h0⟩
theorem ac0(d id:Nat)(et:TypeId)(sz m off g:Nat)(enc:α→b6){L:List α}{x y:Operand}{T:TypeId}{bytes:Nat}(z:(Nat.ble 1 m&&(Nat.ble m off&&Nat.ble (off+g) L.length))=true)
  (k:OT C Q E D (aJ f p (i+1)) (gh d id ⟨et,sz,(L.take m++(L.drop off).take g).map enc⟩ s))
  (t:(aL f p i).op=.call ⟨.builtin .append,#[x,y],#[T,T]⟩:=by kernel_rfl) (F:(aL f p i).dst=some d:=by kernel_rfl) (o:Nat.ble (d+1) C.n=true:=by kernel_rfl)
  (N:s.ev x=some (.sref id sz 0 m):=by kernel_rfl) (O:s.ev y=some (.sref id sz off g):=by kernel_rfl) (I:look id s.r=some ⟨et,sz,L.map enc⟩:=by kernel_rfl) (J:iJ C.P T=some (et,sz,bytes):=by kernel_rfl)
  (r:s.u.contains (cS id)=false:=by kernel_rfl) (u:Nat.ble (id+1) TG=true:=by kernel_rfl) (H:aJ f p i=aL f p i::aJ f p (i+1):=by kernel_rfl) (G:cv D s (aL f p i)=true:=by kernel_rfl):OT C Q E D (aJ f p i) s:=by
 simp only[g6]at z;obtain⟨j,l,n⟩:=z;have j:=hF j;have l:=hF l;have n:=hF n;rw[H];refine eL _ G fun a w ι h=>?_;refine v9 rfl fun K B=>?_;obtain⟨v,w',ι',c,M,e⟩:=afG (ty:=(aL f p i).type) (bytes:=bytes) h (hF u) (h.hs.np r) (h.ev N) (h.ev O) I J j l (by rw[lp];exact n);have b:(List.map enc L).take m++((List.map enc L).drop off).take g=(L.take m++(L.drop off).take g).map enc:=by simp only[Db,amu,anH]
 rw[b]at e;refine dK ?_;simp[execOp,t,resolve,invoke,builtin,c,Result.andThen];refine B (a.put (aL f p i).dst v) w' (k _ _ ι' ?_);have A:=e.put (d:=some d) (fun k q=>by injection q with q;subst q;exact hF o) M;rw[F];exact A
end
end Go.Proofs.YtocgkfoifehcbaaGreat
