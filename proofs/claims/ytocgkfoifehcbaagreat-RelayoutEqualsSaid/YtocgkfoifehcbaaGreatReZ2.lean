/- Slices that cells of an own slice own: they come out under a name of their own, and go back. No program in sight. -/
import Derived.Test.YtocgkfoifehcbaaGreatReZ1
import Derived.Laws.RangeAny
import Derived.Test.YtocgkfoifehcbaaGreatProg
import Derived.Lib.Builder
import Derived.Lib.UnsafeStr
import Derived.Lib.Walk
import Derived.Laws.Externs
import Derived.RegionTactic
namespace Go.Proofs.YtocgkfoifehcbaaGreat
set_option linter.all false
open Go.RowKit
abbrev hH:=Nat×ck
def q7:=@List.append_assoc
def aio:=@List.mem_singleton
def aj8:=@List.take_append_drop
def amA:=@List.mem_iff_getElem?
def amB:=@Array.mem_of_getElem?
def anc:=@Lib.cell_of_heap
def anj:=@Oper.upon_value
def oS(l:List ck)(j i:Nat)(c:AV):List ck:=l.set j ((l.getD j []).set i c)
theorem aj5 l j i c:(oS l j i c).length=l.length:=by simp[oS]
theorem ak5{l}{j i}{c}{b}{f}(h:(oS l j i c)[b]?=some f){a}{d}(g:f[a]?=some d):
  (b=j∧a=i∧d=c)∨(¬ (b=j∧a=i)∧∃e,l[b]?=some e∧e[a]?=some d):=by
 grind[oS]
theorem alj{l}{j i}{c}{sz}(h:∀e∈l,e.length=sz):∀e∈oS l j i c,e.length=sz:=by
 intro e a;unfold oS at a;by_cases b:j<l.length
 ·grind
 ·rw[am4 (by omega)]at a;grind
theorem W8{sz j i b a:Nat}(d:i<sz)(c:a<sz)(h:¬ (b=j∧a=i)):b*sz+a≠j*sz+i:=by
 intro e;have f:(b*sz+a) / sz=b:=by rw[amn,Nat.mul_add_div (by omega),ana c,alS]
 have g:(j*sz+i) / sz=j:=by rw[amn,Nat.mul_add_div (by omega),ana d,alS]
 grind
theorem akJ{w:World}{B}{e}{sz n}{v}{xs}(h:w.ownsRow B e sz v n xs):∃A m c,v=.slice A m c:=by
 rcases h.2 with⟨a,_⟩|⟨_,_,_,a,_⟩<;>exact⟨_,_,_,a⟩
def o7(ι:Env)(κ a:Nat)(x:Value):Env:=fun k=>if k=κ then none else if k=a then some x else ι k
theorem HS.out{M:Nat→Prop}{w0:aC}{w:World}{ι:Env}{s:AS}(h:HS M w0 w ι s){id j i f b0:Nat}{a:bW}{e:ck}{et:TypeId}{l2:List ck}(q0:f<eo)(X:has s.u f=false)(H:nR s=true)(Y:xj s=true)
  (N:look id s.r=some a) (hp:(ι id).isSome=true) (hj:a.l[j]?=some e) (hi:e[i]?=some (.osl et b0 l2)) :
  ∃x,(∃A n c,x=.slice A n c)∧(∃v xs,ι id=some v∧w.ownsRow 0 a.e a.sz v a.l.length xs∧xs[j*a.sz+i]?=some x) ∧
   HS M w0 w (o7 ι (nm id (j*a.sz+i)) f x) ⟨s.t,s.o,bm f ⟨et,b0,l2⟩ (bm id ⟨a.e,a.sz,oS a.l j i (.vv x)⟩ s.r),f::s.u⟩ ∧
   (∀b,NN M (o7 ι (nm id (j*a.sz+i)) f x) b→NN M ι b)∧(∀{c:AV} {y:Value},c.iW=true→Rel (NN M ι) w ι c y→Rel (NN M (o7 ι (nm id (j*a.sz+i)) f x)) w (o7 ι (nm id (j*a.sz+i)) f x) c y):=by
 obtain⟨v,xs,e1,e2,e3,e4,e5⟩:=h.arrs id a N hp;obtain⟨x,hx,Z⟩:=e5 j e hj i _ hi;rcases Z with Z|⟨_,_,_,m,_⟩|⟨r0,p0,t0,l',r,m,ho,O,K⟩
 ·cases Z
 ·cases m
 injection m with a1 a2 a3;subst a1;subst a2;subst a3
 generalize hκ:nm id (j*a.sz+i)=κ at *;have s0:eo≤κ:=by rw[←hκ];exact Ci _ _
 have a0:∃A n c,x=.slice A n c:=by obtain⟨c0,o,_⟩:=K;exact akJ o
 have o0:ι f=none:=by
  cases ht:ι f with
  | none=>rfl
  | some y=>have:=h.use f y ht;rw[X]at this;cases this
 generalize I:o7 ι κ f x=p;have i0:p κ=none:=by rw[←I];simp[o7]
 have i1:p f=some x:=by rw[←I];show(if f=κ then none else if f=f then some x else ι f)=some x;rw[kb (by omega),kc rfl]
 have S:∀k,k≠κ→k≠f→p k=ι k:=fun k o l=>by rw[←I];simp only[o7];rw[kb o,kb l]
 have iS:∀k y,p k=some y→(k=f∧y=x)∨(k≠κ∧k≠f∧ι k=some y):=fun k y d=>by
  by_cases o:k=κ
  ·subst o;rw[i0]at d;cases d
  ·by_cases l:k=f
   ·subst l;rw[i1]at d;injection d with d;exact .inl ⟨rfl,d.symm⟩
   ·rw[S k o l]at d;exact .inr ⟨o,l,d⟩
 have bκ:bw (ι κ)=bw (some x):=by rw[ho,O];cases r<;>rfl
 have hB:∀k b,bw (p k)=some b→(k=f∧bw (ι κ)=some b)∨(k≠κ∧k≠f∧bw (ι k)=some b):=fun k b d=>by
  cases G:p k with
  | none=>rw[G]at d;cases d
  | some y =>
   obtain⟨o,l⟩|⟨o,l,h3⟩:=iS k y G
   ·subst l;rw[G]at d;exact .inl ⟨o,bκ.trans d⟩
   ·rw[G]at d;exact .inr ⟨o,l,by rw[h3];exact d⟩
 have hN:∀b,NN M p b→NN M ι b:=fun b d0=>by
  rcases d0 with o|⟨k,d⟩
  ·exact .inl o
  ·obtain⟨_,l⟩|⟨_,_,l⟩:=hB k b d
   ·exact .inr ⟨κ,l⟩
   ·exact .inr ⟨k,l⟩
 have J:∀{c:AV} {y:Value},c.iW=true→Rel (NN M ι) w ι c y→Rel (NN M p) w p c y:=fun {c y} hc z =>
  (z.low (ι':=fun k=>if k=κ then none else ι k) (fun k d=>kb (by omega)) hc).mono (jf _) (fun b _ O=>hN b O) (fun _ _ _=>rfl) (fun k y d=>by
   have d:(if k=κ then none else ι k)=some y:=d;split at d
   ·cases d
   ·rename_i o;rw[S k o (fun e=>by subst e;rw[o0]at d;cases d)];exact d)
 have P:∀{c:AV} {y:Value},Rel (NN M ι) w bG c y→Rel (NN M p) w bG c y:=fun {c y} z=>z.mono (jf _) (fun b _ O=>hN b O) (fun _ _ _=>rfl) (fun _ _ h=>h);have u:∀{t:Prop} {k:Nat} {c:AV} {y:Value},eo≤k→k≠κ→gK (NN M ι) w t (ι k) c y→gK (NN M p) w t (p k) c y:=fun {t k c y} d Q z =>
  z.mono (jf _) (fun b _ O=>hN b O) (fun _ _ _=>rfl) (fun r Z=>by rw[S k Q (by omega)];exact Z) (fun _ _=>rfl) (fun h=>h)
 refine⟨x,a0,⟨v,xs,e1,e2,hx⟩,?_⟩;rw[I];refine⟨⟨h.below,h.old,fun k y d=>?_,fun k b d=>?_,fun k k' b d h0=>?_,fun k cs d=>?_,fun k b d=>?_,fun k cs d E=>?_,fun k b d E=>?_,fun k y d=>(abv h H d).elim⟩,hN,J⟩
 ·obtain⟨o,_⟩|⟨_,_,h3⟩:=iS k y d
  ·subst o;exact fD (by simp)
  ·exact eh (h.use k y h3)
 ·obtain⟨_,l⟩|⟨_,_,l⟩:=hB k b d
  ·exact h.own κ b l
  ·exact h.own k b l
 ·rcases hB k b d with⟨g1,l⟩|⟨g1,g2,l⟩<;>obtain⟨g3,h4⟩|⟨g3,g4,h4⟩:=hB k' b h0
  ·exact g1.trans g3.symm
  ·exact absurd (h.inj k' κ b h4 l) g3
  ·exact absurd (h.inj k κ b l h4) g1
  ·exact h.inj k k' b l h4
 ·exact eh (h.ko k cs d)
 ·simp only[cr]at d;split at d
  ·rename_i m;subst m;exact fD (by simp)
  ·split at d
   ·rename_i m;subst m;exact eh (h.kr _ _ N)
   ·exact eh (h.kr k b d)
 ·have k0:k≠f:=fun m=>by subst m;have:=h.ko _ _ d;rw[X]at this;cases this
  have D:k≠κ:=fun m=>by have:=agV H d;omega
  rw[S k D k0]at E⊢;obtain⟨g,T,vs,c1,c2,V⟩:=h.objs k cs d E;have l0:nC cs=true:=by
   simp only[xj,h8,ne]at Y;exact Y.2 _ (wM d)
  exact⟨g,T,vs,c1,c2,V.len,V.one,fun q c y hc hy=>J (oi l0 q c hc) (V.rel q c y hc hy)⟩
 ·simp only[cr]at d;by_cases F:k=f
  ·subst F;rw[kc rfl]at d;injection d with d;subst d
   obtain⟨c0,r1,r2,r3,r4⟩:=K;refine⟨x,c0,i1,r1,r2,r3,fun j' e' C R U B=>?_⟩;obtain⟨y,y1,y2⟩:=r4 j' e' C R U B;exact⟨y,y1,.inl (P y2)⟩
  ·rw[kb F]at d;by_cases L:k=id
   ·subst L;rw[kc rfl]at d;injection d with d;subst d
    have D:k≠κ:=fun m=>by have:=TB H N;omega
    refine⟨v,xs,(S k D F).trans e1,by simpa[aj5]using e2,alj e3,e4,fun j' e' C R U B=>?_⟩;have m0:e.length=a.sz:=e3 e (lp hj);have f0:i<a.sz:=by rw[←m0];exact(io.1 hi).1
    obtain⟨q1,q2,q3⟩|⟨Q,W,q1,q2⟩:=ak5 C B
    ·subst q1;subst q2;subst q3;exact⟨x,hx,.inl (.vv _ _ (by obtain⟨A,n,c,rfl⟩:=a0;rfl))⟩
    ·obtain⟨y,y1,y2⟩:=e5 j' W q1 R U q2;have g0:R<a.sz:=by rw[←e3 W (lp q1)];exact(io.1 q2).1
     exact⟨y,y1,u (Ci _ _) (fun m=>by rw[←hκ]at m;exact W8 f0 g0 Q (S8 m).2) y2⟩
   ·rw[kb L]at d;have D:k≠κ:=fun m=>by have:=TB H d;omega
    rw[S k D F]at E⊢;obtain⟨v',xs',c1,c2,V,c4,c5⟩:=h.arrs k b d E;refine⟨v',xs',c1,c2,V,c4,fun j' e' C R U B=>?_⟩;obtain⟨y,y1,y2⟩:=c5 j' e' C R U B;exact⟨y,y1,u (Ci _ _) (fun m=>by rw[←hκ]at m;exact L (S8 m).1) y2⟩
open Classical in
theorem akT{s:AS}(h:xj s=true){k:Nat}{v:AV}(a:look k s.t=some v):v.iW=true:=by
 simp only[xj,h8,ne]at h;exact h.1 _ (wM a)
section
variable{b:Cx}{Q:Exit→Act→World→Prop}{c:dn}{s:AS}
def PT(id j i b d:Nat)(a:bW)(et:TypeId)(c:Nat)(e:List ck)(x:Value)(s:AS):AS :=
 ⟨bm d (.lk b x) s.t,s.o,bm b ⟨et,c,e⟩ (bm id ⟨a.e,a.sz,oS a.l j i (.vv x)⟩ s.r),b::s.u⟩
theorem aX.out{A:Act}{w:World}{ι:Env}(h:aX b s A w ι){id j i c n d:Nat}{a:bW}{e:ck}{et:TypeId}{B:List ck}{c0:AV}(q:c<eo)(p:has s.u c=false)(r:nR s=true)(l:xj s=true)
  (o:look id s.r=some a) (G:(ι id).isSome=true) (F:a.l[j]?=some e) (E:e[i]?=some (.osl et n B)) (D:look d s.t=some c0) (m:c0.En=true) :
  ∃x,aX b (PT id j i c d a et n B x s) A w (o7 ι (nm id (j*a.sz+i)) c x):=by
 obtain⟨x,_,_,f,H,C⟩:=h.hs.out q p r l o G F E;refine⟨x,⟨f.below,f.old,f.use,f.own,f.inj,f.ko,f.kr,f.objs,f.arrs,f.pin⟩,h.dfr,h.n,fun k v g=>?_⟩;simp only[PT,cr]at g;by_cases z:k=d
 ·subst z;rw[kc rfl]at g;injection g with g;subst g
  obtain⟨y,u,t⟩:=h.tmp k c0 D;refine⟨y,u,.lk _ _ _ _ ?_ (t.one m)⟩;show(if c=_ then none else if c=c then some x else ι c)=some x;rw[kb (by have:=Ci id (j*a.sz+i);omega),kc rfl]
 ·rw[kb z]at g;obtain⟨y,u,t⟩:=h.tmp k v g;exact⟨y,u,C (akT l g) t⟩
end
def rM(a:Nat):List Oper→Bool
 | []=>true
 | o::r=>(match o.dst with|some d=>!Nat.beq d a|none=>true)&&rM a r
theorem A6{b:Nat}:∀{l:List Oper},rM b l=true→∀o∈l,o.dst≠some b
 | [],_,o,a=>by cases a
 | c::r,h,o,a=>by
  simp only[rM,h8]at h;rcases qk.1 a with e|a
  ·subst e;intro e;rw[e]at h;have:=h.1;simp at this
  ·exact A6 h.2 o a
def yr(ρ:hF):AV→Option AV
 | .ptr id o=>match look id ρ with|some j=>some (.ptr j o)|none=>none
 | .ref id=>match look id ρ with|some j=>some (.ref j)|none=>none
 | v=>match v.di [] with|true=>some (gH v)|false=>none
def u9(ρ:hF):ck→Option ck
 | []=>some []
 | v::r=>match yr ρ v,u9 ρ r with|some x,some l=>some (x::l)|_,_=>none
def ex(ρ:hF):AV→Option AV
 | .fno f cs=>match u9 ρ cs with|some l=>some (.fno f l)|none=>none
 | v=>yr ρ v
def gf(ρ:hF):ck→Option ck
 | []=>some []
 | v::r=>match ex ρ v,gf ρ r with|some x,some l=>some (x::l)|_,_=>none
theorem MT{N N':Nat→Prop}{w:World}{ι a:Env}{ρ:hF}{v v':AV}{x:Value}(h:Rel N w ι v x)(f:∀b,N' b→N b)(m:∀id j,look id ρ=some j→a j=ι id)(e:yr ρ v=some v'):Rel N' w a v' x:=by
 have k:∀{e:Env} {v:AV} {x:Value},Rel N w e v x→Rel N' w e v x:=fun h=>h.mono (jf _) (fun b _ i=>f b i) (fun _ _ _=>rfl) (fun _ _ h=>h);unfold yr at e;split at e
 ·rename_i id o;split at e
  ·rename_i j d;injection e with e;subst e
   cases h with
   | ptr _ _ _ g h=>exact .ptr _ _ _ g ((m _ _ d).trans h)
  ·cases e
 ·rename_i id;split at e
  ·rename_i j d;injection e with e;subst e
   cases h with
   | ref _ _ A n c h=>exact .ref _ _ A n c (by grind)
  grind
 ·split at e
  ·rename_i l;injection e with e;subst e
   exact y9 (k (h.pure l a))
  grind
theorem NO{ρ}:∀{l l'},u9 ρ l=some l'→l'.length=l.length
 | [],l',h=>by injection h with h;grind
 | v::r,l',h=>by
  unfold u9 at h;split at h
  ·rename_i b a;injection h with h;subst h;simp[NO a]
  grind
theorem Mf{ρ}:∀{l l'},u9 ρ l=some l'→∀(i:Nat) a,l'[i]?=some a→∃b,l[i]?=some b∧yr ρ b=some a
 | [],l',h,i,a,c=>by injection h with h;grind
 | v::r,l',h,i,a,c=>by
  unfold u9 at h;split at h
  ·rename_i e d;injection h with h;subst h
   cases i with
   | zero=>grind
   | succ i=>exact Mf d i a c
  grind
theorem tW{ρ}:∀{l l'},gf ρ l=some l'→l'.length=l.length
 | [],l',h=>by injection h with h;grind
 | v::r,l',h=>by
  unfold gf at h;split at h
  ·rename_i b a;injection h with h;subst h;simp[tW a]
  grind
theorem ur{ρ}:∀{l l'},gf ρ l=some l'→∀(i:Nat) a,l'[i]?=some a→∃b,l[i]?=some b∧ex ρ b=some a
 | [],l',h,i,a,c=>by injection h with h;grind
 | v::r,l',h,i,a,c=>by
  unfold gf at h;split at h
  ·rename_i e d;injection h with h;subst h
   cases i with
   | zero=>grind
   | succ i=>exact ur d i a c
  grind
theorem xN{N N':Nat→Prop}{w:World}{ι a:Env}{ρ:hF}{v v':AV}{x:Value}(h:Rel N w ι v x)(g:∀b,N' b→N b)(m:∀id j,look id ρ=some j→a j=ι id)(e:ex ρ v=some v'):Rel N' w a v' x:=by
 unfold ex at e;split at e
 ·split at e
  ·injection e with e;subst e
   cases h with
   | fno _ _ _ f d l =>
    refine .fno _ _ _ f (by grind[NO]) (fun i c y k d=>?_)
    grind[Mf,MT]
  grind
 grind[MT]
theorem Cells.rn{N N'}{w}{ι d}{ρ}{cs a}{vs}(h:Cells N w ι cs vs)(f:∀b,N' b→N b)(m:∀id j,look id ρ=some j→d j=ι id)(e:gf ρ cs=some a):Cells N' w d a vs :=
 ⟨by rw[tW e];exact h.len,h.one,fun i x v l k=>by
  obtain⟨b,g,c⟩:=ur e i x l;exact xN (h.rel i b v g k) f m c⟩
def BQ(l:hF)(k v:Nat):Bool:=match look k l with|some x=>Nat.beq x v|none=>false
theorem qE{l}{k v}(h:BQ l k v=true):look k l=some v:=by
 unfold BQ at h;split at h
 ·simp_all
 grind
theorem kh{α}{k}{v:α}:∀{l},look k l=some v→(k,v)∈l
 | [],h=>by cases h
 | (j,x)::r,h=>by
  simp only[look]at h;split at h
  ·grind
  ·exact pt _ (kh h)
def rr(a b:Nat):Bool:=match Nat.ble 450000 a,Nat.ble 450000 b with
 | false,false=>true
 | true,true=>Nat.beq ((a-450000) % 1000) ((b-450000) % 1000)
 | _,_=>false
theorem E3{a b T}(h:rr a b=true)(d:a<TG)(t:tyName a T):tyName b T:=fun c f=>by
 unfold rr at h;split at h
 ·have:=alM c;grind
 ·rename_i e g;rw[t (iF e) d];simp_all
 grind
theorem ZW{a b}(h:rr a b=true):rr b a=true:=by
 unfold rr at h⊢;split at h
 ·grind
 ·rename_i c d;rw[c,d];simp_all
 grind
def gR(ρ a:hF):Bool:=(ρ.all fun p=>BQ a p.2 p.1&&(Nat.ble (p.1+1) TG&&Nat.ble (p.2+1) TG))&&a.all fun p=>BQ ρ p.2 p.1&&rr p.1 p.2
theorem fy{ρ a}(h:gR ρ a=true){id j}(e:look id ρ=some j):look j a=some id∧id<TG∧j<TG:=by
 simp only[gR,h8,ne]at h;have:=h.1 _ (kh e);exact⟨qE this.1,iF this.2.1,iF this.2.2⟩
theorem fW{ρ a}(h:gR ρ a=true){id j}(e:look j a=some id):look id ρ=some j:=by
 simp only[gR,h8,ne]at h;exact qE (h.2 _ (kh e)).1
theorem Gl{ρ a}(h:gR ρ a=true){id j}(e:look j a=some id):rr j id=true:=by
 simp only[gR,h8,ne]at h;exact(h.2 _ (kh e)).2
def cq(a:hF)(ι:Env):Env:=fun j=>match look j a with|some id=>ι id|none=>none
theorem jU{a}{ι}{j}{y}(h:cq a ι j=some y):∃id,look j a=some id∧ι id=some y:=by
 grind[cq]
theorem kN{a}{ι}{j id}(h:look j a=some id):cq a ι j=ι id:=by grind[cq]
def fA(ρ:hF)(o:List hH):hF→Option (List hH)
 | []=>some []
 | (id,j)::r=>match look id o,fA ρ o r with
  | some cs,some l=>match gf ρ cs with
   | some c=>some ((j,c)::l)
   | none=>none
  | _,_=>none
theorem Dr{ρ:hF}{o:List hH}:∀{l:hF} {O:List hH},fA ρ o l=some O→∀{j:Nat} {c:ck},look j O=some c→∃id cs,(id,j)∈l∧look id o=some cs∧gf ρ cs=some c
 | [],O,h,j,c,a=>by injection h with h;subst h;cases a
 | (id,k)::r,O,h,j,c,a=>by
  unfold fA at h;split at h
  case h_2=>cases h
  rename_i cs l b f;split at h
  case h_2=>cases h
  rename_i c0 g;injection h with h;subst h
  simp only[look]at a;split at a
  ·rename_i e;subst e;injection a with a;subst a
   exact⟨id,cs,u6,b,g⟩
  ·obtain⟨i,d,m,n⟩:=Dr f a;exact⟨i,d,pt _ m,n⟩
def kR(w:World)(a:Env)(O:List hH):aC:=⟨w,fun b=>∃i,bw (a i)=some b,fun j=>match look j O with|some _=>a j|none=>none⟩
def jM(P:Program)(f:FuncId)(b:ck)(O:List hH)(d:Nat)(ar:bW)(U:d7)(Q:AV→AS→Prop):Prop :=
 ∀M w c xs,HS M (kR w c O) w c ⟨[],O,[(d,ar)],U⟩→b.length=xs.size→(∀(i:Nat) a x,b[i]?=some a→xs[i]?=some x→Rel (NN M c) w c a x)→Calls P f xs w (bR M (kR w c O) Q)
theorem mM{P:Program}{f:FuncId}{i:Func}{c:Code}{b:ck}{O:List hH}{m:Nat}{ar:bW}{U:d7}{Q:AV→AS→Prop}(r:P.funcs[f]?=some i)(q:i.body=some c)(n:Nat)(x:i.ntmps=n)(u:b.length≤n)
  (h:∀M o,VE ⟨P,n,M,o⟩ (bodyPost P i (bR M o Q)) [.c c] .normal ⟨idxs 0 b,O,[(m,ar)],U⟩):jM P f b O m ar U Q:=by
 intro M w p xs d l t;refine amP r q ?_;refine anF (h M (kR w p O) { tmps:=xs++Array.replicate (i.ntmps-xs.size) undef,defers:=[] } w p ?_) (fun e a w' s=>?_)
 ·refine⟨⟨d.below,d.old,d.use,d.own,d.inj,d.ko,d.kr,d.objs,d.arrs,d.pin⟩,rfl,?_,fun k v j=>?_⟩
  ·simp;omega
  ·rw[pc,kc (tl _),alH]at j;have g:k<xs.size:=by rw[←l];exact(io.1 j).1
   refine⟨xs[k],?_,t k v _ j (iO g)⟩;simp only[];rw[By g,iO g]
 ·cases e<;>exact s
def Ak(U:d7)(b:hF)(a:Nat):Bool:=U.contains a&&b.all fun p=>U.contains p.2&&U.contains (dk p.2)
theorem HS.HB{M:Nat→Prop}{w0:aC}{w:World}{ι:Env}{s:AS}(h:HS M w0 w ι s){J ρ d:hF}{o I:Nat}{ar:bW}{O:List hH}{U:d7}(P:ρ=(o,I)::J)(n:gR ρ d=true)(hO:fA ρ s.o J=some O)(hr:look o s.r=some ar)(F:Ak U J I=true):
  HS (fun b=>NN M ι b∧∀i,bw (cq d ι i)≠some b) (kR w (cq d ι) O) w (cq d ι) ⟨[],O,[(I,ar)],U⟩:=by
 have S:∀b,NN (fun b=>NN M ι b∧∀i,bw (cq d ι i)≠some b) (cq d ι) b→NN M ι b:=fun b f=>by
  rcases f with f|⟨j,f⟩
  ·exact f.1
  ·cases m:cq d ι j with
   | none=>rw[m]at f;cases f
   | some y=>obtain⟨id,_,A⟩:=jU m;exact .inr ⟨id,by rw[A];rw[m]at f;exact f⟩
 have hι:∀id j,look id ρ=some j→cq d ι j=ι id:=fun id j e=>kN (fy n e).1;have H:look o ρ=some I:=by rw[P];simp[look]
 have C:∀j id,look j d=some id→U.contains j=true:=fun j id e=>by
  have:=kh (fW n e);rw[P]at this;simp only[Ak,h8,ne]at F;rcases qk.1 this with z|z
  ·injection z with R W;rw[W];exact F.1
  ·exact(F.2 _ z).1
 have B:∀{j c},look j O=some c→∃id cs,look j d=some id∧(id,j)∈J∧look id s.o=some cs∧gf ρ cs=some c:=fun {j c} l=>by
  obtain⟨id,cs,V,q2,q3⟩:=Dr hO l;refine⟨id,cs,?_,V,q2,q3⟩;simp only[gR,h8,ne]at n;exact qE (n.1 (id,j) (by rw[P];exact pt _ V)).1
 refine⟨⟨rfl,rfl,rfl,jf _,fun _ _ _=>rfl⟩,fun b f=>⟨lN h f.1,fun⟨i,hi⟩=>f.2 i hi⟩,fun j y hy=>?_,fun j g r=>?_,fun j j' g r t=>?_,fun j c l=>?_,fun j a p=>?_,fun j c l G=>?_,fun j a p G=>?_,fun j v hv=>?_⟩
 ·obtain⟨id,k,_⟩:=jU hy;exact fD (C j id k)
 ·cases m:cq d ι j with
  | none=>rw[m]at r;cases r
  | some y =>
   obtain⟨id,k,A⟩:=jU m;refine⟨.inr ⟨j,r⟩,(h.own id g ?_).2⟩;rw[m]at r;rw[A];exact r
 ·cases m:cq d ι j with
  | none=>rw[m]at r;cases r
  | some y =>
   cases D:cq d ι j' with
   | none=>rw[D]at t;cases t
   | some y' =>
    obtain⟨id,k,A⟩:=jU m;obtain⟨Q,K,L⟩:=jU D;have:=h.inj id Q g (by rw[m]at r;rw[A];exact r) (by rw[D]at t;rw[L];exact t);subst this;have E:=fW n k;have z:=fW n K;rw[E]at z;injection z
 ·obtain⟨id,cs,k,_⟩:=B l;exact fD (C j id k)
 ·simp only[look]at p;split at p
  ·rename_i e;subst e;exact fD (C _ o (fy n H).1)
  ·cases p
 ·obtain⟨id,cs,k,_,A,h3⟩:=B l;rw[kN k]at G⊢;obtain⟨g,T,vs,E,z,R⟩:=h.objs id cs A G;exact⟨g,⟨T.1,E3 (ZW (Gl n k)) (fy n (fW n k)).2.1 T.2⟩,vs,E,z,R.rn S hι h3⟩
 ·simp only[look]at p;split at p
  ·rename_i e;subst e;injection p with p;subst p
   have E:=fy n H;rw[kN E.1]at G⊢;obtain⟨v,xs,X,Y,Z,g4,g5⟩:=h.arrs o ar hr G;refine⟨v,xs,X,Y,Z,g4,fun q e hq i c l=>?_⟩;obtain⟨x,hx,N⟩:=g5 q e hq i c l;exact⟨x,hx,.inl ((N.flat (by omega)).mono (jf _) (fun b _ f=>S b f) (fun _ _ _=>rfl) (fun _ _ h=>h))⟩
  ·cases p
 ·have u:(match look j O with|some _=>cq d ι j|none=>none)=some v:=hv;cases l:look j O with
  | none=>rw[l]at u;cases u
  | some c =>
   rw[l]at u;obtain⟨id,cs,_,k,_⟩:=B l;simp only[Ak,h8,ne]at F;exact⟨u,(F.2 _ k).2⟩
def cw(o:List hH):List hH→Prop
 | []=>True
 | (j,c)::r=>look j o=some c∧cw o r
theorem Ji{o}:∀{a},cw o a→∀{j} {c},look j a=some c→look j o=some c
 | [],_,j,c,h=>by cases h
 | (i,d)::r,b,j,c,h=>by
  simp only[look]at h;split at h
  ·rename_i e;subst e;injection h with h;subst h;exact b.1
  ·exact Ji b.2 h
def dZ(b:hF)(a:List hH):hF→Option (List hH)
 | []=>some []
 | (id,j)::r=>match look j a,dZ b a r with
  | some c,some l=>match gf b c with
   | some d=>some ((id,d)::l)
   | none=>none
  | _,_=>none
theorem xt{g:hF}{f:List hH}:∀{l:hF} {b:List hH},dZ g f l=some b→∀{id:Nat} {c:ck},look id b=some c→∃j d,(id,j)∈l∧look j f=some d∧gf g d=some c
 | [],b,h,id,c,a=>by injection h with h;subst h;cases a
 | (i,j)::r,b,h,id,c,a=>by
  unfold dZ at h;split at h
  case h_2=>cases h
  rename_i d l k m;split at h
  case h_2=>cases h
  rename_i c0 n;injection h with h;subst h
  simp only[look]at a;split at a
  ·rename_i e;subst e;injection a with a;subst a
   exact⟨j,d,u6,k,n⟩
  ·obtain⟨q,e,o,p⟩:=xt m a;exact⟨q,e,pt _ o,p⟩
theorem G0{g}{c}:∀{l} {a},dZ g c l=some a→∀{id j},(id,j)∈l→look id a≠none
 | [],a,h,id,j,b=>by grind
 | (i,q)::r,a,h,id,j,b=>by
  unfold dZ at h;split at h
  case h_2=>grind
  rename_i d l k f;split at h
  case h_2=>grind
  rename_i c0 m;injection h with h;subst h
  simp only[look];split
  ·grind
  ·rcases qk.1 b with e|e
   ·grind
   ·exact G0 f e
theorem xx{ρ}{o}:∀{l} {O},fA ρ o l=some O→∀{id j},(id,j)∈l→∃c,look j O=some c
 | [],O,h,id,j,a=>by grind
 | (i,q)::r,O,h,id,j,a=>by
  unfold fA at h;split at h
  case h_2=>grind
  rename_i cs l d b;split at h
  case h_2=>grind
  rename_i c0 f;injection h with h;subst h
  simp only[look];split
  ·grind
  ·rcases qk.1 a with e|e
   ·grind
   ·exact xx b e
def yv:List hH→List hH→List hH
 | [],o=>o
 | (k,v)::r,o=>bm k v (yv r o)
theorem Ar{o}:∀{l} {i} {c},look i (yv l o)=some c→look i l=some c∨(look i l=none∧look i o=some c)
 | [],i,c,h=>.inr ⟨rfl,h⟩
 | (k,v)::r,i,c,h=>by
  simp only[yv,cr,look]at h⊢;split at h
  ·grind
  ·rename_i e;rw[kb e];exact Ar h
def jX(a:Nat)(b:bW)(c:List hH)(s:AS):AS:=⟨dC a s.t,yv c (fc a s.o),bm a b s.r,s.u⟩
def cL(ι c:Env)(a b:Nat):Env:=fun i=>if i=a then c b else ι i
theorem HS.Vd{M:Nat→Prop}{w0:aC}{w w':World}{ι C:Env}{s s1:AS}(h:HS M w0 w ι s){ρo ρ G:hF}{f z:Nat}{ar Q:bW}{O O1 o2:List hH}(hρ:ρ=(f,z)::ρo)(N:gR ρ G=true)(hO:fA ρ s.o ρo=some O)(hr:look f s.r=some ar)
  (k0:s.u.contains (dk f)=false) (o0:look f s.o=none) (l0:∀p∈ρo,look p.1 s.r=none) (h0:∀p∈ρo,∃y,cq G ι p.2=some y)
  (L:HS (fun b=>NN M ι b∧∀i,bw (cq G ι i)≠some b) (kR w (cq G ι) O) w' C s1) (g0:cw s1.o O1) (m0:look z s1.r=some Q) (l:dZ G O1 ρo=some o2) :
  HS M w0 w' (cL ι C f z) (jX f Q o2 s)∧(∀{v:AV} {x:Value},Rel (NN M ι) w ι v x→Rel (NN M (cL ι C f z)) w' (cL ι C f z) (v.cT f) x) ∧
   (∀{v v':AV} {x:Value},Rel (NN (fun b=>NN M ι b∧∀i,bw (cq G ι i)≠some b) C) w' C v x→ex G v=some v'→Rel (NN M (cL ι C f z)) w' (cL ι C f z) v' x):=by
 have X:look f ρ=some z:=by rw[hρ];simp[look]
 have f1:∀id j,(id,j)∈ρo→C j=ι id∧look j G=some id:=fun id j hm=>by
  have E:look j G=some id:=by
   have e0:=N;simp only[gR,h8,ne]at e0;exact qE (e0.1 (id,j) (by rw[hρ];exact pt _ hm)).1
  obtain⟨y,hy⟩:=h0 _ hm;obtain⟨c,hc⟩:=xx hO hm;have H:=(L.pin j y (by show(match look j O with|some _=>cq G ι j|none=>none)=some y;rw[hc];exact hy)).1;refine⟨?_,E⟩;rw[H,← kN (ι:=ι) E];exact hy.symm
 have f2:∀j id,look j G=some id→cL ι C f z id=C j:=fun j id e=>by
  have t:=fW N e;unfold cL;by_cases n:id=f
  ·subst n;rw[kc rfl];rw[X]at t;injection t with t;rw[t]
  ·rw[kb n];have:=kh t;rw[hρ]at this;rcases qk.1 this with I|I
   ·injection I with V e5;exact absurd V n
   ·exact(f1 id j I).1.symm
 have m:∀{q b},bw (cq G ι q)=some b→∃id,look q G=some id∧bw (ι id)=some b:=fun {q b} P=>by
  cases he:cq G ι q with
  | none=>rw[he]at P;cases P
  | some y=>obtain⟨id,E,t⟩:=jU he;exact⟨id,E,by rw[t];rw[he]at P;exact P⟩
 have Y:w.heap.size≤w'.heap.size:=L.below.size;have ce:∀b,b<w.heap.size→(∀i,bw (cq G ι i)≠some b)→w'.heap[b]?=w.heap[b]?:=fun b R l=>L.below.block b R (fun⟨i,F⟩=>l i F);have S:∀b,b<w.heap.size→¬ NN M ι b→w'.heap[b]?=w.heap[b]?:=fun b R l=>ce b R (fun i F=>by
  obtain⟨id,_,e⟩:=m F;exact l (.inr ⟨id,e⟩))
 have a0:∀b,NN M (cL ι C f z) b→NN (fun b=>NN M ι b∧∀i,bw (cq G ι i)≠some b) C b:=fun b l=>by
  rcases l with l|⟨id,l⟩
  ·exact .inl ⟨.inl l,fun i F=>by obtain⟨id,_,e⟩:=m F;exact h.sep l e⟩
  ·unfold cL at l;by_cases n:id=f
   ·rw[kc n]at l;exact .inr ⟨z,l⟩
   ·rw[kb n]at l;by_cases hl:∃i,bw (cq G ι i)=some b
    ·obtain⟨q,P⟩:=hl;obtain⟨K,E,t⟩:=m P;have:=h.inj K id b t l;subst this;have:=f2 q K E;unfold cL at this;rw[kb n]at this;exact .inr ⟨q,by rw[←this];exact l⟩
    ·exact .inl ⟨.inr ⟨id,l⟩,fun i F=>hl ⟨i,F⟩⟩
 have d0:∀b,b<w.heap.size→NN M (cL ι C f z) b→NN M ι b:=fun b R l=>by
  rcases l with l|⟨id,l⟩
  ·exact .inl l
  ·unfold cL at l;by_cases n:id=f
   ·rw[kc n]at l;rcases (L.own z b l).1 with e|⟨q,e⟩
    ·exact absurd R (alK.2 e)
    ·obtain⟨K,_,t⟩:=m e;exact .inr ⟨K,t⟩
   ·rw[kb n]at l;exact .inr ⟨id,l⟩
 have T:∀{v:AV} {x:Value},Rel (NN M ι) w ι v x→Rel (NN M (cL ι C f z)) w' (cL ι C f z) (v.cT f) x:=fun hv =>
  (hv.mono Y d0 S (fun _ _ h=>h)).cT (fun i F=>kb F)
 have np:w0.pv f=none:=h.np k0;refine⟨⟨?_,h.old,fun i y hy=>?_,fun i g D=>?_,fun i U g D B=>?_,fun i c F=>?_,fun i a F=>?_,fun i c F H=>?_,fun i a F H=>?_,fun i v H=>?_⟩,T,fun hv e=>xN hv a0 (fun j id e=>f2 j id e) e⟩
 ·refine h.below.trans ⟨L.below.os,L.below.tape,L.below.output,Y,fun k hk hG=>ce k (u7 hk h.below.size) (fun i F=>?_)⟩;obtain⟨id,_,e⟩:=m F;rcases (h.own id k e).1 with h9|h9
  ·exact absurd hk (alK.2 h9)
  ·exact hG h9
 ·unfold cL at hy;by_cases n:i=f
  ·subst n;exact h.kr i ar hr
  ·rw[kb n]at hy;exact h.use i y hy
 ·unfold cL at D;by_cases n:i=f
  ·rw[kc n]at D;obtain⟨A,Z⟩:=L.own z g D;refine⟨?_,Z⟩;rcases A with A|⟨q,A⟩
   ·exact .inl (aal h.below.size A)
   ·obtain⟨id,_,e⟩:=m A;exact(h.own id g e).1
  ·rw[kb n]at D;exact⟨(h.own i g D).1,u7 (h.own i g D).2 Y⟩
 ·have f0:∀U,U≠f→bw (C z)=some g→bw (ι U)=some g→False:=fun U o D B=>by
   rcases (L.own z g D).1 with A|⟨q,A⟩
   ·exact absurd (h.own U g B).2 (alK.2 A)
   ·obtain⟨id,E,t⟩:=m A;have:=h.inj id U g t B;subst this;have I:=f2 q id E;unfold cL at I;rw[kb o]at I;have:=L.inj q z g (by rw[←I];exact t) D;subst this;have:=(fy N X).1;rw[E]at this;injection this with this;exact o this
  unfold cL at D B;by_cases n:i=f
  ·by_cases J:U=f
   ·rw[n,J]
   ·rw[kc n]at D;rw[kb J]at B;exact(f0 U J D B).elim
  ·by_cases J:U=f
   ·rw[kb n]at D;rw[kc J]at B;exact(f0 i n B D).elim
   ·rw[kb n]at D;rw[kb J]at B;exact h.inj i U g D B
 ·rcases Ar F with e|⟨_,e⟩
  ·obtain⟨j,d,A,_,_⟩:=xt l e;obtain⟨c0,i0⟩:=xx hO A;obtain⟨K,cs,p1,p2,p3⟩:=Dr hO i0;have E:=(f1 i j A).2;have t:=(f1 K j p1).2;rw[E]at t;injection t with t;subst t
   exact h.ko i cs p2
  ·obtain⟨u,hu,_⟩:=jv e;exact h.ko i u hu
 ·have o:look i (bm f Q s.r)=some a:=F;rw[cr]at o;split at o
  ·rename_i e;subst e;exact h.kr i ar hr
  ·exact h.kr i a o
 ·rcases Ar F with e|⟨en,e⟩
  ·obtain⟨j,d,A,Z,q3⟩:=xt l e;have E:=f2 j i (f1 i j A).2;rw[E]at H⊢;obtain⟨g,T0,vs,r1,r2,r3⟩:=L.objs j d (Ji g0 Z) H;have e9:=(f1 i j A).2;exact⟨g,⟨T0.1,E3 (Gl N e9) (fy N (fW N e9)).2.2 T0.2⟩,vs,r1,r2,r3.rn a0 (fun j id e=>f2 j id e) q3⟩
  ·obtain⟨u,hu,rfl⟩:=jv e;have n:i≠f:=fun e=>by rw[e,o0]at hu;cases hu
   have E:cL ι C f z i=ι i:=kb n;rw[E]at H⊢;obtain⟨g,T0,vs,r1,r2,r3⟩:=h.objs i u hu H;refine⟨g,T0,vs,r1,(ce g (h.own i g (by rw[r1];rfl)).2 (fun q P=>?_)).trans r2,⟨by rw[mi];exact r3.len,r3.one,fun k x v hx hv=>?_⟩⟩
   ·obtain⟨id,t,I⟩:=m P;have:=h.inj id i g I (by rw[r1];rfl);subst this;have:=kh (fW N t);rw[hρ]at this;rcases qk.1 this with V|V
    ·injection V with e5 e6;exact n e5
    ·exact G0 l V en
   ·obtain⟨y,hy,rfl⟩:=lC hx;exact T (r3.rel k y v hy hv)
 ·have o:look i (bm f Q s.r)=some a:=F;rw[cr]at o;split at o
  ·rename_i e;subst e;injection o with o;subst o
   have E:cL ι C i z i=C z:=kc rfl;rw[E]at H⊢;have p0:=(fy N X).2.2;obtain⟨v,xs,A,Z,q3,q4,q5⟩:=L.arrs z Q m0 H;refine⟨v,xs,A,Z,q3,q4,fun j e hj k c hk=>?_⟩;obtain⟨x,hx,b0⟩:=q5 j e hj k c hk;exact⟨x,hx,.inl ((b0.flat (by omega)).mono (jf _) (fun b _ l=>a0 b l) (fun _ _ _=>rfl) (fun _ _ h=>h))⟩
  ·rename_i n;have E:cL ι C f z i=ι i:=kb n;rw[E]at H⊢;obtain⟨v,xs,A,Z,q3,q4,q5⟩:=h.arrs i a o H;have q0:=(fy N X).2.1;refine⟨v,xs,A,f8 Z (fun g D=>ce g (h.own i g (by rw[A];exact D)).2 (fun q P=>?_)),q3,q4,fun j e hj k c hk=>?_⟩
   ·obtain⟨id,t,I⟩:=m P;have:=h.inj id i g I (by rw[A];exact D);subst this;have:=kh (fW N t);rw[hρ]at this;rcases qk.1 this with V|V
    ·injection V with e5 e6;exact n e5
    ·have:=l0 _ V;rw[o]at this;cases this
   ·obtain⟨x,hx,b0⟩:=q5 j e hj k c hk;have nb:∀q:Nat,eo≤nm i q:=fun q=>amF _ _;have lb:TG<eo:=by decide
    refine⟨x,hx,b0.mono Y d0 S (fun r W=>?_) (fun r W=>ce r (h.kq W) (fun q P=>?_)) (fun h=>h)⟩
    ·exact(kb (fun e=>by have:=nb (j*a.sz+k);omega)).trans W
    ·obtain⟨id,t,I⟩:=m P;have:=h.inj id _ r I (by rw[W];rfl);have h9:=(fy N (fW N t)).2.1;have:=nb (j*a.sz+k);omega
 ·obtain⟨A,Z⟩:=h.pin i v H;refine⟨?_,Z⟩;have n:i≠f:=fun e=>by rw[e,np]at H;cases H
  exact(kb n).trans A
def cb:hF→hF
 | []=>[]
 | (a,b)::r=>(b,a)::cb r
def yu(j:Nat):AV→Bool
 | .ptr i o=>Nat.beq i j&&Nat.beq o 0
 | _=>false
def wG(j:Nat):AV→Bool
 | .fno _ cs=>cs.any (yu j)
 | v=>yu j v
theorem MJ{N:Nat→Prop}{w:World}{ι:Env}{j:Nat}{v:AV}{x:Value}(h:yu j v=true)(a:Rel N w ι v x):∃g,ι j=some (.pointer (some ⟨g,0,none⟩)):=by
 unfold yu at h;split at h
 ·rename_i id o;rw[h8]at h;have:=mo h.1;subst this;cases a with
  | ptr _ _ _ g h=>exact⟨_,h⟩
 ·cases h
theorem O2{N:Nat→Prop}{w:World}{ι:Env}{j:Nat}{v:AV}{x:Value}(h:wG j v=true)(d:Rel N w ι v x):∃g,ι j=some (.pointer (some ⟨g,0,none⟩)):=by
 cases d with
 | fno _ f cs i m d =>
  obtain⟨c,k,a⟩:=aeq.1 h;obtain⟨q,e⟩:=amA.1 k;have b:q<i.length:=by rw[←m];exact(io.1 e).1
  exact MJ a (d q c i[q] e (iN b))
 | ptr _ id o g l=>exact MJ (N:=N) (w:=w) (v:=.ptr id o) (by simpa[wG]using h) (.ptr _ id o g l)
 | _=>first|(cases h;done)|(simp[wG,yu]at h)
def EP(a:AV→AV)(s:AS)(o:Oper)(ρ:hF):Option (FuncId×ck) :=
 match o.op with
 | .call c=>match c.callee with
  | .value d=>match s.ev d,dr s c.args.toList with
   | some (.fn f []),some l=>match gf ρ (l.map a) with
    | some l'=>some (f,l')
    | none=>none
   | some (.fno f cs),some l=>match gf ρ (l.map a),gf ρ cs with
    | some l',some b=>some (f,l'++b)
    | _,_=>none
   | _,_=>none
  | _=>none
 | _=>none
def K8(s:AS)(a d:Nat)(c:hF)(U:d7)(b:ck):Bool :=
 gR ((a,d)::c) (cb ((a,d)::c))&&(Ak U c d&&((match s.u.contains (dk a) with|true=>false|false=>true)&&((match look a s.o with|none=>true|some _=>false) &&
  ((c.all fun p=>match look p.1 s.r with|none=>true|some _=>false)&&c.all fun p=>b.any (wG p.2)))))
section
variable{d:Cx}{s:AS}{a:Act}{w:World}{ι:Env}
theorem WP(J:aX d s a w ι){F:AV→AV}(I:∀{v:AV} {x:Value},Rel (NN d.M ι) w ι v x→Rel (NN d.M ι) w ι (F v) x){o:Oper}{ρ:hF}{g:FuncId}{j:ck}(h:EP F s o ρ=some (g,j))(y:cG d.P g=true):
  ∃xs:Array Value,(execOp a.eval o).run d.P w=.ok (.enter g xs) w∧j.length=xs.size∧∀(i:Nat) (v:AV) (x:Value),j[i]?=some v→xs[i]?=some x→∃u,ex ρ u=some v∧Rel (NN d.M ι) w ι u x:=by
 unfold EP at h;split at h
 case h_2=>cases h
 rename_i c A;split at h
 case h_2=>cases h
 rename_i Q m;have part:∀{l l':ck},dr s c.args.toList=some l→gf ρ (l.map F)=some l'→l'.length=(c.args.map a.eval).size∧∀(i:Nat) (v:AV) (x:Value),l'[i]?=some v→(c.args.map a.eval)[i]?=some x→∃u,ex ρ u=some v∧Rel (NN d.M ι) w ι u x:=fun {l l'} z e=>by
  obtain⟨S,T⟩:=lq J z;refine⟨by rw[tW e];simp at S⊢;omega,fun i v x r q=>?_⟩;obtain⟨b,k,p⟩:=ur e i v r;rw[An]at k;cases n:l[i]? with
  | none=>rw[n]at k;cases k
  | some P =>
   rw[n]at k;injection k with k;subst k
   exact⟨_,p,I (T i P x n (by rw[←alG,afK];exact q))⟩
 split at h
 ·rename_i f l H z;split at h
  case h_2=>cases h
  rename_i l' e;injection h with h;injection h with D E;subst D;subst E
  obtain⟨N,B,G,_⟩:=ln J A m H y;have L:N=[]:=nx (by simpa using G.symm);subst L;have K:c.args.map a.eval++([]:eb).toArray=c.args.map a.eval:=by simp
  rw[K]at B;obtain⟨p1,M⟩:=part z e;exact⟨_,B,p1,M⟩
 ·rename_i f cs l H z;split at h
  case h_2=>cases h
  rename_i l' U e t;injection h with h;injection h with D E;subst D;subst E
  obtain⟨p1,M⟩:=part z e;have C:=J.ev H;generalize R:a.eval Q=X at C;cases C with
  | fno _ _ _ N V C =>
   refine⟨c.args.map a.eval++N.toArray,?_,by simp at p1⊢;rw[tW t];omega,fun i v x r q=>?_⟩
   ·unfold execOp;simp only[A,resolve,m,R,Deferred.ofValue,th,RX,u4,invoke];rw[FQ y];simp
   ·by_cases O:i<l'.length
    ·rw[Dz O]at r;rw[By (by rw[←p1];exact O)]at q;exact M i v x r q
    ·rw[AT (by omega)]at r;rw[akG (by rw[←p1];omega)]at q;rw[←p1]at q;obtain⟨b,k,p⟩:=ur t _ v r;exact⟨b,p,C _ b x k (by simpa using q)⟩
 grind
end
section
variable{c:Cx}{Q:Exit→Act→World→Prop}{l:dn}{s:AS}{d:Array Oper}{f:Func}{p:d7}{i:Nat}
theorem afk{a:Act}{w:World}{ι:Env}(C:aX c s a w ι){fn:AV→AV}(S:∀{v:AV} {x:Value},Rel (NN c.M ι) w ι v x→Rel (NN c.M ι) w ι (fn v) x)(h n:Nat)(m:hF){g:FuncId}{r:ck}{V1:AV}{O L:List hH}{ar B:bW}{U:d7}(hc:jM c.P g r O n ar U (fun v s1=>v=V1∧cw s1.o L∧look n s1.r=some B))
  (k:OT c Q l d (aW f p (i+1)) ((jX h B ((dZ (cb ((h,n)::m)) L m).getD []) s).put (aY f p i).dst ((ex (cb ((h,n)::m)) V1).getD .any)))
  (P:cG c.P g=true) (h1:EP fn s (aY f p i) ((h,n)::m)=some (g,r))
  (hO:fA ((h,n)::m) s.o m=some O) (J:look h s.r=some ar) (z:(dZ (cb ((h,n)::m)) L m).isSome=true) (G:(ex (cb ((h,n)::m)) V1).isSome=true)
  (hd:cH c.n (aY f p i).dst=true) (E:K8 s h n m U r=true):wpList c.P d (Kw c.P Q l) ({ aY f p i with guard:=none }::aW f p (i+1)) a w:=by
 refine abL rfl fun K hK=>?_;obtain⟨o2,D⟩:=Db.1 z;obtain⟨V2,H⟩:=Db.1 G;rw[D,H]at k;simp only[IF]at k;simp only[K8,h8]at E;obtain⟨k1,k2,k3,k4,k5,k6⟩:=E;have W:s.u.contains (dk h)=false:=by
  cases A:s.u.contains (dk h) with
  | true=>rw[A]at k3;cases k3
  | false=>rfl
 have c0:look h s.o=none:=by
  cases A:look h s.o with
  | some _=>rw[A]at k4;cases k4
  | none=>rfl
 have X:∀p∈m,look p.1 s.r=none:=fun p Y=>by
  have:=ne.1 k5 p Y;cases A:look p.1 s.r with
  | some _=>rw[A]at this;cases this
  | none=>rfl
 unfold Oper.wp;obtain⟨xs,a0,I,e0⟩:=WP (o:={ aY f p i with guard:=none }) C S h1 P;rw[a0,af6];have hN:∀b,NN (fun b=>NN c.M ι b∧∀i,bw (cq (cb ((h,n)::m)) ι i)≠some b) (cq (cb ((h,n)::m)) ι) b→NN c.M ι b:=fun b z=>by
  rcases z with z|⟨j,z⟩
  ·exact z.1
  ·cases R:cq (cb ((h,n)::m)) ι j with
   | none=>rw[R]at z;cases z
   | some y=>obtain⟨id,_,h2⟩:=jU R;exact .inr ⟨id,by rw[h2];rw[R]at z;exact z⟩
 have t:∀(i:Nat) (a:AV) (x:Value),r[i]?=some a→xs[i]?=some x→Rel (NN (fun b=>NN c.M ι b∧∀i,bw (cq (cb ((h,n)::m)) ι i)≠some b) (cq (cb ((h,n)::m)) ι)) w (cq (cb ((h,n)::m)) ι) a x:=fun i v x G hx=>by
  obtain⟨u,q1,q2⟩:=e0 i v x G hx;exact xN q2 hN (fun id j e=>kN (fy k1 e).1) q1
 have N:∀p∈m,∃y,cq (cb ((h,n)::m)) ι p.2=some y:=fun p Y=>by
  have:=ne.1 k6 p Y;obtain⟨v,G,d0⟩:=aeq.1 this;obtain⟨q,A⟩:=amA.1 G;have V:q<xs.size:=by rw[←I];exact(io.1 A).1
  obtain⟨g0,h0⟩:=O2 d0 (t q v _ A (iO V));exact⟨_,h0⟩
 refine (hc _ w _ xs (C.hs.HB rfl k1 hO J k2) I t).mono ?_
 rintro e w' ⟨x,v,s1,ι1,rfl,⟨rfl,M,Z⟩,T,b0⟩
 obtain⟨g1,g2,g3⟩:=C.hs.Vd rfl k1 hO J W c0 X N T M Z D;have F:aX c (jX h B o2 s) a w' (cL ι ι1 h n):=⟨g1,C.dfr,C.n,fun k v hk=>by
  obtain⟨u,hu,rfl⟩:=oQ hk;obtain⟨y,hy,J⟩:=C.tmp k u hu;exact⟨y,hy,g2 J⟩⟩
 exact hK _ _ (k _ _ _ (F.put (gj hd) (g3 b0 H)))
theorem kA b m j{g}{e}{V1}{O o}{ar n}{U}(z:jM c.P g e O m ar U (fun v t=>v=V1∧cw t.o o∧look m t.r=some n))
  (k:OT c Q l d (aW f p (i+1)) ((jX b n ((dZ (cb ((b,m)::j)) o j).getD []) s).put (aY f p i).dst ((ex (cb ((b,m)::j)) V1).getD .any)))
  (C:aW f p i=aY f p i::aW f p (i+1):=by kernel_rfl) (B:cz d s (aY f p i)=true:=by kernel_rfl) (q:cG c.P g=true:=by kernel_rfl) (u:EP id s (aY f p i) ((b,m)::j)=some (g,e):=by kernel_rfl)
  (x:fA ((b,m)::j) s.o j=some O:=by kernel_rfl) (D:look b s.r=some ar:=by kernel_rfl) (y:(dZ (cb ((b,m)::j)) o j).isSome=true:=by kernel_rfl) (F:(ex (cb ((b,m)::j)) V1).isSome=true:=by kernel_rfl)
  (A:cH c.n (aY f p i).dst=true:=by kernel_rfl) (r:K8 s b m j U e=true:=by kernel_rfl):OT c Q l d (aW f p i) s:=by
 rw[C];exact fk _ B fun a w ι E=>afk E (fun h=>h) b m j z k q u x D y F A r
end
section
variable{P:Program}{n:Nat}{s:AS}{o:Oper}
def Rw(P:Program)(n:Nat)(s:AS)(o:Oper):Option (ByteArray×Int×Int):=match kx n o,o.op with
 | true,.slice T x lo a none=>match P.underlying T,s.ev x with
  | some .string,some (.str b)=>match kO s b.size lo a with
   | some (i,j)=>some (b,i,j)
   | none=>none
  | _,_=>none
 | _,_=>none
theorem Ec{b:ByteArray}{i j:Int}(k:cD i j b.size=true)(h:Rw P n s o=some (b,i,j):=by kernel_rfl):bZ P n s o=some (s.put o.dst (.str (b.extract i.toNat j.toNat))):=by
 unfold Rw at h;split at h
 case h_2=>cases h
 rename_i T x lo u e g;obtain⟨d,e,p⟩:=lJ e;split at h
 case h_2=>cases h
 rename_i t q r;split at h
 case h_2=>cases h
 rename_i v w c;injection h with h;injection h with l a;injection a with a m;subst l;subst a;subst m
 simp only[cD,h8,qv]at k;have f:d<n:=iF p;unfold bZ kD jT;simp[g,e,cH,f,r,q,c,k]
end
mutual
def AV.oI:AV→Bool
 | .sit _ _ _ _=>false
 | .agg cs=>my cs
 | .tup cs=>my cs
 | .fno _ cs=>my cs
 | _=>true
def my:ck→Bool
 | []=>true
 | c::r=>c.oI&&my r
end
theorem w9:∀{l},my l=true→∀(i:Nat) x,l[i]?=some x→x.oI=true
 | [],_,i,x,a=>by grind
 | c::r,h,0,x,a=>by grind[my]
 | c::r,h,i+1,x,a=>by simp only[my,h8]at h;exact w9 h.2 i x a
section
variable{w w':World}{g:Nat}{p:ByteArray}{d:Nat}
theorem Vr(a:w.heap[g]?=some (.stringIter p d))(c:∀b,b≠g→w'.heap[b]?=w.heap[b]?){b o}{v}(h:w.cell? ⟨b,o,none⟩=some v):w'.cell? ⟨b,o,none⟩=some v:=by
 by_cases e:b=g
 ·subst e;simp[World.cell?,a]at h
 grind[H1]
theorem Rel.iter{N:Nat→Prop}{ι:Env}{v:AV}{x:Value}(h:Rel N w ι v x)(M:w.heap[g]?=some (.stringIter p d))(O:w.heap.size≤w'.heap.size)(P:∀b,b≠g→w'.heap[b]?=w.heap[b]?):
  (v.oI=true∨∀i,ι i=none)→Rel N w' ι v x:=by
 induction h with
 | int ι k n=>intro _;exact .int _ _ _
 | bool ι b=>intro _;exact .bool _ _
 | str ι s=>intro _;exact .str _ _
 | nils ι=>intro _;exact .nils _
 | sl0 ι A c=>intro _;exact .sl0 _ _ _
 | sl ι l b o c sz C S G J t H F E u =>
  intro _;exact .sl ι l b o c sz C S (u7 G O) J t (fun j e I i x a=>Vr M P (H j e I i x a)) (fun j e I i x a=>u j e I i x a (.inr fun _=>rfl)) E
 | fn ι f aV L z F u=>intro _;exact .fn _ f aV L z (fun i c y t D=>u i c y t D (.inr fun _=>rfl))
 | fno ι f aV L z F u=>intro q;exact .fno ι f aV L z (fun i c y t D=>u i c y t D (q.imp (fun q=>w9 (by simpa[AV.oI]using q) i c t) id))
 | nilf ι=>intro _;exact .nilf _
 | nilp ι=>intro _;exact .nilp _
 | any ι x h=>intro _;exact .any _ _ h
 | ptr ι id off g h=>intro _;exact .ptr _ _ _ _ h
 | eptr ι id sz j off g n c h=>intro _;exact .eptr _ _ _ _ _ _ n c h
 | sref ι id sz off m n c Q A B h R=>intro _;exact .sref _ _ _ _ _ n c Q A B h R
 | cptr ι cs b o C G J t H F u =>
  intro _;exact .cptr ι cs b o C (u7 G O) J t (fun i x a=>Vr M P (H i x a)) (fun i x a=>u i x a (.inr fun _=>rfl))
 | adr ι g off=>intro _;exact .adr _ _ _
 | pp ι id g off h=>intro _;exact .pp _ _ _ _ h
 | sit ι id g s T h _ _ _ =>
  intro q;rcases q with q|q
  ·cases q
  ·rw[q]at h;cases h
 | ref ι id A n c h=>intro _;exact .ref _ _ _ _ _ h
 | nilm ι=>intro _;exact .nilm _
 | vv ι x h=>intro _;exact .vv _ _ h
 | lk ι id v x h t=>intro _;exact .lk _ _ _ _ h t
 | mref ι id q r v h D=>intro _;exact .mref _ _ _ _ v h D
 | agg ι cs vs z t F u=>intro q;exact .agg ι cs vs z t (fun i x v a K=>u i x v a K (q.imp (fun q=>w9 (by grind[AV.oI]) i x a) id))
 | tup ι cs vs z F u=>intro q;exact .tup ι cs vs z (fun i x v a K=>u i x v a K (q.imp (fun q=>w9 (by grind[AV.oI]) i x a) id))
theorem TZ{B}{e}{sz}{v}{n}{xs}(q:w.heap[g]?=some (.stringIter p d))(m:∀b,b≠g→w'.heap[b]?=w.heap[b]?)(h:w.ownsRow B e sz v n xs):w'.ownsRow B e sz v n xs :=
 f8 h fun f a=>m f fun o=>by
  obtain⟨c,_⟩|⟨k,i,j,c,_,l,_⟩:=h.2
  ·rw[c]at a;cases a
  ·rw[c]at a;have a:some k=some f:=a
   grind
theorem gK.iter{N:Nat→Prop}{t:Prop}{o:Option Value}{c:AV}{x:Value}(h:gK N w t o c x)(n:w.heap[g]?=some (.stringIter p d))(B:w.heap.size≤w'.heap.size)(q:∀b,b≠g→w'.heap[b]?=w.heap[b]?):gK N w' t o c x:=by
 rcases h with h|⟨u,m,r,v,z,A,k⟩|⟨u,e,sz,l,r,v,z,A,k⟩
 ·exact .inl (h.iter n B q (.inr fun _=>rfl))
 ·refine .inr (.inl ⟨u,m,r,v,z,A,?_⟩);unfold Hn at k⊢;cases m with
  | none=>exact k
  | some l =>
   obtain⟨C,F,D,s,f,E⟩:=k;exact⟨C,F,D,s,(q C (fun e=>by subst e;rw[n]at f;cases f)).trans f,E⟩
 ·refine .inr (.inr ⟨u,e,sz,l,r,v,z,A,?_⟩);obtain⟨xs,I,J,K,L⟩:=k;refine⟨xs,TZ n q I,J,K,fun j c H i a G=>?_⟩;obtain⟨y,s,f⟩:=L j c H i a G;exact⟨y,s,f.iter n B q (.inr fun _=>rfl)⟩
end
def vL(t:Nat):List em→Bool
 | []=>true
 | (k,v)::r=>(Nat.beq k t||v.oI)&&vL t r
def tP:List hH→Bool
 | []=>true
 | (_,cs)::r=>my cs&&tP r
theorem VY{t k}{v}:∀{l},vL t l=true→look k l=some v→k≠t→v.oI=true
 | [],_,h,_=>by cases h
 | (j,x)::r,a,h,b=>by
  simp only[vL,h8]at a;simp only[look]at h;split at h
  ·simp_all
  ·exact VY a.2 h b
theorem UC{k}{cs}:∀{l},tP l=true→look k l=some cs→my cs=true
 | [],_,h=>by cases h
 | (j,x)::r,a,h=>by
  simp only[tP,h8]at a;simp only[look]at h;split at h
  ·grind
  ·exact UC a.2 h
section
variable{d:Cx}{s:AS}{a:Act}{w:World}{ι:Env}
theorem HS.iter{M:Nat→Prop}{t:aC}(h:HS M t w ι s){g:Nat}{L r:ByteArray}{K p1:Nat}(f:w.heap[g]?=some (.stringIter L K))(G:t.w.heap.size≤g)(H:tP s.o=true):
  HS M t { w with heap:=w.heap.setIfInBounds g (.stringIter r p1) } ι s:=by
 have d:∀b,b≠g→({ w with heap:=w.heap.setIfInBounds g (.stringIter r p1) }:World).heap[b]?=w.heap[b]?:=fun b E=>by
  simp only[];rw[al3 (fun e=>E e.symm)]
 have m:w.heap.size≤({ w with heap:=w.heap.setIfInBounds g (.stringIter r p1) }:World).heap.size:=by simp
 refine⟨h.below.trans ⟨rfl,rfl,rfl,m,fun k a _=>d k (by omega)⟩,h.old,h.use,fun i k a=>⟨(h.own i k a).1,u7 (h.own i k a).2 m⟩,h.inj,h.ko,h.kr,fun i cs l q=>?_,fun i ar l q=>?_,h.pin⟩
 ·obtain⟨u,T,vs,y,o,p⟩:=h.objs i cs l q;refine⟨u,T,vs,y,(d u (fun e=>by subst e;rw[f]at o;cases o)).trans o,p.len,p.one,fun j x v n J=>(p.rel j x v n J).iter f m d (.inl (w9 (UC H l) j x n))⟩
 ·obtain⟨v,xs,z,A,B,C,D⟩:=h.arrs i ar l q;refine⟨v,xs,z,TZ f d A,B,C,fun j e F k c a=>?_⟩;obtain⟨x,n,I⟩:=D j e F k c a;exact⟨x,n,I.iter f m d⟩
def Ir(t id g:Nat)(b:ByteArray)(p:Nat)(s:AS):AS:={ s with t:=bm t (.sit id g b p) s.t }
theorem aX.iter(h:aX d s a w ι){t id g:Nat}{b:ByteArray}{p p1:Nat}(z:look t s.t=some (.sit id g b p))(c:d.w0.w.heap.size≤g)(u:vL t s.t=true)(m:tP s.o=true):
  a.tmps[t]?=some (.pointer (some ⟨g,0,none⟩))∧w.heap[g]?=some (.stringIter b p)∧aX d (Ir t id g b p1 s) a { w with heap:=w.heap.setIfInBounds g (.stringIter b p1) } ι:=by
 obtain⟨x,o,n⟩:=h.tmp t _ z;cases n with
 | sit _ _ _ _ _ C j q i =>
  refine⟨o,i,⟨⟨(h.hs.iter i c m).below,h.hs.old,h.hs.use,(h.hs.iter i c m).own,h.hs.inj,h.hs.ko,h.hs.kr,(h.hs.iter i c m).objs,(h.hs.iter i c m).arrs,h.hs.pin⟩,h.dfr,h.n,fun k v f=>?_⟩⟩;have A:∀l,l≠g→({ w with heap:=w.heap.setIfInBounds g (.stringIter b p1) }:World).heap[l]?=w.heap[l]?:=fun l r=>by
   simp only[];rw[al3 (fun e=>r e.symm)]
  simp only[Ir,cr]at f;split at f
  ·rename_i e;subst e;injection f with f;subst f
   exact⟨_,o,.sit _ _ _ _ _ C (by simpa using j) q (by simp[Array.getElem?_setIfInBounds_self_of_lt,j])⟩
  ·rename_i e;obtain⟨y,B,n⟩:=h.tmp k v f;exact⟨y,B,n.iter i (by simp) A (.inl (VY u f e))⟩
def Ns(id:Nat)(s:AS):AS:={ s with u:=id::s.u }
theorem aX.range(h:aX d s a w ι){id:Nat}(C:has s.u id=false)(b:ByteArray):
  aX d (Ns id s) a (w.iter b 0) (ext ι id (.int .u64 (w.heap.size:Nat)))∧Rel (NN d.M (ext ι id (.int .u64 (w.heap.size:Nat)))) (w.iter b 0) (ext ι id (.int .u64 (w.heap.size:Nat))) (.sit id w.heap.size b 0) (.pointer (some ⟨w.heap.size,0,none⟩)):=by
 have O:=h.hs.free C;have p:=h.hs.fresh (.stringIter b 0);have t:=fp O (.int .u64 (w.heap.size:Nat));have m:∀g,NN d.M (ext ι id (.int .u64 (w.heap.size:Nat))) g→NN d.M ι g:=fun g l=>by
  rcases gx l with l|l
  ·exact l
  ·cases l
 have z:∀{i g},bw (ext ι id (.int .u64 (w.heap.size:Nat)) i)=some g→bw (ι i)=some g:=fun {i g} l=>by
  by_cases e:i=id
  ·subst e;rw[cN]at l;cases l
  ·rw[bT _ _ e]at l;exact l
 have sm:∀i,(∃c,look i s.o=some c)∨(∃c,look i s.r=some c)→i≠id:=fun i f e=>by
  subst e;obtain⟨c,f⟩|⟨c,f⟩:=f
  ·have:=h.hs.ko i c f;rw[C]at this;cases this
  ·have:=h.hs.kr i c f;rw[C]at this;cases this
 refine⟨⟨⟨p.below,h.hs.old,fun i y u=>?_,fun i g l=>p.own i g (z l),fun i S g l A=>h.hs.inj i S g (z l) (z A),fun i c f=>eh (h.hs.ko i c f),fun i c f=>eh (h.hs.kr i c f),fun i c f o=>?_,fun i c f o=>?_,fun i v o=>⟨t i v (h.hs.pin i v o).1,qj (h.hs.pin i v o).2⟩⟩,h.dfr,h.n,fun k v Q=>?_⟩,?_⟩
 ·by_cases e:i=id
  ·subst e;exact ju _ _
  ·rw[bT _ _ e]at u;exact eh (h.hs.use i y u)
 ·have e:=sm i (.inl ⟨c,f⟩);rw[bT _ _ e]at o;obtain⟨g,T,vs,D,E,F⟩:=p.objs i c f o;exact⟨g,T,vs,(bT _ _ e).trans D,E,F.mono (jf _) (fun b _ n=>m b n) (fun _ _ _=>rfl) t⟩
 ·have e:=sm i (.inr ⟨c,f⟩);rw[bT _ _ e]at o;obtain⟨v,xs,I,J,K,L,M⟩:=p.arrs i c f o;refine⟨v,xs,(bT _ _ e).trans I,J,K,L,fun j G N q x P=>?_⟩;obtain⟨y,u,B⟩:=M j G N q x P;exact⟨y,u,B.mono (jf _) (fun b _ n=>m b n) (fun _ _ _=>rfl) (fun r H=>t _ _ H) (fun _ _=>rfl) (fun h=>h)⟩
 ·obtain⟨x,R,B⟩:=h.tmp k v Q;exact⟨x,R,B.mono (by simp[World.iter]) (fun b _ n=>m b n) (fun b n _=>u5 _ _ _ n) t⟩
 ·refine .sit _ _ _ _ _ (cN _ _ _) (by simp[World.iter]) (fun n=>?_) (w.iter_heap b 0);have:=lN h.hs (m _ n);omega
end
section
variable{d:Cx}{Q:Exit→Act→World→Prop}{e:dn}{s:AS}{c:Array Oper}{f:Func}{p:d7}{i:Nat}
def O5(P:Program)(s:AS)(o:Oper):Option ByteArray:=match o.op with
 | .range T x=>match P.underlying T,s.ev x with
  | some .string,some (.str b)=>some b
  | _,_=>none
 | _=>none
theorem Js(id:Nat){b:ByteArray}(k:∀g,d.w0.w.heap.size≤g→OT d Q e c (aW f p (i+1)) ((Ns id s).put (aY f p i).dst (.sit id g b 0)))(A:aW f p i=aY f p i::aW f p (i+1):=by kernel_rfl)(z:cz c s (aY f p i)=true:=by kernel_rfl)
  (h:O5 d.P s (aY f p i)=some b:=by kernel_rfl) (B:has s.u id=false:=by kernel_rfl) (y:cH d.n (aY f p i).dst=true:=by kernel_rfl):OT d Q e c (aW f p i) s:=by
 rw[A];refine fk _ z fun a w ι n=>?_;refine abL rfl fun K t=>?_;unfold O5 at h;split at h
 case h_2=>cases h
 rename_i T x m;split at h
 case h_2=>cases h
 rename_i l u C;injection h with h;subst h
 obtain⟨q,r⟩:=n.range B l;have o:=n.ev C;generalize v:a.eval x=X at o;cases o;have j:(execOp a.eval ({ aY f p i with guard:=none }:Oper)).run d.P w=.ok (.value (.pointer (some ⟨w.heap.size,0,none⟩))) (w.iter l 0):=by
  unfold execOp;simp[m,v,run_range_string w T l u]
 unfold Oper.wp;rw[j];exact t _ _ (k _ n.hs.below.size _ _ _ (q.put (gj y) r))
def Bd(s:AS)(o:Oper):Option (Nat×Nat×Nat×ByteArray×Nat):=match o.op with
 | .next (.tmp t) true=>match look t s.t with
  | some (.sit id g b p)=>some (t,id,g,b,p)
  | _=>none
 | _=>none
theorem Gr(t:Nat){id g:Nat}{b:ByteArray}{j:Nat}(m:decide (j<b.size)=true)(y:d.w0.w.heap.size≤g)
  (k:OT d Q e c (aW f p (i+1)) ((Ir t id g b (j+(Utf8.decode b j).2) s).put (aY f p i).dst (.tup [.bool true,.int .i64 (j:Nat),.int .i32 ((Utf8.decode b j).1:Nat)])))
  (L:aW f p i=aY f p i::aW f p (i+1):=by kernel_rfl) (J:cz c s (aY f p i)=true:=by kernel_rfl) (h:Bd s (aY f p i)=some (t,id,g,b,j):=by kernel_rfl) (I:cH d.n (aY f p i).dst=true:=by kernel_rfl)
  (z:(vL t s.t&&tP s.o)=true:=by kernel_rfl):OT d Q e c (aW f p i) s:=by
 rw[L];refine fk _ J fun a w ι M=>?_;refine abL rfl fun K G=>?_;have m:=jt m;unfold Bd at h;split at h
 case h_2=>cases h
 rename_i C A;split at h
 case h_2=>cases h
 rename_i O B r l N;simp only[sj,wl]at h;obtain⟨rfl,rfl,rfl,rfl,rfl⟩:=h;simp only[h8]at z;obtain⟨D,E,F⟩:=M.iter (p1:=l+(Utf8.decode r l).2) N y z.1 z.2;have H:a.eval (.tmp C)=.pointer (some ⟨B,0,none⟩):=by show a.tmps.getD C undef=_;rw[ti,D];rfl
 have u:(execOp a.eval ({ aY f p i with guard:=none }:Oper)).run d.P w=.ok (.value (.tuple #[.bool true,.int .i64 (l:Nat),.int .i32 ((Utf8.decode r l).1:Nat)])) { w with heap:=w.heap.setIfInBounds B (.stringIter r (l+(Utf8.decode r l).2)) }:=by
  unfold execOp;simp only[A,H];simp[Instr.next,getObj,setObj,th,Sem.run,E,Result.andThen,m,goInt]
 unfold Oper.wp;rw[u];refine G _ _ (k _ _ _ (F.put (gj I) (.tup _ _ [.bool true,.int .i64 (l:Nat),.int .i32 ((Utf8.decode r l).1:Nat)] rfl fun q x v n o=>?_)));rcases q with _|_|_|q
 ·simp at n o;subst n;subst o;exact .bool _ _
 ·simp at n o;subst n;subst o;exact .int _ _ _
 ·simp at n o;subst n;subst o;exact .int _ _ _
 ·simp at n
theorem Jc(t:Nat){id g:Nat}{b:ByteArray}{l:Nat}(j:decide (l<b.size)=false)(k:OT d Q e c (aW f p (i+1)) (s.put (aY f p i).dst (.tup [.bool false])))
  (G:aW f p i=aY f p i::aW f p (i+1):=by kernel_rfl) (F:cz c s (aY f p i)=true:=by kernel_rfl) (h:Bd s (aY f p i)=some (t,id,g,b,l):=by kernel_rfl) (E:cH d.n (aY f p i).dst=true:=by kernel_rfl):OT d Q e c (aW f p i) s:=by
 rw[G];refine fk _ F fun a w ι r=>?_;refine abL rfl fun K C=>?_;have j:¬ l<b.size:=of_decide_eq_false j;unfold Bd at h;split at h
 case h_2=>cases h
 rename_i y n;split at h
 case h_2=>cases h
 rename_i J z L M I;simp only[sj,wl]at h;obtain⟨rfl,rfl,rfl,rfl,rfl⟩:=h;obtain⟨x,A,H⟩:=r.tmp _ _ I;cases H with
 | sit _ _ _ _ _ _ _ _ B =>
  have D:a.eval (.tmp y)=.pointer (some ⟨z,0,none⟩):=by show a.tmps.getD y undef=_;rw[ti,A];rfl
  have m:(execOp a.eval ({ aY f p i with guard:=none }:Oper)).run d.P w=.ok (.value (.tuple #[.bool false])) w:=by
   unfold execOp;simp only[n,D];simp[Instr.next,getObj,th,Sem.run,B,Result.andThen,j]
  unfold Oper.wp;rw[m];refine C _ _ (k _ _ _ (r.put (gj E) (.tup _ _ [.bool false] rfl fun q x v o u=>?_)));rcases q with _|q
  ·simp at o u;subst o;subst u;exact .bool _ _
  ·simp at o
end
def Ad(b:Bool)(id:Nat):AV:=match b with|true=>.ptr id 0|false=>.nilp
theorem Da{o}:∀{a},(a.map fun p=>look p.1 o)=(a.map fun p=>some p.2)→cw o a
 | [],_=>trivial
 | (j,c)::r,h=>by
  simp only[rv,ald]at h;exact⟨h.1,Da h.2⟩
section
variable{j:Cx}{Q:Exit→Act→World→Prop}{q:dn}{e:Exit}{s:AS}{m:Array Oper}{l:List Oper}{f:Func}{p:d7}{i:Nat}{r:Func}
theorem fj{V}{a}{b}{ar}(h:gP j.P s r.results.toList=some [V]:=by kernel_rfl)(c:look b s.r=some ar:=by kernel_rfl)(d:(a.map fun p=>look p.1 s.o)=(a.map fun p=>some p.2):=by kernel_rfl):
  VE j (bodyPost j.P r (bR j.M j.w0 (fun v s=>v=V∧cw s.o a∧look b s.r=some ar))) [] .ret s:=qg rfl h ⟨rfl,Da d,c⟩
theorem pM{l}{a}{b}{ar}(h:gP j.P s r.results.toList=some l:=by kernel_rfl)(c:look b s.r=some ar:=by kernel_rfl)(d:(a.map fun p=>look p.1 s.o)=(a.map fun p=>some p.2):=by kernel_rfl)(e:qV l=.tup l:=by kernel_rfl):
  VE j (bodyPost j.P r (bR j.M j.w0 (fun v s=>v=.tup l∧cw s.o a∧look b s.r=some ar))) [] .ret s :=by grind[qg,Da]
theorem Hd d i n et sz(h:OT j Q q m l (CV d i n et sz s))(a:has s.u d=false:=by kernel_rfl)(b:Cg i n s=true:=by kernel_rfl):OT j Q q m l s:=by
 grind[Cg,CV,Zy]
theorem po(g:FuncId)(b:Array Operand)(l:ck)(k:OT j Q q m (aW f p (i+1)) (s.put (aY f p i).dst (.fno g l)))(z:aW f p i=aY f p i::aW f p (i+1):=by kernel_rfl)(x:cz m s (aY f p i)=true:=by kernel_rfl)
  (d:(aY f p i).op=.makeFunc (.func g) #[] b:=by kernel_rfl) (v:dr s b.toList=some l:=by kernel_rfl) (u:cH j.n (aY f p i).dst=true:=by kernel_rfl):OT j Q q m (aW f p i) s:=by
 rw[z];refine fk _ x fun a w ι h=>?_;refine abL rfl fun K t=>?_;obtain⟨A,B⟩:=lq h v;have r:Rel (NN j.M ι) w ι (.fno g l) (.func (.func g) #[] (b.map a.eval)):=by
  have e:=Rel.fno (N:=NN j.M ι) (w:=w) ι g l (b.map a.eval).toList (by simp at A⊢;omega) (fun i c y n o=>B i c y n (by simpa using o));rw[ain]at e;exact e
 unfold Oper.wp execOp;simp only[d,Instr.makeFunc,th,RX,u4,amO];exact t _ _ (k _ _ _ (h.put (gj u) r))
def aej(d id:Nat)(cs:ck)(s:AS):AS:=⟨bm d (.ptr id 0) s.t,bm id cs s.o,s.r,id::s.u⟩
def OO(P:Program)(o:Oper):Option (Nat×Nat×ck):=match o.op,o.dst with
 | .alloc T,some d=>match ft P T with|some cs=>some (T,d,cs)|none=>none
 | _,_=>none
theorem age(id:Nat){T d:Nat}{cs:ck}(k:OT j Q q m (aW f p (i+1)) (aej d id cs s))(h:OO j.P (aY f p i)=some (T,d,cs):=by kernel_rfl)(O:aW f p i=aY f p i::aW f p (i+1):=by kernel_rfl)(M:cz m s (aY f p i)=true:=by kernel_rfl)
  (L:cH j.n (aY f p i).dst=true:=by kernel_rfl) (C:has s.u id=false:=by kernel_rfl) (I:Nat.beq T ((id-450000) % 1000)=true:=by kernel_rfl):OT j Q q m (aW f p i) s:=by
 rw[O];refine fk _ M fun a w ι y=>?_;refine abL rfl fun K H=>?_;unfold OO at h;split at h
 case h_2=>cases h
 rename_i T' E x l;split at h
 case h_2=>cases h
 rename_i t r;simp only[sj,wl]at h;obtain⟨rfl,rfl,rfl⟩:=h;unfold ft at r;cases c:j.P.info? T' with
 | none=>simp[c]at r
 | some R =>
  cases g:R.zero with
  | none=>simp[c,g]at r
  | some D =>
   simp only[c,h7,g]at r;have J:=mE (NN j.M ι) w ι r;have z:=y.hs.alloc (d:=id) C (T:=T') (fun _ _=>mo I) J;have P:=y.hs.free C;have F:aX j { s with o:=bm id t s.o,u:=id::s.u } a (w.alloc (.cells D.cells.toList.toArray T')) (ext ι id (.pointer (some ⟨w.heap.size,0,none⟩))):=by
    refine y.world z rfl (by simp) (fun b B e=>?_) (fun b B _=>u5 _ _ _ B) (fp P _);rcases gx e with e|e
    ·exact e
    ·injection e with e;simp only[]at e;omega
   have A:=F.put (d:=some E) (fun k N=>gj L k (by rw[l];exact N)) (v:=.ptr id 0) (.ptr _ _ _ _ (cN _ _ _));simp only[ain]at A;have n:(execOp a.eval ({ aY f p i with guard:=none }:Oper)).run j.P w=.ok (.value (.pointer (some ⟨w.heap.size,0,none⟩))) (w.alloc (.cells D.cells T')):=by
    unfold execOp;simp[x,Instr.alloc,zeroValue,typeInfo,c,g,newVar,newRow]
   unfold Oper.wp;rw[n];have G:=k _ _ _ A;refine H _ _ ?_;show _;simp only[l];exact G
end
set_option maxHeartbeats 1000000 in
set_option maxRecDepth 100000 in
theorem ad9(b:Nat)(w:World)(a:w.cell? ⟨b,0,none⟩=some (.pointer (some ⟨b,0,none⟩))):
  Calls Tryz.prog 123 #[.pointer (some ⟨b,0,none⟩)] w fun e w'=>e=.returned (.tuple #[])∧w'=w:=by
 go_enter Tryz.func123,Tryz.ntmps123
 go_wp2
 rw[Lib.run_neq_ptr_same w _ (te:=119) (by kernel_rfl) (j:=(Tryz.prog.info? 119).get (by kernel_rfl)) (by kernel_rfl)]
 go_wp2
 go_end0
 exact⟨rfl,rfl⟩
set_option maxHeartbeats 1000000 in
set_option maxRecDepth 100000 in
theorem acU(b:Nat)(w:World)(d:w.cell? ⟨b,0,none⟩=some (.pointer none))(a:w.shape? b=some (119,2))(c:w.frozen? ⟨b,0,none⟩=false):
  Calls Tryz.prog 123 #[.pointer (some ⟨b,0,none⟩)] w fun e w'=>e=.returned (.tuple #[])∧w'=w.setCell ⟨b,0,none⟩ (.pointer (some ⟨b,0,none⟩)):=by
 go_enter Tryz.func123,Tryz.ntmps123
 go_wp2
 rw[Lib.run_to_unsafe w ⟨b,0,none⟩ (t:=119) (by kernel_rfl) (by kernel_rfl) (j:=(Tryz.prog.info? 119).get (by kernel_rfl)) (by kernel_rfl) (jt (by kernel_rfl)) a (Nat.zero_lt_succ 1)];simp only[Result.andThen];rw[anj]
 go_wp2
 rw[run_callFunc_extern Tryz.func157 (by kernel_rfl) (by kernel_rfl) (by kernel_rfl) (e:=Extern.AbiNoEscape.same) (by kernel_rfl)];rw[Lib.run_noEscape];simp only[Result.andThen];rw[anj]
 go_wp2
 rw[Lib.run_from_unsafe w ⟨b,0,none⟩ (u:=119) (by kernel_rfl) (by kernel_rfl) (j:=(Tryz.prog.info? 119).get (by kernel_rfl)) (by kernel_rfl) a (by kernel_rfl)];simp only[Result.andThen];rw[anj]
 go_wp2
 go_end0
 exact⟨rfl,rfl⟩
set_option maxHeartbeats 1000000 in
set_option maxRecDepth 100000 in
theorem aey(b g a:Nat)(p:Value)(c:Array Value)(l:List UInt8)(w:World)(f:w.heap[b]?=some (.cells #[p,.slice (some ⟨g,0,none⟩) l.length a] 119 (0,0)))(q:w.heap[g]?=some (.cells c 5 (0,0)))(k:l≠[])(s:l.length≤a)(h:a≤maxLen)(o:c.size=a)
  (d:∀j x,l[j]?=some x→w.cell? ((⟨g,0,none⟩:Addr).add j)=some (.int .u8 x.toNat)) :
  Calls Tryz.prog 71 #[.pointer (some ⟨b,0,none⟩)] w fun e w'=>e=.returned (.string ⟨l.toArray⟩)∧w'=w.drew.freeze ⟨g,0,none⟩ l.length:=by
 have r:l.length≠0:=by simpa using k
 have c1:w.drew.cell? ⟨b,1,none⟩=some (.slice (some ⟨g,0,none⟩) l.length a):=by
  have:w.drew.heap[b]?=some (.cells #[p,.slice (some ⟨g,0,none⟩) l.length a] 119 (0,0)):=f;rw[anc this];rfl
 have m:(Builtin.unsafeSliceData_ #[117] 173 #[.slice (some ⟨g,0,none⟩) l.length a]).run Tryz.prog w.drew=.ok (.pointer (some ⟨g,0,none⟩)) w.drew :=
  Lib.run_unsafeSliceData_row _ _ _ _ _ _ (by omega)
 have n:(Builtin.unsafeString_ #[173,3] 9 #[.pointer (some ⟨g,0,none⟩),.int .i64 l.length]).run Tryz.prog w.drew=.ok (.string ⟨l.toArray⟩) (w.drew.freeze ⟨g,0,none⟩ l.length):=by
  refine Lib.run_unsafeString_row w.drew 173 3 9 5 (by kernel_rfl) (by kernel_rfl) g c.size (by have i:w.drew.heap[g]?=some (.cells c 5 (0,0)):=q;simp[World.shape?,i]) l k (by omega) (by unfold maxLen at h;omega) ?_;intro j x t;exact d j x t
 go_enter Tryz.func71,Tryz.ntmps71
 go_wp2
 go_region
 all_goals (go_wp2;go_ret;exact⟨rfl,rfl⟩)
def CF(F:Nat)(s:AS)(o:Oper):Option AV:=match o.op with
 | .call c=>match c.callee,c.args.toList with
  | .value (.func g),[x]=>match Nat.beq g F with
   | true=>s.ev x
   | false=>none
  | _,_=>none
 | _=>none
theorem NR{d:Cx}{s:AS}{a:Act}{w:World}{ι:Env}(m:aX d s a w ι){F:Nat}{o:Oper}{v:AV}(h:CF F s o=some v)(i:cG d.P F=true):
  ∃x,Rel (NN d.M ι) w ι v x∧(execOp a.eval ({ o with guard:=none }:Oper)).run d.P w=.ok (.enter F #[x]) w:=by
 unfold CF at h;split at h
 case h_2=>cases h
 rename_i c k;split at h
 case h_2=>cases h
 rename_i g x b e;split at h
 case h_2=>cases h
 rename_i j;have j:=mo j;subst j;obtain⟨q,p,n,_⟩:=ln (o:={ o with guard:=none }) m k b (f:=g) (aV:=[]) rfl i;have l:q=[]:=nx (by grind);subst l;have r:c.args = #[x]:=by grind
 exact⟨a.eval x,m.ev h,by grind⟩
section
variable{c:Cx}{Q:Exit→Act→World→Prop}{l:dn}{s:AS}{d:Array Oper}{f:Func}{p:d7}{i:Nat}
def Rt(id T:Nat)(s:AS):Option (Bool×AV):=match Nat.ble 450000 id&&Nat.ble (id+1) 500000&&Nat.beq T ((id-450000) % 1000),look id s.o with
 | true,some [.nilp,c1]=>some (false,c1)
 | true,some [.ptr i 0,c1]=>match Nat.beq i id with|true=>some (true,c1)|false=>none
 | _,_=>none
def FR(id:Nat)(c1:AV)(s:AS):AS:={ s with o:=bm id [.ptr id 0,c1] s.o }
theorem Na(id:Nat){b:Bool}{c1:AV}(k:OT c Q l d (aW f p (i+1)) ((FR id c1 s).put (aY f p i).dst (.tup [])))(R:c.P=Tryz.prog:=by rfl)
  (hl:aW f p i=aY f p i::aW f p (i+1):=by kernel_rfl) (hg:cz d s (aY f p i)=true:=by kernel_rfl) (h:CF 123 s (aY f p i)=some (.ptr id 0):=by kernel_rfl)
  (n:Rt id 119 s=some (b,c1):=by kernel_rfl) (Z:cH c.n (aY f p i).dst=true:=by kernel_rfl):OT c Q l d (aW f p i) s:=by
 rw[hl];refine fk _ hg fun a w ι H=>?_;refine abL rfl fun K Y=>?_;have M:cG c.P 123=true:=by rw[R];kernel_rfl
 obtain⟨x,y,hr⟩:=NR H h M;cases y with
 | ptr _ _ _ g z =>
 have W:∃c0,look id s.o=some [c0,c1]∧(Nat.ble 450000 id&&Nat.ble (id+1) 500000&&Nat.beq 119 ((id-450000) % 1000))=true∧c0=Ad b id:=by
  unfold Rt at n;split at n
  ·rename_i G B;injection n with n;injection n with o r;subst o;subst r;exact⟨_,B,G,rfl⟩
  ·rename_i G B;split at n
   ·rename_i j _ _ _ _ N;have N:=mo N;subst N;injection n with n;injection n with o r;subst o;subst r;exact⟨_,B,G,rfl⟩
   ·cases n
  ·cases n
 obtain⟨c0,ho,I,C⟩:=W;simp only[h8]at I;obtain⟨g',T,vs,o,r,F⟩:=H.hs.objs id _ ho (by rw[z];rfl);rw[z]at o;injection o with o;injection o with o;injection o with o;injection o with o;subst o
 have S:T.1=119:=by
  rw[T.2 (iF I.1.1) (Nat.lt_of_succ_le (iF I.1.2))];exact(mo I.2).symm
 have P:vs.size=2:=by have:=F.len;simp at this;omega
 obtain⟨J,E,rfl⟩:∃J E,vs = #[J,E]:=⟨vs[0],vs[1],by apply Array.ext (by simp[P]);intro i G B;simp at B;rcases i with _|_|i;rfl;rfl;omega⟩;have V:=F.rel 0 c0 J rfl rfl;have r1:=F.rel 1 c1 E rfl rfl;rw[S]at r;have t:w.cell? ⟨g,0,none⟩=some J:=by rw[anc r];rfl
 unfold Oper.wp;rw[hr,af6];have O : @Cells (NN c.M ι) w ι [.ptr id 0,c1] [.pointer (some ⟨g,0,none⟩),E]:=⟨rfl,fun v u=>by
  rcases qk.1 u with rfl|u
  ·rfl
  ·exact F.one v (pt _ u),fun q x v y u=>by
  rcases q with _|_|q
  ·simp at y u;subst y;subst u;exact .ptr _ _ _ _ z
  ·simp at y u;subst y;subst u;exact r1
  ·simp at y⟩
 have A:∀w',w'=w.setRow g #[.pointer (some ⟨g,0,none⟩),E]→aX c (FR id c1 s) a w' ι:=fun w' D=>by
  subst D;have X:=H.hs.setObj (T:=T) z (by rw[S];exact r) O;have L:bw (ι id)=some g:=by rw[z];rfl
  exact H.world X rfl (by simp) (fun b _ n=>n) (fun b _ n=>eK (fun e=>n (.inr ⟨id,by rw[e];exact L⟩))) (fun _ _ h=>h)
 have U:∀w',aX c (FR id c1 s) a w' ι→K (a.put (aY f p i).dst (.tuple #[])) w':=fun w' D=>Y _ _ (k _ _ _ (D.put (gj Z) (.tup _ [] [] rfl (fun q x v y u=>by simp at y))));rw[R];cases b with
 | true =>
  subst C;cases V with
  | ptr _ _ _ g2 m =>
   rw[z]at m;injection m with m;injection m with m;injection m with m;injection m with m;subst m
   refine (ad9 g w t).mono ?_
   rintro e w' ⟨he,D⟩
   subst he;rw[D];exact U _ (A _ (setRow_self w g _ _ _ r).symm)
 | false =>
  subst C;cases V with
  | nilp =>
   refine (acU g w t (by simp[World.shape?,r]) (Lib.frozen_of_heap r 0)).mono ?_
   rintro e w' ⟨rfl,rfl⟩
   exact U _ (A _ (by rw[setCell_eq_setRow w g 0 _ _ _ _ r];rfl))
end
def qC(L:b7):Bool:=L.all (fun n=>decide (0≤n)&&decide (n<256))&&!L.isEmpty
def bytesOf(L:b7):ByteArray:=⟨(L.map fun n=>UInt8.ofNat n.toNat).toArray⟩
theorem HS.gone{M:Nat→Prop}{P:aC}{w w':World}{ι:Env}{s:AS}(h:HS M P w ι s){id g:Nat}{ar:bW}(U:look id s.r=some ar)(A:bw (ι id)=some g)(H:P.pv id=none)(I:w'.os=w.os)(K:w'.tape=w.tape)(J:w'.output=w.output)(n:w'.heap.size=w.heap.size)(B:∀b,b≠g→w'.heap[b]?=w.heap[b]?):
  HS M P w' (fR ι id) { s with t:=dC id s.t,o:=fc id s.o }∧(∀{v:AV} {x:Value},Rel (NN M ι) w ι v x→Rel (NN M (fR ι id)) w' (fR ι id) (v.cT id) x):=by
 have Q:∀b,b<w.heap.size→¬ NN M ι b→w'.heap[b]?=w.heap[b]?:=fun b _ f=>B b (fun e=>f (.inr ⟨id,by rw[e];exact A⟩));have T:∀{v:AV} {x:Value},Rel (NN M ι) w ι v x→Rel (NN M (fR ι id)) w' (fR ι id) (v.cT id) x:=fun N =>
  (N.cT (fun i p=>fJ ι p)).mono (by rw[n];exact jf _) (fun b _ f=>kL b f) Q (fun _ _ h=>h)
 refine⟨⟨?_,h.old,fun i y m=>h.use i y (nA m).2,fun i b f=>?_,fun i i' b f F=>h.inj i i' b (ke f).2 (ke F).2,fun i cs p=>?_,h.kr,fun i cs p l=>?_,fun i a p l=>?_,fun i y l=>?_⟩,T⟩
 ·refine h.below.trans ⟨I,K,J,by rw[n];exact jf _,fun k G X=>B k (fun e=>?_)⟩;subst e;rcases (h.own id k A).1 with E|E
  ·exact absurd G (alK.2 E)
  ·exact X E
 ·obtain⟨q1,q2⟩:=h.own i b (ke f).2;exact⟨q1,by rw[n];exact q2⟩
 ·obtain⟨u,L,_⟩:=jv p;exact h.ko i u L
 ·obtain⟨u,L,rfl⟩:=jv p;obtain⟨y,m⟩:=EZ l;obtain⟨d,m⟩:=nA m;obtain⟨R,T',vs,q,D,z⟩:=h.objs i u L (by rw[fJ ι d]at l;exact l);refine⟨R,T',vs,(fJ ι d).trans q,(B R (fun e=>d (h.inj i id g (by rw[q,e];rfl) A))).trans D,by rw[mi];exact z.len,z.one,fun j x v O N=>?_⟩;obtain⟨y,m,rfl⟩:=lC O;exact T (z.rel j y v m N)
 ·obtain⟨y,m⟩:=Db.mp l;obtain⟨d,m⟩:=nA m;obtain⟨v,xs,q,D,z,V,W⟩:=h.arrs i a p (by rw[m];rfl);refine⟨v,xs,(fJ ι d).trans q,f8 D (fun b f=>B b (fun e=>d (h.inj i id g (by rw[q,← e];exact f) A))),z,V,fun j e Z k c Y=>?_⟩;obtain⟨x,O,hr⟩:=W j e Z k c Y;refine⟨x,O,hr.mono (by rw[n];exact jf _) (fun b _ f=>kL b f) Q (fun r S=>(fJ ι (h.Au U S)).trans S) (fun r C=>B r (fun e=>?_)) (fun h=>h)⟩;subst e;exact h.Au U C (h.inj _ id r (by rw[C];rfl) A)
 ·have e:i≠id:=fun e=>by subst e;rw[H]at l;cases l
  exact⟨(fJ ι e).trans (h.pin i y l).1,(h.pin i y l).2⟩
section
variable{m:Cx}{Q:Exit→Act→World→Prop}{r:dn}{s:AS}{d:Array Oper}{f:Func}{p:d7}{i:Nat}
def LO(id a T b:Nat)(s:AS):Option (List ck):=match Nat.ble 450000 id&&Nat.ble (id+1) 500000&&Nat.beq T ((id-450000) % 1000)&&Nat.ble (a+1) TG&&(match s.u.contains (dk a) with|true=>false|false=>true),look id s.o,look a s.r with
 | true,some [_,.ref i],some ar=>match Nat.beq i a&&Nat.beq ar.e b&&Nat.beq ar.sz 1 with|true=>some ar.l|false=>none
 | _,_,_=>none
theorem UO(id P:Nat){L:b7}(hL:qC L=true)(k:OT m Q r d (aW f p (i+1)) ({ s with t:=dC P s.t,o:=fc P s.o }.put (aY f p i).dst (.str (bytesOf L))))(hP:m.P=Tryz.prog:=by rfl)
  (hl:aW f p i=aY f p i::aW f p (i+1):=by kernel_rfl) (hg:cz d s (aY f p i)=true:=by kernel_rfl) (h:CF 71 s (aY f p i)=some (.ptr id 0):=by kernel_rfl)
  (B:LO id P 119 5 s=some (L.map (ak .u8)):=by kernel_rfl) (hd:cH m.n (aY f p i).dst=true:=by kernel_rfl):OT m Q r d (aW f p i) s:=by
 rw[hl];refine fk _ hg fun a w ι H=>?_;refine abL rfl fun K hK=>?_;have f0:cG m.P 71=true:=by rw[hP];kernel_rfl
 obtain⟨x,hx,hr⟩:=NR H h f0;cases hx with
 | ptr _ _ _ g hι =>
 unfold LO at B;split at B
 case h_2=>cases B
 rename_i c0 j ar ht ho ha;split at B
 case h_2=>cases B
 rename_i R;simp only[h8]at ht R;obtain⟨⟨R,N⟩,F⟩:=R;have R:=mo R;subst R;have N:=mo N;have F:=mo F;injection B with B
 obtain⟨⟨⟨⟨t1,t2⟩,t3⟩,t4⟩,t5⟩:=ht;obtain⟨g',T,vs,C,e2,e3⟩:=H.hs.objs id _ ho (by rw[hι];rfl);rw[hι]at C;injection C with C;injection C with C;injection C with C;injection C with C;subst C
 have hT:T.1=119:=by
  rw[T.2 (iF t1) (Nat.lt_of_succ_le (iF t2))];exact(mo t3).symm
 have k0:vs.size=2:=by have:=e3.len;simp at this;omega
 obtain⟨x0,x1,rfl⟩:∃x0 x1,vs = #[x0,x1]:=⟨vs[0],vs[1],by apply Array.ext (by simp[k0]);intro i U h2;simp at h2;rcases i with _|_|i;rfl;rfl;omega⟩;have r1:=e3.rel 1 _ x1 rfl rfl;rw[hT]at e2;cases r1 with
 | ref _ _ A n c hc =>
 obtain⟨v,xs,U,h2,h3,h4,h5⟩:=H.hs.arrs j ar ha (by rw[hc];rfl);rw[hc]at U;injection U with U;subst U
 simp only[qC,h8]at hL;have W:ar.l.length=L.length:=by rw[B];simp
 have a0:L≠[]:=by intro e;rw[e]at hL;simp at hL
 have q0:0<L.length:=amj.2 a0;obtain⟨_,h0⟩|⟨D,p0,S,hv,r0,M,hn,V,g0,l0⟩:=h2.2
 ·omega
 injection hv with v1 v2 v3
 subst v1;subst v2;subst v3;rw[N]at M
 let l:List UInt8:=L.map fun n=>UInt8.ofNat n.toNat
 have G:l.length=ar.l.length:=by simp[l,W]
 have I:∀(q:Nat) (n:Int),L[q]?=some n→0≤n∧n<256:=fun q n z=>by
  have:=ne.1 hL.1 n (lp z);simpa using this
 have o0:∀(q:Nat) (n:Int),L[q]?=some n→xs[q]?=some (.int .u8 n):=fun q n z=>by
  obtain⟨x,hx,O⟩:=h5 q [.int .u8 n] (by rw[B,An,z];rfl) 0 (.int .u8 n) rfl;rw[F]at hx;have O:=O.flat (by have:=iF t4;omega);cases O;simpa using hx
 have J:∀(q:Nat) (x:UInt8),l[q]?=some x→w.cell? ((⟨D,0,none⟩:Addr).add q)=some (.int .u8 x.toNat):=fun q x z=>by
  simp only[l,An]at z;cases E:L[q]? with
  | none=>rw[E]at z;cases z
  | some n =>
   rw[E]at z;simp only[MO,sj]at z;have Z:=o0 q n E;rw[←l0,yk]at Z;split at Z
   ·obtain⟨b0,b1⟩:=I q n E;have e0:w.cell? ⟨D,q,none⟩=S[q]?:=anc M q;have:((⟨D,0,none⟩:Addr).add q)=⟨D,q,none⟩:=by
     simp only[Addr.add,DO];split
     ·rename_i e;rw[e]
     ·rfl
    rw[this,e0,← afK,Z,← z];have m0:(((UInt8.ofNat n.toNat).toNat:Nat):Int)=n:=by
     rw[UInt8.toNat_ofNat',amD (by omega)];omega
    rw[m0]
   ·cases Z
 unfold Oper.wp;rw[hr,af6,hP];refine (aey g D c x0 S l w (by rw[G];exact e2) M (by intro e;rw[e]at G;simp at G;omega) (by rw[G];exact hn) V (by rw[g0,F];omega) J).mono ?_
 rintro e w' ⟨rfl,rfl⟩
 have d0:bw (ι j)=some D:=by rw[hc];rfl
 have i0:∀b,b≠D→(w.drew.freeze ⟨D,0,none⟩ l.length).heap[b]?=w.heap[b]?:=fun b B=>by
  unfold World.freeze;split
  ·rfl
  ·simp only[World.drew];rw[Array.getElem?_modify,kb (fun e=>B e.symm)]
 have X:s.u.contains (dk j)=false:=by
  cases z:s.u.contains (dk j) with
  | true=>rw[z]at t5;cases t5
  | false=>rfl
 obtain⟨q1,q2⟩:=H.hs.gone (w':=w.drew.freeze ⟨D,0,none⟩ l.length) ha d0 (H.hs.np X) (by unfold World.freeze;split<;>rfl) (by unfold World.freeze;split<;>rfl) (by unfold World.freeze;split<;>rfl) (by unfold World.freeze;split;rfl;simp only[World.drew,Array.size_modify]) i0;have Y:aX m { s with t:=dC j s.t,o:=fc j s.o } a (w.drew.freeze ⟨D,0,none⟩ l.length) (fR ι j):=⟨q1,H.dfr,H.n,fun k v hk=>by
  obtain⟨u,hu,rfl⟩:=oQ hk;obtain⟨y,hy,hr⟩:=H.tmp k u hu;exact⟨y,hy,q2 hr⟩⟩
 exact hK _ _ (k _ _ _ (Y.put (gj hd) (.str _ _)))
end
def EQ(a:Nat)(c:bW)(e:List hH)(b:Nat)(d:bW)(s:AS):AS:=⟨dC a s.t,yv e (fc a s.o),bm b d (bm a c s.r),b::s.u⟩
theorem HS.aag{M:Nat→Prop}{w0:aC}{w w':World}{ι E:Env}{s s1:AS}(h:HS M w0 w ι s){ρo ρ N:hF}{f C:Nat}{ar b0:bW}{O O1 o2:List hH}(hρ:ρ=(f,C)::ρo)(U:gR ρ N=true)(hO:fA ρ s.o ρo=some O)(hr:look f s.r=some ar)
  (a1:s.u.contains (dk f)=false) (j1:look f s.o=none) (g1:∀p∈ρo,look p.1 s.r=none) (y0:∀p∈ρo,∃y,cq N ι p.2=some y)
  (S:HS (fun b=>NN M ι b∧∀i,bw (cq N ι i)≠some b) (kR w (cq N ι) O) w' E s1) (v0:cw s1.o O1) (i1:look C s1.r=some b0) (t:dZ N O1 ρo=some o2)
  {l H:Nat} {d0:bW} {R:Value} (s0:has s.u l=false) (b1:look l ρ=none) (c1:H≠C) (d1:look H N=none) (l1:H<TG) (g0:E H=some R) (x0:look H s1.r=some d0) :
  HS M w0 w' (ext (cL ι E f C) l R) (EQ f b0 o2 l d0 s)∧(∀{v:AV} {x:Value},Rel (NN M ι) w ι v x→Rel (NN M (ext (cL ι E f C) l R)) w' (ext (cL ι E f C) l R) (v.cT f) x) ∧
   (∀{v v':AV} {x:Value},Rel (NN (fun b=>NN M ι b∧∀i,bw (cq N ι i)≠some b) E) w' E v x→ex ((H,l)::N) v=some v'→Rel (NN M (ext (cL ι E f C) l R)) w' (ext (cL ι E f C) l R) v' x):=by
 have f0:look f ρ=some C:=by rw[hρ];simp[look]
 have K:∀i,i≠l→ext (cL ι E f C) l R i=cL ι E f C i:=fun i I=>bT _ _ I;have Q:ext (cL ι E f C) l R l=some R:=cN _ _ _;have l0:∀id j,look id ρ=some j→id≠l:=fun id j e e'=>by rw[e',b1]at e;cases e
 have k1:f≠l:=l0 _ _ f0;have S0:=h.free s0;have p0:∀i,has s.u i=true→i≠l:=fun i I e=>by rw[e,s0]at I;cases I
 have f1:∀id j,(id,j)∈ρo→E j=ι id∧look j N=some id:=fun id j hm=>by
  have F:look j N=some id:=by
   have r0:=U;simp only[gR,h8,ne]at r0;exact qE (r0.1 (id,j) (by rw[hρ];exact pt _ hm)).1
  obtain⟨y,hy⟩:=y0 _ hm;obtain⟨c,hc⟩:=xx hO hm;have V:=(S.pin j y (by show(match look j O with|some _=>cq N ι j|none=>none)=some y;rw[hc];exact hy)).1;refine⟨?_,F⟩;rw[V,← kN (ι:=ι) F];exact hy.symm
 have f2:∀j id,look j N=some id→cL ι E f C id=E j:=fun j id e=>by
  have D:=fW U e;unfold cL;by_cases A:id=f
  ·subst A;rw[kc rfl];rw[f0]at D;injection D with D;rw[D]
  ·rw[kb A];have:=kh D;rw[hρ]at this;rcases qk.1 this with P|P
   ·injection P with e4 e5;exact absurd e4 A
   ·exact(f1 id j P).1.symm
 have z:∀{q b},bw (cq N ι q)=some b→∃id,look q N=some id∧bw (ι id)=some b:=fun {q b} hq=>by
  cases he:cq N ι q with
  | none=>rw[he]at hq;cases hq
  | some y=>obtain⟨id,F,D⟩:=jU he;exact⟨id,F,by rw[D];rw[he]at hq;exact hq⟩
 have o3:∀g,bw (some R)=some g→(w.heap.size≤g∨bw (ι f)=some g)∧g<w'.heap.size∧bw (E C)≠some g:=fun g B=>by
  have o0:bw (E H)=some g:=by rw[g0];exact B
  obtain⟨m,W⟩:=S.own H g o0;refine⟨?_,W,fun e=>c1 (S.inj H C g o0 e)⟩;rcases m with m|⟨q,m⟩
  ·exact .inl m
  ·obtain⟨id,F,D⟩:=z m;have:=kh (fW U F);rw[hρ]at this;rcases qk.1 this with P|P
   ·injection P with e4 e5;rw[e4]at D;exact .inr D
   ·have e9:=(f1 id q P).1;have:=S.inj q H g (by rw[e9];exact D) o0;rw[this,d1]at F;cases F
 have m0:w.heap.size≤w'.heap.size:=S.below.size;have ce:∀b,b<w.heap.size→(∀i,bw (cq N ι i)≠some b)→w'.heap[b]?=w.heap[b]?:=fun b Z t=>S.below.block b Z (fun⟨i,I⟩=>t i I);have h0:∀b,b<w.heap.size→¬ NN M ι b→w'.heap[b]?=w.heap[b]?:=fun b Z t=>ce b Z (fun i I=>by
  obtain⟨id,_,e⟩:=z I;exact t (.inr ⟨id,e⟩))
 have i0:∀b,NN M (ext (cL ι E f C) l R) b→NN (fun b=>NN M ι b∧∀i,bw (cq N ι i)≠some b) E b:=fun b t=>by
  rcases t with t|⟨id,t⟩
  ·exact .inl ⟨.inl t,fun i I=>by obtain⟨id,_,e⟩:=z I;exact h.sep t e⟩
  ·by_cases J:id=l
   ·rw[J,Q]at t;exact .inr ⟨H,by rw[g0];exact t⟩
   rw[K _ J]at t;unfold cL at t;by_cases A:id=f
   ·rw[kc A]at t;exact .inr ⟨C,t⟩
   ·rw[kb A]at t;by_cases hl:∃i,bw (cq N ι i)=some b
    ·obtain⟨q,hq⟩:=hl;obtain⟨a0,F,D⟩:=z hq;have:=h.inj a0 id b D t;subst this;have:=f2 q a0 F;unfold cL at this;rw[kb A]at this;exact .inr ⟨q,by rw[←this];exact t⟩
    ·exact .inl ⟨.inr ⟨id,t⟩,fun i I=>hl ⟨i,I⟩⟩
 have q0:∀b,b<w.heap.size→NN M (ext (cL ι E f C) l R) b→NN M ι b:=fun b Z t=>by
  rcases t with t|⟨id,t⟩
  ·exact .inl t
  ·by_cases J:id=l
   ·rw[J,Q]at t;rcases (o3 b t).1 with e|e
    ·exact absurd Z (alK.2 e)
    ·exact .inr ⟨f,e⟩
   rw[K _ J]at t;unfold cL at t;by_cases A:id=f
   ·rw[kc A]at t;rcases (S.own C b t).1 with e|⟨q,e⟩
    ·exact absurd Z (alK.2 e)
    ·obtain⟨a0,_,D⟩:=z e;exact .inr ⟨a0,D⟩
   ·rw[kb A]at t;exact .inr ⟨id,t⟩
 have T:∀{v:AV} {x:Value},Rel (NN M ι) w ι v x→Rel (NN M (ext (cL ι E f C) l R)) w' (ext (cL ι E f C) l R) (v.cT f) x:=fun hv =>
  (hv.mono m0 q0 h0 (fp S0 R)).cT (fun i I=>by
   by_cases J:i=l
   ·rw[J,Q];exact(cN _ _ _).symm
   ·rw[K _ J,bT _ _ J];exact kb I)
 have np:w0.pv f=none:=h.np a1;refine⟨⟨?_,h.old,fun i y hy=>?_,fun i g B=>?_,fun i L g B n=>?_,fun i c I=>?_,fun i a I=>?_,fun i c I V=>?_,fun i a I V=>?_,fun i v V=>?_⟩,T,fun hv e=>xN hv i0 (fun j id e=>?_) e⟩
 ·refine h.below.trans ⟨S.below.os,S.below.tape,S.below.output,m0,fun k hk hG=>ce k (u7 hk h.below.size) (fun i I=>?_)⟩;obtain⟨id,_,e⟩:=z I;rcases (h.own id k e).1 with h9|h9
  ·exact absurd hk (alK.2 h9)
  ·exact hG h9
 ·by_cases J:i=l
  ·subst J;exact ju _ _
  rw[K _ J]at hy;unfold cL at hy;by_cases A:i=f
  ·subst A;exact eh (h.kr i ar hr)
  ·rw[kb A]at hy;exact eh (h.use i y hy)
 ·by_cases J:i=l
  ·rw[J,Q]at B;obtain⟨m,W,_⟩:=o3 g B;refine⟨?_,W⟩;rcases m with m|m
   ·exact .inl (aal h.below.size m)
   ·exact(h.own f g m).1
  rw[K _ J]at B;unfold cL at B;by_cases A:i=f
  ·rw[kc A]at B;obtain⟨m,W⟩:=S.own C g B;refine⟨?_,W⟩;rcases m with m|⟨q,m⟩
   ·exact .inl (aal h.below.size m)
   ·obtain⟨id,_,e⟩:=z m;exact(h.own id g e).1
  ·rw[kb A]at B;exact⟨(h.own i g B).1,u7 (h.own i g B).2 m0⟩
 ·have t0:∀L,L≠f→bw (E C)=some g→bw (ι L)=some g→False:=fun L o B n=>by
   rcases (S.own C g B).1 with m|⟨q,m⟩
   ·exact absurd (h.own L g n).2 (alK.2 m)
   ·obtain⟨id,F,D⟩:=z m;have:=h.inj id L g D n;subst this;have P:=f2 q id F;unfold cL at P;rw[kb o]at P;have:=S.inj q C g (by rw[←P];exact D) B;subst this;have:=(fy U f0).1;rw[F]at this;injection this with this;exact o this
  have new:∀L,L≠l→bw (some R)=some g→bw (cL ι E f C L)=some g→False:=fun L o B n=>by
   obtain⟨m,_,q3⟩:=o3 g B;unfold cL at n;by_cases A:L=f
   ·rw[kc A]at n;exact q3 n
   ·rw[kb A]at n;rcases m with m|m
    ·exact absurd (h.own L g n).2 (alK.2 m)
    ·exact A (h.inj L f g n m)
  by_cases J:i=l
  ·by_cases Y:L=l
   ·rw[J,Y]
   ·rw[J,Q]at B;rw[K _ Y]at n;exact(new L Y B n).elim
  by_cases Y:L=l
  ·rw[Y,Q]at n;rw[K _ J]at B;exact(new i J n B).elim
  rw[K _ J]at B;rw[K _ Y]at n;unfold cL at B n;by_cases A:i=f
  ·by_cases X:L=f
   ·rw[A,X]
   ·rw[kc A]at B;rw[kb X]at n;exact(t0 L X B n).elim
  ·by_cases X:L=f
   ·rw[kb A]at B;rw[kc X]at n;exact(t0 i A n B).elim
   ·rw[kb A]at B;rw[kb X]at n;exact h.inj i L g B n
 ·rcases Ar I with e|⟨_,e⟩
  ·obtain⟨j,d,m,_,_⟩:=xt t e;obtain⟨c0,A0⟩:=xx hO m;obtain⟨a0,cs,p1,p2,p3⟩:=Dr hO A0;have F:=(f1 i j m).2;have D:=(f1 a0 j p1).2;rw[F]at D;injection D with D;subst D
   exact eh (h.ko i cs p2)
  ·obtain⟨u,hu,_⟩:=jv e;exact eh (h.ko i u hu)
 ·have o:look i (bm l d0 (bm f b0 s.r))=some a:=I;rw[cr]at o;split at o
  ·rename_i e;subst e;exact ju _ _
  rw[cr]at o;split at o
  ·rename_i e;subst e;exact eh (h.kr i ar hr)
  ·exact eh (h.kr i a o)
 ·rcases Ar I with e|⟨J,e⟩
  ·obtain⟨j,d,m,W,q3⟩:=xt t e;have e9:=(f1 i j m).2;have G:i≠l:=l0 i j (fW U e9);have F:=f2 j i e9;rw[K _ G,F]at V;rw[K _ G,F];obtain⟨g,T0,vs,r1,r2,r3⟩:=S.objs j d (Ji v0 W) V;exact⟨g,⟨T0.1,E3 (Gl U e9) (fy U (fW U e9)).2.2 T0.2⟩,vs,r1,r2,r3.rn i0 (fun j id e=>(K _ (l0 id j (fW U e))).trans (f2 j id e)) q3⟩
  ·obtain⟨u,hu,rfl⟩:=jv e;have A:i≠f:=fun e=>by rw[e,j1]at hu;cases hu
   have G:i≠l:=p0 i (h.ko i u hu);have F:cL ι E f C i=ι i:=kb A;rw[K _ G,F]at V;rw[K _ G,F];obtain⟨g,T0,vs,r1,r2,r3⟩:=h.objs i u hu V;refine⟨g,T0,vs,r1,(ce g (h.own i g (by rw[r1];rfl)).2 (fun q hq=>?_)).trans r2,⟨by rw[mi];exact r3.len,r3.one,fun k x v hx hv=>?_⟩⟩
   ·obtain⟨id,D,P⟩:=z hq;have:=h.inj id i g P (by rw[r1];rfl);subst this;have:=kh (fW U D);rw[hρ]at this;rcases qk.1 this with e4|e4
    ·injection e4 with e5 e6;exact A e5
    ·exact G0 t e4 J
   ·obtain⟨y,hy,rfl⟩:=lC hx;exact T (r3.rel k y v hy hv)
 ·have o:look i (bm l d0 (bm f b0 s.r))=some a:=I;rw[cr]at o;split at o
  ·rename_i e;subst e;injection o with o;subst o
   rw[Q];obtain⟨v,xs,m,W,q3,q4,q5⟩:=S.arrs H d0 x0 (by rw[g0];rfl);rw[g0]at m;injection m with m;subst m
   refine⟨R,xs,rfl,W,q3,q4,fun j e hj k c hk=>?_⟩;obtain⟨x,hx,e0⟩:=q5 j e hj k c hk;exact⟨x,hx,.inl ((e0.flat (by omega)).mono (jf _) (fun b _ t=>i0 b t) (fun _ _ _=>rfl) (fun _ _ h=>h))⟩
  rename_i G;rw[cr]at o;split at o
  ·rename_i e;subst e;injection o with o;subst o
   have F:cL ι E i C i=E C:=kc rfl;rw[K _ G,F]at V;rw[K _ G,F];have m1:=(fy U f0).2.2;obtain⟨v,xs,m,W,q3,q4,q5⟩:=S.arrs C b0 i1 V;refine⟨v,xs,m,W,q3,q4,fun j e hj k c hk=>?_⟩;obtain⟨x,hx,e0⟩:=q5 j e hj k c hk;exact⟨x,hx,.inl ((e0.flat (by omega)).mono (jf _) (fun b _ t=>i0 b t) (fun _ _ _=>rfl) (fun _ _ h=>h))⟩
  ·rename_i A;have F:cL ι E f C i=ι i:=kb A;rw[K _ G,F]at V;rw[K _ G,F];obtain⟨v,xs,m,W,q3,q4,q5⟩:=h.arrs i a o V;have n1:=(fy U f0).2.1;refine⟨v,xs,m,f8 W (fun g B=>ce g (h.own i g (by rw[m];exact B)).2 (fun q hq=>?_)),q3,q4,fun j e hj k c hk=>?_⟩
   ·obtain⟨id,D,P⟩:=z hq;have:=h.inj id i g P (by rw[m];exact B);subst this;have:=kh (fW U D);rw[hρ]at this;rcases qk.1 this with e4|e4
    ·injection e4 with e5 e6;exact A e5
    ·have:=g1 _ e4;rw[o]at this;cases this
   ·obtain⟨x,hx,e0⟩:=q5 j e hj k c hk;have nb:∀q:Nat,eo≤nm i q:=fun q=>amF _ _;have lb:TG<eo:=by decide
    refine⟨x,hx,e0.mono m0 q0 h0 (fun r k0=>?_) (fun r k0=>ce r (h.kq k0) (fun q hq=>?_)) (fun h=>h)⟩
    ·exact(K _ (p0 _ (P3 _ _ _))).trans ((kb (fun e=>by have:=nb (j*a.sz+k);omega)).trans k0)
    ·obtain⟨id,D,P⟩:=z hq;have:=h.inj id _ r P (by rw[k0];rfl);have h9:=(fy U (fW U D)).2.1;have:=nb (j*a.sz+k);omega
 ·obtain⟨m,W⟩:=h.pin i v V;have G:i≠l:=p0 i (h.use i v m);refine⟨?_,qj W⟩;have A:i≠f:=fun e=>by rw[e,np]at V;cases V
  exact(K _ G).trans ((kb A).trans m)
 ·simp only[look]at e;split at e
  ·rename_i ej;injection e with e;subst e;subst ej;exact Q.trans g0.symm
  ·exact(K _ (l0 id j (fW U e))).trans (f2 j id e)
def sG(d:Cx)(ι:Env)(w:World)(ρ:hF)(a:ck)(xs:Array Value):Prop :=
 a.length=xs.size∧∀(i:Nat) v x,a[i]?=some v→xs[i]?=some x→∀N' c,(∀b,N' b→NN d.M ι b)→(∀id j,look id ρ=some j→c j=ι id)→Rel N' w c v x
def jk(f g:Nat):Value:=.func (.func f) #[.pointer (some ⟨g,0,none⟩)] #[]
def kY(s:AS)(o:Oper)(ρ:hF):Option (FuncId×ck) :=
 match o.op with
 | .call c=>match c.callee with
  | .value a=>match s.ev a,dr s c.args.toList with
   | some (.fn f aV),some l=>match gf ρ l with
    | some l'=>some (f,l'++aV)
    | none=>none
   | _,_=>none
  | _=>none
 | _=>none
def KW(s:AS)(o:Oper)(ρ:hF):Option (Value×ck) :=
 match o.op with
 | .call c=>match c.callee with
  | .value a=>match s.ev a,dr s c.args.toList with
   | some (.vv x),some l=>match gf ρ l with
    | some l'=>some (x,l')
    | none=>none
   | _,_=>none
  | _=>none
 | _=>none
section
variable{d:Cx}{s:AS}{a:Act}{w:World}{ι:Env}
theorem Uc(e:aX d s a w ι){l l'}{xs:Array Operand}{ρ}(b:dr s xs.toList=some l)(c:gf ρ l=some l'):sG d ι w ρ l' (xs.map a.eval):=by
 obtain⟨k,m⟩:=lq e b;refine⟨by grind[tW],fun i v x g h N' n f j=>?_⟩
 grind[ur,xN]
theorem DG(A:aX d s a w ι){o:Oper}{ρ:hF}{g:FuncId}{e:ck}(h:kY s o ρ=some (g,e))(p:cG d.P g=true):
  ∃xs:Array Value,(execOp a.eval o).run d.P w=.ok (.enter g xs) w∧sG d ι w ρ e xs:=by
 unfold kY at h;split at h
 case h_2=>cases h
 rename_i c r;split at h
 case h_2=>cases h
 rename_i L j;split at h
 case h_2=>cases h
 rename_i f aV l F G;split at h
 case h_2=>cases h
 rename_i l' q;injection h with h;injection h with B C;subst B;subst C
 obtain⟨M,t,E,n⟩:=ln A r j F p;obtain⟨p1,J⟩:=Uc A G q;refine⟨_,t,by simp at p1⊢;omega,fun i v x m k N' K u I=>?_⟩;by_cases z:i<l'.length
 ·rw[Dz z]at m;rw[By (by rw[←p1];exact z)]at k;exact J i v x m k N' K u I
 ·rw[AT (by omega)]at m;rw[akG (by rw[←p1];omega)]at k;rw[←p1]at k;exact(n _ v x m (by simpa using k)).mono (jf _) (fun b _ D=>u b D) (fun _ _ _=>rfl) (fun id y H=>by cases H)
theorem agR(u:aX d s a w ι){o:Oper}{ρ:hF}{f g j id:Nat}{b:ck}(h:KW s o ρ=some (jk f g,b))(p:cG d.P f=true)(H:look id ρ=some j)(F:ι id=some (.pointer (some ⟨g,0,none⟩))):
  ∃xs:Array Value,(execOp a.eval o).run d.P w=.ok (.enter f xs) w∧sG d ι w ρ (.ptr j 0::b) xs:=by
 unfold KW at h;split at h
 case h_2=>cases h
 rename_i c r;split at h
 case h_2=>cases h
 rename_i B m;split at h
 case h_2=>cases h
 rename_i x l E G;split at h
 case h_2=>cases h
 rename_i l' q;injection h with h;injection h with z A;subst z;subst A
 obtain⟨p1,I⟩:=Uc u G q;have t:=u.ev E;generalize D:a.eval B=X at t;cases t with
 | vv _ _ K =>
  refine⟨#[.pointer (some ⟨g,0,none⟩)]++c.args.map a.eval,?_,by simp at p1⊢;omega,fun i v x k n N' J C y=>?_⟩
  ·unfold execOp;simp only[r,resolve,m,D,jk,Deferred.ofValue,th,RX,u4,invoke];rw[FQ p];simp
  ·cases i with
   | zero =>
    simp only[List.getElem?_cons_zero]at k;injection k with k;subst k
    rw[By (by simp)]at n;have e:some (Value.pointer (some ⟨g,0,none⟩))=some x:=n;injection e with e;subst e
    exact .ptr _ _ _ _ ((y id j H).trans F)
   | succ i =>
    simp only[amp]at k;rw[akG (by simp)]at n;exact I i v x k (by simpa using n) N' J C y
end
def rO(ρ:hF):AV→Option AV
 | .tup l=>match gf ρ l with|some l'=>some (.tup l')|none=>none
 | v=>ex ρ v
theorem akB{N N'}{w w'}{ι ι'}{ρ}(G:∀{v v':AV} {x:Value},Rel N w ι v x→ex ρ v=some v'→Rel N' w' ι' v' x){v v'}{x}(h:Rel N w ι v x)(e:rO ρ v=some v'):Rel N' w' ι' v' x:=by
 unfold rO at e;split at e
 ·split at e
  ·injection e with e;subst e
   cases h with
   | tup _ _ vs a d =>
    refine .tup _ _ vs (by grind[tW]) (fun i c y b f=>?_)
    grind[ur]
  grind
 grind
class GS where
 g:Nat
 p:Bool
class RG [GS]:Prop where
 r:GS.p=false
def ip[GS]:Value:=match GS.p with
 | true=>.bool true
 | false=>.pointer (some ⟨GS.g,0,none⟩)
theorem Gm[GS][RG]:ip=.pointer (some ⟨GS.g,0,none⟩):=by unfold ip;rw[RG.r]
class SG [GS] (w0:aC):Prop where
 pv:w0.pv 440001=some ip
def SU:d7:=[440009,440001,1440001]
def d8[GS](P:Program)(f:FuncId)(b:ck)(O:List hH)(ar:bW)(Q:AV→AS→Prop):Prop :=
 ∀(M:Nat→Prop) (w:World) (c:Env) (xs:Array Value),c 440001=some ip→HS M (kR w c O) w c ⟨[],O,[(440009,ar)],SU⟩→b.length=xs.size→(∀(i:Nat) (a:AV) (x:Value),b[i]?=some a→xs[i]?=some x→Rel (NN M c) w c a x)→Calls P f xs w (bR M (kR w c O) Q)
theorem kn[GS]{P:Program}{f:FuncId}{i:Func}{c:Code}{b:ck}{O:List hH}{ar:bW}{Q:AV→AS→Prop}(s:P.funcs[f]?=some i)(r:i.body=some c)(n:Nat)(z:i.ntmps=n)(y:b.length≤n)
  (h:∀M p [SG p],VE ⟨P,n,M,p⟩ (bodyPost P i (bR M p Q)) [.c c] .normal ⟨idxs 0 b,O,[(440009,ar)],SU⟩) (q:(look 440001 O).isSome=true:=by kernel_rfl):d8 P f b O ar Q:=by
 intro M w j xs t d o x;obtain⟨c0,l⟩:=Db.1 q;haveI:SG (kR w j O):=⟨by show(match look 440001 O with|some _=>j 440001|none=>none)=_;rw[l];exact t⟩;refine amP s r ?_;refine anF (h M (kR w j O) { tmps:=xs++Array.replicate (i.ntmps-xs.size) undef,defers:=[] } w j ?_) (fun e a w' u=>?_)
 ·refine⟨⟨d.below,d.old,d.use,d.own,d.inj,d.ko,d.kr,d.objs,d.arrs,d.pin⟩,rfl,?_,fun k v m=>?_⟩
  ·simp;omega
  ·rw[pc,kc (tl _),alH]at m;have g:k<xs.size:=by rw[←o];exact(io.1 m).1
   refine⟨xs[k],?_,x k v _ m (iO g)⟩;simp only[];rw[By g,iO g]
 ·cases e<;>exact u
theorem aaV[GS](n:GS.p=true){P:Program}{f:FuncId}{o cs:ck}{ar:bW}{V1:AV}{Q:AS→Prop}(h:d8 P f o [(440001,cs)] ar (fun v s=>v=V1∧Q s)):ba P f o (fun v _=>v=V1):=fun M w xs z A=>by
 have q:ip=.bool true:=by unfold ip;rw[n]
 let l:Env:=fun i=>if i=440001 then some ip else none
 have B:∀{i y},l i=some y→i=440001∧y=ip:=fun {i y} r=>by
  by_cases e:i=440001
  ·exact⟨e,by simpa[l,e]using r.symm⟩
  ·simp[l,e]at r
 have t:∀i,bw (l i)=none:=fun i=>by
  by_cases e:i=440001<;>simp[l,e,q,bw]
 have u:∀g,¬ (kR w l [(440001,cs)]).G g:=fun g ⟨i,d⟩=>by rw[t]at d;cases d
 refine (h M w l xs (by simp[l]) ⟨⟨rfl,rfl,rfl,jf _,fun _ _ _=>rfl⟩,fun b m=>⟨z b m,u b⟩,fun i y r=>?_,fun i g n=>?_,fun i G g n=>?_,fun i c d=>?_,fun i c d=>?_,fun i c d p=>?_,fun i c d p=>?_,fun i v p=>?_⟩ A.1 (fun i a x C D=>?_)).mono ?_
 ·rw[(B r).1];rfl
 ·rw[t]at n;cases n
 ·rw[t]at n;cases n
 ·simp only[look]at d;split at d
  ·rename_i e;rw[e];rfl
  ·cases d
 ·simp only[look]at d;split at d
  ·rename_i e;rw[e];rfl
  ·cases d
 ·exfalso;by_cases e:i=440001<;>simp[l,e,q,rl]at p
 ·exfalso;simp only[look]at d;split at d
  ·rename_i e;simp[l,e]at p
  ·cases d
 ·have:(match look i [(440001,cs)] with|some _=>l i|none=>none)=some v:=p;split at this
  ·exact⟨this,by rw[(B this).1];rfl⟩
  ·cases this
 ·exact(A.2 i a x C D).mono (jf _) (fun b _ m=>by
   rcases m with m|⟨i,m⟩
   ·exact m
   ·rw[t]at m;cases m) (fun _ _ _=>rfl) (fun _ _ h=>by cases h)
 ·rintro e w' ⟨x,v,s,ι,rfl,⟨q,_⟩,j,F⟩
  exact⟨x,v,s,ι,rfl,q,⟨⟨j.below.os,j.below.tape,j.below.output,j.below.size,fun k E _=>j.below.block k E (u k)⟩,fun b m=>⟨z b m,fun h=>h⟩,j.use,fun i g n=>⟨(j.own i g n).1.elim .inl (fun h=>(u g h).elim),(j.own i g n).2⟩,j.inj,j.ko,j.kr,j.objs,j.arrs,fun i v p=>by cases p⟩,F⟩
theorem Mq[GS]{P:Program}{f:FuncId}{a cs:ck}{ar:bW}{α β:Type}{x:Option (α×β)}{r:α}{V:α→AV}{Q:α×β→AS→Prop}(h:x.map Prod.fst=some r)(k:∀{b},x=some b→d8 P f a [(440001,cs)] ar (fun v s=>v=V b.1∧Q b s))(c:GS.p=true:=by rfl):ba P f a (fun v _=>v=V r):=by
 cases x with
 | none=>cases h
 | some y=>injection h with h;subst h;exact aaV c (k rfl)
theorem SC[GS]{P:Program}{f:FuncId}{a cs:ck}{ar:bW}{α β:Type}{x:Option (α×β)}{r:α}{V:α→AV}{Q:α×β→AS→Prop}{C:Prop}(h:x.map Prod.fst=some r)(k:∀{b},x=some b→C∧d8 P f a [(440001,cs)] ar (fun v s=>v=V b.1∧Q b s))(c:GS.p=true:=by rfl):C∧ba P f a (fun v _=>v=V r):=by
 cases x with
 | none=>cases h
 | some y=>exact⟨(k rfl).1,Mq h (fun e=>(k e).2) c⟩
def bO(b a:Nat):hF:=[(a,440009),(b,440001)]
def jm(s:AS)(b a:Nat):Bool :=
 gR (bO b a) (cb (bO b a))&&(Ak SU [(b,440001)] 440009&&((match s.u.contains (dk a) with|true=>false|false=>true)&&((match look a s.o with|none=>true|some _=>false) &&
  (match look b s.r with|none=>true|some _=>false))))
def Bt(s:AS)(d c b a:Nat):Bool:=(match has s.u b with|true=>false|false=>true)&&((match look b (bO d c) with|none=>true|some _=>false)&&((match Nat.beq a 440009 with|true=>false|false=>true)&&((match look a (cb (bO d c)) with|none=>true|some _=>false)&&Nat.ble (a+1) TG)))
theorem agU{s}{d c b a}(h:Bt s d c b a=true):has s.u b=false∧look b (bO d c)=none∧a≠440009∧look a (cb (bO d c))=none∧a<TG:=by
 simp only[Bt,h8]at h;obtain⟨g,i,j,k,f⟩:=h;refine⟨?_,?_,fun e=>?_,?_,iF f⟩
 ·grind
 ·grind
 ·simp_all
 grind
section
variable{c:Cx}{Q:Exit→Act→World→Prop}{m:dn}{s:AS}{d:Array Oper}{f:Func}{p:d7}{i:Nat}
theorem SZ[GS]{a:Act}{w:World}{ι:Env}(B:aX c s a w ι)(f d:Nat){g:FuncId}{h:ck}{V1 V2:AV}{O O1 X:List hH}{ar m:bW}(hc:d8 c.P g h O ar (fun v Y=>v=V1∧cw Y.o O1∧look 440009 Y.r=some m))
  (hg:ι f=some ip) {o:Oper}
  (A:∃xs:Array Value,(execOp a.eval o).run c.P w=.ok (.enter g xs) w∧sG c ι w (bO f d) h xs)
  (hO:fA (bO f d) s.o [(f,440001)]=some O) (E:look d s.r=some ar) (I:dZ (cb (bO f d)) O1 [(f,440001)]=some X) (U:ex (cb (bO f d)) V1=some V2)
  (hd:cH c.n o.dst=true) (t:jm s f d=true) {Kn:Act→World→Prop} {Q:Exit→Act→World→Prop} (k:∀x w' Z,aX c ((jX d m X s).put o.dst V2) (a.put o.dst x) w' (cL ι Z d 440009)→Kn (a.put o.dst x) w'):o.wp c.P a w Kn Q:=by
 simp only[jm,h8]at t;obtain⟨q,k2,k3,k4,k5⟩:=t;have L:s.u.contains (dk d)=false:=by
  cases z:s.u.contains (dk d) with
  | true=>rw[z]at k3;cases k3
  | false=>rfl
 have T:look d s.o=none:=by
  cases z:look d s.o with
  | some _=>rw[z]at k4;cases k4
  | none=>rfl
 have M:∀p∈[(f,440001)],look p.1 s.r=none:=fun p N=>by
  rw[aio.1 N];cases z:look f s.r with
  | some _=>rw[z]at k5;cases k5
  | none=>rfl
 have D:cq (cb (bO f d)) ι 440001=ι f:=kN (fy q (by
  show look f [(d,440009),(f,440001)]=some 440001;have:f≠d:=fun e=>by
   have h1:=(fy (id:=d) (j:=440009) q (by simp[bO,look])).1;have r:=q;simp only[gR,h8,ne]at r;have F:=(r.1 (f,440001) (by simp[bO])).1;have h3:=fW q (qE F);rw[e]at h3;simp[bO,look]at h3
  simp[look,this])).1
 unfold Oper.wp;obtain⟨xs,R,V,W⟩:=A;rw[R,af6];have hN:∀b,NN (fun b=>NN c.M ι b∧∀i,bw (cq (cb (bO f d)) ι i)≠some b) (cq (cb (bO f d)) ι) b→NN c.M ι b:=fun b l=>by
  rcases l with l|⟨j,l⟩
  ·exact l.1
  ·cases J:cq (cb (bO f d)) ι j with
   | none=>rw[J]at l;cases l
   | some y=>obtain⟨id,_,F⟩:=jU J;exact .inr ⟨id,by rw[F];rw[J]at l;exact l⟩
 have n:∀(i:Nat) (a:AV) (x:Value),h[i]?=some a→xs[i]?=some x→Rel (NN (fun b=>NN c.M ι b∧∀i,bw (cq (cb (bO f d)) ι i)≠some b) (cq (cb (bO f d)) ι)) w (cq (cb (bO f d)) ι) a x:=fun i v x hv hx =>
  W i v x hv hx _ _ hN (fun id j e=>kN (fy q e).1)
 have H:∀p∈[(f,440001)],∃y,cq (cb (bO f d)) ι p.2=some y:=fun p N=>by
  rw[aio.1 N];exact⟨_,D.trans hg⟩
 refine (hc _ w _ xs (D.trans hg) (B.hs.HB rfl q hO E k2) V n).mono ?_
 rintro e w' ⟨x,v,Y,Z,rfl,⟨rfl,G,P⟩,K,S⟩
 obtain⟨g1,g2,g3⟩:=B.hs.Vd rfl q hO E L T M H K G P I;have C:aX c (jX d m X s) a w' (cL ι Z d 440009):=⟨g1,B.dfr,B.n,fun k v hk=>by
  obtain⟨u,hu,rfl⟩:=oQ hk;obtain⟨y,hy,E⟩:=B.tmp k u hu;exact⟨y,hy,g2 E⟩⟩
 exact k _ _ _ (C.put (gj hd) (g3 S U))
theorem JJ[GS]{a:Act}{w:World}{ι:Env}(G:aX c s a w ι)(b e:Nat){g:FuncId}{j:ck}{V1:AV}{O t:List hH}{ar l:bW}(C:d8 c.P g j O ar (fun v y=>v=V1∧cw y.o t∧look 440009 y.r=some l))
  (E:ι b=some ip)
  (q:∃xs:Array Value,(execOp a.eval { aY f p i with guard:=none }).run c.P w=.ok (.enter g xs) w∧sG c ι w (bO b e) j xs)
  (k:OT c Q m d (aW f p (i+1)) ((jX e l ((dZ (cb (bO b e)) t [(b,440001)]).getD []) s).put (aY f p i).dst ((ex (cb (bO b e)) V1).getD .any)))
  (A:fA (bO b e) s.o [(b,440001)]=some O) (F:look e s.r=some ar) (B:(dZ (cb (bO b e)) t [(b,440001)]).isSome=true) (H:(ex (cb (bO b e)) V1).isSome=true)
  (D:cH c.n (aY f p i).dst=true) (u:jm s b e=true):wpList c.P d (Kw c.P Q m) ({ aY f p i with guard:=none }::aW f p (i+1)) a w:=by
 refine abL rfl fun K z=>?_;obtain⟨I,n⟩:=Db.1 B;obtain⟨V2,r⟩:=Db.1 H;rw[n,r]at k;simp only[IF]at k;exact SZ (o:={ aY f p i with guard:=none }) G b e C E q A F n r D u (fun x w' J h=>z _ _ (k _ _ _ h))
theorem ZJ[GS]{a:Act}{w:World}{ι:Env}(L:aX c s a w ι)(l n o r:Nat){g:FuncId}{q:ck}{V1:AV}{O U:List hH}{ar z A:bW}(hc:d8 c.P g q O ar (fun v T=>v=V1∧cw T.o U∧look 440009 T.r=some z∧look r T.r=some A))(G:∀(N:Nat→Prop) w ι x,Rel N w ι V1 x→∃y,ι r=some y)
  (hg:ι l=some ip)
  (I:∃xs:Array Value,(execOp a.eval { aY f p i with guard:=none }).run c.P w=.ok (.enter g xs) w∧sG c ι w (bO l n) q xs)
  (k:OT c Q m d (aW f p (i+1)) ((EQ n z ((dZ (cb (bO l n)) U [(l,440001)]).getD []) o A s).put (aY f p i).dst ((rO ((r,o)::cb (bO l n)) V1).getD .any)))
  (hO:fA (bO l n) s.o [(l,440001)]=some O) (S:look n s.r=some ar) (t:(dZ (cb (bO l n)) U [(l,440001)]).isSome=true) (hv:(rO ((r,o)::cb (bO l n)) V1).isSome=true)
  (hd:cH c.n (aY f p i).dst=true) (F:jm s l n=true) (hI:Bt s l n o r=true):wpList c.P d (Kw c.P Q m) ({ aY f p i with guard:=none }::aW f p (i+1)) a w:=by
 refine abL rfl fun K hK=>?_;obtain⟨o2,D⟩:=Db.1 t;obtain⟨V2,R⟩:=Db.1 hv;rw[D,R]at k;simp only[IF]at k;simp only[jm,h8]at F;obtain⟨C,k2,k3,k4,k5⟩:=F;have a0:s.u.contains (dk n)=false:=by
  cases H:s.u.contains (dk n) with
  | true=>rw[H]at k3;cases k3
  | false=>rfl
 have f0:look n s.o=none:=by
  cases H:look n s.o with
  | some _=>rw[H]at k4;cases k4
  | none=>rfl
 have b0:∀p∈[(l,440001)],look p.1 s.r=none:=fun p hp=>by
  rw[aio.1 hp];cases H:look l s.r with
  | some _=>rw[H]at k5;cases k5
  | none=>rfl
 have P:cq (cb (bO l n)) ι 440001=ι l:=kN (fy C (by
  show look l [(n,440009),(l,440001)]=some 440001;have:l≠n:=fun e=>by
   have h1:=(fy (id:=n) (j:=440009) C (by simp[bO,look])).1;have E:=C;simp only[gR,h8,ne]at E;have V:=(E.1 (l,440001) (by simp[bO])).1;have h3:=fW C (qE V);rw[e]at h3;simp[bO,look]at h3
  simp[look,this])).1
 unfold Oper.wp;obtain⟨xs,e0,h0,i0⟩:=I;rw[e0,af6];have hN:∀b,NN (fun b=>NN c.M ι b∧∀i,bw (cq (cb (bO l n)) ι i)≠some b) (cq (cb (bO l n)) ι) b→NN c.M ι b:=fun b t=>by
  rcases t with t|⟨j,t⟩
  ·exact t.1
  ·cases Y:cq (cb (bO l n)) ι j with
   | none=>rw[Y]at t;cases t
   | some y=>obtain⟨id,_,V⟩:=jU Y;exact .inr ⟨id,by rw[V];rw[Y]at t;exact t⟩
 have B:∀(i:Nat) (a:AV) (x:Value),q[i]?=some a→xs[i]?=some x→Rel (NN (fun b=>NN c.M ι b∧∀i,bw (cq (cb (bO l n)) ι i)≠some b) (cq (cb (bO l n)) ι)) w (cq (cb (bO l n)) ι) a x:=fun i v x hv hx =>
  i0 i v x hv hx _ _ hN (fun id j e=>kN (fy C e).1)
 have X:∀p∈[(l,440001)],∃y,cq (cb (bO l n)) ι p.2=some y:=fun p hp=>by
  rw[aio.1 hp];exact⟨_,P.trans hg⟩
 refine (hc _ w _ xs (P.trans hg) (L.hs.HB rfl C hO S k2) h0 B).mono ?_
 rintro e w' ⟨x,v,T,ι1,rfl,⟨rfl,W,c0,d0⟩,Z,J⟩
 obtain⟨v3,g0⟩:=G _ _ _ _ J;obtain⟨i1,i2,i3,i4,i5⟩:=agU hI;obtain⟨g1,g2,g3⟩:=L.hs.aag rfl C hO S a0 f0 b0 X Z W c0 D i1 i2 i3 i4 i5 g0 d0;have M:aX c (EQ n z o2 o A s) a w' (ext (cL ι ι1 n 440009) o v3):=⟨g1,L.dfr,L.n,fun k v hk=>by
  obtain⟨u,hu,rfl⟩:=oQ hk;obtain⟨y,hy,S⟩:=L.tmp k u hu;exact⟨y,hy,g2 S⟩⟩
 exact hK _ _ (k _ _ _ (M.put (gj hd) (akB (fun h e=>g3 h e) J R)))
theorem pG[GS][SG c.w0]{g}{b}{V1}{O h}{ar e}(u:d8 c.P g b O ar (fun v o=>v=V1∧cw o.o h∧look 440009 o.r=some e))
  (k:OT c Q m d (aW f p (i+1)) ((jX 440009 e ((dZ (cb (bO 440001 440009)) h [(440001,440001)]).getD []) s).put (aY f p i).dst ((ex (cb (bO 440001 440009)) V1).getD .any)))
  (j:cG c.P g=true:=by kernel_rfl) (z:aW f p i=aY f p i::aW f p (i+1):=by kernel_rfl) (y:cz d s (aY f p i)=true:=by kernel_rfl) (q:kY s { aY f p i with guard:=none } (bO 440001 440009)=some (g,b):=by kernel_rfl)
  (r:fA (bO 440001 440009) s.o [(440001,440001)]=some O:=by kernel_rfl) (A:look 440009 s.r=some ar:=by kernel_rfl) (t:(dZ (cb (bO 440001 440009)) h [(440001,440001)]).isSome=true:=by kernel_rfl) (B:(ex (cb (bO 440001 440009)) V1).isSome=true:=by kernel_rfl)
  (x:cH c.n (aY f p i).dst=true:=by kernel_rfl) (l:jm s 440001 440009=true:=by kernel_rfl):OT c Q m d (aW f p i) s:=by
 rw[z];exact fk _ y fun a w ι n=>JJ n 440001 440009 u ((n.hs.pin _ _ SG.pv).1) (DG n q j) k r A t B x l
theorem Pz[GS][SG c.w0] e{b}{g}{h}{V1}{O o}{ar j l}(D:d8 c.P g h O ar (fun v u=>v=V1∧cw u.o o∧look 440009 u.r=some j∧look b u.r=some l))(n:∀(N:Nat→Prop) w ι x,Rel N w ι V1 x→∃y,ι b=some y)
  (k:OT c Q m d (aW f p (i+1)) ((EQ 440009 j ((dZ (cb (bO 440001 440009)) o [(440001,440001)]).getD []) e l s).put (aY f p i).dst ((rO ((b,e)::cb (bO 440001 440009)) V1).getD .any)))
  (q:cG c.P g=true:=by kernel_rfl) (G:aW f p i=aY f p i::aW f p (i+1):=by kernel_rfl) (F:cz d s (aY f p i)=true:=by kernel_rfl) (z:kY s { aY f p i with guard:=none } (bO 440001 440009)=some (g,h):=by kernel_rfl)
  (B:fA (bO 440001 440009) s.o [(440001,440001)]=some O:=by kernel_rfl) (H:look 440009 s.r=some ar:=by kernel_rfl) (C:(dZ (cb (bO 440001 440009)) o [(440001,440001)]).isSome=true:=by kernel_rfl) (I:(rO ((b,e)::cb (bO 440001 440009)) V1).isSome=true:=by kernel_rfl)
  (E:cH c.n (aY f p i).dst=true:=by kernel_rfl) (r:jm s 440001 440009=true:=by kernel_rfl) (A:Bt s 440001 440009 e b=true:=by kernel_rfl):OT c Q m d (aW f p i) s:=by
 rw[G];exact fk _ F fun a w ι t=>ZJ t 440001 440009 e b D n ((t.hs.pin _ _ SG.pv).1) (DG t z q) k B H C I E r A
theorem PO[GS][RG][SG c.w0]{g:FuncId}{b:ck}{V1:AV}{O j:List hH}{ar e:bW}(u:d8 c.P g (.ptr 440001 0::b) O ar (fun v o=>v=V1∧cw o.o j∧look 440009 o.r=some e))
  (k:OT c Q m d (aW f p (i+1)) ((jX 440009 e ((dZ (cb (bO 440001 440009)) j [(440001,440001)]).getD []) s).put (aY f p i).dst ((ex (cb (bO 440001 440009)) V1).getD .any)))
  (l:cG c.P g=true:=by kernel_rfl) (z:aW f p i=aY f p i::aW f p (i+1):=by kernel_rfl) (y:cz d s (aY f p i)=true:=by kernel_rfl) (q:KW s { aY f p i with guard:=none } (bO 440001 440009)=some (jk g GS.g,b):=by kernel_rfl)
  (r:fA (bO 440001 440009) s.o [(440001,440001)]=some O:=by kernel_rfl) (A:look 440009 s.r=some ar:=by kernel_rfl) (t:(dZ (cb (bO 440001 440009)) j [(440001,440001)]).isSome=true:=by kernel_rfl) (B:(ex (cb (bO 440001 440009)) V1).isSome=true:=by kernel_rfl)
  (x:cH c.n (aY f p i).dst=true:=by kernel_rfl) (n:jm s 440001 440009=true:=by kernel_rfl):OT c Q m d (aW f p i) s:=by
 rw[z];exact fk _ y fun a w ι h=>JJ h 440001 440009 u ((h.hs.pin _ _ SG.pv).1) (agR h q l (by simp[bO,look]) (((h.hs.pin _ _ SG.pv).1).trans (by rw[Gm]))) k r A t B x n
theorem Nu(h n:Nat){g:FuncId}{o:ck}{V1:AV}{O B:List hH}{ar t:bW}(W:∀ [GS] [RG],d8 c.P g o O ar (fun v P=>v=V1∧cw P.o B∧look 440009 P.r=some t))
  (k:OT c Q m d (aW f p (i+1)) ((jX n t ((dZ (cb (bO h n)) B [(h,440001)]).getD []) s).put (aY f p i).dst ((ex (cb (bO h n)) V1).getD .any)))
  (D:cG c.P g=true:=by kernel_rfl) (Z:aW f p i=aY f p i::aW f p (i+1):=by kernel_rfl) (Y:cz d s (aY f p i)=true:=by kernel_rfl) (C:kY s { aY f p i with guard:=none } (bO h n)=some (g,o):=by kernel_rfl)
  (A:fA (bO h n) s.o [(h,440001)]=some O:=by kernel_rfl) (hr:look n s.r=some ar:=by kernel_rfl) (r:(dZ (cb (bO h n)) B [(h,440001)]).isSome=true:=by kernel_rfl) (hv:(ex (cb (bO h n)) V1).isSome=true:=by kernel_rfl)
  (X:cH c.n (aY f p i).dst=true:=by kernel_rfl) (u:jm s h n=true:=by kernel_rfl) (hp:o.any (wG 440001)=true:=by kernel_rfl):OT c Q m d (aW f p i) s:=by
 rw[Z];refine fk _ Y fun a w ι H=>?_;obtain⟨xs,q1,M,N⟩:=DG H C D;have K:=u;simp only[jm,h8]at K;have V:∀b,NN (fun b=>NN c.M ι b∧∀i,bw (cq (cb (bO h n)) ι i)≠some b) (cq (cb (bO h n)) ι) b→NN c.M ι b:=fun b r=>by
  rcases r with r|⟨j,r⟩
  ·exact r.1
  ·cases F:cq (cb (bO h n)) ι j with
   | none=>rw[F]at r;cases r
   | some y=>obtain⟨id,_,z⟩:=jU F;exact .inr ⟨id,by rw[z];rw[F]at r;exact r⟩
 obtain⟨v,I,J⟩:=aeq.1 hp;obtain⟨q,L⟩:=amA.1 I;have G:q<xs.size:=by rw[←M];exact(io.1 L).1
 obtain⟨y0,hy⟩:=O2 J (N q v _ L (iO G) _ _ V (fun id j e=>kN (fy K.1 e).1));obtain⟨id,x,R⟩:=jU hy;have S:id=h:=by
  have z:look 440001 (cb (bO h n))=some h:=rfl;rw[z]at x;injection x with x;exact x.symm
 subst S;obtain⟨cs,E⟩:∃cs,look id s.o=some cs:=by
  unfold fA at A;split at A
  ·rename_i cs l C z;exact⟨cs,C⟩
  ·cases A
 obtain⟨U,_,_,T,_,_⟩:=H.hs.objs id cs E (by rw[R];rfl)
 letI:GS:=⟨U,false⟩
 letI:RG:=⟨rfl⟩
 exact JJ H id n W T ⟨xs,q1,M,N⟩ k A hr r hv X u
end
def li(b a:Nat)(d:Option Tmp)(c:bW)(e:List hH)(V1:AV)(s:AS):AS:=(jX a c ((dZ (cb (bO b a)) e [(b,440001)]).getD []) s).put d ((ex (cb (bO b a)) V1).getD .any)
def Q2(L:List em)(c b:Nat)(d:Option Tmp)(a:bW)(e:List hH)(V1:AV)(s:AS):AS:=(li c b d a e V1 s).tt (gq L (li c b d a e V1 s).t)
def Bi(d:Option Tmp)(a:bW)(b:List hH)(V1:AV)(s:AS):AS:=li 440001 440009 d a b V1 s
def ym(b a:Nat)(s:AS):Bool:=match look b s.o with
 | some (.ref i::_)=>Nat.beq i a
 | _=>false
theorem Iz[GS](b f:Nat)(D:f=440009∨RG){P:Program}{n:Nat}{ops:Array Oper}{s:AS}{o:Oper}{K:Nat}{g:FuncId}{k:ck}{V1:AV}{O J:List hH}{ar E:bW}(hc:d8 P g k O ar (fun v s1=>v=V1∧cw s1.o J∧look 440009 s1.r=some E))
  (R:look K s.t=some (.lk b ip)) (V:∀(j:Nat) (o':Oper),ops[j]?=some o'→o'.dst≠some K) (C:kY s o (bO b f)=some (g,k)) (N:cG P g=true)
  (hO:fA (bO b f) s.o [(b,440001)]=some O) (hr:look f s.r=some ar) (hb:(dZ (cb (bO b f)) J [(b,440001)]).isSome=true) (hv:(ex (cb (bO b f)) V1).isSome=true)
  (hd:cH n o.dst=true) (W:jm s b f=true) (I:ym b f s=true) (U:n≤440000):CD P n ops s (li b f o.dst E J V1 s) o:=by
 refine⟨U,K,b,_,R,V,fun cx D hn fl a w ι X hg G Kn Q hk=>?_⟩;subst D;subst hn;obtain⟨o2,l⟩:=Db.1 hb;obtain⟨V2,z⟩:=Db.1 hv;have M:kY (s.tt (cy fl s.t)) o (bO b f)=some (g,k):=by
  unfold kY at C⊢;split at C
  case h_2=>cases C
  rename_i cl p;split at C
  case h_2=>cases C
  rename_i L m;have Y:(s.tt (cy fl s.t)).ev L=s.ev L:=by
   cases L with
   | tmp t =>
    show look t (cy _ _)=look t _;rw[fe,kc (G (.tmp t) t (by simp[p,Op.operands,Call.operands,m]) rfl)]
   | const v=>rfl
   | func g=>rfl
   | global g=>rfl
  have Z:dr (s.tt (cy fl s.t)) cl.args.toList=dr s cl.args.toList:=pK (fun x hx=>by
   cases x with
   | tmp t =>
    show look t (cy _ _)=look t _;rw[fe,kc (G (.tmp t) t (by simp[p,Op.operands,Call.operands,m];exact .inr (z3.1 hx)) rfl)]
   | const v=>rfl
   | func g=>rfl
   | global g=>rfl)
  simp only[p,m,Y,Z];exact C
 refine SZ X b f hc hg (DG X M N) hO hr l z hd W (fun x w' ι1 H=>hk _ _ _ _ (fun id h9 a0 B=>?_) ?_ ?_ ?_ (fun t v i u=>?_) H)
 ·unfold cL;by_cases e:id=f
  ·exfalso;rcases D with D|D
   ·exact h9 (e.trans D)
   unfold ym at I;split at I
   case h_2=>cases I
   rename_i q r hq;obtain⟨g0,T,vs,Y,Z,e3⟩:=X.hs.objs b _ hq (by rw[hg,Gm];rfl);have S:0<vs.toList.length:=by rw[←e3.len];simp
   have:=e3.rel 0 _ _ rfl (iN S);rw[mo I]at this;generalize vs.toList[0]=y at this;cases this with
   | ref _ _ A n c h=>rw[e,h]at B;cases B
  ·rw[kb e];exact B
 ·unfold li;rw[l,z];cases o.dst<;>rfl
 ·unfold li;rw[l,z];cases o.dst<;>rfl
 ·unfold li;rw[l,z];cases o.dst<;>rfl
 ·unfold li at u;rw[l,z]at u;simp only[IF]at u;cases F:o.dst with
  | none =>
   rw[F]at u i;rcases i with i|i
   ·show look t (dC _ (cy _ _))=_;rw[sk,fe,kc i];exact u
   ·cases i
  | some d =>
   rw[F]at u i;simp only[AS.put,jX,cr]at u⊢;by_cases e:t=d
   ·rw[kc e]at u⊢;exact u
   ·rw[kb e]at u⊢;rcases i with i|i
    ·show look t (dC _ (cy _ _))=_;rw[sk,fe,kc i];exact u
    ·injection i with i;exact(e i).elim
section
variable{P:Program}{n:Nat}{d:AS}{b:Array Oper}{c:List Tag}{K:Nat}{a:er}{o:Oper}
theorem Hz[GS](m t:Nat){g:FuncId}{e:ck}{V1:AV}{O i:List hH}{ar f:bW}(A:d8 P g e O ar (fun v u=>v=V1∧cw u.o i∧look 440009 u.r=some f))
  (k:cG P g=true:=by kernel_rfl) (C:Bi o.dst f i V1 (nth a m)=nth a (m+1):=by kernel_rfl) (p:look t (nth a m).t=some (.lk 440001 ip):=by kernel_rfl) (r:rM t b.toList=true:=by kernel_rfl) (l:o.guard.isNone=true:=by kernel_rfl)
  (w:kY (nth a m) o (bO 440001 440009)=some (g,e):=by kernel_rfl)
  (y:fA (bO 440001 440009) (nth a m).o [(440001,440001)]=some O:=by kernel_rfl) (E:look 440009 (nth a m).r=some ar:=by kernel_rfl) (z:(dZ (cb (bO 440001 440009)) i [(440001,440001)]).isSome=true:=by kernel_rfl) (F:(ex (cb (bO 440001 440009)) V1).isSome=true:=by kernel_rfl)
  (B:cH n o.dst=true:=by kernel_rfl) (s:jm (nth a m) 440001 440009=true:=by kernel_rfl) (x:ym 440001 440009 (nth a m)=true:=by kernel_rfl) (q:Nat.ble n 440000=true:=by kernel_rfl):eN P n d b c K a o (.s (m+1)):=by
 have h:=Iz 440001 440009 (.inl rfl) (ops:=b) A p (fun j G D=>A6 r G (z3.2 (amB D))) w k y E z F B s x (iF q);rw[show li 440001 440009 o.dst f i V1 (nth a m)=nth a (m+1) from C]at h;exact⟨by rw[show o.guard=none by simpa using l];rfl,.inr (.inl h)⟩
theorem acx(m w e f x:Nat){g:FuncId}{i:ck}{V1:AV}{O l:List hH}{ar k:bW}(D:∀ [GS] [RG],d8 P g i O ar (fun v y=>v=V1∧cw y.o l∧look 440009 y.r=some k))
  (p:cG P g=true:=by kernel_rfl) (F:li e f o.dst k l V1 (nth a m)=nth a (m+1):=by kernel_rfl) (r:look w (nth a m).t=some (.lk e (.pointer (some ⟨x,0,none⟩))):=by kernel_rfl) (t:rM w b.toList=true:=by kernel_rfl) (q:cz b (nth a m) o=true:=by kernel_rfl)
  (z:kY (nth a m) o (bO e f)=some (g,i):=by kernel_rfl)
  (B:fA (bO e f) (nth a m).o [(e,440001)]=some O:=by kernel_rfl) (H:look f (nth a m).r=some ar:=by kernel_rfl) (C:(dZ (cb (bO e f)) l [(e,440001)]).isSome=true:=by kernel_rfl) (I:(ex (cb (bO e f)) V1).isSome=true:=by kernel_rfl)
  (E:cH n o.dst=true:=by kernel_rfl) (u:jm (nth a m) e f=true:=by kernel_rfl) (A:ym e f (nth a m)=true:=by kernel_rfl) (s:Nat.ble n 440000=true:=by kernel_rfl):eN P n d b c K a o (.s (m+1)):=by
 letI:GS:=⟨x,false⟩
 letI:RG:=⟨rfl⟩
 have h:=Iz e f (.inr ⟨rfl⟩) (ops:=b) D r (fun j J G=>A6 t J (z3.2 (amB G))) z p B H C I E u A (iF s);rw[F]at h;exact⟨pQ q,.inr (.inl h)⟩
theorem afA(L:List em)(m x e f y:Nat){g:FuncId}{i:ck}{V1:AV}{O l:List hH}{ar k:bW}(F:∀ [GS] [RG],d8 P g i O ar (fun v z=>v=V1∧cw z.o l∧look 440009 z.r=some k))
  (q:cG P g=true:=by kernel_rfl) (H:Q2 L e f o.dst k l V1 (nth a m)=nth a (m+1):=by kernel_rfl) (s:look x (nth a m).t=some (.lk e (.pointer (some ⟨y,0,none⟩))):=by kernel_rfl) (u:rM x b.toList=true:=by kernel_rfl) (r:cz b (nth a m) o=true:=by kernel_rfl)
  (A:kY (nth a m) o (bO e f)=some (g,i):=by kernel_rfl)
  (D:fA (bO e f) (nth a m).o [(e,440001)]=some O:=by kernel_rfl) (J:look f (nth a m).r=some ar:=by kernel_rfl) (E:(dZ (cb (bO e f)) l [(e,440001)]).isSome=true:=by kernel_rfl) (M:(ex (cb (bO e f)) V1).isSome=true:=by kernel_rfl)
  (G:cH n o.dst=true:=by kernel_rfl) (w:jm (nth a m) e f=true:=by kernel_rfl) (C:(L.all fun p=>AH b.toList c (m+1) p.1)=true:=by kernel_rfl) (B:ym e f (nth a m)=true:=by kernel_rfl) (t:Nat.ble n 440000=true:=by kernel_rfl):eN P n d b c K a o (.s (m+1)):=by
 letI:GS:=⟨y,false⟩
 letI:RG:=⟨rfl⟩
 have h:=Iz e f (.inr ⟨rfl⟩) (ops:=b) F s (fun j N I=>A6 u N (z3.2 (amB I))) A q D J E M G w B (iF t);exact⟨pQ r,.inr (.inr ⟨_,L,h,H,C⟩)⟩
end
def QP(o:List hH)(e:Nat)(t:ck):AV→AV
 | .ptr id _=>match Nat.beq id e with|true=>.cptr t|false=>match look id o with|some cs=>.cptr cs|none=>.any
 | _=>.any
def stepT(o:List hH)(e:Nat)(t:ck):AV→AV
 | .fno f cs=>.fn f (cs.map (QP o e t))
 | v=>v
def Ze:AV→AV:=fun _=>.any
def akX:AV→AV
 | .fno f cs=>.fn f (cs.map Ze)
 | v=>v
def nz(o:List hH)(e:Nat)(cs:ck):Nat→ck
 | 0=>cs.map akX
 | d+1=>cs.map (stepT o e (nz o e cs d))
def wa(o:List hH)(e r:Nat):AV→Bool
 | .ptr id off=>Nat.beq off 0&&((match Nat.beq id r with|true=>false|false=>true)&&(Nat.beq id e||match look id o with|some cs=>ep [] cs|none=>false))
 | _=>false
def Bg(o:List hH)(e r:Nat):AV→Bool
 | .fno _ cs=>cs.all (wa o e r)
 | _=>false
theorem Te{o}{e r}{v}(h:Bg o e r v=true):∃f cs,v=.fno f cs∧cs.all (wa o e r)=true:=by
 cases v<;>first|(exact⟨_,_,rfl,h⟩)|cases h
theorem N0{o:List hH}{e r:Nat}{v:AV}(h:wa o e r v=true):∃id,v=.ptr id 0∧id≠r∧(id=e∨∃cs,look id o=some cs∧ep [] cs=true):=by
 cases v<;>first|grind[wa]|skip
 rename_i id off;simp only[wa,h8,In]at h;obtain⟨b,c,a⟩:=h;have:=mo b;subst this;refine⟨id,rfl,(fun e=>by simp_all),?_⟩;rcases a with a|a
 ·simp_all
 grind
theorem SV{M:Nat→Prop}{t:aC}{w:World}{ι:Env}{s:AS}(h:HS M t w ι s){N':Nat→Prop}{id g:Nat}{b cs:ck}(l:ι id=some (.pointer (some ⟨g,0,none⟩)))(q:look id s.o=some b)(p:¬ N' g)(n:cs.length=b.length)
  (r:∀vs:eb,(∀(i:Nat) (x:AV) (v:Value),b[i]?=some x→vs[i]?=some v→Rel (NN M ι) w ι x v)→∀(i:Nat) (c:AV) (v:Value),cs[i]?=some c→vs[i]?=some v→Rel N' w bG c v) (ι':Env):Rel N' w ι' (.cptr cs) (.pointer (some ⟨g,0,none⟩)):=by
 obtain⟨u,T,vs,a,o,k⟩:=h.objs id b q (by rw[l];rfl);rw[l]at a;injection a with a;injection a with a;injection a with a;injection a with a;subst a
 have d:=k.len;refine .cptr _ cs g 0 (fun i=>(vs[i]?).getD (.bool true)) (h.own id g (by rw[l];rfl)).2 p (fun i=>?_) (fun i c j=>?_) (fun i c j=>?_)
 ·cases e:vs[i]? with
  | none=>rfl
  | some v=>exact k.one v (by rw[←afK]at e;exact lp e)
 ·have f:i<vs.size:=by have:=(io.1 j).1;rw[n,d]at this;simpa using this
  rw[ami w g _ vs T (0,0) o,DO];simp[iO f]
 ·have f:i<vs.size:=by have:=(io.1 j).1;rw[n,d]at this;simpa using this
  have m:vs.toList[i]?=some vs[i]:=by simp
  have:=r vs.toList k.rel i c _ j m
  grind
theorem PM{M:Nat→Prop}{T:aC}{w:World}{ι:Env}{s:AS}(h:HS M T w ι s){N':Nat→Prop}{r e:Nat}{cs:ck}(P:∀b,N' b→NN M ι b)(D:∀b,N' b→M b∨bw (ι r)=some b)(Q:look e s.o=some cs)(H:e≠r)(K:cs.all (Bg s.o e r)=true):
  ∀(d:Nat) (vs:eb),(∀(i:Nat) (x:AV) (v:Value),cs[i]?=some x→vs[i]?=some v→Rel (NN M ι) w ι x v)→∀(i:Nat) (c:AV) (v:Value),(nz s.o e cs d)[i]?=some c→vs[i]?=some v→Rel N' w bG c v
 | 0,vs,A,i,c,v,a,E=>by
  simp only[nz,An]at a;cases o:cs[i]? with
  | none=>rw[o]at a;cases a
  | some x =>
   rw[o]at a;injection a with a;subst a
   obtain⟨f,aV,rfl,k⟩:=Te (ne.1 K x (lp o));have z:=A i _ v o E;cases z with
   | fno _ _ _ N J z =>
    refine .fn _ f _ N (by simpa using J) (fun j c y l L=>?_);rw[An]at l;cases n:aV[j]? with
    | none=>rw[n]at l;cases l
    | some q =>
     rw[n]at l;injection l with l;subst l
     obtain⟨id,rfl,_,_⟩:=N0 (ne.1 k q (lp n));have G:=z j _ y n L;cases G with
     | ptr _ _ _ g C=>exact .any _ _ rfl
 | d+1,vs,A,i,c,v,a,E=>by
  simp only[nz,An]at a;cases o:cs[i]? with
  | none=>rw[o]at a;cases a
  | some x =>
   rw[o]at a;injection a with a;subst a
   obtain⟨f,aV,rfl,k⟩:=Te (ne.1 K x (lp o));have z:=A i _ v o E;cases z with
   | fno _ _ _ N J z =>
    refine .fn _ f _ N (by simpa using J) (fun j c y l L=>?_);rw[An]at l;cases n:aV[j]? with
    | none=>rw[n]at l;cases l
    | some q =>
     rw[n]at l;injection l with l;subst l
     obtain⟨id,rfl,I,t⟩:=N0 (ne.1 k q (lp n));have G:=z j _ y n L;cases G with
     | ptr _ _ _ g C =>
      have B:¬ N' g:=fun p=>by
       rcases D g p with p|p
       ·exact h.sep p (by rw[C];rfl)
       ·exact I (h.inj id r g (by rw[C];rfl) p)
      simp only[QP];cases u:Nat.beq id e with
      | true =>
       have:=mo u;subst this;exact SV h C Q B (by cases d<;>simp[nz]) (fun F m i c v=>PM h P D Q H K d F m i c v) _
      | false =>
       rcases t with t|⟨R,O,S⟩
       ·subst t;rw[ani]at u;cases u
       ·simp only[O];exact SV h C O B rfl (fun F m i c v a E=>(((m i c v a E).pure (l5 S i c a) bG).mono (jf _) (fun b _ p=>P b p) (fun _ _ _=>rfl) (fun _ _ h=>h))) _
def Qi(k r e:Nat)(d:Nat)(s:AS):AS:=match look e s.o with
 | some cs=>⟨[(k,.ptr r 0)],[(r,nz s.o e cs d)],[],[r]⟩
 | none=>s
def Mg(k r e:Nat)(s:AS):Bool:=match look e s.o,look r s.o with
 | some cs,some a=>cs.all (Bg s.o e r)&&(a.all (Bg s.o e r)&&(s.u.all (fun n=>Nat.ble (n+1) 1000000)&&((match Nat.beq e r with|true=>false|false=>true)&&match look k s.t with|some (.ptr i 0)=>Nat.beq i r|_=>false)))
 | _,_=>false
theorem ad4{p:Cx}{Q:Exit→Act→World→Prop}{O:dn}{e:Exit}{s:AS}(k r B d:Nat)(h:VE p Q O e (Qi k r B d s))(f:Mg k r B s=true:=by kernel_rfl)(z:look r s.o=look B s.o:=by kernel_rfl):VE p Q O e s:=fun a w ι n=>by
 unfold Mg at f;split at f
 case h_2=>cases f
 rename_i cs u E N;simp only[h8]at f;obtain⟨P,b2,R,M,C⟩:=f;have I:B≠r:=fun e=>by subst e;rw[ani]at M;cases M
 have F:u=cs:=by rw[E,N]at z;injection z
 subst F;unfold Qi at h;rw[E]at h;have X:look k s.t=some (.ptr r 0):=by
  split at C
  ·rename_i i l;rw[l,mo C]
  ·cases C
 obtain⟨x,Z,K⟩:=n.tmp k _ X;have np:∀id,p.w0.pv id=none:=fun id=>by
  cases q:p.w0.pv id with
  | none=>rfl
  | some v =>
   have:=(n.hs.pin id v q).2;have:=ne.1 R (dk id) (by simpa using this);have:=iF this;unfold dk at this;omega
 let ι':Env:=fun i=>if i=r then ι r else none
 have L:∀{i y},ι' i=some y→i=r∧ι r=some y:=fun {i y} o=>by
  by_cases e:i=r
  ·exact⟨e,by simpa[ι',e]using o⟩
  ·simp[ι',e]at o
 have A:∀{i g},bw (ι' i)=some g→i=r∧bw (ι r)=some g:=fun {i g} m=>by
  cases G:ι' i with
  | none=>rw[G]at m;cases m
  | some y=>obtain⟨q1,q2⟩:=L G;exact⟨q1,by rw[q2,← G];exact m⟩
 have V:∀b,NN p.M ι' b→NN p.M ι b:=fun b f=>by
  rcases f with f|⟨i,f⟩
  ·exact .inl f
  ·exact .inr ⟨r,(A f).2⟩
 have J:∀b,NN p.M ι' b→p.M b∨bw (ι r)=some b:=fun b f=>by
  rcases f with f|⟨i,f⟩
  ·exact .inl f
  ·exact .inr (A f).2
 refine h a w ι' ⟨⟨n.hs.below,n.hs.old,fun i y o=>?_,fun i g m=>n.hs.own r g (A m).2,fun i i' g m H=>(A m).1.trans (A H).1.symm,fun i c l=>?_,fun i c l=>(by cases l),fun i c l q=>?_,fun i c l=>(by cases l),fun i v q=>by rw[np i]at q;cases q⟩,n.dfr,n.n,fun j v t=>?_⟩
 ·rw[(L o).1];exact fD (by simp)
 ·simp only[look]at l;split at l
  ·rename_i e;rw[e];exact fD (by simp)
  ·cases l
 ·simp only[look]at l;split at l
  case isFalse=>cases l
  rename_i e;subst e;injection l with l;subst l
  obtain⟨y,o⟩:=EZ q;obtain⟨g,T,vs,S,U,D⟩:=n.hs.objs i u N (by rw[(L o).2,← o];exact q);refine⟨g,T,vs,by simp only[ι'];exact S,U,⟨?_,D.one,fun j c v W Y=>?_⟩⟩
  ·have:=D.len;cases d<;>simpa[nz]using this
  ·exact(PM n.hs V J E I P d vs.toList D.rel j c v W Y).mono (jf _) (fun _ _ h=>h) (fun _ _ _=>rfl) (fun id y o=>by cases o)
 ·simp only[look]at t;split at t
  case isFalse=>cases t
  rename_i e;subst e;injection t with t;subst t
  refine⟨x,Z,?_⟩;cases K with
  | ptr _ _ _ g m=>exact .ptr _ _ _ g (by simp only[ι',kc rfl];exact m)
def Y8[GS](f:FuncId)(b:Bool):Value:=match b with|true=>jk f GS.g|false=>.nilFunc
def eI[GS](f:FuncId)(b:Bool):AV:=.vv (Y8 f b)
def Vw(op:BinOp)(b:Bool):Bool:=match op with|.eql=>!b|_=>b
def oP(s:AS)(k:Nat):Bool:=match look k s.t with|some v=>v.En|none=>false
section
variable{c:Cx}{Q:Exit→Act→World→Prop}{m:dn}{s:AS}{j:Array Oper}{f:Func}{p:d7}{i:Nat}{e:Exit}{l:List Oper}
theorem aed[GS][SG c.w0]{a:Act}{w:World}{ι:Env}(f:aX c s a w ι){k off:Nat}(h:look k s.t=some (.ptr 440001 off)):aX c (j9 k (.adr GS.g off) s) a w ι:=by
 refine f.jw (fun y j=>?_) ⟨_,h⟩;obtain⟨x,e,i⟩:=f.tmp k _ h;rw[j]at e;injection e with e;subst e
 cases i with
 | ptr _ _ _ g b =>
  have d:=(f.hs.pin _ _ SG.pv).1;unfold ip at d;split at d
  ·rw[d]at b;cases b
  rw[d]at b;injection b with b;injection b with b;injection b with b;injection b with b;subst b
  exact .adr _ _ _
theorem aez[GS][RG][SG c.w0]{a:Act}{w:World}{ι:Env}(d:aX c s a w ι){k off:Nat}(e:look k s.t=some (.adr GS.g off)):aX c (j9 k (.ptr 440001 off) s) a w ι:=by
 refine d.jw (fun y g=>?_) ⟨_,e⟩;obtain⟨x,b,f⟩:=d.tmp k _ e;rw[g]at b;injection b with b;subst b
 cases f with
 | adr _ _ _=>exact .ptr _ _ _ _ (((d.hs.pin _ _ SG.pv).1).trans (by rw[Gm]))
theorem abF[GS][SG c.w0]{a}{w}{ι}(e:aX c s a w ι){k}(d:oP s k=true):aX c (j9 k (.lk 440001 ip) s) a w ι:=by
 unfold oP at d;split at d
 ·rename_i v f;refine e.jw (fun y h=>?_) ⟨_,f⟩;obtain⟨x,b,g⟩:=e.tmp k _ f;rw[h]at b;injection b with b;subst b
  exact .lk _ _ _ _ ((e.hs.pin _ _ SG.pv).1) (g.one d)
 grind
theorem ak6[GS][SG c.w0] k off(h:VE c Q m e (j9 k (.adr GS.g off) s))(b:look k s.t=some (.ptr 440001 off):=by kernel_rfl):VE c Q m e s:=fun a w ι d=>h a w ι (aed d b)
theorem Th[GS][RG][SG c.w0](k off:Nat)(h:OT c Q m j l (j9 k (.ptr 440001 off) s))(b:look k s.t=some (.adr GS.g off):=by kernel_rfl):OT c Q m j l s:=fun a w ι d=>h a w ι (aez d b)
theorem Gf[GS][SG c.w0] k(h:VE c Q m e (j9 k (.lk 440001 ip) s))(b:oP s k=true:=by kernel_rfl):VE c Q m e s:=fun a w ι d=>h a w ι (abF d b)
theorem NG[GS](g:FuncId)(b:Bool)(op:BinOp)(T T':TypeId)(x y:Operand)(d:Nat)(k:OT c Q m j (aW f p (i+1)) (s.put (some d) (.bool (Vw op b))))
  (I:aW f p i=aY f p i::aW f p (i+1):=by kernel_rfl) (H:cz j s (aY f p i)=true:=by kernel_rfl) (o:(aY f p i).op=.binOp op T x y T':=by kernel_rfl) (G:(aY f p i).dst=some d:=by kernel_rfl) (J:Nat.ble (d+1) c.n=true:=by kernel_rfl)
  (L:s.ev x=some (eI g b):=by kernel_rfl) (M:s.ev y=some .nilf:=by kernel_rfl) (r:(Ai op&&(match c.P.underlying T with|some (.func _ _ _)=>true|_=>false))=true:=by kernel_rfl):OT c Q m j (aW f p i) s:=by
 rw[I];refine fk _ H fun a w ι E=>?_;refine abL rfl fun K F=>?_;have B:d<c.n:=iF J;simp only[h8]at r;obtain⟨h,r⟩:=r;split at r
 case h_2=>cases r
 rename_i N O P t;have e:=E.ev L;have v:=E.ev M;have u:a.eval y=.nilFunc:=by
  generalize a.eval y=Y at v;cases v with
  | nilf _=>rfl
 have run:(execOp a.eval { aY f p i with guard:=none }).run c.P w=.ok (.value (.bool (Vw op b))) w:=by
  cases b with
  | true =>
   have l:a.eval x=jk g GS.g:=by
    generalize a.eval x=X at e;cases e with
    | vv _ _ _=>rfl
   have z:∀{q:BinOp},q=.eql∨q=.neq→(eqGuard q T x y (jk g GS.g) .nilFunc).run c.P w=.ok () w:=by
    intro q D;rcases D with rfl|rfl<;>simp[eqGuard,jk]
   have A:(Op.equalIn 10000 T (jk g GS.g) .nilFunc).run c.P w=.ok false w:=by
    unfold Op.equalIn;rw[th,n5 t w];rfl
   unfold execOp;simp only[o,l,u,th];cases op<;>simp[Ai]at h
   ·have n:binOp .eql T (jk g GS.g) .nilFunc=(do pure (.bool (← Op.equalIn 10000 T (jk g GS.g) .nilFunc))):=rfl;rw[z (.inl rfl),n];simp only[u4,th,A,RX];rfl
   ·have n:binOp .neq T (jk g GS.g) .nilFunc=(do pure (.bool (!(← Op.equalIn 10000 T (jk g GS.g) .nilFunc)))):=rfl;rw[z (.inr rfl),n];simp only[u4,th,A,RX];rfl
  | false =>
   have l:a.eval x=.nilFunc:=by
    generalize a.eval x=X at e;cases e with
    | vv _ _ _=>rfl
   have z:∀{q:BinOp},q=.eql∨q=.neq→(eqGuard q T x y .nilFunc .nilFunc).run c.P w=.ok () w:=by
    intro q D;rcases D with rfl|rfl<;>simp[eqGuard]
   have A:(Op.equalIn 10000 T .nilFunc .nilFunc).run c.P w=.ok true w:=by
    unfold Op.equalIn;rw[th,n5 t w];rfl
   unfold execOp;simp only[o,l,u,th];cases op<;>simp[Ai]at h
   ·have n:binOp .eql T .nilFunc .nilFunc=(do pure (.bool (← Op.equalIn 10000 T .nilFunc .nilFunc))):=rfl;rw[z (.inl rfl),n];simp only[u4,th,A,RX];rfl
   ·have n:binOp .neq T .nilFunc .nilFunc=(do pure (.bool (!(← Op.equalIn 10000 T .nilFunc .nilFunc)))):=rfl;rw[z (.inr rfl),n];simp only[u4,th,A,RX];rfl
 unfold Oper.wp;rw[run];refine F _ _ ?_;show wpList _ _ _ _ (a.put (aY f p i).dst _) _;rw[G];exact k _ _ _ (E.put (fun k C=>by injection C with C;subst C;exact B) (.bool _ _))
end
def nZ{α:Type}(_:α):AV:=.tup []
def anyS(k j:Nat)(s:AS):AS:=match look k s.t with|some (.agg cs)=>j9 k (.agg (cs.set j .any)) s|_=>s
section
variable{d:Cx}{Q:Exit→Act→World→Prop}{e:dn}{s:AS}{b:Array Oper}{l:List Oper}
theorem aa4(k j:Nat)(h:OT d Q e b l (anyS k j s)):OT d Q e b l s:=fun a w ι m=>by
 unfold anyS at h;split at h
 ·rename_i cs n;refine h a w ι (m.jw (fun y r=>?_) ⟨_,n⟩);obtain⟨x,g,o⟩:=m.tmp k _ n;rw[r]at g;injection g with g;subst g
  cases o with
  | agg _ _ vs q p o =>
   refine .agg _ _ vs (by simpa using q) p (fun i c v f t=>?_);rw[al9]at f;split at f
   ·split at f
    ·injection f with f;subst f;exact .any _ _ (by grind)
    grind
   grind
 ·exact h a w ι m
end
section
variable{a:Cx}{s:AS}{b:Func}
theorem Vv{l}{e}{f d}{ar c}(h:gP a.P s b.results.toList=some l:=by kernel_rfl)(g:look f s.r=some ar:=by kernel_rfl)(k:look d s.r=some c:=by kernel_rfl)(i:(e.map fun p=>look p.1 s.o)=(e.map fun p=>some p.2):=by kernel_rfl)(j:qV l=.tup l:=by kernel_rfl):
  VE a (bodyPost a.P b (bR a.M a.w0 (fun v s=>v=.tup l∧cw s.o e∧look f s.r=some ar∧look d s.r=some c))) [] .ret s :=by grind[qg,Da]
end
def nY{α:Type}(c:Bool)(B:Option (List α)):Option (List α):=match c with
 | true=>(match B with|some []=>some []|_=>none)
 | false=>B
theorem Oh{α}{c}{B:Option (List α)}{r}(a:c=true)(h:nY c B=some r):some []=some r:=by
 grind[nY]
theorem VD{α}{c}{B:Option (List α)}{r}(h:nY c B=some r):B=some r:=by
 unfold nY at h
 grind
theorem ag3{l:Cx}{Q:Exit→Act→World→Prop}{m:dn}{s:AS}{e:Exit}(k p d:Nat)(h:∀g:Nat,VE l Q m e (j9 k (.lk d (.pointer (some ⟨g,0,none⟩))) s))(n:look p s.t=some (.ptr d 0):=by kernel_rfl)(c:oP s k=true:=by kernel_rfl):VE l Q m e s:=fun a w ι i=>by
 obtain⟨x,_,o⟩:=i.tmp p _ n;cases o with
 | ptr _ _ _ g r =>
  refine h g a w ι (i.jw (fun y q=>?_) ?_)
  ·unfold oP at c;split at c
   ·rename_i v j;obtain⟨t,b,f⟩:=i.tmp k _ j;rw[q]at b;injection b with b;subst b
    exact .lk _ _ _ _ r (f.one c)
   ·cases c
  ·unfold oP at c;split at c
   ·rename_i v j;exact⟨v,j⟩
   ·cases c
theorem HZ{f:Cx}{Q:Exit→Act→World→Prop}{j:dn}{s:AS}{e:Exit}(k:Nat)(h:VE f Q j e (j9 k .any s))(c:oP s k=true:=by kernel_rfl):VE f Q j e s:=fun a w ι g=>by
 unfold oP at c;split at c
 ·rename_i v i;refine h a w ι (g.jw (fun y l=>?_) ⟨v,i⟩);obtain⟨m,b,d⟩:=g.tmp k _ i;rw[l]at b;injection b with b;subst b
  exact .any _ _ (d.one c)
 ·cases c
theorem Sj{P:Program}{f:FuncId}{Q:AV→AS→Prop}(h:ba P f [.vv .nilFunc,.vv .nilFunc] Q):ba P f [.nilf,.nilf] Q:=fun M w xs d b =>
 h M w xs d ⟨b.1,fun i v y a c=>by
  have e:∀y,Rel M w bG .nilf y→Rel M w bG (.vv .nilFunc) y:=fun y g=>by cases g;exact .vv _ _ rfl
  match i,a with
  | 0,a=>injection a with a;subst a;exact e y (b.2 0 _ y rfl c)
  | 1,a=>injection a with a;subst a;exact e y (b.2 1 _ y rfl c)⟩
def n7(ops:Array Oper)(z:Nat):Bool:=(List.range ops.size).all fun m=>Nat.ble (m+1) z||match ops[m]? with
 | some o=>((cV o).all fun j=>decide (j<m))&&(List.range m).all fun i=>(nK ops m (cV o)).contains i
 | none=>false
theorem tY{ops:Array Oper}{z m}{o}(h:n7 ops z=true)(c:z≤m)(a:ops[m]?=some o):(∀j∈cV o,j<m)∧∀i,i<m→i∈nK ops m (cV o):=by
 unfold n7 at h;simp only[ne,acS,In]at h;have b:m<ops.size:=(ob.1 a).1;rcases h m b with h|h
 ·have:=iF h;omega
 simp_all
section
variable{d:Cx}{ops:Array Oper}{c:List Tag}{K:Nat}{σ:Nat→AS}{f:AS}
theorem B0{K:Exit→Act→World→Prop}{z:Nat}(k:n7 ops z=true)(C:∀(n:Nat) (o:Oper),n<z→ops[n]?=some o→∀j∈cV o,j<n):∀(c:Nat) (listed:Array Bool) (a:Act) (w:World) (m:Nat),iT listed=c→z≤m→m≤ops.size→listed.size=ops.size→(∀i,i<ops.size→(listed[i]?=some true↔i<m))→wpList d.P ops K (ops.toList.drop m) a w→wpAny d.P .any ops K c listed a w:=by
 have A:∀(listed:Array Bool) (a:Act) (w:World),(∀i,i<ops.size→listed[i]?=some true)→Region.ready .any ops listed=[]:=by
  intro listed a w B;cases H:Region.ready .any ops listed with
  | nil=>rfl
  | cons j r =>
   exfalso;obtain⟨t,o,y,_⟩:=kZ (ops:=ops) (listed:=listed) (i:=j) (by rw[H];simp);exact t (B j (ob.1 y).1)
 intro c
 induction c with
 | zero =>
  intro listed a w m hl hz hm I b s;have T:m=ops.size:=by
   refine aa2 fun V=>?_;have:=uU hl m (by omega);have h2:=(b m (by omega)).1 this;omega
  subst T;have O:ops.toList.drop ops.size=[]:=ll (by simp);rw[O]at s;exact⟨A listed a w (fun i v=>(b i v).2 v),s⟩
 | succ c ih =>
  intro listed a w m hl hz hm I b s;by_cases U:m=ops.size
  ·subst U;have O:ops.toList.drop ops.size=[]:=ll (by simp);rw[O]at s;have H:=A listed a w (fun i v=>(b i v).2 v);exact⟨fun _=>s,fun j f=>by rw[H]at f;cases f⟩
  ·have x:m<ops.size:=by omega
   have y:=iO (xs:=ops) x;obtain⟨D,Z⟩:=tY k hz y;have t:listed[m]?=some false:=by
    have N:m<listed.size:=by omega
    rw[iO N];cases M:listed[m] with
    | false=>rfl
    | true =>
     have:=(b m x).1 (by rw[iO N,M]);omega
   have u:ops.toList.drop m=ops[m]::ops.toList.drop (m+1):=by
    rw[lc (by rw[Dj];omega)];simp
   refine⟨fun H=>?_,fun i v=>?_⟩
   ·exfalso;have E:m∈Region.ready .any ops listed:=by
     unfold Region.ready;simp only[alN,acS,h8,Io];refine⟨x,by rw[ti,t];rfl,?_⟩;rw[y];simp only[MO,IF,acr,In,Io];intro e he;by_cases M:Region.binds .any e=true
     ·right;have f:e.on∈cV ops[m]:=px.2 ⟨e,he,M,rfl⟩;have:=D _ f;rw[ti,(b e.on (by omega)).2 this];rfl
     ·left;simpa using M
    rw[H]at E;cases E
   ·obtain⟨F,o,l,P⟩:=kZ v;have R:i<ops.size:=(ob.1 l).1;have Q:i=m:=by
     have N:¬ i<m:=fun h=>F ((b i R).2 h);refine aa2 fun V=>?_;obtain⟨g1,g2⟩:=tY k (by omega) l
     -- m is among those that i waits for;so m is listed
     have cl:∀(n:Nat) (S:d7),(∀j∈S,j<m)→∀j∈nK ops n S,j<m:=by
      intro n
      induction n with
      | zero=>intro S h j f;exact h j f
      | succ n J =>
       intro S h j f;unfold nK at f;split at f
       ·rename_i hc;have hn:n∈S:=by simpa using hc
        refine J _ (fun q g=>?_) j f;rcases ls.1 g with g|g
        ·exact h q g
        ·split at g
         ·rename_i o' G;have c0:=h n hn
          -- the edges of an operation that is listed: those of n are below n,or listed
          by_cases Y:z≤n
          ·have:=(tY k Y G).1 q g;omega
          ·have:=C n o' (by omega) G q g;omega
         ·cases g
       ·exact J S h j f
     have:m<m:=cl i _ (fun j f=>by
      have:=P j f;have a0:=g1 j f;exact(b j (by omega)).1 this) m (g2 m (by omega))
     omega
    subst Q;have b0:=uF t;rw[y]at l;injection l with l;subst l
    have p:∀L w',wpList d.P ops K (ops.toList.drop (i+1)) L w'→wpAny d.P .any ops K c (listed.setIfInBounds i true) L w':=fun L w' W=>by
     refine ih _ L w' (i+1) (by omega) (by omega) (by omega) (by simpa using I) (fun j f=>?_) W;rw[dM (by omega)];constructor
     ·rintro (e|h)
      ·omega
      ·have:=(b j f).1 h;omega
     ·intro h;by_cases e:j=i
      ·exact .inl e
      ·exact .inr ((b j f).2 (by omega))
    unfold wpOp;simp only[y];rw[u]at s;unfold wpList at s;split at s
    ·rename_i X;rw[kc X];exact s.imp (RP p (fun _ _ _ _ h=>h)) (fun h=>h)
    ·rename_i X;rw[kb X];exact p _ _ s
theorem c8.Xl{T:Exit→Act→World→Prop}(S:Stat ops c K)(X:lW d.P d.n f ops c K σ){z:Nat}(J:c.length=z)(F:z≤ops.size)(m:n7 ops z=true)(U:∀a w ι,aX d (σ K) a w ι→wpList d.P ops T (ops.toList.drop z) a w):
  ∀(l:Nat) (listed:Array Bool) (a:Act) (w:World) (k:Nat) (ι:Env),iT listed=l→(∀i,z≤i→listed[i]?≠some true)→c8 d ops c K σ listed a w k ι→wpAny d.P .any ops T l listed a w:=by
 have p:∀(n:Nat) (o:Oper),n<z→ops[n]?=some o→∀j∈cV o,j<n:=fun n o hn A=>S.lex n _ _ A (iN (by rw[J];exact hn));have B:∀(listed:Array Bool) (a:Act) (w:World) (k:Nat) (ι:Env),c8 d ops c K σ listed a w k ι→(∀i,i<z→listed[i]?=some true)→aX d (σ K) a w ι:=by
  intro listed a w k ι h g;have hk:k=K:=by
   have:=h.kK;rcases S.last with h0|⟨i,r⟩
   ·omega
   ·have M:i<z:=by rw[←J];exact(io.1 r).1
    have:=(h.wr i K r).1 (g i M);omega
  subst hk;exact⟨h.hs,h.dfr,h.n,fun t v hv=>h.tmp t v hv (fun i o tg _ Q _ _=>g i (by rw[←J];exact(io.1 Q).1))⟩
 intro l
 induction l with
 | zero =>
  intro listed a w k ι H s h;have g:∀i,i<z→listed[i]?=some true:=fun i r=>uU H i (by rw[h.sz];omega);exact B0 m p 0 listed a w z H (jf _) F h.sz (fun i r=>⟨fun x=>aa2 fun C=>s i (by omega) x,g i⟩) (U a w ι (B listed a w k ι h g))
 | succ l ih =>
  intro listed a w k ι H s h;by_cases g:∀i,i<z→listed[i]?=some true
  ·exact B0 m p (l+1) listed a w z H (jf _) F h.sz (fun i r=>⟨fun x=>aa2 fun C=>s i (by omega) x,g i⟩) (U a w ι (B listed a w k ι h g))
  ·refine⟨fun hr=>?_,fun i r=>?_⟩
   ·exfalso;apply g;intro i
    induction i using Nat.strongRecOn with
    | _ i R =>
     intro r;have A:=iO (xs:=ops) (show i<ops.size by omega);cases D:listed[i]? with
     | none=>rw[alI,h.sz]at D;omega
     | some b =>
      cases b with
      | true=>rfl
      | false =>
       exfalso;have I:i∈Region.ready .any ops listed:=by
        unfold Region.ready;simp only[alN,acS,h8,Io];refine⟨by omega,by rw[ti,D];rfl,?_⟩;rw[A];simp only[MO,IF,acr,In,Io];intro e Z;by_cases G:Region.binds .any e=true
        ·right;have P:e.on∈cV ops[i]:=px.2 ⟨e,Z,G,rfl⟩;have E:=p i _ r A e.on P;rw[ti,R e.on E (by omega)];rfl
        ·left;simpa using G
       rw[hr]at I;cases I
   ·obtain⟨y,o,A,L⟩:=kZ r;have N:i<ops.size:=(ob.1 A).1;have u:i<listed.size:=by rw[h.sz];exact N
    have hf:listed[i]?=some false:=by
     rw[iO u]at y⊢;cases G:listed[i] with
     | true=>rw[G]at y;exact(y rfl).elim
     | false=>rfl
    have a0:=uF hf;have O:i<z:=by
     refine aa2 fun C=>g fun q V=>?_;obtain⟨_,Y⟩:=tY m (by omega) A;exact rW h.cl i _ (fun j P=>L j P) q (Y q (by omega))
    refine h.one S X (by rw[J];exact O) r (fun W w' k' ι' I=>ih _ W w' k' ι' (by omega) (fun q V x=>?_) I);rcases (dM u).1 x with e|x
    ·omega
    ·exact s q V x
end
theorem T3{e:Cx}{Q:Exit→Act→World→Prop}{B:dn}{f:Func}{p:d7}{g:AS}{c:List Tag}(z K:Nat)(o:List em)(i:List hH)(rl:List (Nat×bW))(t:List (AS→AS))
  (u:ff e.P e.n g (dh f p) c K (n9 g o i rl t) (aW f p 0) c) (h:OT e Q B (dh f p) (aW f p z) (Ii g o i rl t K))
  (v:kz f p=true:=by kernel_rfl) (G:e.P.follows .mixedOrders=true:=by kernel_rfl) (r:un (dh f p) c K z=true:=by kernel_rfl) (F:mA c K=true:=by kernel_rfl) (d:ly (aW f p 0) c o=true:=by kernel_rfl) (x:iK g.u i=true:=by kernel_rfl) (k:iK g.u rl=true:=by kernel_rfl)
  (s:(Nat.ble z (dh f p).size&&n7 (dh f p) z)=true:=by kernel_rfl):VE e Q (.c (cat f p)::B) .normal g:=by
 have D:aW f p 0=(dh f p).toList:=by simp[aW]
 have E:aW f p z=(dh f p).toList.drop z:=rfl;rw[E]at h;cases j:cat f p with
 | region id ops b =>
  cases b with
  | false=>unfold kz at v;rw[j]at v;cases v
  | true =>
   have H:dh f p=ops:=by unfold dh;rw[j];rfl
   rw[D]at u d;rw[H]at u d r h s;rw[h8]at s;intro a w ι m;obtain⟨C,l,_⟩:=zh r F;have A:=xf (P:=e.P) (n:=e.n) c K o i rl (n9 g o i rl t) d x k (by unfold n9;cases t<;>rfl) u;refine am9 G (c8.Xl C A l (iF s.1) s.2 (fun a w ι r=>h a w ι r) ops.size _ a _ 0 ι (by simp[iT]) (fun q _ y=>?_) (c8.start C A m));rw[ajQ]at y;split at y<;>cases y
 | _=>grind[kz]
structure fX(E:Nat→Prop)(b b':aC):Prop where
 os:b'.w.os=b.w.os
 tape:b'.w.tape=b.w.tape
 output:b'.w.output=b.w.output
 size:b.w.heap.size≤b'.w.heap.size
 block:∀k,k<b.w.heap.size→¬ b.G k→¬ E k→b'.w.heap[k]?=b.w.heap[k]?
 O:∀g,b'.O g→b.O g
 pv:b'.pv=b.pv
theorem fX.refl E b:fX E b b:=⟨rfl,rfl,rfl,jf _,fun _ _ _ _=>rfl,fun _ h=>h,rfl⟩
theorem fX.trans{E:Nat→Prop}{b a d:aC}(h:fX E b a)(k:fX E a d):fX E b d :=
 ⟨k.os.trans h.os,k.tape.trans h.tape,k.output.trans h.output,aal h.size k.size,fun i f c e=>by
  have m:¬ a.G i:=fun l=>by
   rcases h.O i (.inr l)with j|j
   ·grind
   grind
  exact(k.block i (u7 f h.size) m e).trans (h.block i f c e),fun g c=>h.O g (k.O g c),k.pv.trans h.pv⟩
theorem fX.mono{E E'}{b a}(h:fX E b a)(c:∀k,E k→E' k):fX E' b a :=
 ⟨h.os,h.tape,h.output,h.size,fun i e d f=>h.block i e d (fun h=>f (c i h)),h.O,h.pv⟩
def zI(b:aC)(ι:Env)(w:World):aC:=⟨w,fun g=>∃id,bw (ι id)=some g,b.pv⟩
theorem aX.step{d:Cx}{s:AS}{a:Act}{w w':World}{ι:Env}(h:aX d s a w ι){E E':Nat→Prop}(P:w'.os=w.os)(Q:w'.tape=w.tape)(R:w'.output=w.output)(m:w.heap.size≤w'.heap.size)
  (J:∀k,E k→d.M k) (I:∀k,k<w.heap.size→¬ E k→w'.heap[k]?=w.heap[k]?) (n:∀k,E' k→w.heap.size≤k∧k<w'.heap.size) :
  aX ⟨d.P,d.n,fun k=>d.M k∨E' k,zI d.w0 ι w'⟩ s a w' ι∧fX E d.w0 (zI d.w0 ι w'):=by
 have q:∀{id g},bw (ι id)=some g→w'.heap[g]?=w.heap[g]?:=fun {id g} c=>I g (h.hs.own id g c).2 (fun C=>h.hs.sep (J g C) c);have B:∀b,b<w.heap.size→NN (fun k=>d.M k∨E' k) ι b→NN d.M ι b:=fun b f l=>by
  rcases l with (l|l)|l
  ·exact .inl l
  ·have:=(n b l).1;omega
  ·exact .inr l
 have t:∀b,b<w.heap.size→¬ NN d.M ι b→w'.heap[b]?=w.heap[b]?:=fun b f l=>I b f (fun C=>l (.inl (J b C)));refine⟨⟨⟨⟨rfl,rfl,rfl,jf _,fun _ _ _=>rfl⟩,fun b f=>?_,h.hs.use,fun id g c=>⟨.inr ⟨id,c⟩,u7 (h.hs.own id g c).2 m⟩,h.hs.inj,h.hs.ko,h.hs.kr,fun i cs D G=>?_,fun i ar D G=>?_,h.hs.pin⟩,h.dfr,h.n,fun k v p=>?_⟩,
  ⟨P.trans h.hs.below.os,Q.trans h.hs.below.tape,R.trans h.hs.below.output,aal h.hs.below.size m,fun k t S F=>(I k (u7 t h.hs.below.size) F).trans (h.hs.below.block k t S),fun g c=>?_,rfl⟩⟩
 ·rcases f with f|f
  ·exact⟨u7 (h.hs.old b f).1 (aal h.hs.below.size m),fun⟨id,o⟩=>h.hs.sep f o⟩
  ·exact⟨(n b f).2,fun⟨id,o⟩=>by have:=(n b f).1;have:=(h.hs.own id b o).2;omega⟩
 ·obtain⟨g,T,vs,u,z,A⟩:=h.hs.objs i cs D G;exact⟨g,T,vs,u,(q (id:=i) (by rw[u];rfl)).trans z,A.mono m B t (fun _ _ h=>h)⟩
 ·obtain⟨v',xs,u,z,A,M,N⟩:=h.hs.arrs i ar D G;refine⟨v',xs,u,f8 z (fun g c=>q (id:=i) (by rw[u];exact c)),A,M,fun j e U K L p=>?_⟩;obtain⟨y,X,H⟩:=N j e U K L p;exact⟨y,X,H.mono m B t (fun _ h=>h) (fun r O=>q (id:=nm i (j*ar.sz+K)) (by rw[O];rfl)) (fun h=>h)⟩
 ·obtain⟨x,W,V⟩:=h.tmp k v p;exact⟨x,W,V.mono m B t (fun _ _ h=>h)⟩
 ·rcases c with c|⟨id,c⟩
  ·exact .inl (aal (aal h.hs.below.size m) c)
  ·exact(h.hs.own id g c).1
theorem HS.af4{M l E:Nat→Prop}{b m:aC}{w:World}{ι:Env}{s:AS}(h:HS l m w ι s)(a:fX E b m)(L:∀k,E k→b.w.heap.size≤k)(A:∀k,M k→l k∧k<b.w.heap.size∧¬ b.G k):HS M b w ι s:=by
 have B:∀b,b<w.heap.size→NN M ι b→NN l ι b:=fun b _ G=>G.elim (fun h=>.inl (A b h).1) .inr;refine⟨⟨h.below.os.trans a.os,h.below.tape.trans a.tape,h.below.output.trans a.output,aal a.size h.below.size,fun k c z=>?_⟩,fun k c=>(A k c).2,h.use,fun id g d=>⟨a.O g (h.own id g d).1,(h.own id g d).2⟩,h.inj,h.ko,h.kr,fun i cs t f=>?_,fun i ar t f=>?_,fun i v f=>h.pin i v (by rw[a.pv];exact f)⟩
 ·have I:¬ m.G k:=fun r=>by
   rcases a.O k (.inr r)with q|q
   ·exact absurd c (alK.2 q)
   ·exact z q
  exact(h.below.block k (u7 c a.size) I).trans (a.block k c z (fun N=>absurd c (by grind)))
 ·obtain⟨g,T,vs,n,o,p⟩:=h.objs i cs t f;exact⟨g,T,vs,n,o,p.mono (by omega) B (fun _ _ _=>rfl) (fun _ _ h=>h)⟩
 ·obtain⟨v',xs,n,o,p,D,F⟩:=h.arrs i ar t f;refine⟨v',xs,n,o,p,D,fun j e H K C u=>?_⟩;obtain⟨y,J,x⟩:=F j e H K C u;exact⟨y,J,x.mono (by omega) B (fun _ _ _=>rfl) (fun _ h=>h) (fun _ _=>rfl) (fun h=>h)⟩
def iw(v:AV)(x:Value):Prop:=∀N w ι,Rel N w ι v x
def zF(P:Program)(f:FuncId)(a:ck)(R:World→World→AV→Prop):Prop :=
 ∀M w xs,(∀b,M b→b<w.heap.size)→t7 M w a xs →
  Calls P f xs w fun e w'=>∃x v,e=.returned x∧Below w.heap.size w w'∧R w w' v∧iw v x
def pd(P:Program)(f:FuncId)(a:ck)(E:Nat→Prop)(Φ:World→Prop)(V:AV)(R:World→Prop):Prop :=
 ∀(M:Nat→Prop) w xs,(∀b,M b→b<w.heap.size∧¬ E b)→(∀b,E b→b<w.heap.size)→Φ w→t7 (fun b=>M b∨E b) w a xs →
  Calls P f xs w fun e w'=>∃x,e=.returned x∧w'.os=w.os∧w'.tape=w.tape∧w'.output=w.output∧w.heap.size≤w'.heap.size∧(∀k,k<w.heap.size→¬ E k→w'.heap[k]?=w.heap[k]?)∧R w'∧iw V x
theorem TU{c}{s}{a}{w}{ι}(f:aX c s a w ι){o}{g}{b}(d:eA s o=some (g,b))(e:cG c.P g=true):
  ∃xs,(execOp a.eval o).run c.P w=.ok (.enter g xs) w∧t7 (NN c.M ι) w b xs:=by
 unfold eA at d;split at d
 ·grind[ln,zU]
 grind
section
variable{d:Cx}{Q:Exit→Act→World→Prop}{l:dn}{s:AS}{j:Array Oper}{f:Func}{p:d7}{i:Nat}
theorem Nf{g:FuncId}{n:ck}{R:World→World→AV→Prop}(D:zF d.P g n R)
  (k:∀v w r,R w r.w v→(∀k,d.M k→k<d.w0.w.heap.size∧¬ d.w0.G k)→d.w0.w.heap.size≤w.heap.size→(∀k,r.G k→k<w.heap.size)→fX (fun _=>False) d.w0 r→∃E:Nat→Prop,(∀k,E k→w.heap.size≤k∧k<r.w.heap.size)∧OT ⟨d.P,d.n,fun c=>d.M c∨E c,r⟩ Q l j (aW f p (i+1)) (s.put (aY f p i).dst v))
  (H:aW f p i=aY f p i::aW f p (i+1):=by kernel_rfl) (G:cz j s (aY f p i)=true:=by kernel_rfl) (u:cG d.P g=true:=by kernel_rfl)
  (z:eA s { aY f p i with guard:=none }=some (g,n):=by kernel_rfl) (F:cH d.n (aY f p i).dst=true:=by kernel_rfl):OT d Q l j (aW f p i) s:=by
 rw[H];refine fk _ G fun a w ι q=>?_;refine abL rfl fun K B=>?_;unfold Oper.wp;obtain⟨xs,y,J⟩:=TU q z u;rw[y,af6];refine (D (NN d.M ι) w xs (fun b m=>lN q.hs m) J).mono ?_
 rintro e w' ⟨x,v,rfl,m,C,I⟩
 obtain⟨E,A,o⟩:=k v w (zI d.w0 ι w') C q.hs.old q.hs.below.size (fun k ⟨id,o⟩=>(q.hs.own id k o).2) (q.step (E':=fun _=>False) m.os m.tape m.output m.size (fun _ h=>h.elim) (fun k o _=>m.block k o) (fun _ h=>h.elim)).2;have t:=(q.step (E:=fun _=>False) (E':=E) m.os m.tape m.output m.size (fun _ h=>h.elim) (fun k o _=>m.block k o) A).1;exact B _ _ (o _ _ _ (t.put (gj F) (I _ _ _)))
theorem Wy{g:FuncId}{f:ck}{E:Nat→Prop}{Φ R:World→Prop}{V:AV}(C:pd d.P g f E Φ V R){o:Oper}{a:Act}{w:World}{ι:Env}(c:aX d s a w ι)(A:eA s o=some (g,f))(q:cG d.P g=true)(D:cH d.n o.dst=true)
  (m:∀k,E k→d.M k) (K:∀w,d.w0.w.heap.size≤w.heap.size→(∀k,E k→w.heap[k]?=d.w0.w.heap[k]?)→Φ w) {Kn:Act→World→Prop} {z:Exit→Act→World→Prop}
  (k:∀n x w',fX E d.w0 n→R n.w→n=zI d.w0 ι w'→aX ⟨d.P,d.n,d.M,n⟩ (s.put o.dst V) (a.put o.dst x) w' ι→Kn (a.put o.dst x) w'):o.wp d.P a w Kn z:=by
 unfold Oper.wp;obtain⟨xs,t,u⟩:=TU c A q;rw[t,af6];have r:∀k,E k→k<w.heap.size:=fun k p=>u7 (c.hs.old k (m k p)).1 c.hs.below.size;refine (C (fun b=>NN d.M ι b∧¬ E b) w xs (fun b j=>⟨lN c.hs j.1,j.2⟩) r (K w c.hs.below.size (fun k p=>c.hs.below.block k (c.hs.old k (m k p)).1 (c.hs.old k (m k p)).2)) ⟨u.1,fun i v y I J=>(u.2 i v y I J).mono (jf _) (fun b _ j=>?_) (fun _ _ _=>rfl) (fun _ _ h=>h)⟩).mono ?_
 ·rcases j with j|j
  ·exact j.1
  ·exact .inl (m b j)
 rintro e w' ⟨x,rfl,L,M,N,O,P,B,H⟩
 obtain⟨l,G⟩:=c.step (E:=E) (E':=fun _=>False) L M N O m P (fun _ h=>h.elim);refine k (zI d.w0 ι w') x w' G B rfl ?_;have F:(fun k=>d.M k∨False)=d.M:=by funext k;simp
 rw[F]at l;exact l.put (gj D) (H _ _ _)
theorem alA{g}{b}{E}{Φ R}{V}(t:pd d.P g b E Φ V R)(q:∀k,E k→d.M k)(z:∀w,d.w0.w.heap.size≤w.heap.size→(∀k,E k→w.heap[k]?=d.w0.w.heap[k]?)→Φ w)
  (k:∀c,fX E d.w0 c→R c.w→(∀k,d.M k→k<d.w0.w.heap.size∧¬ d.w0.G k)→OT ⟨d.P,d.n,d.M,c⟩ Q l j (aW f p (i+1)) (s.put (aY f p i).dst V))
  (y:aW f p i=aY f p i::aW f p (i+1):=by kernel_rfl) (v:cz j s (aY f p i)=true:=by kernel_rfl) (h:cG d.P g=true:=by kernel_rfl)
  (e:eA s { aY f p i with guard:=none }=some (g,b):=by kernel_rfl) (u:cH d.n (aY f p i).dst=true:=by kernel_rfl):OT d Q l j (aW f p i) s:=by
 rw[y];refine fk _ v fun a w ι m=>?_;refine abL rfl fun K r=>?_;exact Wy t m e h u q z (fun c x w' e n _ o=>r _ _ (k c e n m.hs.old _ _ _ o))
end
theorem sI{c}{g}{s}{f}{l}(h:gP c.P s g.results.toList=some l)(k:∀w ι x,HS c.M c.w0 w ι s→Rel (NN c.M ι) w ι (qV l) x→f (.returned x) w):VE c (bodyPost c.P g f) [] .ret s:=fun a w ι b=>by
 obtain⟨vs,j,e,d⟩:=B3 b h;refine⟨b.dfr,_,OB j,k w ι _ b.hs ?_⟩
 match l,vs,e,d with
 | [],[],_,d=>exact .tup _ _ _ rfl (fun i x v m _=>by grind)
 | [v],[y],_,d=>exact d 0 v y rfl rfl
 | v::u::r,y::z::q,e,d=>exact .tup _ _ _ e d
theorem afC{P:Program}{f:FuncId}{o:Func}{c:Code}{d:ck}{R:World→World→AV→Prop}(t:P.funcs[f]?=some o)(j:o.body=some c)(n:Nat)(C:o.ntmps=n)(B:d.length≤n)
  (h:∀M w,VE ⟨P,n,M,nn w⟩ (bodyPost P o (fun e w'=>∃x v,e=.returned x∧Below w.heap.size w w'∧R w w' v∧iw v x)) [.c c] .normal ⟨idxs 0 d,[],[],[]⟩):zF P f d R:=by
 intro M w xs s r;refine amP t j ?_;refine anF (h M w { tmps:=xs++Array.replicate (o.ntmps-xs.size) undef,defers:=[] } w bG ?_) (fun e a w' u=>?_)
 ·refine⟨⟨⟨rfl,rfl,rfl,jf _,fun _ _ _=>rfl⟩,fun b j=>⟨s b j,fun h=>h⟩,fun i y A=>(by cases A),fun i g p=>(by cases p),fun i D g p=>(by cases p),fun i cs l=>(by cases l),fun i a l=>(by cases l),fun i cs l=>(by cases l),fun i a l=>(by cases l),fun i v z=>(by cases z)⟩,rfl,?_,fun k v q=>?_⟩
  ·have:=r.1;simp;omega
  ·rw[pc,kc (tl _),alH]at q;have m:k<xs.size:=by rw[←r.1];exact(io.1 q).1
   refine⟨xs[k],?_,(r.2 k v _ q (iO m)).mono (jf _) (fun b _ j=>?_) (fun _ _ _=>rfl) (fun _ _ h=>h)⟩
   ·simp only[];rw[By m,iO m]
   ·rcases j with j|⟨id,j⟩
    ·exact j
    ·cases j
 ·cases e<;>exact u
theorem afB{P:Program}{f:FuncId}{A:Func}{c:Code}{d args':ck}{E:Nat→Prop}{Φ R:World→Prop}{V:AV}{id0:Nat}{v0:Value}{ar:bW}(hf:P.funcs[f]?=some A)(l:A.body=some c)(n:Nat)(hn:A.ntmps=n)(hl:d.length≤n)(Q:args'.length=d.length)
  (G:∀g,bw (some v0)=some g→E g)
  (o:∀w,Φ w→∃H,w.ownsRow 0 ar.e ar.sz v0 ar.l.length H∧(∀e∈ar.l,e.length=ar.sz)∧(∀x∈H,x.oneCell'=true)∧∀(j:Nat) (e:ck),ar.l[j]?=some e→∀(i:Nat) (c:AV),e[i]?=some c→∃x,H[j*ar.sz+i]?=some x∧iw c x)
  (B:∀(N:Nat→Prop) (w:World) (i:Nat) (a b:AV) (x:Value),d[i]?=some a→args'[i]?=some b→Rel N w bG a x→Rel N w (ext bG id0 v0) b x)
  (h:∀M w,(∀g,E g→bw (some v0)≠some g→M g)→Φ w→VE ⟨P,n,M,mN w id0 v0⟩ (bodyPost P A (fun e w'=>∃x,e=.returned x∧w'.os=w.os∧w'.tape=w.tape∧w'.output=w.output∧w.heap.size≤w'.heap.size∧(∀k,k<w.heap.size→¬ E k→w'.heap[k]?=w.heap[k]?)∧R w'∧iw V x)) [.c c] .normal ⟨idxs 0 args',[],[(id0,ar)],[id0,dk id0]⟩):pd P f d E Φ V R:=by
 intro M w xs T Y U z;obtain⟨H,o,D,F,K⟩:=o w U;refine amP hf l ?_;have W:∀i y,ext bG id0 v0 i=some y→i=id0∧y=v0:=fun i y u=>by
  by_cases e:i=id0
  ·subst e;rw[cN]at u;injection u with u;exact⟨rfl,u.symm⟩
  ·rw[bT _ _ e]at u;cases u
 have p:∀i g,bw (ext bG id0 v0 i)=some g→i=id0∧bw (some v0)=some g:=fun i g q=>by
  cases C:ext bG id0 v0 i with
  | none=>rw[C]at q;cases q
  | some y=>obtain⟨I,J⟩:=W i y C;rw[C,J]at q;exact⟨I,q⟩
 have S:args'.length=xs.size:=by rw[Q];exact z.1
 refine anF (h (fun b=>M b∨(E b∧bw (some v0)≠some b)) w (fun g I J=>.inr ⟨I,J⟩) U { tmps:=xs++Array.replicate (A.ntmps-xs.size) undef,defers:=[] } w (ext bG id0 v0) ?_) (fun e a w' hq=>?_)
 ·refine⟨⟨⟨rfl,rfl,rfl,jf _,fun _ _ _=>rfl⟩,fun b l=>?_,fun i y u=>?_,fun i g q=>⟨.inr (p i g q).2,Lu o (p i g q).2⟩,fun i i' g q L=>(p i g q).1.trans (p i' g L).1.symm,fun i cs m=>(by cases m),fun i a m=>?_,fun i cs m=>(by cases m),fun i a m hp=>?_,fun i v hv=>?_⟩,rfl,?_,fun k v O=>?_⟩
  ·rcases l with l|l
   ·exact⟨(T b l).1,fun q=>(T b l).2 (G b q)⟩
   ·exact⟨Y b l.1,l.2⟩
  ·rw[(W i y u).1];exact fD (by simp)
  ·simp only[look]at m;split at m
   ·rename_i e;subst e;exact fD (by simp)
   ·cases m
  ·simp only[look]at m;split at m
   ·rename_i e;subst e;injection m with m;subst m
    exact⟨v0,H,cN _ _ _,o,D,F,fun j e C k c Z=>by obtain⟨x,z,hr⟩:=K j e C k c Z;exact⟨x,z,.inl (hr _ _ _)⟩⟩
   ·cases m
  ·have r:(if i=id0 then some v0 else none)=some v:=hv;split at r
   ·rename_i e;subst e;injection r with r;subst r
    exact⟨cN _ _ _,by simp⟩
   ·cases r
  ·have:=z.1;simp;omega
  ·rw[pc,kc (tl _),alH]at O;have s:k<xs.size:=by rw[←S];exact(io.1 O).1
   have t:k<d.length:=by rw[z.1];exact s
   refine⟨xs[k],?_,?_⟩
   ·simp only[];rw[By s,iO s]
   ·have X:=B _ w k _ v _ (iN t) O (z.2 k _ _ (iN t) (iO s));refine X.mono (jf _) (fun b _ l=>?_) (fun _ _ _=>rfl) (fun _ _ h=>h);rcases l with (l|l)|⟨id,l⟩
    ·exact .inl l
    ·exact .inr l.1
    ·exact .inr (G b (p id b l).2)
 ·cases e<;>exact hq
section
variable{d:Cx}{ops:Array Oper}{c:List Tag}{σ g:Nat→AS}{l f:AS}
theorem c8.ahd{R:Exit→Act→World→Prop}(V:Stat ops c 0)(X:lW d.P d.n l ops c 0 σ){z:Nat}(U:c.length=z)(G:z+1≤ops.size)(m:n7 ops (z+1)=true)(P:∀(o:Oper),ops[z]?=some o→∀j∈cV o,j<z)(S:∀a w ι,aX d (σ 0) a w ι→wpList d.P ops R (ops.toList.drop (z+1)) a w):
  ∀(g:Nat) (listed:Array Bool) (a:Act) (w:World) (k:Nat) (ι:Env),iT listed=g→listed[z]?=some true→(∀i,z+1≤i→listed[i]?≠some true)→c8 d ops c 0 σ listed a w k ι→wpAny d.P .any ops R g listed a w:=by
 have p:∀(n:Nat) (o:Oper),n<z+1→ops[n]?=some o→∀j∈cV o,j<n:=fun n o hn x=>by
  by_cases e:n=z
  ·subst e;exact P o x
  ·exact V.lex n _ _ x (iN (by rw[U];omega))
 have C:∀(listed:Array Bool) (a:Act) (w:World) (k:Nat) (ι:Env),c8 d ops c 0 σ listed a w k ι→(∀i,i<z+1→listed[i]?=some true)→aX d (σ 0) a w ι:=by
  intro listed a w k ι h f;have hk:k=0:=by have:=h.kK;omega
  subst hk;exact⟨h.hs,h.dfr,h.n,fun t v hv=>h.tmp t v hv (fun i o tg _ O _ _=>f i (by have:=(io.1 O).1;omega))⟩
 intro g
 induction g with
 | zero =>
  intro listed a w k ι I B u h;have f:∀i,i<z+1→listed[i]?=some true:=fun i A=>uU I i (by rw[h.sz];omega);exact B0 m p 0 listed a w (z+1) I (jf _) G h.sz (fun i A=>⟨fun y=>aa2 fun D=>u i (by omega) y,f i⟩) (S a w ι (C listed a w k ι h f))
 | succ g ih =>
  intro listed a w k ι I B u h;by_cases f:∀i,i<z+1→listed[i]?=some true
  ·exact B0 m p (g+1) listed a w (z+1) I (jf _) G h.sz (fun i A=>⟨fun y=>aa2 fun D=>u i (by omega) y,f i⟩) (S a w ι (C listed a w k ι h f))
  ·refine⟨fun hr=>?_,fun i A=>?_⟩
   ·exfalso;apply f;intro i
    induction i using Nat.strongRecOn with
    | _ i Q =>
     intro A;have x:=iO (xs:=ops) (show i<ops.size by omega);cases E:listed[i]? with
     | none=>rw[alI,h.sz]at E;omega
     | some b =>
      cases b with
      | true=>rfl
      | false =>
       exfalso;have J:i∈Region.ready .any ops listed:=by
        unfold Region.ready;simp only[alN,acS,h8,Io];refine⟨by omega,by rw[ti,E];rfl,?_⟩;rw[x];simp only[MO,IF,acr,In,Io];intro e Z;by_cases H:Region.binds .any e=true
        ·right;have N:e.on∈cV ops[i]:=px.2 ⟨e,Z,H,rfl⟩;have F:=p i _ A x e.on N;rw[ti,Q e.on F (by omega)];rfl
        ·left;simpa using H
       rw[hr]at J;cases J
   ·obtain⟨s,o,x,K⟩:=kZ A;have L:i<ops.size:=(ob.1 x).1;have r:i<listed.size:=by rw[h.sz];exact L
    have hf:listed[i]?=some false:=by
     rw[iO r]at s⊢;cases H:listed[i] with
     | true=>rw[H]at s;exact(s rfl).elim
     | false=>rfl
    have a0:=uF hf;have M:i<z:=by
     refine aa2 fun D=>f fun q T=>?_;have b0:i≠z:=fun e=>by subst e;exact s B
     obtain⟨_,Y⟩:=tY m (by omega) x;exact rW h.cl i _ (fun j N=>K j N) q (Y q (by omega))
    refine h.one V X (by rw[U];exact M) A (fun W w' k' ι' J=>ih _ W w' k' ι' (by omega) ((dM r).2 (.inr B)) (fun q T y=>?_) J);rcases (dM r).1 y with e|y
    ·omega
    ·exact u q T y
theorem c8.acG{M:Exit→Act→World→Prop}(V:Stat ops c 0)(X:lW d.P d.n l ops c 0 σ){z:Nat}{D:Oper}(S:c.length=z)(T:z+1≤ops.size)(t:n7 ops (z+1)=true)(x:ops[z]?=some D)(K:∀j∈cV D,j<z)(O:D.guard=none)
  (J:∀(listed:Array Bool) (a:Act) (w:World) (ι:Env),c8 d ops c 0 σ listed a w 0 ι→listed[z]?≠some true→(∀j∈cV D,listed[j]?=some true)→∀(Kn:Act→World→Prop),(∀n g f B w',lW n.P n.n f ops c 0 g→c8 n ops c 0 g (listed.setIfInBounds z true) B w' 0 ι→(∀a w ι,aX n (g 0) a w ι→wpList n.P ops M (ops.toList.drop (z+1)) a w)→n.P=d.P→Kn B w')→D.wp d.P a w Kn M) :
  ∀(m:Nat) (listed:Array Bool) (a:Act) (w:World) (k:Nat) (ι:Env),iT listed=m→(∀i,z≤i→listed[i]?≠some true)→c8 d ops c 0 σ listed a w k ι→wpAny d.P .any ops M m listed a w:=by
 intro m
 induction m with
 | zero =>
  intro listed a w k ι W r h;exact absurd (uU W z (by rw[h.sz];omega)) (r z (jf _))
 | succ m ih =>
  intro listed a w k ι W r h;refine⟨fun hr=>?_,fun i P=>?_⟩
  ·exfalso;have key:∀i,i<z+1→listed[i]?=some true:=by
    intro i
    induction i using Nat.strongRecOn with
    | _ i U =>
     intro P;have s:=iO (xs:=ops) (show i<ops.size by omega);cases H:listed[i]? with
     | none=>rw[alI,h.sz]at H;omega
     | some b =>
      cases b with
      | true=>rfl
      | false =>
       exfalso;have C:i∈Region.ready .any ops listed:=by
        unfold Region.ready;simp only[alN,acS,h8,Io];refine⟨by omega,by rw[ti,H];rfl,?_⟩;rw[s];simp only[MO,IF,acr,In,Io];intro e he;by_cases L:Region.binds .any e=true
        ·right;have G:e.on∈cV ops[i]:=px.2 ⟨e,he,L,rfl⟩;have I:e.on<i:=by
          by_cases A:i<z
          ·exact V.lex i _ _ s (iN (by rw[S];exact A)) e.on G
          ·have:i=z:=by omega
           subst this;rw[x]at s;injection s with s
           rw[←s]at G;exact K _ G
         rw[ti,U e.on I (by omega)];rfl
        ·left;simpa using L
       rw[hr]at C;cases C
   exact r z (jf _) (key z (by omega))
  ·obtain⟨u,o,s,E⟩:=kZ P;have Q:i<ops.size:=(ob.1 s).1;have p:i<listed.size:=by rw[h.sz];exact Q
   have hf:listed[i]?=some false:=by
    rw[iO p]at u⊢;cases L:listed[i] with
    | true=>rw[L]at u;exact(u rfl).elim
    | false=>rfl
   have b0:=uF hf;by_cases A:i=z
   ·subst A;rw[x]at s;injection s with s;subst s
    have hk:k=0:=by have:=h.kK;omega
    subst hk;unfold wpOp;simp only[x];have hw:Region.wanted D (yielded ops a.tmps)=true:=by simp[Region.wanted,O]
    rw[kc hw];refine .inl (J listed a w ι h u E _ fun n g f B w' N C R Z=>?_);have:=c8.ahd V N S T t (fun o' v=>by rw[x]at v;injection v with v;subst v;exact K) R m _ B w' 0 ι (by omega) ((dM p).2 (.inl rfl)) (fun q c0 y=>by
     rcases (dM p).1 y with e|y
     ·omega
     ·exact r q (by omega) y) C
    rw[Z]at this;exact this
   ·have F:i<z:=by
     refine aa2 fun a0=>?_;obtain⟨_,Y⟩:=tY t (by omega) s;exact r z (jf _) (rW h.cl i _ (fun j G=>E j G) z (Y z (by omega)))
    refine h.one V X (by rw[S];exact F) P (fun B w' k' ι' C=>ih _ B w' k' ι' (by omega) (fun q R y=>?_) C);rcases (dM p).1 y with e|y
    ·omega
    ·exact r q R y
end
theorem Ra{α:Type}:∀(m l l':List (Nat×α)) (k:Nat),(∃p∈m,p.1=k)→look k (gq m l)=look k (gq m l')
 | [],l,l',k,⟨p,a,_⟩=>by cases a
 | (j,x)::r,l,l',k,⟨p,a,e⟩=>by
  by_cases h:∃q∈r,q.1=k
  ·exact Ra r _ _ k h
  ·rcases qk.1 a with rfl|a
   ·have key:∀(r l:List (Nat×α)),(¬ ∃q∈r,q.1=k)→look k (gq r l)=look k l:=by
     intro r
     induction r with
     | nil=>intro l _;rfl
     | cons q r n =>
      intro l b;obtain⟨c,d⟩:=q;show look k (gq r (bm c d l))=_;rw[n _ (fun⟨o,g,i⟩=>b ⟨o,pt _ g,i⟩),cr,kb (fun f=>b ⟨(c,d),u6,f.symm⟩)]
    grind[look,gq,bm,cr]
   grind
theorem ai8{s:AS}{o:Oper}(t:List em)(d:∀x∈o.op.operands.toList,(s.tt t).ev x=s.ev x):eA (s.tt t) o=eA s o:=by
 unfold eA;cases b:o.op with
 | call c =>
  simp only;cases a:c.callee with
  | value e =>
   simp only;have f:=d e (by simp[b,Op.operands,Call.operands,a]);have g:dr (s.tt t) c.args.toList=dr s c.args.toList:=pK (fun x h=>d x (by simp[b,Op.operands,Call.operands,a];exact .inr (z3.1 h)));rw[f,g]
  | _=>rfl
 | _=>rfl
theorem KF{α}{k}:∀(r l:List (Nat×α)),(¬ ∃q∈r,q.1=k)→look k (gq r l)=look k l
 | [],l,_=>rfl
 | (b,c)::r,l,a=>by
  show look k (gq r (bm b c l))=_;rw[KF r _ (fun⟨g,e,f⟩=>a ⟨g,pt _ e,f⟩),cr,kb (fun d=>a ⟨(b,c),u6,d.symm⟩)]
def DU(o:Oper):d7:=o.op.operands.toList.filterMap fun x=>match x with|.tmp t=>some t|_=>none
def MZ(ops:Array Oper)(z d:Nat):Bool:=match ops[z]? with
 | some a=>(match a.dst with|some b=>Nat.beq b d|none=>false)&&((match a.guard with|none=>true|some _=>false)&&((List.range z).all fun j=>match ops[j]? with
  | some c=>(match c.dst with|some t=>(match Nat.beq t d with|true=>false|false=>true)&&(match (DU a).contains t with|true=>(cV a).contains j|false=>true)|none=>true)
  | none=>false))
 | none=>false
theorem agz{l:Cx}{Q:Exit→Act→World→Prop}{ks:dn}{f:Func}{p:d7}{A:AS}{c:List Tag}(z d:Nat)(u:List em){g:FuncId}{F:ck}{E:Nat→Prop}{Φ R:World→Prop}{V:AV}(t0:pd l.P g F E Φ V R)
  (hE:∀k,E k→l.M k) (hΦ:∀w,l.w0.w.heap.size≤w.heap.size→(∀k,E k→w.heap[k]?=l.w0.w.heap[k]?)→Φ w)
  (Z:ff l.P l.n A (dh f p) c 0 [gA A u [] []] (aW f p 0) c) (L:ff l.P l.n (A.put (some d) V) (dh f p) c 0 [gA (A.put (some d) V) u [] []] (aW f p 0) c)
  (h:∀U,fX E l.w0 U→R U.w→(∀k,l.M k→k<l.w0.w.heap.size∧¬ l.w0.G k)→OT ⟨l.P,l.n,l.M,U⟩ Q ks (dh f p) (aW f p (z+1)) (gA (A.put (some d) V) u [] []))
  (x0:cH l.n (some d)=true:=by kernel_rfl) (v0:cG l.P g=true:=by kernel_rfl) (h1:eA (gA A u [] []) (aY f p z)=some (g,F):=by kernel_rfl)
  (C:MZ (dh f p) z d=true:=by kernel_rfl) (W:kz f p=true:=by kernel_rfl) (hm:l.P.follows .mixedOrders=true:=by kernel_rfl) (hs:un (dh f p) c 0 z=true:=by kernel_rfl) (s:ly (aW f p 0) c u=true:=by kernel_rfl)
  (hz:(Nat.ble (z+1) (dh f p).size&&(n7 (dh f p) (z+1)&&(cV (aY f p z)).all fun j=>Nat.ble (j+1) z))=true:=by kernel_rfl):VE l Q (.c (cat f p)::ks) .normal A:=by
 have e0:aW f p 0=(dh f p).toList:=by simp[aW]
 have ez:aW f p (z+1)=(dh f p).toList.drop (z+1):=rfl;have m0:∀y,(dh f p)[z]?=some y→aY f p z=y:=fun y H=>by
  unfold aY;obtain⟨S0,he⟩:=ob.1 H;rw[lc (by rw[Dj];exact S0)];simp[he]
 rw[ez]at h;cases M:cat f p with
 | region id ops b =>
  cases b with
  | false=>unfold kz at W;rw[M]at W;cases W
  | true =>
   have ho:dh f p=ops:=by unfold dh;rw[M];rfl
   rw[e0]at Z L s;rw[ho]at Z L s hs h hz C m0;simp only[h8]at hz;obtain⟨T,c1,p0⟩:=hz;have T:=iF T;unfold MZ at C;split at C
   case h_2=>cases C
   rename_i y H;rw[m0 y H]at h1 p0;simp only[h8,ne,acS]at C;obtain⟨B,J,a0⟩:=C;have B:y.dst=some d:=by
    split at B
    ·rename_i d' w0;rw[w0,mo B]
    ·cases B
   have J:y.guard=none:=by
    cases X:y.guard with
    | none=>rfl
    | some _=>rw[X]at J;cases J
   have d1:∀j∈cV y,j<z:=fun j D=>iF (ne.1 p0 j D);have g0:∀j K t,j<z→ops[j]?=some K→K.dst=some t→t≠d∧(t∈DU y→j∈cV y):=fun j K t D m ht=>by
    have:=a0 j D;rw[m]at this;simp only[ht,h8]at this;refine⟨fun e=>?_,fun hm=>?_⟩
    ·rw[e]at this;rw[show Nat.beq d d=true from ani d]at this;cases this.1
    ·have Y:=this.2;rw[show(DU y).contains t=true by simpa using hm]at Y;simpa using Y
   intro a w ι o0;obtain⟨st,f0,_⟩:=zh hs rfl;have dy:=xf (P:=l.P) (n:=l.n) c 0 u [] [] [gA A u [] []] s rfl rfl rfl Z;have A0:∀q∈u,∃(i:Nat) (o:Oper),i<z∧ops[i]?=some o∧o.dst=some q.1:=fun q X=>by
    obtain⟨i,o,tg,g1,g2,_,g4⟩:=GA s q X;exact⟨i,o,by have:=(io.1 g2).1;omega,by simpa using g1,g4⟩
   refine am9 hm (c8.acG st dy f0 T c1 H d1 J (fun listed a w ι r f1 b0 Kn r0=>?_) ops.size _ a _ 0 ι (by simp[iT]) (fun q _ hh=>?_) (c8.start st dy o0))
   case refine_2=>rw[ajQ]at hh;split at hh<;>cases hh
   have G:z<listed.size:=by rw[r.sz];omega
   have a1:∀t,t∈DU y→eY ops c listed t=true:=fun t ht=>ky.2 fun j K tj m b1 _ N=>by
    have D:j<z:=by have:=(io.1 b1).1;omega
    exact b0 j ((g0 j K t D m N).2 ht)
   have q0:eA (((nth [gA A u [] []]) 0).tt (cy (eY ops c listed) ((nth [gA A u [] []]) 0).t)) y=some (g,F):=by
    rw[ai8 _ (fun x hx=>?_)]
    ·exact h1
    ·cases x with
     | tmp t =>
      show look t (cy _ _)=look t _;rw[fe,kc (a1 t (amZ.2 ⟨.tmp t,hx,rfl⟩))]
     | _=>rfl
   refine Wy t0 r.VA q0 v0 (by rw[B];exact x0) hE hΦ (fun U x w' hG hR _ I=>?_);refine r0 ⟨l.P,l.n,l.M,U⟩ (nth [gA (A.put (some d) V) u [] []]) _ _ _ (xf (P:=l.P) (n:=l.n) c 0 u [] [] [gA (A.put (some d) V) u [] []] s rfl rfl rfl L) ?_ (fun a w ι hs=>h U hG hR r.hs.old a w ι hs) rfl;rw[B]at I⊢;refine⟨by simp[r.sz],fun j K m D j' c0=>?_,jf _,fun j m' d0=>?_,I.hs.of_eq rfl rfl rfl,fun j K e1 d' m D T0 N h0=>?_,I.dfr,I.n,fun t v hv l0=>?_⟩
   ·rw[dM G]at D⊢;rcases D with rfl|D
    ·rw[H]at m;injection m with m;subst m;exact .inr (b0 j' c0)
    ·exact .inr (r.cl j K m D j' c0)
   ·have y0:j<ops.size:=by have:=(io.1 d0).1;omega
    have:=st.chain j _ m' (iO y0) d0;omega
   ·exact r.al j K e1 d' m D T0 N (fun hh=>h0 ((dM G).2 (.inr hh)))
   ·have i0:(∀(i:Nat) (o:Oper) (tg:Tag),ops[i]?=some o→c[i]?=some tg→tg.fm=true→o.dst=some t→listed[i]?=some true):=fun i o tg h1 Y Z h4=>by
     have hi:i<z:=by have:=(io.1 Y).1;omega
     rcases (dM G).1 (l0 i o tg h1 Y Z h4)with e|e
     ·omega
     ·exact e
    have k0:=ky.2 i0;have S:look t (gq u (bm d V A.t))=some v:=hv;refine I.tmp t v ?_;show look t (bm d V (cy (eY ops c listed) (gq u A.t)))=some v;rw[cr,fe,kc k0];by_cases O:∃q∈u,q.1=t
    ·obtain⟨q,X,rfl⟩:=O;obtain⟨i,o,g1,g2,g3⟩:=A0 q X;rw[kb (g0 i o q.1 g1 g2 g3).1,← Ra u _ _ q.1 ⟨q,X,rfl⟩];exact S
    ·rw[KF _ _ O,cr]at S;rw[KF _ _ O];exact S
 | _=>unfold kz at W;rw[M]at W;cases W
theorem HS.Bc{M:Nat→Prop}{w0:aC}{w:World}{ι:Env}{s:AS}(h:HS M w0 w ι s){id g n c k:Nat}{ar:bW}(f0:w0.pv id=none)(m0:id<TG)(Z:look id s.r=some ar)(E:ι id=some (.slice (some ⟨g,0,none⟩) n c))(O:k≤ar.l.length):
  HS M w0 w (rep ι id (.slice (some ⟨g,0,none⟩) k c)) { t:=dC id s.t,o:=fc id s.o,r:=bm id { ar with l:=ar.l.take k } s.r,u:=s.u }∧(∀b,NN M (rep ι id (.slice (some ⟨g,0,none⟩) k c)) b→NN M ι b):=by
 generalize Q:Value.slice (some ⟨g,0,none⟩) k c=v';have a0:bw (some v')=bw (ι id):=by rw[E,← Q];rfl
 have d:∀i,i≠id→rep ι id v' i=ι i:=fun i f=>u0 _ _ f;have B:∀i,bw (rep ι id v' i)=bw (ι i):=fun i=>by
  by_cases e:i=id
  ·subst e;rw[mc,a0]
  ·rw[d i e]
 have R:∀b,NN M (rep ι id v') b→NN M ι b:=fun b m=>by
  rcases m with m|⟨i,m⟩
  ·exact .inl m
  ·exact .inr ⟨i,by rw[←B];exact m⟩
 have ho:∀k r,ι k=some (.map r)→rep ι id v' k=some (.map r):=fun k r O=>by
  rw[d];exact O;intro e;subst e;rw[E]at O;cases O
 refine⟨⟨h.below,h.old,fun i y U=>?_,fun i J c0=>h.own i J (by rw[←B];exact c0),fun i i' J K h2=>h.inj i i' J (by rw[←B];exact K) (by rw[←B];exact h2),fun i cs f=>?_,fun i a f=>?_,fun i cs f A=>?_,fun i a f A=>?_,fun i y A=>(by
  have e:i≠id:=fun e=>by subst e;rw[f0]at A;cases A
  exact⟨(d i e).trans (h.pin i y A).1,(h.pin i y A).2⟩)⟩,R⟩
 ·by_cases e:i=id
  ·subst e;exact h.use i _ E
  ·rw[d i e]at U;exact h.use i y U
 ·obtain⟨u,K,_⟩:=jv f;exact h.ko i u K
 ·simp only[cr]at f;by_cases e:i=id
  ·subst e;exact h.use i _ E
  ·rw[kb e]at f;exact h.kr i a f
 ·obtain⟨u,K,rfl⟩:=jv f;have e:i≠id:=by
   rintro rfl
   obtain⟨J,T,vs,p,_,_⟩:=h.objs i u K (by rw[E];rfl);rw[E]at p;cases p
  rw[d i e]at A;obtain⟨J,T,vs,p,I,D⟩:=h.objs i u K A;refine⟨J,T,vs,(d i e).trans p,I,by rw[mi];exact D.len,D.one,fun j x v H P=>?_⟩;obtain⟨y,U,rfl⟩:=lC H;exact((D.rel j y v U P).cT d).mono (jf _) (fun b _ m=>R b m) (fun _ _ _=>rfl) (fun _ _ h=>h)
 ·simp only[cr]at f;by_cases e:i=id
  ·subst e;rw[kc rfl]at f;injection f with f;subst f
   obtain⟨v,xs,p,I,D,X,Y⟩:=h.arrs i ar Z (by rw[E];rfl);rw[E]at p;injection p with p;subst p
   obtain⟨P,_⟩|⟨g1,i0,W,P,m,hg,k0,N,F,G⟩:=I.2
   ·cases P
   injection P with L hn b0
   injection L with L;injection L with L;subst L;subst b0
   have h0:k*ar.sz≤ar.l.length*ar.sz:=Qf _ O;have o0:=I.1;have C:(ar.l.take k).length=k:=by rw[IN];omega
   refine⟨v',xs.take (k*ar.sz),mc _ _ _,⟨?_,.inr ⟨g,c,W,?_,m,hg,?_,N,F,?_⟩⟩,fun e he=>D e (oR he),fun x H=>X x (oR H),fun j e hj q V S=>?_⟩
   ·simp only[C];rw[IN];omega
   ·simp only[C];rw[←Q]
   ·simp only[C];omega
   ·simp only[C];rw[←G,List.take_take];congr 1;omega
   ·have z:(ar.l.take k)[j]?=some e:=hj;rw[yk]at z;split at z
    ·rename_i d0;obtain⟨x,H,hr⟩:=Y j e z q V S;have l0:q<ar.sz:=by rw[←D e (lp z)];exact(io.1 S).1
     have e0:j*ar.sz+q<k*ar.sz:=by
      have:(j+1)*ar.sz≤k*ar.sz:=Qf _ d0;rw[aix,alY]at this;omega
     exact⟨x,by rw[yk,kc e0];exact H,.inl ((hr.flat (by omega)).mono (jf _) (fun b _ m=>R b m) (fun _ _ _=>rfl) (fun _ _ h=>h))⟩
    ·cases z
  ·rw[kb e]at f;rw[d i e]at A;obtain⟨v1,g0,p,I,D,X,Y⟩:=h.arrs i a f A;refine⟨v1,g0,(d i e).trans p,I,D,X,fun j el hj q V S=>?_⟩;obtain⟨x,H,hr⟩:=Y j el hj q V S;exact⟨x,H,hr.mono (jf _) (fun b _ m=>R b m) (fun _ _ _=>rfl) (ho _) (fun _ _=>rfl) (fun h=>h)⟩
theorem aX.Bc{d}{s}{a}{w}{ι}(h:aX d s a w ι){id g n c k}{ar}(f:d.w0.pv id=none)(m:id<TG)(e:look id s.r=some ar)(F:ι id=some (.slice (some ⟨g,0,none⟩) n c))(B:k≤ar.l.length):
  aX d { t:=dC id s.t,o:=fc id s.o,r:=bm id { ar with l:=ar.l.take k } s.r,u:=s.u } a w (rep ι id (.slice (some ⟨g,0,none⟩) k c)):=by
 obtain⟨p,q⟩:=h.hs.Bc f m e F B;refine⟨p,h.dfr,h.n,fun j v A=>?_⟩;obtain⟨u,D,rfl⟩:=oQ A;obtain⟨x,E,C⟩:=h.tmp j u D;exact⟨x,E,(C.cT (fun i z=>u0 _ _ z)).mono (by omega) (fun b _ y=>q b y) (fun _ _ _=>rfl) (fun _ _ h=>h)⟩
theorem Sv{α:Type}(xs:List α)(a b m:Nat)(c:a≤b)(d:b+m≤xs.length) j:(xs.take a++(xs.drop b).take m++xs.drop (a+m))[j]?=if j<a then xs[j]? else if j<a+m then xs[b+(j-a)]? else xs[j]?:=by
 grind
theorem B8{α:Type}(xs:List α) a b m(c:a≤b)(d:b+m≤xs.length):(xs.take a++(xs.drop b).take m++xs.drop (a+m)).length=xs.length:=by
 grind
section
variable{C:Cx}{Q:Exit→Act→World→Prop}{E:dn}{s:AS}{D:Array Oper}{f:Func}{p:d7}{i:Nat}{α:Type}
theorem akH{a:Act}{w:World}{ι:Env}(hs:aX C s a w ι){id:Nat}{et:TypeId}{sz m off d bytes:Nat}{l:List ck}{T ty:TypeId}{X Y:Value}(i0:id<TG)(f0:C.w0.pv id=none)(hX:Rel (NN C.M ι) w ι (.sref id sz 0 m) X)(hY:Rel (NN C.M ι) w ι (.sref id sz off d) Y)
  (hr:look id s.r=some ⟨et,sz,l⟩) (H:je C.P T=some (et,sz,bytes)) (h1:1≤m) (h2:m≤off) (h3:off+d≤l.length) :
  ∃x w' ι',(Builtin.append_ #[T,T] ty #[X,Y]).run C.P w=.ok x w'∧Rel (NN C.M ι') w' ι' (.ref id) x ∧
   aX C { t:=dC id s.t,o:=fc id s.o,r:=bm id ⟨et,sz,l.take m++(l.drop off).take d⟩ s.r,u:=s.u } a w' ι':=by
 obtain⟨e,O,z,S,U,v0,w0,j1⟩:∃e O z,C.P.underlying T=some (.slice e)∧C.P.info? e=some O∧e=et∧O.size=sz∧z=():=by
  unfold je at H;split at H
  ·rename_i e hu;split at H
   ·rename_i O p0;split at H
    ·split at H
     ·injection H with H;injection H with e1 H;injection H with e2 e3
      exact⟨e,O,(),hu,p0,e1,e2,rfl⟩
     ·cases H
    ·cases H
   ·cases H
  ·cases H
 subst v0;subst w0;cases hX with
 | sref _ _ _ _ _ n c c' A B V hB =>
  rcases hB with hB|⟨g,rfl,rfl,e0,K⟩
  ·omega
  rw[alS]at K;subst K;simp only[Nat.zero_mul]at *;obtain⟨v,xs,e1,e2,e3,e4,e5⟩:=hs.hs.arrs id _ hr (by rw[V];rfl);rw[V]at e1;injection e1 with e1;subst e1
  obtain⟨hv,_⟩|⟨g',b1,f,hv,hb,hg,d0,A0,J,y⟩:=e2.2
  ·cases hv
  injection hv with hA hn K
  injection hA with hA;injection hA with hA;subst hA;subst K
  simp only at hn d0 J y e3 e5;have k0:xs.length=l.length*O.size:=e2.1;by_cases s0:d=0
  ·-- nothing is behind
   subst s0;have G:(Builtin.append_ #[T,T] ty #[.slice (some ⟨g,0,none⟩) m c',Y]).run C.P w=.ok (.slice (some ⟨g,0,none⟩) m c') w:=by
    have y0:∀a:Addr,(loadCells a 0).run C.P w=.ok #[] w:=fun a=>by simp[loadCells,loadCellsFrom]
    cases hY with
    | sref _ _ _ _ _ n2 c2 c3 A2 B2 _ _ =>
     cases B2 with
     | none=>simp[Builtin.append_,n5 S,sizeOf,typeInfo,U,Builtin.lenOf,Builtin.firstCells,e0,storeCells]
     | some b=>simp[Builtin.append_,n5 S,sizeOf,typeInfo,U,Builtin.lenOf,Builtin.firstCells,y0,e0,storeCells]
   have hl:(l.take m++(l.drop off).take 0)=l.take m:=by simp
   rw[hl];refine⟨_,w,_,G,.ref _ _ _ _ _ (mc _ _ _),hs.Bc (k:=m) f0 i0 hr V (by show m≤l.length;omega)⟩
  ·cases hY with
   | sref _ _ _ _ _ n2 c2 c3 A2 B2 L a0 =>
    rw[V]at L;injection L with L;injection L with Z q2 q3;subst Z;subst q2;subst q3
    rcases a0 with a0|⟨g2,Z,rfl,T0,_⟩
    ·omega
    injection Z with Z;injection Z with Z;subst Z
    generalize hz:O.size=sz at *;have i:∀p q:Nat,p≤q→p*sz≤q*sz:=fun p q h=>Qf _ h;have f1:(m+d)*sz=m*sz+d*sz:=aix _ _ _;have g1:(off+d)*sz=off*sz+d*sz:=aix _ _ _;have i1:=i m off h2;have i2:=i (off+d) l.length h3;have i3:=i l.length c' d0;have R:((xs.drop (off*sz)).take (d*sz)).length=d*sz:=by rw[IN,agk];omega
    have x0:∀j,j<l.length*sz→f[j]?=xs[j]?:=fun j E=>by
     rw[←y,yk,kc E,afK]
    have G:=run_append_room (P:=C.P) w T ty e O S U g m c' f hg ⟨g,off*sz,none⟩ d c3 ((xs.drop (off*sz)).take (d*sz)) (by rw[hz];exact R) (fun j u E=>by
      rw[ajg,ami _ _ _ _ e (0,0) hg];rw[yk]at E;split at E
      ·rename_i d1;rw[acN]at E;rw[x0 _ (by omega)];exact E
      ·cases E) (fun u hu=>e4 u (v9 (oR hu))) (by omega) (by rw[hz,R];omega)
    rw[hz,R]at G;have N:=hs.hs.VC (l':=l.take m++(l.drop off).take d++l.drop (m+d)) (xs':=xs.take (m*sz)++(xs.drop (off*sz)).take (d*sz)++xs.drop (m*sz+d*sz)) hr V hg (B8 l m off d h2 h3) (fun e he=>by
      rcases ls.1 he with he|he
      ·rcases ls.1 he with he|he
       ·exact e3 e (oR he)
       ·exact e3 e (v9 (oR he))
      ·exact e3 e (v9 he)) (by rw[B8 xs _ _ _ i1 (by omega)];exact k0) (fun x D=>by
      rcases ls.1 D with D|D
      ·rcases ls.1 D with D|D
       ·exact e4 x (oR D)
       ·exact e4 x (v9 (oR D))
      ·exact e4 x (v9 D)) (fun j el E q c0 hq=>by
      rw[Sv l m off d h2 h3]at E;simp only;have I:∀W,l[W]?=some el→∃x,xs[W*sz+q]?=some x∧Rel (NN C.M ι) w bG c0 x:=fun W Q=>by
       obtain⟨x,D,F⟩:=e5 W el Q q c0 hq;exact⟨x,D,F.flat (by omega)⟩
      have g0:∀W,l[W]?=some el→q<sz:=fun W Q=>by rw[←e3 el (lp Q)];exact(io.1 hq).1
      have l0:∀p r:Nat,p<r→q<sz→p*sz+q<r*sz:=fun p r h hq=>by
       have:=i (p+1) r h;rw[aix,alY]at this;omega
      rw[Sv xs (m*sz) (off*sz) (d*sz) i1 (by omega)];split at E
      ·rename_i b0;obtain⟨x,D,F⟩:=I j E;rw[kc (l0 j m b0 (g0 j E))];exact⟨x,D,.inl F⟩
      ·rename_i b0;have c1:=i m j (by omega);split at E
       ·rename_i M;obtain⟨x,D,F⟩:=I _ E;have h9:=l0 j (m+d) M (g0 _ E);rw[kb (by omega),kc (by omega)];refine⟨x,?_,.inl F⟩;rw[←D];congr 1;rw[aix,Nat.sub_mul];omega
       ·rename_i M;have S0:=i (m+d) j (by omega);obtain⟨x,D,F⟩:=I j E;rw[kb (by omega),kb (by omega)];exact⟨x,D,.inl F⟩)
    have hC:f.toList.take (m*sz)++(xs.drop (off*sz)).take (d*sz)++f.toList.drop (m*sz+d*sz)=(xs.take (m*sz)++(xs.drop (off*sz)).take (d*sz)++xs.drop (m*sz+d*sz))++f.toList.drop (xs.take (m*sz)++(xs.drop (off*sz)).take (d*sz)++xs.drop (m*sz+d*sz)).length:=by
     have key:∀(c:eb) (k n:Nat),k≤n→n≤c.length→c.drop k=(c.take n).drop k++c.drop n:=fun c k n h1 h2=>by
      conv=>lhs;rw[←aj8 n c]
      rw[List.drop_append_of_le_length (by rw[IN];omega)]
     have o0:l.length*sz≤f.toList.length:=by have:f.toList.length=f.size:=Dj;rw[this,J];exact i3
     have a1:f.toList.take (m*sz)=xs.take (m*sz):=by
      rw[←y,List.take_take];congr 1;omega
     rw[B8 xs _ _ _ i1 (by omega),k0,key f.toList (m*sz+d*sz) (l.length*sz) (by omega) o0,y,a1];simp only[q7]
    rw[←hC]at N;have m0:bw (ι id)=some g:=by rw[V];rfl
    have t0:=hs.world N rfl (by simp) (fun b _ hb=>hb) (fun b _ hb=>eK (fun e=>hb (.inr ⟨id,by rw[e];exact m0⟩))) (fun _ _ h=>h);have r0:look id (bm id (⟨e,sz,l.take m++(l.drop off).take d++l.drop (m+d)⟩:bW) s.r)=some ⟨e,sz,l.take m++(l.drop off).take d++l.drop (m+d)⟩:=by rw[cr,kc rfl]
    have h0:=t0.Bc (k:=m+d) f0 i0 r0 V (by show m+d≤(l.take m++(l.drop off).take d++l.drop (m+d)).length;rw[B8 l m off d h2 h3];omega);have q0:(l.take m++(l.drop off).take d++l.drop (m+d)).take (m+d)=l.take m++(l.drop off).take d:=by
     have:(l.take m++(l.drop off).take d).length=m+d:=by rw[mm,IN,IN,agk];omega
     rw[amC (by omega),IT (by omega)]
    simp only[q0,Ft]at h0;exact⟨_,_,rep ι id (.slice (some ⟨g,0,none⟩) (m+d) c'),G,.ref _ _ _ _ _ (mc _ _ _),h0⟩
theorem abG(d id:Nat)(et:TypeId)(sz m off g:Nat)(enc:α→ck){L:List α}{x y:Operand}{T:TypeId}{bytes:Nat}(z:(Nat.ble 1 m&&(Nat.ble m off&&Nat.ble (off+g) L.length))=true)
  (k:OT C Q E D (aW f p (i+1)) (f9 d id ⟨et,sz,(L.take m++(L.drop off).take g).map enc⟩ s))
  (t:(aY f p i).op=.call ⟨.builtin .append,#[x,y],#[T,T]⟩:=by kernel_rfl) (F:(aY f p i).dst=some d:=by kernel_rfl) (o:Nat.ble (d+1) C.n=true:=by kernel_rfl)
  (N:s.ev x=some (.sref id sz 0 m):=by kernel_rfl) (O:s.ev y=some (.sref id sz off g):=by kernel_rfl) (I:look id s.r=some ⟨et,sz,L.map enc⟩:=by kernel_rfl) (J:je C.P T=some (et,sz,bytes):=by kernel_rfl)
  (r:s.u.contains (dk id)=false:=by kernel_rfl) (u:Nat.ble (id+1) TG=true:=by kernel_rfl) (H:aW f p i=aY f p i::aW f p (i+1):=by kernel_rfl) (G:cz D s (aY f p i)=true:=by kernel_rfl):OT C Q E D (aW f p i) s:=by
 simp only[h8]at z;obtain⟨j,l,n⟩:=z;have j:=iF j;have l:=iF l;have n:=iF n;rw[H];refine fk _ G fun a w ι h=>?_;refine abL rfl fun K B=>?_;obtain⟨v,w',ι',c,M,e⟩:=akH (ty:=(aY f p i).type) (bytes:=bytes) h (iF u) (h.hs.np r) (h.ev N) (h.ev O) I J j l (by rw[nw];exact n);have b:(List.map enc L).take m++((List.map enc L).drop off).take g=(L.take m++(L.drop off).take g).map enc:=by simp only[OR,amr,anz]
 rw[b]at e;unfold Oper.wp;simp[execOp,t,resolve,invoke,builtin,c,Result.andThen];refine B (a.put (aY f p i).dst v) w' (k _ _ ι' ?_);have A:=e.put (d:=some d) (fun k q=>by injection q with q;subst q;exact iF o) M;rw[F];exact A
end
end Go.Proofs.YtocgkfoifehcbaaGreat
