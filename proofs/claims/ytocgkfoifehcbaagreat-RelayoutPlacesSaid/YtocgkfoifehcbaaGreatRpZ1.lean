/- A slice that a callee has made comes into the caller's own. No program in sight. -/
import Derived.Test.YtocgkfoifehcbaaGreatRpZ0
import Derived.ChangeArms
import Derived.WideShapes
namespace Go.Proofs.YtocgkfoifehcbaaGreat
set_option linter.all false
open Go.RowKit
abbrev b6:=List AV
abbrev ck:=List aq
abbrev ee:=Nat×AV
abbrev ek:=List AS
def kp:=@List.drop_eq_getElem_cons
def nw:=@List.mem_cons_of_mem
def zt:=@Bool.or_eq_true
def BY:=@Bool.not_eq_true'
def Db:=@List.map_append
def Do:=@List.drop_zero
def IF:=@List.append_nil
def OR:=@Array.all_eq_true_iff_forall_mem
def aaf:=@List.any_eq_true
def ab7:=@Array.getElem?_setIfInBounds_ne
def aea:=@Array.getElem?_append_right
def afl:=@Nat.not_lt
def age:=@Array.getElem?_replicate
def agi:=@List.mem_iff_getElem
def ah6:=@Array.getElem?_eq_none_iff
def ald:=@List.mem_filter
def alt:=@List.cons.injEq
def alT:=@List.take_zero
def al7:=@Bool.false_or
def al8:=@List.sum_cons
def amn:=@List.length_pos_iff
def amt:=@List.getElem?_cons_succ
def amu:=@List.map_take
def amB:=@List.contains_iff_mem
def amE:=@List.filter_cons
def amH:=@List.mem_append_left
def amQ:=@wpIn_region_any
def amR:=@List.take_succ_cons
def am2:=@List.mem_filterMap
def ann:=@List.sum_replicate_nat
def ano:=@List.mem_append_right
def anp:=@Nat.min_eq_left
def anq:=@Nat.beq_refl
def anB:=@Nat.mul_le_mul_left
def anG:=@and_self
def anH:=@List.map_drop
variable[FM]
mutual
def AV.gp(id a:Nat):AV→AV
 | .ref i=>if i=id then .ref a else .any
 | .ptr _ _=>.any
 | .pp _ _ _=>.any
 | .sit _ _ _ _=>.any
 | .adr g off=>.adr g off
 | .eptr _ _ _ _=>.any
 | .sref _ _ _ _=>.any
 | .agg cs=>.agg (oW id a cs)
 | .tup cs=>.tup (oW id a cs)
 | .int k n=>.int k n
 | .bool b=>.bool b
 | .str s=>.str s
 | .nils=>.nils
 | .sl l=>.sl l
 | .nilm=>.nilm
 | .mref _ _=>.any
 | .omp m=>.omp m
 | .osl e sz l=>.osl e sz l
 | .vv x=>.vv x
 | .lk _ _=>.any
 | .fn f c=>.fn f c
 | .fno _ _=>.any
 | .nilf=>.nilf
 | .nilp=>.nilp
 | .cptr cs=>.cptr cs
 | .any=>.any
def oW(id a:Nat):b6→b6
 | []=>[]
 | c::r=>c.gp id a::oW id a r
end
theorem Fn{id a}:∀{l} {i:Nat} {x},(oW id a l)[i]?=some x→∃y,l[i]?=some y∧x=y.gp id a
 | [],i,x,h=>by grind[oW]
 | c::r,0,x,h=>by grind[oW]
 | c::r,i+1,x,h=>by simp only[amt]at h⊢;exact Fn h
theorem Ha{id a}:∀l,(oW id a l).length=l.length
 | []=>rfl
 | c::r=>by simp[oW,Ha r]
theorem Rel.gp{N N':Nat→Prop}{w:World}{ι:Env}{v:AV}{x:Value}(h:Rel N w ι v x){id E:Nat}{ι':Env}(G:∀b,N' b→N b)(Q:∀y,ι id=some y→ι' E=some y):Rel N' w ι' (v.gp id E) x:=by
 have I:∀{e:Env} {v:AV} {x:Value},Rel N w e v x→Rel N' w e v x:=fun h=>h.mono (h7 _) (fun b _ u=>G b u) (fun _ _ _=>rfl) (fun _ _ h=>h)
 induction h with
 | int ι k n=>exact .int _ _ _
 | bool ι b=>exact .bool _ _
 | str ι s=>exact .str _ _
 | nils ι=>exact .nils _
 | nilm ι=>simp only[AV.gp];exact .nilm _
 | mref ι i q r v h K=>simp only[AV.gp];exact .any _ _ rfl
 | sl0 ι A c=>exact .sl0 _ _ _
 | sl ι l b o c sz t P u J a H p z D=>simp only[AV.gp];exact .sl _ l b o c sz t P u (fun h=>J (G b h)) a H (fun j e M i x C=>I (p j e M i x C)) z
 | fn ι f aV L F p D=>exact .fn _ f aV L F (fun i c y a K=>I (p i c y a K))
 | fno ι f aV L F p D=>exact .any _ _ rfl
 | nilf ι=>exact .nilf _
 | nilp ι=>exact .nilp _
 | any ι x h=>exact .any _ _ h
 | ptr ι d off g h=>exact .any _ _ rfl
 | pp ι d g off h=>exact .any _ _ rfl
 | sit _ _ _ _ _ _ _ _ _=>exact .any _ _ rfl
 | adr ι g off=>exact .adr _ _ _
 | vv ι x h=>exact .vv _ _ h
 | lk ι i v x h a=>exact .any _ _ a
 | eptr ι d sz j off g n c h=>exact .any _ _ rfl
 | sref ι d sz off m n c R A B h S=>exact .any _ _ rfl
 | cptr ι cs b o t u J a H p D=>simp only[AV.gp];exact .cptr _ cs b o t u (fun h=>J (G b h)) a H (fun i x C=>I (p i x C))
 | ref ι d A n c h =>
  simp only[AV.gp];split
  ·rename_i e;subst e;exact .ref _ _ _ _ _ (Q _ h)
  ·exact .any _ _ rfl
 | agg ι cs vs F a p D =>
  refine .agg _ _ _ (by grind[Ha]) a (fun i x v C O=>?_)
  grind[Fn]
 | tup ι cs vs F p D =>
  refine .tup _ _ _ (by grind[Ha]) (fun i x v C O=>?_)
  grind[Fn]
theorem HS.import{M:Nat→Prop}{w0:az}{w w':World}{ι H:Env}{s Z:AS}(h:HS M w0 w ι s)(p:HS (NN M ι) (gC w) w' H Z){id d:Nat}{ar:bZ}{v:Value}(a0:id<TG)(F:H id=some v)(ha:look id Z.r=some ar)(X:has s.u d=false):
  HS M w0 w' (ext ι d v) { s with r:=bj d ar s.r,u:=d::s.u }∧(∀b,NN M (ext ι d v) b→NN (NN M ι) H b):=by
 have hl:=h.mj p.below.plain;have R:=h.free X;have f:∀g,bg (some v)=some g→w.heap.size≤g∧g<w'.heap.size:=fun g m=>⟨((p.own id g (by rw[F];exact m)).1).elim (fun h=>h) (fun h=>h.elim),(p.own id g (by rw[F];exact m)).2⟩;have D:∀b,NN M (ext ι d v) b→NN (NN M ι) H b:=fun b o=>by
  rcases gJ o with o|o
  ·exact .inl o
  ·exact .inr ⟨id,by rw[F];exact o⟩
 have t:∀b,b<w.heap.size→NN M (ext ι d v) b→NN M ι b:=fun b E o=>by
  rcases gJ o with o|o
  ·exact o
  ·have:=(f b o).1;omega
 have W:∀b,b<w.heap.size→¬ NN M ι b→w'.heap[b]?=w.heap[b]?:=fun b E _=>p.below.plain.block b E;have Q:=fa R v;refine⟨⟨hl.below,h.old,fun i y Y=>?_,fun i g m=>?_,fun i G g m l=>?_,fun i cs n=>dN (h.ko i cs n),fun i a n=>?_,fun i cs n z=>?_,fun i a n z=>?_,fun i y z=>⟨Q i y (h.pin i y z).1,nS (h.pin i y z).2⟩⟩,D⟩
 ·by_cases e:i=d
  ·subst e;exact iV _ _
  ·rw[bR _ _ e]at Y;exact dN (h.use i y Y)
 ·by_cases e:i=d
  ·subst e;rw[cH]at m;exact⟨.inl (oR h.below.size (f g m).1),(f g m).2⟩
  ·rw[bR _ _ e]at m;exact⟨(h.own i g m).1,by have:=(h.own i g m).2;have:=p.below.plain.size;omega⟩
 ·by_cases e:i=d
  ·by_cases e':G=d
   ·omega
   ·subst e;rw[cH]at m;rw[bR _ _ e']at l;have:=(f g m).1;have:=(h.own G g l).2;omega
  ·by_cases e':G=d
   ·subst e';rw[cH]at l;rw[bR _ _ e]at m;have:=(f g l).1;have:=(h.own i g m).2;omega
   ·rw[bR _ _ e]at m;rw[bR _ _ e']at l;exact h.inj i G g m l
 ·simp only[cp]at n;by_cases e:i=d
  ·subst e;exact iV _ _
  ·rw[io e]at n;exact dN (h.kr i a n)
 ·have e:i≠d:=by rintro rfl;have:=h.ko i cs n;rw[X]at this;cases this
  rw[bR _ _ e]at z;obtain⟨g,T,vs,q,B,C⟩:=h.objs i cs n z;exact⟨g,T,vs,(bR _ _ e).trans q,(p.below.plain.block g (h.own i g (by rw[q];rfl)).2).trans B,C.mono p.below.plain.size t W Q⟩
 ·simp only[cp]at n;by_cases e:i=d
  ·subst e;rw[iF rfl]at n;injection n with n;subst n
   obtain⟨v',xs,q,B,C,K,L⟩:=p.arrs id ar ha (by rw[F];rfl);rw[F]at q;injection q with q;subst q
   refine⟨v,xs,cH _ _ _,⟨B.1,?_⟩,C,K,fun j N P k c A=>?_⟩
   ·rcases B.2 with hz|⟨g,I,J,r1,r2,r⟩
    ·exact .inl hz
    ·exact .inr ⟨g,I,J,r1,n3 _,r⟩
   ·obtain⟨x,U,S⟩:=L j N P k c A;exact⟨x,U,.inl ((S.flat (by omega)).mono (h7 _) (fun b _ o=>D b o) (fun _ _ _=>rfl) (fun _ _ h=>h))⟩
  ·rw[io e]at n;rw[bR _ _ e]at z;obtain⟨v1,V,q,B,C,K,L⟩:=h.arrs i a n z;refine⟨v1,V,(bR _ _ e).trans q,fS B (fun g l=>p.below.plain.block g (h.own i g (by rw[q];exact l)).2),C,K,fun j N P k c A=>?_⟩;obtain⟨x,U,S⟩:=L j N P k c A;exact⟨x,U,S.mono p.below.plain.size t W (fun r O=>Q _ _ O) (fun r O=>p.below.plain.block r (h.kR O)) (fun h=>h)⟩
theorem HS.Z7{M:Nat→Prop}{w0:az}{w w':World}{ι G:Env}{s Z:AS}(h:HS M w0 w ι s)(o:HS (NN M ι) (gC w) w' G Z){id d:Nat}{ar:bZ}{v:Value}(a0:id<TG)(E:G id=some v)(ha:look id Z.r=some ar)(Q:ι d=none)(hu:has s.u d=true)(S:look d s.o=none)(U:look d s.r=some ar):
  HS M w0 w' (ext ι d v) s∧(∀b,NN M (ext ι d v) b→NN (NN M ι) G b):=by
 have hl:=h.mj o.below.plain;have f:∀g,bg (some v)=some g→w.heap.size≤g∧g<w'.heap.size:=fun g m=>⟨((o.own id g (by rw[E];exact m)).1).elim (fun h=>h) (fun h=>h.elim),(o.own id g (by rw[E];exact m)).2⟩;have C:∀b,NN M (ext ι d v) b→NN (NN M ι) G b:=fun b n=>by
  rcases gJ n with n|n
  ·exact .inl n
  ·exact .inr ⟨id,by rw[E];exact n⟩
 have t:∀b,b<w.heap.size→NN M (ext ι d v) b→NN M ι b:=fun b D n=>by
  rcases gJ n with n|n
  ·exact n
  ·have:=(f b n).1;omega
 have X:∀b,b<w.heap.size→¬ NN M ι b→w'.heap[b]?=w.heap[b]?:=fun b D _=>o.below.plain.block b D;have P:=fa Q v;refine⟨⟨hl.below,h.old,fun i y Y=>?_,fun i g m=>?_,fun i F g m l=>?_,h.ko,h.kr,fun i cs q u=>?_,fun i a q u=>?_,fun i y u=>⟨P i y (h.pin i y u).1,(h.pin i y u).2⟩⟩,C⟩
 ·by_cases e:i=d
  ·subst e;exact hu
  ·rw[bR _ _ e]at Y;exact h.use i y Y
 ·by_cases e:i=d
  ·subst e;rw[cH]at m;exact⟨.inl (oR h.below.size (f g m).1),(f g m).2⟩
  ·rw[bR _ _ e]at m;exact⟨(h.own i g m).1,by have:=(h.own i g m).2;have:=o.below.plain.size;omega⟩
 ·by_cases e:i=d
  ·by_cases e':F=d
   ·omega
   ·subst e;rw[cH]at m;rw[bR _ _ e']at l;have:=(f g m).1;have:=(h.own F g l).2;omega
  ·by_cases e':F=d
   ·subst e';rw[cH]at l;rw[bR _ _ e]at m;have:=(f g l).1;have:=(h.own i g m).2;omega
   ·rw[bR _ _ e]at m;rw[bR _ _ e']at l;exact h.inj i F g m l
 ·have e:i≠d:=by rintro rfl;rw[S]at q;cases q
  rw[bR _ _ e]at u;obtain⟨g,T,vs,p,A,B⟩:=h.objs i cs q u;exact⟨g,T,vs,(bR _ _ e).trans p,(o.below.plain.block g (h.own i g (by rw[p];rfl)).2).trans A,B.mono o.below.plain.size t X P⟩
 ·by_cases e:i=d
  ·subst e;rw[U]at q;injection q with q;subst q
   obtain⟨v',xs,p,A,B,J,K⟩:=o.arrs id ar ha (by rw[E];rfl);rw[E]at p;injection p with p;subst p
   refine⟨v,xs,cH _ _ _,⟨A.1,?_⟩,B,J,fun j L O k c z=>?_⟩
   ·rcases A.2 with hz|⟨g,H,I,r1,r2,r⟩
    ·exact .inl hz
    ·exact .inr ⟨g,H,I,r1,n3 _,r⟩
   ·obtain⟨x,V,R⟩:=K j L O k c z;exact⟨x,V,.inl ((R.flat (by omega)).mono (h7 _) (fun b _ n=>C b n) (fun _ _ _=>rfl) (fun _ _ h=>h))⟩
  ·rw[bR _ _ e]at u;obtain⟨v1,W,p,A,B,J,K⟩:=h.arrs i a q u;refine⟨v1,W,(bR _ _ e).trans p,fS A (fun g l=>o.below.plain.block g (h.own i g (by rw[p];exact l)).2),B,J,fun j L O k c z=>?_⟩;obtain⟨x,V,R⟩:=K j L O k c z;exact⟨x,V,R.mono o.below.plain.size t X (fun r N=>P _ _ N) (fun r N=>o.below.plain.block r (h.kR N)) (fun h=>h)⟩
end Go.Proofs.YtocgkfoifehcbaaGreat
namespace Go.Proofs.YtocgkfoifehcbaaGreat
set_option linter.all false
open Go.RowKit
variable[FM]
def vp:AV→Bool
 | .int _ _|.bool _|.str _=>true
 | _=>false
def AV.Gx:AV→Bool
 | .tup l=>l.all vp
 | v=>vp v
theorem DZ{N N'}{w w'}{ι ι'}{v}{x}(a:vp v=true)(h:Rel N w ι v x):Rel N' w' ι' v x:=by
 cases h<;>first|(cases a;done)|constructor
theorem On{N N'}{w w'}{ι ι'}{v}{x}(a:v.Gx=true)(h:Rel N w ι v x):Rel N' w' ι' v x:=by
 cases h with
 | tup _ cs vs b c=>exact .tup _ cs vs b fun i x v e d=>DZ (ll.1 a x (by grind)) (c i x v e d)
 | _=>first|(cases a;done)|constructor
def Jz(r:List (Nat×bZ)):AV→Option AV
 | .ref i=>match look i r,Nat.ble (i+1) TG with|some ar,true=>some (.sl ar.l)|_,_=>none
 | v=>match v.dg [] with|true=>some v|false=>none
def s9(r:List (Nat×bZ)):b6→Option b6
 | []=>some []
 | v::q=>match Jz r v,s9 r q with|some x,some l=>some (x::l)|_,_=>none
theorem Vq{r}:∀{l m},s9 r l=some m→m.length=l.length
 | [],m,h=>by injection h with h;grind
 | v::q,m,h=>by
  unfold s9 at h;split at h
  ·rename_i x l' b a;injection h with h;subst h;simp[Vq a]
  grind
theorem Qb{r}:∀{l m},s9 r l=some m→∀(i:Nat) a,m[i]?=some a→∃b,l[i]?=some b∧Jz r b=some a
 | [],m,h,i,a,c=>by injection h with h;grind
 | v::q,m,h,i,a,c=>by
  unfold s9 at h;split at h
  ·injection h with h;subst h
   cases i with
   | zero=>grind
   | succ i=>simp_all[Qb]
  grind
def Oj(r:List (Nat×bZ)):AV→Option AV
 | .agg cs=>match s9 r cs with|some l=>some (.agg l)|none=>none
 | _=>none
def yN(s:AS):AV→Option AV
 | .ref i=>match look i s.r,Nat.ble (i+1) TG with|some ar,true=>some (.sl ar.l)|_,_=>none
 | .sref i sz off m=>match look i s.r,Nat.ble (i+1) TG with|some ar,true=>(match Nat.beq ar.sz sz with|true=>some (.sl (List.take m (List.drop off ar.l)))|false=>none)|_,_=>none
 | v=>match v.dg [] with|true=>some (iu v)|false=>Oj s.r v
def nQ(s:AS):b6→Option b6
 | []=>some []
 | v::r=>match yN s v,nQ s r with|some x,some l=>some (x::l)|_,_=>none
def oF(s:AS):b6→Prop
 | []=>True
 | .sref i _ off m::r=>(match look i s.r with|some ar=>off+m≤ar.l.length|none=>True)∧oF s r
 | _::r=>oF s r
theorem SE{s}:∀{l},oF s l→∀(k i sz off m:Nat) ar,l[k]?=some (.sref i sz off m)→look i s.r=some ar→off+m≤ar.l.length
 | [],_,k,i,sz,off,m,ar,h,_=>by grind
 | v::r,h,0,i,sz,off,m,ar,b,a=>by
  grind[oF]
 | v::r,h,k+1,i,sz,off,m,ar,b,a=>by
  refine SE (l:=r) ?_ k i sz off m ar (by grind) a;cases v<;>first|exact h|exact h.2
theorem WX{s}:∀{l m},nQ s l=some m→m.length=l.length
 | [],m,h=>by injection h with h;grind
 | v::r,m,h=>by
  unfold nQ at h;split at h
  ·rename_i x l' b a;injection h with h;subst h;simp[WX a]
  grind
theorem Qe{s:AS}:∀{l m:b6},nQ s l=some m→∀(i:Nat) (a:AV),m[i]?=some a→∃b,l[i]?=some b∧yN s b=some a
 | [],m,h,i,a,c=>by injection h with h;subst h;simp at c
 | v::r,m,h,i,a,c=>by
  unfold nQ at h;split at h
  ·injection h with h;subst h
   cases i with
   | zero=>grind
   | succ i=>simp_all[Qe]
  grind
def zM(s:AS)(o:Oper):Option (FuncId×b6×b6) :=
 match o.op with
 | .call c=>match c.callee with
  | .value a=>match s.ev a,dA s c.args.toList with
   | some (.fn f aV),some l=>match nQ s l with
    | some l'=>some (f,l'++aV,l)
    | none=>none
   | _,_=>none
  | _=>none
 | _=>none
section
variable{d:Cx}{s:AS}
theorem Y5{o:Oper}{g:FuncId}{args l:b6}{Q':AV→AS→Prop}(hc:aZ d.P g args Q')(e0:cN d.P g=true)(p:zM s o=some (g,args,l))(q0:oF s l){a:Act}{w:World}{ι:Env}(H:aI d s a w ι){K:Act→World→Prop}{R:Exit→Act→World→Prop}
  (hK:∀x v s1 ι1 w',Q' v s1→HS (fun _=>False) (gC w) w' ι1 s1→Rel (NN (fun _=>False) ι1) w' ι1 v x→K (a.put o.dst x) w'):({ o with guard:=none }:Oper).wpIn FF 0 d.P a w K R:=by
 unfold zM at p;split at p
 case h_2=>cases p
 rename_i c i0;split at p
 case h_2=>cases p
 rename_i fo I;split at p
 case h_2=>cases p
 rename_i f' aV l0 hf f0;split at p
 case h_2=>cases p
 rename_i l' M;injection p with p;injection p with e1 p;injection p with e2 e3;subst e1;subst e2;subst e3
 obtain⟨q1,q2⟩:=lV H f0;refine dK ?_;obtain⟨ys,m0,x0,d0⟩:=ld (o:={ o with guard:=none }) H i0 I hf e0;rw[m0,iL];have O:=WX M;have D:l'.length=(c.args.map a.eval).size:=by rw[O,q1];simp
 refine (hc (fun _=>False) w _ (fun b W=>W.elim) ⟨by simp at D⊢;omega,fun i v y r V=>?_⟩).mono ?_
 ·by_cases hi:i<l'.length
  ·rw[yw hi]at r;rw[An (by rw[←D];exact hi)]at V;obtain⟨b,W,f⟩:=Qe M i v r;have r0:(c.args.toList.map a.eval)[i]?=some y:=by rw[←aas,agQ]at V;exact V
   have X:=q2 i b y W r0;unfold yN at f;split at f
   ·rename_i id;split at f
    ·rename_i ar q z;injection f with f;subst f
     cases X with
     | ref _ _ A n c h=>exact(H.hs.rK (hF z) q A n c h bA).mono (h7 _) (fun _ _ h=>h.elim) (fun _ _ _=>rfl) (fun _ _ h=>h)
    ·cases f
   ·rename_i id sz off m;split at f
    ·rename_i ar q z;split at f
     ·rename_i G;have G:=iO G;injection f with f;subst f
      subst G;have E:=SE q0 i id _ off m ar W q;have u:(List.take m (List.drop off ar.l)).length=m:=by rw[Dj,ah0];omega
      cases X with
      | sref _ _ _ _ _ n c c' A B h hB =>
       by_cases hm:m=0
       ·subst hm;simp only[alT];exact .sl0 _ _ _
       rcases hB with hB|⟨g,rfl,rfl,g0,_⟩
       ·omega
       have p0:=(H.hs.rK (hF z) q _ n c h bA).mono (N':=NN (fun _=>False) bA) (h7 _) (fun _ _ h=>by rcases h with h|⟨_,h⟩;exact h.elim;cases h) (fun _ _ _=>rfl) (fun _ _ h=>h);have F:Rel (fun _=>False) w bA (.sl ar.l) (.slice (some ⟨g,0,none⟩) n c):=p0.mono (h7 _) (fun _ _ h=>h.elim) (fun _ _ _=>rfl) (fun _ _ h=>h);generalize P:ar.l=C at F E u⊢;obtain⟨v1,A0,Y,k2,k3,_⟩:=H.hs.arrs id ar q (by rw[h];rfl);rw[h]at Y;injection Y with Y;subst Y
       have y0:n=C.length:=by
        obtain⟨r,h0⟩|⟨_,_,_,r,_⟩:=k2.2
        ·cases r
        ·injection r with _ r _;rw[←P];exact r
       cases F with
       | sl0=>simp at E;omega
       | sl _ _ b o c0 s0 t0 hz Z hn p b0 k0 v0 =>
        have T:s0=ar.sz:=by
         have h4:=hz C[0] (sj (by omega));have h5:=k3 C[0] (by rw[P];exact sj (by omega));omega
        subst T;have e:List.drop off (List.take (off+m) C)=List.take m (List.drop off C):=by
         rw[List.drop_take];congr 1;omega
        have N:(List.drop off (List.take (off+m) C)).length=m:=by rw[e];exact u
        have L:∀j,(List.drop off (List.take (off+m) C))[j]?=if off+j<off+m then C[off+j]? else none:=fun j=>by
         rw[Qf,u5]
        rw[←e];have S:Rel (NN (fun _=>False) bA) w bA (.sl (List.drop off (List.take (off+m) C))) (.slice (some ⟨g,0+off*ar.sz,none⟩) (List.drop off (List.take (off+m) C)).length c'):=by
         refine .sl _ _ _ _ _ ar.sz (fun j i=>t0 (off+j) i) (fun e t=>hz e (nk (tl t))) Z (fun h=>by rcases h with h|⟨_,h⟩;exact h.elim;cases h) (fun j i=>p _ _) (fun j e t i x U=>?_) (fun j e t i x U=>?_) (by rw[N];exact g0)
         ·rw[L]at t;split at t
          ·have:=b0 (off+j) e t i x U;rw[show 0+off*ar.sz+j*ar.sz+i=0+(off+j)*ar.sz+i by rw[ac6];omega];exact this
          ·cases t
         ·rw[L]at t;split at t
          ·exact(k0 (off+j) e t i x U).mono (h7 _) (fun _ _ h=>by rcases h with h|⟨_,h⟩;exact h.elim;cases h) (fun _ _ _=>rfl) (fun _ _ h=>h)
          ·cases t
        rw[N,z5]at S;exact S.mono (h7 _) (fun _ _ h=>h.elim) (fun _ _ _=>rfl) (fun _ _ h=>h)
     ·cases f
    ·cases f
   ·split at f
    ·rename_i hp;injection f with f;subst f
     exact Ac ((X.pure hp bA).mono (h7 _) (fun _ _ h=>h.elim) (fun _ _ _=>rfl) (fun _ _ h=>h))
    ·unfold Oj at f;split at f
     case h_2=>cases f
     rename_i cs;split at f
     case h_2=>cases f
     rename_i w0 J;injection f with f;subst f
     cases X with
     | agg _ _ vs hl p o0 =>
      refine .agg _ _ _ ((Vq J).trans hl) p (fun i' x v U r=>?_);obtain⟨b',a0,k⟩:=Qb J i' x U;have Q:=o0 i' b' v a0 r;unfold Jz at k;split at k
      ·split at k
       ·rename_i ar q z;injection k with k;subst k
        cases Q with
        | ref _ _ A n c h=>exact(H.hs.rK (hF z) q A n c h bA).mono (h7 _) (fun _ _ h=>h.elim) (fun _ _ _=>rfl) (fun _ _ h=>h)
       ·cases k
      ·split at k
       ·rename_i hp;injection k with k;subst k
        exact(Q.pure hp bA).mono (h7 _) (fun _ _ h=>h.elim) (fun _ _ _=>rfl) (fun _ _ h=>h)
       ·cases k
  ·rw[w3 (by omega)]at r;rw[aea (by rw[←D];omega)]at V;rw[D]at r;exact(d0 _ v y r (by simpa using V)).mono (h7 _) (fun _ _ h=>h.elim) (fun _ _ _=>rfl) (fun _ _ h=>h)
 grind
end
theorem ZT s t v:yN (s.tt t) v=yN s v:=by rfl
theorem Tg s t:∀l:b6,nQ (s.tt t) l=nQ s l
 | []=>rfl
 | v::r=>by unfold nQ;rw[ZT,Tg s t r]
theorem HH s t:∀l:b6,oF s l→oF (s.tt t) l
 | [],h=>h
 | v::r,h=>by
  cases v<;>first|exact HH s t r h|exact⟨h.1,HH s t r h.2⟩
end Go.Proofs.YtocgkfoifehcbaaGreat
namespace Go.Proofs.YtocgkfoifehcbaaGreat
set_option linter.all false
open Go.RowKit
variable[FM]
inductive Tag where
 | s (m:Nat)
 | v (lo n:Nat)
 | c (lo n:Nat)
 | a (lo n:Nat)
 | off (lo n:Nat)
 | o (lo n:Nat)
def Tag.fF:Tag→Bool
 | .s _=>false
 | _=>true
def Tag.eh:Tag→Nat×Nat
 | .s m=>(m,0)
 | .v lo n|.c lo n|.a lo n|.off lo n|.o lo n=>(lo,n)
def Tag.R7:Tag→Bool
 | .a _ _|.o _ _=>true
 | _=>false
theorem Tag.aeZ{t:Tag}(h:t.R7=true):t.fF=true:=by cases t<;>first|rfl|cases h
def c7(o:Oper):d4:=(o.after.toList.filter (Region.binds .any)).map (·.on)
theorem qt{o}{j}:j∈c7 o↔∃e∈o.after,Region.binds .any e=true∧e.on=j:=by
 grind[c7]
def sK:Tag→Nat→Bool
 | .s m,k=>m == k
 | _,_=>false
def l9(ops:Array Oper)(a:List Tag)(m:Nat):Nat→Nat→Bool
 | 0,j=>match a[j]? with|some b=>sK b m|none=>false
 | k+1,j=>(match a[j]? with|some b=>sK b m|none=>false)||(match ops[j]? with|some c=>(c7 c).any (l9 ops a m k)|none=>false)
structure Stat(ops:Array Oper)(tags:List Tag)(K:Nat):Prop where
 len:tags.length≤ops.size
 lex:∀(i:Nat) (o:Oper) (tg:Tag),ops[i]?=some o→tags[i]?=some tg→∀j∈c7 o,j<i
 dst:∀(i:Nat) (o:Oper) (tg:Tag),ops[i]?=some o→tags[i]?=some tg→tg.fF=true→∃(d:Nat),o.dst=some d∧∀(j:Nat) (oj:Oper),ops[j]?=some oj→j≠i→oj.dst≠some d
 zw:∀(i:Nat) (o:Oper) (tg:Tag) (t:Nat),ops[i]?=some o→tags[i]?=some tg→t∈o.looksAt ops→∀(j:Nat) (oj:Oper) (tj:Tag),ops[j]?=some oj→tags[j]?=some tj→tj.fF=true→oj.dst=some t→j∈c7 o
 chain:∀(i:Nat) (o:Oper) (m:Nat),ops[i]?=some o→tags[i]?=some (Tag.s m)→1≤m∧m≤K∧(2≤m→∃j∈c7 o,tags[j]?=some (Tag.s (m-1)))∧∀(j:Nat),tags[j]?=some (Tag.s m)→j=i
 last:K=0∨∃(i:Nat),tags[i]?=some (Tag.s K)
 lo:∀(i:Nat) (o:Oper) (tg:Tag),ops[i]?=some o→tags[i]?=some tg→tg.fF=true→tg.eh.1=0∨∃k,∃j∈c7 o,l9 ops tags tg.eh.1 k j=true
 hi:∀(i:Nat) (tg:Tag),tags[i]?=some tg→tg.fF=true→K<tg.eh.1+tg.eh.2∨∃(j:Nat) (oj:Oper),ops[j]?=some oj∧tags[j]?=some (Tag.s (tg.eh.1+tg.eh.2))∧i∈c7 oj
def pd(ops:Array Oper)(a:List Tag)(K i:Nat)(o:Oper)(b:Tag):Bool :=
 (c7 o).all (fun j=>decide (j<i)) &&
 (!b.fF||(match o.dst with|some d=>(List.range ops.size).all fun j=>j == i||(match ops[j]? with|some e=>e.dst != some d|none=>true)|none=>false)) &&
 ((o.looksAt ops).all fun t=>(List.range ops.size).all fun j=>match ops[j]?,a[j]? with
  | some e,some c=>!c.fF||e.dst != some t||(c7 o).contains j
  | _,_=>true) &&
 (match b with
  | .s m=>decide (1≤m)&&decide (m≤K)&&(decide (m<2)||(c7 o).any fun j=>match a[j]? with|some c=>sK c (m-1)|none=>false) &&
   (List.range ops.size).all fun j=>j == i||(match a[j]? with|some c=>!sK c m|none=>true)
  | _=>true) &&
 (!b.fF||b.eh.1 == 0||((c7 o).any (l9 ops a b.eh.1 0)||(c7 o).any (l9 ops a b.eh.1 4))) &&
 (!b.fF||decide (K<b.eh.1+b.eh.2)||(List.range ops.size).any fun j=>match ops[j]?,a[j]? with
  | some e,some c=>sK c (b.eh.1+b.eh.2)&&(c7 e).contains i
  | _,_=>false)
def uY(ops:Array Oper)(a:List Tag)(K m:Nat):Bool :=
 (a.length == m&&Nat.ble m ops.size)&&(List.range m).all fun i=>match ops[i]?,a[i]? with|some o,some b=>pd ops a K i o b|_,_=>false
def xB(ops:Array Oper)(a:List Tag)(K:Nat):Bool:=uY ops a K ops.size
def nK(tags:List Tag)(K:Nat):Bool:=K == 0||tags.any (sK · K)
theorem zZ{t}{m}(h:sK t m=true):t=.s m:=by
 cases t<;>simp[sK]at h
 grind
theorem AH{ops:Array Oper}{a:List Tag}{K m:Nat}(h:uY ops a K m=true)(s:nK a K=true):Stat ops a K∧a.length=m∧m≤ops.size:=by
 unfold uY at h;simp only[g6,alQ,ll,T4]at h;obtain⟨⟨H,A⟩,h⟩:=h;have A:=hF A;refine⟨?_,H,A⟩;have g:∀i o k,ops[i]?=some o→a[i]?=some k→pd ops a K i o k=true:=fun i o k p f=>by
  have u:i<m:=by rw[←H];exact(g7.1 f).1
  have:=h i u;simpa only[p,f]using this
 have w:∀i k,a[i]?=some k→∃o,ops[i]?=some o:=fun i k f=>by
  have u:i<ops.size:=by have:=(g7.1 f).1;omega
  exact⟨_,h8 u⟩
 have I:∀j k,a[j]?=some k→j<ops.size:=fun j k f=>by have:=(g7.1 f).1;omega
 refine⟨by omega,fun i o k p f j q=>?_,fun i o k p f v=>?_,fun i o k t p f D j E F l c C y=>?_,fun i o m p f=>?_,?_,fun i o k p f v=>?_,fun i k f v=>?_⟩
 ·have e:=g i o k p f;unfold pd at e;simp only[g6]at e;have:=e.1.1.1.1.1;have:=ll.1 this j q;simpa using this
 ·have e:=g i o k p f;unfold pd at e;simp only[g6]at e;have:=e.1.1.1.1.2;simp only[v,Ts,al7]at this;cases y:o.dst with
  | none=>rw[y]at this;cases this
  | some d =>
   rw[y]at this;refine⟨d,rfl,fun j E l B=>?_⟩;have q:j<ops.size:=(lc.1 l).1;have b:=ll.1 this j (T4.2 q);simp only[l,zt,alQ,bne_iff_ne]at b;rcases b with b|b
   ·exact(B b).elim
   ·exact b
 ·have e:=g i o k p f;unfold pd at e;simp only[g6]at e;have b:=e.1.1.1.2;have z:=ll.1 b t D;have r:=ll.1 z j (T4.2 (I j F c));simp only[l,c,C,y,Ts,al7,zt]at r;rcases r with r|r
  ·simp at r
  ·simpa using r
 ·have e:=g i o _ p f;unfold pd at e;simp only[g6]at e;have b:=e.1.1.2;simp only[g6,ob,zt]at b;obtain⟨⟨⟨z,r⟩,x⟩,L⟩:=b;refine⟨z,r,fun J=>?_,fun j c=>?_⟩
  ·rcases x with x|x
   ·omega
   ·obtain⟨j,q,n⟩:=aaf.1 x;cases c:a[j]? with
    | none=>rw[c]at n;cases n
    | some F=>rw[c]at n;exact⟨j,q,by rw[c,zZ n]⟩
  ·have G:=ll.1 L j (T4.2 (I j _ c));rw[c]at G;simpa[sK]using G
 ·unfold nK at s;simp only[zt,alQ]at s;rcases s with s|s
  ·exact .inl s
  ·obtain⟨t,f,n⟩:=aaf.1 s;obtain⟨i,u,rfl⟩:=agi.1 f;exact .inr ⟨i,by rw[h6 u,zZ n]⟩
 ·have e:=g i o k p f;unfold pd at e;simp only[g6]at e;have b:=e.1.2;simp only[v,Ts,al7,zt,alQ]at b;rcases b with b|b|b
  ·exact .inl b
  ·obtain⟨j,q,n⟩:=aaf.1 b;exact .inr ⟨_,j,q,n⟩
  ·obtain⟨j,q,n⟩:=aaf.1 b;exact .inr ⟨_,j,q,n⟩
 ·obtain⟨o,p⟩:=w i k f;have e:=g i o k p f;unfold pd at e;simp only[g6]at e;have b:=e.2;simp only[v,Ts,al7,zt,ob]at b;rcases b with b|b
  ·exact .inl b
  ·obtain⟨j,q,n⟩:=aaf.1 b;cases l:ops[j]? with
   | none=>simp[l]at n
   | some E =>
    cases c:a[j]? with
    | none=>simp[l,c]at n
    | some F =>
     simp only[l,c,g6]at n;exact .inr ⟨j,E,l,by rw[c,zZ n.1],by simpa using n.2⟩
theorem W7{ops}{a}{K}(h:xB ops a K=true)(b:nK a K=true):Stat ops a K:=(AH h b).1
theorem aaG{ops}{a}{K}(h:xB ops a K=true)(b:nK a K=true):a.length=ops.size:=(AH h b).2.1
def iw(a:Array Oper)(s:AS)(c:Bool):Option (Nat×Bool)→Prop
 | none=>c=true
 | some (j,b)=>match a[j]? with
  | some e=>match e.dst with
   | some d=>look d s.t=some (.bool (if c=true then b else !b))∨(c=false∧look d s.t=some (.tup []))
   | none=>False
  | none=>False
def Fy(P:Program)(n:Nat)(s:AS)(o:Oper):Prop :=
 match o.op with
 | .call c=>match c.callee with
  | .value a=>∃f aV l V d,s.ev a=some (.fn f aV)∧dA s c.args.toList=some l∧o.dst=some d∧look d s.t=some V∧d<n∧ex [] l=true∧V.dg []=true∧cN P f=true∧aZ P f (l.map iu++aV) (fun v _=>v=V)
  | _=>False
 | _=>False
def Ju(P:Program)(n:Nat)(s:AS)(o:Oper):Prop :=
 ∃f args l V d,zM s o=some (f,args,l)∧oF s l∧o.dst=some d∧look d s.t=some V∧d<n∧V.Gx=true∧cN P f=true∧aZ P f args (fun v _=>v=V)
def Kb(P:Program)(n:Nat)(ops:Array Oper)(s:AS)(o:Oper):Prop :=
 ∃d c a x b,o.dst=some d∧cd P n s o=some (s.put (some d) (.vv x))∧look d s.t=some (.ref a)∧c≠d∧look c s.t=some (.lk a x)∧look a s.r=some b∧∀(j:Nat) e,ops[j]?=some e→e.dst≠some c
def Vh(P:Program)(n:Nat)(ops:Array Oper)(s:AS)(o:Oper):Prop:=Fy P n s o∨(Ju P n s o∨Kb P n ops s o)
def AY(P:Program)(n:Nat)(s:AS)(o:Oper)(d:Nat):Prop :=
 match o.op with
 | .call c=>match c.callee with
  | .value a=>∃f aV l V id ar,id<TG∧s.ev a=some (.fn f aV)∧dA s c.args.toList=some l∧ex [] l=true∧cN P f=true∧aZ P f (l.map iu++aV) (fun v g=>v=V∧look id g.r=some ar) ∧
   (∀N w ι x,Rel N w ι V x→∃y,ι id=some y)∧look d s.t=some (V.gp id d)∧look d s.r=some ar∧look d s.o=none∧has s.u d=true
  | _=>False
 | .buildSlice T b parts=>b=0∧parts = #[]∧∃e sz,P.underlying T=some (.slice e)∧cz P e=some sz∧look d s.t=some (.ref d)∧look d s.r=some ⟨e,sz,[]⟩∧look d s.o=none∧has s.u d=true
 | .makeSlice T x y=>∃kd kd' m e sz bytes zc,s.ev x=some (.int kd m)∧s.ev y=some (.int kd' m)∧iJ P T=some (e,sz,bytes)∧fE P e=some zc∧fO m bytes=true∧look d s.t=some (.ref d)∧look d s.r=some ⟨e,sz,List.replicate m.toNat (zc.map jF)⟩∧look d s.o=none∧has s.u d=true
 | _=>False
def Eu(P:Program)(n:Nat)(ops:Array Oper)(s s':AS)(o:Oper):Prop :=
 n≤440000∧∃e f v0,look e s.t=some (.lk f v0)∧(∀(j:Nat) (g:Oper),ops[j]?=some g→g.dst≠some e) ∧
  ∀(c:Cx),c.P=P→c.n=n→∀(fl:Nat→Bool) (a:Act) (w:World) (ι:Env),aI c (s.tt (cw fl s.t)) a w ι→ι f=some v0→(∀x t,x∈o.op.operands.toList→x=.tmp t→fl t=true) →
   ∀(Kn:Act→World→Prop) (Q:Exit→Act→World→Prop),(∀d w' ι' b,(∀id,id≠440009→some id≠o.dst→ι id=none→ι' id=none)→b.o=s'.o→b.r=s'.r→b.u=s'.u →
    (∀t v,fl t=true∨some t=o.dst→look t s'.t=some v→look t b.t=some v)→aI c b d w' ι'→Kn d w')→o.wpIn FF 0 P a w Kn Q
def ado(ops:Array Oper)(a:List Tag)(m t:Nat):Prop:=∃(i:Nat) (o:Oper) (b:Tag),ops[i]?=some o∧a[i]?=some b∧b.fF=true∧o.dst=some t∧m≤b.eh.1
structure lX(P:Program)(n:Nat)(s0:AS)(ops:Array Oper)(tags:List Tag)(K:Nat)(σ:Nat→AS):Prop where
 s:∀(i:Nat) (o:Oper) (m:Nat),ops[i]?=some o→tags[i]?=some (Tag.s (m+1))→iw ops (σ m) true o.guard∧(cd P n (σ m) o=some (σ (m+1))∨∃s',Eu P n ops (σ m) s' o∧s'.o=(σ (m+1)).o∧s'.r=(σ (m+1)).r∧s'.u=(σ (m+1)).u∧∀t v,look t (σ (m+1)).t=some v→look t s'.t=some v∨ado ops tags (m+1) t)
 v:∀(i:Nat) (o:Oper) (lo:Nat) (k:Nat),ops[i]?=some o→tags[i]?=some (Tag.v lo k)→∀(j:Nat),lo≤j→j<lo+k→iw ops (σ j) true o.guard∧cd P n (σ j) o=some (σ j)
 c:∀(i:Nat) (o:Oper) (lo:Nat) (k:Nat),ops[i]?=some o→tags[i]?=some (Tag.c lo k)→∀(j:Nat),lo≤j→j<lo+k→iw ops (σ j) true o.guard∧Vh P n ops (σ j) o
 a:∀(i:Nat) (o:Oper) (lo:Nat) (k:Nat),ops[i]?=some o→tags[i]?=some (Tag.a lo k)→∃(T:TypeId) (d:Nat) (cs:b6),o.guard=none∧o.op=.alloc T∧o.dst=some d∧d<min n 450000∧has s0.u d=false∧fE P T=some cs ∧
  ∀(j:Nat),lo≤j→j<lo+k→look d (σ j).o=some cs∧look d (σ j).r=none∧look d (σ j).t=some (.ptr d 0)∧has (σ j).u d=true
 off:∀(i:Nat) (o:Oper) (lo:Nat) (k:Nat),ops[i]?=some o→tags[i]?=some (Tag.off lo k)→(∀(j:Nat),lo≤j→j<lo+k→iw ops (σ j) false o.guard∧o.guard≠none)∧∀(d:Nat) (j:Nat),o.dst=some d→j≤K→look d (σ j).t=none∨(look d (σ j).t=some (.tup [])∧d<n)
 o:∀(i:Nat) (o:Oper) (lo:Nat) (k:Nat),ops[i]?=some o→tags[i]?=some (Tag.o lo k)→∃(d:Nat),o.dst=some d∧d<n∧has s0.u d=false∧∀(j:Nat),lo≤j→j<lo+k→iw ops (σ j) true o.guard∧AY P n (σ j) o d
 i1:∀(id:Nat) (a:bZ),look id (σ 0).r=some a→look id s0.r=some a∨has s0.u id=false
 i6:∀(id:Nat) (a:bZ),look id (σ 0).r=some a→has (σ 0).u id=true∨look id s0.r=some a
 i2:∀(id:Nat) (cs:b6),look id (σ 0).o=some cs→look id s0.o=some cs∨has s0.u id=false
 i3:∀(id:Nat),s0.u.contains id=true→(σ 0).u.contains id=true
 i4:∀(id:Nat) (cs:b6),look id (σ 0).o=some cs→has (σ 0).u id=true∨look id s0.o=some cs
 i5:∀(t:Nat) (v:AV),look t (σ 0).t=some v→(∃(i:Nat) (o:Oper) (tg:Tag),ops[i]?=some o∧tags[i]?=some tg∧tg.fF=true∧o.dst=some t)∨look t s0.t=some v
theorem HS.Pi{M:Nat→Prop}{Q:az}{w:World}{ι:Env}{s:AS}(h:HS M Q w ι s){d:Nat}(O:ι d=none)(J:has s.u d=true)(ho:look d s.o=none){e:TypeId}{sz n:Nat}{l:List b6}{vs:d5}(B:look d s.r=some ⟨e,sz,l⟩)(E:l.length=n)(hm:n≤maxLen)(A:vs.length=n*sz)(hz:∀c∈l,c.length=sz)(h1:∀v∈vs,v.oneCell'=true)
  (hc:∀(j:Nat) (c:b6),l[j]?=some c→∀(i:Nat) (x:AV),c[i]?=some x→∃v,vs[j*sz+i]?=some v∧Rel (NN M ι) w bA x v) :
  HS M Q (w.alloc (.cells vs.toArray e)) (ext ι d (.slice (some ⟨w.heap.size,0,none⟩) n n)) s:=by
 have C:Q.w.heap.size≤w.heap.size:=h.below.size;have G:∀b,b<w.heap.size→¬ NN M ι b→(w.alloc (.cells vs.toArray e)).heap[b]?=w.heap[b]?:=fun b T _=>mm _ _ _ T;have I:∀b,b<w.heap.size→NN M (ext ι d (.slice (some ⟨w.heap.size,0,none⟩) n n)) b→NN M ι b:=fun b T u=>by
  rcases gJ u with u|u
  ·exact u
  ·injection u with u;simp only[]at u;omega
 have L:=fa O (.slice (some ⟨w.heap.size,0,none⟩) n n);refine⟨h.below.alloc C _,h.old,fun i y U=>?_,fun i g m=>?_,fun i F g m f=>?_,h.ko,h.kr,fun i cs q t=>?_,fun i a q t=>?_,fun i y t=>⟨L i y (h.pin i y t).1,(h.pin i y t).2⟩⟩
 ·by_cases o:i=d
  ·subst o;exact J
  ·rw[bR _ _ o]at U;exact h.use i y U
 ·by_cases o:i=d
  ·subst o;rw[cH]at m;injection m with m;simp only[]at m;subst m;exact⟨.inl C,by simp⟩
  ·rw[bR _ _ o]at m;exact⟨(h.own i g m).1,by have:=(h.own i g m).2;simp;omega⟩
 ·by_cases o:i=d
  ·by_cases p:F=d
   ·omega
   ·subst o;rw[cH]at m;rw[bR _ _ p]at f;injection m with m;simp only[]at m
    have:=(h.own F g f).2;omega
  ·by_cases p:F=d
   ·subst p;rw[cH]at f;rw[bR _ _ o]at m;injection f with f;simp only[]at f
    have:=(h.own i g m).2;omega
   ·rw[bR _ _ o]at m;rw[bR _ _ p]at f;exact h.inj i F g m f
 ·have o:i≠d:=by rintro rfl;rw[ho]at q;cases q
  rw[bR _ _ o]at t;obtain⟨D,T',P,R,W,X⟩:=h.objs i cs q t;have N:=(h.own i D (by rw[R];rfl)).2;exact⟨D,T',P,(bR _ _ o).trans R,(mm _ _ _ N).trans W,X.mono (by simp) I G L⟩
 ·by_cases o:i=d
  ·subst o;rw[B]at q;injection q with q;subst q
   refine⟨_,vs,cH _ _ _,⟨by simp[A,E],.inr ⟨w.heap.size,n,vs.toArray,by simp[E],n3 _,am5 w _,by simp[E],hm,by simpa using A,by simp[E,← A]⟩⟩,hz,h1,fun j c K k x z=>?_⟩;obtain⟨v,hv,B⟩:=hc j c K k x z;exact⟨v,hv,.inl (B.mono (by simp) I G (fun _ _ h=>h))⟩
  ·rw[bR _ _ o]at t;obtain⟨v,xs,S,Y,Z,g4,g5⟩:=h.arrs i a q t;refine⟨v,xs,(bR _ _ o).trans S,fS Y (fun D f=>mm _ _ _ (h.own i D (by rw[S];exact f)).2),Z,g4,fun j V K k c z=>?_⟩;obtain⟨x,hx,B⟩:=g5 j V K k c z;exact⟨x,hx,B.mono (by simp) I G (fun r H=>L _ _ H) (fun r H=>mm _ _ _ (h.kR H)) (fun h=>h)⟩
theorem HS.abl{M:Nat→Prop}{L:az}{w:World}{ι:Env}{s:AS}(h:HS M L w ι s){d:Nat}(X:ι d=none)(G:has s.u d=true)(J:look d s.r=none){T:TypeId}(S:tyName d T){cs:b6}{vs:d5}(V:look d s.o=some cs)(U:Cells (NN M ι) w ι cs vs):
  HS M L (w.alloc (.cells vs.toArray T)) (ext ι d (.pointer (some ⟨w.heap.size,0,none⟩))) s:=by
 have q:L.w.heap.size≤w.heap.size:=h.below.size;have A:∀b,b<w.heap.size→¬ NN M ι b→(w.alloc (.cells vs.toArray T)).heap[b]?=w.heap[b]?:=fun b N _=>mm _ _ _ N;have F:∀b,b<w.heap.size→NN M (ext ι d (.pointer (some ⟨w.heap.size,0,none⟩))) b→NN M ι b:=fun b N o=>by
  rcases gJ o with o|o
  ·exact o
  ·injection o with o;simp only[]at o;omega
 have u:=fa X (.pointer (some ⟨w.heap.size,0,none⟩));refine⟨h.below.alloc q _,h.old,fun i y O=>?_,fun i g l=>?_,fun i z g l f=>?_,h.ko,h.kr,fun i B m n=>?_,fun i a m n=>?_,fun i y n=>⟨u i y (h.pin i y n).1,(h.pin i y n).2⟩⟩
 ·by_cases e:i=d
  ·subst e;exact G
  ·rw[bR _ _ e]at O;exact h.use i y O
 ·by_cases e:i=d
  ·subst e;rw[cH]at l;injection l with l;simp only[]at l;subst l;exact⟨.inl q,by simp⟩
  ·rw[bR _ _ e]at l;exact⟨(h.own i g l).1,by have:=(h.own i g l).2;simp;omega⟩
 ·by_cases e:i=d
  ·by_cases e':z=d
   ·omega
   ·subst e;rw[cH]at l;rw[bR _ _ e']at f;injection l with l;simp only[]at l
    have:=(h.own z g f).2;omega
  ·by_cases e':z=d
   ·subst e';rw[cH]at f;rw[bR _ _ e]at l;injection f with f;simp only[]at f
    have:=(h.own i g l).2;omega
   ·rw[bR _ _ e]at l;rw[bR _ _ e']at f;exact h.inj i z g l f
 ·by_cases e:i=d
  ·subst e;rw[V]at m;injection m with m;subst m
   exact⟨w.heap.size,⟨T,S⟩,vs.toArray,cH _ _ _,am5 w _,by simpa using U.mono (by simp) F A u⟩
  ·rw[bR _ _ e]at n;obtain⟨t,T',K,p,D,E⟩:=h.objs i B m n;have I:=(h.own i t (by rw[p];rfl)).2;exact⟨t,T',K,(bR _ _ e).trans p,(mm _ _ _ I).trans D,E.mono (by simp) F A u⟩
 ·by_cases e:i=d
  ·subst e;rw[J]at m;cases m
  ·rw[bR _ _ e]at n;obtain⟨v,xs,p,D,E,Q,R⟩:=h.arrs i a m n;refine⟨v,xs,(bR _ _ e).trans p,fS D (fun t f=>mm _ _ _ (h.own i t (by rw[p];exact f)).2),E,Q,fun j P W k c H=>?_⟩;obtain⟨x,Y,J⟩:=R j P W k c H;exact⟨x,Y,J.mono (by simp) F A (fun r C=>u _ _ C) (fun r C=>mm _ _ _ (h.kR C)) (fun h=>h)⟩
theorem HS.of_eq{M:Nat→Prop}{g:az}{w:World}{ι:Env}{s s':AS}(h:HS M g w ι s)(m:s.o=s'.o)(n:s.r=s'.r)(o:s.u=s'.u):HS M g w ι s':=by
 obtain⟨i,j,d,k,l,b,c,e,f,a⟩:=h;rw[m]at b e;rw[n]at c f;rw[o]at d b c a;exact⟨i,j,d,k,l,b,c,e,f,a⟩
structure db(cx:Cx)(ops:Array Oper)(tags:List Tag)(K:Nat)(σ:Nat→AS)(listed:Array Bool)(a:Act)(w:World)(k:Nat)(ι:Env):Prop where
 sz:listed.size=ops.size
 cl:∀(i:Nat) (o:Oper),ops[i]?=some o→listed[i]?=some true→∀j∈c7 o,listed[j]?=some true
 kK:k≤K
 wr:∀(i:Nat) (m:Nat),tags[i]?=some (Tag.s m)→(listed[i]?=some true↔m≤k)
 hs:HS cx.M cx.w0 w ι (σ k)
 al:∀(i:Nat) (o:Oper) (tg:Tag) (d:Nat),ops[i]?=some o→tags[i]?=some tg→tg.R7=true→o.dst=some d→listed[i]?≠some true→ι d=none
 dfr:a.defers=FM.ds
 n:a.tmps.size=cx.n
 tmp:∀(t:Nat) (v:AV),look t (σ k).t=some v→(∀(i:Nat) (o:Oper) (tg:Tag),ops[i]?=some o→tags[i]?=some tg→tg.fF=true→o.dst=some t→listed[i]?=some true)→∃x,a.tmps[t]?=some x∧Rel (NN cx.M ι) w ι v x
section
variable{f:Cx}{ops:Array Oper}{c:List Tag}{K:Nat}{σ:Nat→AS}{listed:Array Bool}{a:Act}{w:World}{k:Nat}{ι:Env}{g:AS}
theorem dS{i j}(a:i<listed.size):(listed.setIfInBounds i true)[j]?=some true↔j=i∨listed[j]?=some true:=by
 grind
theorem db.uA(y:Stat ops c K)(h:db f ops c K σ listed a w k ι){i:Nat}{o:Oper}{d:Tag}(D:ops[i]?=some o)(x:c[i]?=some d)(v:d.fF=true)(s:listed[i]?≠some true)(n:∀j∈c7 o,listed[j]?=some true):
  d.eh.1≤k∧k<d.eh.1+d.eh.2:=by
 constructor
 ·rcases y.lo i o d D x v with B|⟨q,j,p,b⟩
  ·omega
  ·have key:∀(q j:Nat),l9 ops c d.eh.1 q j=true→listed[j]?=some true→d.eh.1≤k:=by
    have m:∀j:Nat,(match c[j]? with|some A=>sK A d.eh.1|none=>false)=true→listed[j]?=some true→d.eh.1≤k:=fun j b l=>by
     cases g:c[j]? with
     | none=>rw[g]at b;cases b
     | some A=>rw[g]at b;exact(h.wr j _ (by rw[g,zZ b])).1 l
    intro q
    induction q with
    | zero=>intro j b l;unfold l9 at b;exact m j b l
    | succ q F =>
     intro j b l;unfold l9 at b;rw[zt]at b;rcases b with b|b
     ·exact m j b l
     ·cases e:ops[j]? with
      | none=>rw[e]at b;cases b
      | some t =>
       rw[e]at b;obtain⟨z,E,b⟩:=aaf.1 b;exact F z b (h.cl j t e l z E)
   exact key q j b (n j p)
 ·rcases y.hi i d x v with B|⟨j,t,e,b,C⟩
  ·have:=h.kK;omega
  ·have u:¬ (d.eh.1+d.eh.2≤k):=fun r=>by
    have p:=(h.wr j _ b).2 r;exact s (h.cl j t e p i C)
   omega
theorem db.low(y:Stat ops c K)(h:db f ops c K σ listed a w k ι){i:Nat}{o:Oper}{e:Tag}(n:ops[i]?=some o)(t:c[i]?=some e)(s:e.fF=true)(d:listed[i]?=some true):e.eh.1≤k:=by
 rcases y.lo i o e n t s with A|⟨q,j,r,b⟩
 ·omega
 ·have m:∀j:Nat,(match c[j]? with|some p=>sK p e.eh.1|none=>false)=true→listed[j]?=some true→e.eh.1≤k:=fun j b d=>by
   cases l:c[j]? with
   | none=>rw[l]at b;cases b
   | some p=>rw[l]at b;exact(h.wr j _ (by rw[l,zZ b])).1 d
  have key:∀(q j:Nat),l9 ops c e.eh.1 q j=true→listed[j]?=some true→e.eh.1≤k:=by
   intro q
   induction q with
   | zero=>intro j b d;unfold l9 at b;exact m j b d
   | succ q v =>
    intro j b d;unfold l9 at b;rw[zt]at b;rcases b with b|b
    ·exact m j b d
    ·cases g:ops[j]? with
     | none=>rw[g]at b;cases b
     | some x =>
      rw[g]at b;obtain⟨z,u,b⟩:=aaf.1 b;exact v z b (h.cl j x g d z u)
  exact key q j b (h.cl i o n d j r)
def Tj(ops:Array Oper)(c:List Tag)(listed:Array Bool)(t:Nat):Prop:=∀(i:Nat) o a,ops[i]?=some o→c[i]?=some a→a.fF=true→o.dst=some t→listed[i]?=some true
open Classical in
noncomputable def eZ(ops:Array Oper)(c:List Tag)(listed:Array Bool):Nat→Bool:=fun t=>decide (Tj ops c listed t)
theorem kJ{t:Nat}:eZ ops c listed t=true↔Tj ops c listed t:=by
 unfold eZ;exact @decide_eq_true_iff _ (Classical.propDecidable _)
theorem db.O3(h:db f ops c K σ listed a w k ι):aI f ((σ k).tt (cw (eZ ops c listed) (σ k).t)) a w ι :=
 ⟨h.hs.of_eq rfl rfl rfl,h.dfr,h.n,fun t v e=>by
  have b:look t (cw (eZ ops c listed) (σ k).t)=some v:=e;rw[fb]at b;split at b
  ·rename_i d;exact h.tmp t v b (kJ.1 d)
  ·cases b⟩
theorem db.zw(s:Stat ops c K)(h:db f ops c K σ listed a w k ι){i:Nat}{o:Oper}{l:Tag}(n:ops[i]?=some o)(e:c[i]?=some l)(b:∀j∈c7 o,listed[j]?=some true){t:Nat}(q:t∈o.looksAt ops):eZ ops c listed t=true :=
 kJ.2 fun j r u d g p m=>b j (s.zw i o l t n e q j r u d g p m)
theorem agx{o:Oper}{x:Operand}{t:Nat}(a:x∈o.op.operands.toList)(e:x=.tmp t):t∈o.looksAt ops:=by
 subst e;unfold Oper.looksAt;exact amH _ (am2.2 ⟨_,a,rfl⟩)
theorem db.wanted(y:Stat ops c K)(h:db f ops c K σ listed a w k ι){i:Nat}{o:Oper}{z:Tag}(v:ops[i]?=some o)(n:c[i]?=some z)(l:∀j∈c7 o,listed[j]?=some true){t:Bool}(e:iw ops (σ k) t o.guard):Region.wanted o (yielded ops a.tmps)=t:=by
 unfold iw at e;split at e
 ·rename_i m;simp[Region.wanted,m,e]
 ·rename_i j b m;split at e
  ·rename_i A g;split at e
   ·rename_i d p;have u:d∈o.looksAt ops:=by
     unfold Oper.looksAt;refine ano _ ?_;simp[m,g,p]
    rcases e with e|⟨q,e⟩
    ·obtain⟨x,s,r⟩:=h.tmp d _ e (kJ.1 (h.zw y v n l u));cases r;cases t<;>cases b<;>simp[Region.wanted,m,yielded,g,p,s]
    ·obtain⟨x,s,r⟩:=h.tmp d _ e (kJ.1 (h.zw y v n l u));cases r;subst q;cases b<;>simp[Region.wanted,m,yielded,g,p,s]
   ·cases e
  ·cases e
theorem db.step(st:Stat ops c K)(h:db f ops c K σ listed a w k ι){i:Nat}{o:Oper}{Q:Tag}(C:ops[i]?=some o)(U:c[i]?=some Q)(T:Q.fF=true)(F:∀j∈c7 o,listed[j]?=some true){d:Nat}(S:o.dst=some d)
  {w':World} {ι':Env} {x:Value} (O:HS f.M f.w0 w' ι' (σ k)) (I:∀id,id≠d→ι id=none→ι' id=none) (Y:∀v,look d (σ k).t=some v→Rel (NN f.M ι') w' ι' v x) (E:(look d (σ k).t).isSome=true→d<f.n)
  (X:∀t v y,t≠d→look t (σ k).t=some v→Rel (NN f.M ι) w ι v y→Rel (NN f.M ι') w' ι' v y):db f ops c K σ (listed.setIfInBounds i true) (a.put (some d) x) w' k ι':=by
 have u:i<listed.size:=by rw[h.sz];exact(lc.1 C).1
 obtain⟨D,n,r⟩:=st.dst i o Q C U T;rw[S]at n;injection n with n;subst n
 refine⟨by simp[h.sz],fun j s b q V z=>?_,h.kK,fun j m l=>?_,O,fun j s R D b q J g A=>?_,h.dfr,by simp[Act.put,h.n],fun t v p L=>?_⟩
 ·rw[dS u]at q⊢;rcases q with rfl|q
  ·rw[C]at b;injection b with b;subst b
   exact .inr (F V z)
  ·exact .inr (h.cl j s b q V z)
 ·rw[dS u];constructor
  ·rintro (rfl|q)
   ·rw[U]at l;injection l with l;subst l;cases T
   ·exact(h.wr j m l).1 q
  ·intro H;exact .inr ((h.wr j m l).2 H)
 ·have G:j≠i:=by rintro rfl;exact A ((dS u).2 (.inl rfl))
  have B:listed[j]?≠some true:=fun W=>A ((dS u).2 (.inr W));refine I D ?_ (h.al j s R D b q J g B)
  rintro rfl
  exact r j s b G g
 ·by_cases e:t=d
  ·subst e;exact⟨x,by have:=E (by rw[p];rfl);simp[Act.put,h.n,this],Y v p⟩
  ·obtain⟨y,Z,N⟩:=h.tmp t v p (fun j s tj b P M g=>by
    have:=L j s tj b P M g;rw[dS u]at this;rcases this with rfl|this
    ·rw[C]at b;injection b with b;subst b
     rw[S]at g;injection g with g;exact(e g.symm).elim
    ·exact this)
   exact⟨y,by simp only[Act.put];rw[ab7 (fun e'=>e e'.symm)];exact Z,X t v y e p N⟩
end
section
variable{u:Cx}{ops:Array Oper}{p:List Tag}{K:Nat}{σ:Nat→AS}{listed:Array Bool}{a:Act}{w:World}{k:Nat}{ι:Env}{B:AS}
theorem lP{i:Nat}(h:i∈Region.ready .any ops listed):listed[i]?≠some true∧∃o,ops[i]?=some o∧∀j∈c7 o,listed[j]?=some true:=by
 unfold Region.ready at h;simp only[ald,T4,g6,BY]at h;obtain⟨n,d,c⟩:=h;have g:=h8 (xs:=ops) n;rw[g]at c;simp only[If,DO,OR,zt,BY]at c;refine⟨fun m=>?_,_,g,fun j p=>?_⟩
 ·rw[qk,m]at d;cases d
 ·obtain⟨e,l,k,rfl⟩:=qt.1 p;rcases c e l with a|a
  ·rw[k]at a;cases a
  ·rw[qk]at a;cases f:listed[e.on]? with
   | none=>rw[f]at a;cases a
   | some b=>rw[f]at a;simp only[DO]at a;rw[a]
theorem aeE(q:Stat ops p K)(a:p.length=ops.size)(n:listed.size=ops.size)(h:Region.ready .any ops listed=[]):∀i,i<ops.size→listed[i]?=some true:=by
 intro i
 induction i using Nat.strongRecOn with
 | _ i o =>
  intro c;have k:=h8 (xs:=ops) c;cases g:listed[i]? with
  | none=>rw[ah6]at g;omega
  | some b =>
   cases b with
   | true=>rfl
   | false =>
    exfalso;have j:i∈Region.ready .any ops listed:=by
     unfold Region.ready;simp only[ald,T4,g6,BY];refine⟨c,by rw[qk,g];rfl,?_⟩;rw[k];simp only[If,DO,OR,zt,BY];intro e l;by_cases f:Region.binds .any e=true
     ·right;have m:e.on∈c7 ops[i]:=qt.2 ⟨e,l,f,rfl⟩;have d:=q.lex i _ _ k (h6 (by rw[a];exact c)) e.on m;rw[qk,o e.on d (by omega)];rfl
     ·left;simpa using f
    rw[h]at j;cases j
def i8(listed:Array Bool):Nat:=(listed.toList.filter (fun b=>!b)).length
theorem tA{i:Nat}(h:listed[i]?=some false):i8 (listed.setIfInBounds i true)+1=i8 listed:=by
 have a:i<listed.size:=(lc.1 h).1;have d:listed.toList[i]'(by simpa using a)=false:=by have:=(lc.1 h).2;simpa using this
 unfold i8;rw[amZ];have key:∀(l:List Bool) (i:Nat) (a:i<l.length),l[i]=false→((l.set i true).filter (fun b=>!b)).length+1=(l.filter (fun b=>!b)).length:=by
  intro l
  induction l with
  | nil=>intro i a _;simp at a
  | cons b r e =>
   intro i a c;cases i with
   | zero=>simp at c;subst c;simp
   | succ i =>
    simp only[List.set_cons_succ,amE];have:=e i (by simpa using a) (by simpa using c);split<;>(try simp only[iN])<;>omega
 exact key _ i (by simpa using a) d
theorem tP(h:i8 listed=0)(i:Nat)(c:i<listed.size):listed[i]?=some true:=by
 unfold i8 at h;have d:=ne h;rw[h8 c];congr 1;cases a:listed[i] with
 | true=>rfl
 | false =>
  exfalso;have:listed[i]∈listed.toList.filter (fun b=>!b):=ald.2 ⟨by simp,by simp[a]⟩;rw[d]at this;cases this
theorem db.one{Q':Exit→Act→World→Prop}{Y:Act→World→Prop}(st:Stat ops p K)(dy:lX u.P u.n B ops p K σ)(h:db u ops p K σ listed a w k ι){i:Nat}(t0:i<p.length)(hi:i∈Region.ready .any ops listed)
  (hK:∀a' w' k' ι',db u ops p K σ (listed.setIfInBounds i true) a' w' k' ι'→Y a' w'):wpOpIn FF 0 u.P ops Q' i Y a w:=by
 obtain⟨l0,o,I,H⟩:=lP hi;have v2:i<ops.size:=(lc.1 I).1;have D:=h6 (l:=p) (i:=i) t0;generalize p[i]'t0=tg at D;have M:=h.O3;have U:∀x t,x∈o.op.operands.toList→x=.tmp t→eZ ops p listed t=true:=fun x t hx e=>h.zw st I D H (agx hx e);unfold wpOpIn;simp only[I]
 -- what an operation of the list 'aop' does
 have y0:∀{s':AS},cd u.P u.n (σ k) o=some s'→∃ι',(∀id,some id≠o.dst→ι id=none→ι' id=none)∧∃s2,s2.o=s'.o∧s2.r=s'.r∧s2.u=s'.u∧(∀t v,eZ ops p listed t=true∨some t=o.dst→look t s'.t=some v→look t s2.t=some v) ∧
   ∃a' w',aI u s2 a' w' ι'∧(∀R:Act→World→Prop,R a' w'→o.wpIn FF 0 u.P a w R Q'):=by
  intro s' S0;obtain⟨s2,f1,f2,f3,f4,f5⟩:=XK (ok:=eZ ops p listed) S0 U;obtain⟨ι',g1,g2⟩:=OG M f1;refine⟨ι',g1,s2,f2,f3,f4,f5,?_⟩;obtain⟨x,w',hr,F⟩|⟨w',hr,F⟩:=g2
  ·exact⟨_,_,F,fun R hR=>by refine dK ?_;rw[hr];exact hR⟩
  ·exact⟨_,_,F,fun R hR=>by refine dK ?_;rw[hr];exact hR⟩
 have k2:∀{m},tg=.s m→∀j m',p[j]?=some (.s m')→j≠i→m'≠m:=fun e j m' X i2 e'=>by
  subst e;subst e';exact i2 ((st.chain i o _ I D).2.2.2 j X)
 have G:i<listed.size:=by rw[h.sz];exact v2
 cases tg with
 | s m =>
  obtain⟨j3,x2,w1,c0⟩:=st.chain i o m I D;have y2:m=k+1:=by
   have h1:¬ m≤k:=fun A0=>l0 ((h.wr i m D).2 A0);have h2:m≤k+1:=by
    by_cases n2:2≤m
    ·obtain⟨j,X,hs⟩:=w1 n2;have:=(h.wr j _ hs).1 (H j X);omega
    ·omega
   omega
  subst y2;obtain⟨hg,W⟩:=dy.s i o k I D;have hw:Region.wanted o (yielded ops a.tmps)=true:=h.wanted st I D H hg;rw[iF hw];have L1:∀a' w' ι' s2,(∀id,(u.n≤440000→id≠440009)→some id≠o.dst→ι id=none→ι' id=none)→s2.o=(σ (k+1)).o→s2.r=(σ (k+1)).r→s2.u=(σ (k+1)).u →
    (∀t v,eZ ops p listed t=true∨some t=o.dst→look t (σ (k+1)).t=some v→look t s2.t=some v)→aI u s2 a' w' ι'→db u ops p K σ (listed.setIfInBounds i true) a' w' (k+1) ι':=fun a' w' ι' s2 g1 e1 e2 e3 e4 F=>by
   refine⟨by simp[h.sz],fun j oj r X j' k0=>?_,x2,fun j m' S=>?_,F.hs.of_eq e1 e2 e3,fun j oj d1 d' r X x0 E a0=>?_,F.dfr,F.n,fun t v hv j1=>?_⟩
   ·rw[dS G]at X⊢;rcases X with rfl|X
    ·rw[I]at r;injection r with r;subst r;exact .inr (H j' k0)
    ·exact .inr (h.cl j oj r X j' k0)
   ·rw[dS G];by_cases e:j=i
    ·subst e;rw[D]at S;injection S with S;injection S with S;subst S;simp
    ·have:=h.wr j m' S;have i2:=k2 rfl j m' S e;constructor
     ·rintro (h1|h1)
      ·exact(e h1).elim
      ·have:=this.1 h1;omega
     ·intro A0;exact .inr (this.2 (by omega))
   ·have i1:j≠i:=by rintro rfl;exact a0 ((dS G).2 (.inl rfl))
    have m0:listed[j]?≠some true:=fun Q=>a0 ((dS G).2 (.inr Q));refine g1 d' (fun h9 e=>?_) (fun e=>?_) (h.al j oj d1 d' r X x0 E m0)
    ·cases d1<;>first|(cases x0;done)|skip
     ·obtain⟨_,d0,_,_,_,c3,c4,_⟩:=dy.a j oj _ _ r X;rw[E]at c3;injection c3 with c3;have e9:d'=440009:=e;omega
     ·obtain⟨d0,c3,c4,_⟩:=dy.o j oj _ _ r X;rw[E]at c3;injection c3 with c3;have e9:d'=440009:=e;omega
    obtain⟨d2,o1,d3⟩:=st.dst j oj _ r X (Tag.aeZ x0);rw[E]at o1;injection o1 with o1;subst o1
    exact d3 i o I (fun e'=>i1 e'.symm) e.symm
   ·refine F.tmp t v (e4 t v (.inl (kJ.2 fun j oj tj r e0 F0 E=>?_)) hv);have:=j1 j oj tj r e0 F0 E;rw[dS G]at this;rcases this with rfl|this
    ·rw[D]at e0;injection e0 with e0;subst e0;cases F0
    ·exact this
  rcases W with W|⟨s',⟨q0,dl,iv,v0,q1,q2,q3⟩,b1,b2,b3,b4⟩
  ·obtain⟨ι',g1,s2,e1,e2,e3,e4,a',w',F,l1⟩:=y0 W;exact(l1 _ (hK a' w' (k+1) ι' (L1 a' w' ι' s2 (fun id _=>g1 id) e1 e2 e3 e4 F)))
  ·have k1:eZ ops p listed dl=true:=kJ.2 fun j oj tj r _ _ E=>(q2 j oj r E).elim;obtain⟨y,_,hr⟩:=M.tmp dl (.lk iv v0) (by show look dl (cw _ _)=_;rw[fb,iF k1];exact q1);cases hr with
   | lk _ _ _ _ hv _ =>
    exact(q3 u rfl rfl _ a w ι M hv U _ Q' (fun a' w' ι' s2 g1 e1 e2 e3 e4 F=>hK a' w' (k+1) ι' (L1 a' w' ι' s2 (fun id h9=>g1 id (h9 q0)) (e1.trans b1) (e2.trans b2) (e3.trans b3) (fun t v ht C=>by
     rcases b4 t v C with C|⟨i0,o0,l2,c1,c2,c3,c4,c5⟩
     ·exact e4 t v ht C
     ·rcases ht with ht|ht
      ·have:=h.low st c1 c2 c3 (kJ.1 ht i0 o0 l2 c1 c2 c3 c4);omega
      ·obtain⟨d0,n1,S2⟩:=st.dst i0 o0 l2 c1 c2 c3;rw[c4]at n1;injection n1 with n1;subst n1
       by_cases e:i=i0
       ·subst e;rw[D]at c2;injection c2 with c2;subst c2;cases c3
       ·exact(S2 i o I e ht.symm).elim) F)))
 | v lo n =>
  obtain⟨s1,f0⟩:=h.uA st I D rfl l0 H;obtain⟨hg,W⟩:=dy.v i o lo n I D k s1 f0;have hw:=h.wanted st I D H hg;rw[iF hw];obtain⟨d,hd,c0⟩:=st.dst i o _ I D rfl;obtain⟨ι',g1,s2,e1,e2,e3,e4,a',w',F,l1⟩:=y0 W;refine (l1 _ (hK a' w' k ι' ?_));refine⟨by simp[h.sz],fun j oj r X j' k0=>?_,h.kK,fun j m' S=>?_,F.hs.of_eq e1 e2 e3,fun j oj d1 d' r X x0 E a0=>?_,F.dfr,F.n,fun t v hv j1=>?_⟩
  ·rw[dS G]at X⊢;rcases X with rfl|X
   ·rw[I]at r;injection r with r;subst r;exact .inr (H j' k0)
   ·exact .inr (h.cl j oj r X j' k0)
  ·rw[dS G];have e:j≠i:=by rintro rfl;rw[D]at S;cases S
   have:=h.wr j m' S;constructor
   ·rintro (h1|h1)
    ·exact(e h1).elim
    ·exact this.1 h1
   ·intro A0;exact .inr (this.2 A0)
  ·have i1:j≠i:=by rintro rfl;exact a0 ((dS G).2 (.inl rfl))
   have m0:listed[j]?≠some true:=fun Q=>a0 ((dS G).2 (.inr Q));refine g1 d' (fun e=>?_) (h.al j oj d1 d' r X x0 E m0);rw[hd]at e;injection e with e;subst e
   exact c0 j oj r i1 E
  ·refine F.tmp t v (e4 t v ?_ hv);by_cases e:t=d
   ·right;rw[hd,e]
   ·left;refine kJ.2 fun j oj tj r e0 F0 E=>?_;have:=j1 j oj tj r e0 F0 E;rw[dS G]at this;rcases this with rfl|this
    ·rw[I]at r;injection r with r;subst r
     rw[hd]at E;injection E with E;exact(e E.symm).elim
    ·exact this
 | c lo n =>
  obtain⟨s1,f0⟩:=h.uA st I D rfl l0 H;obtain⟨hg,W⟩:=dy.c i o lo n I D k s1 f0;have hw:=h.wanted st I D H hg;rw[iF hw];rcases W with W|W|W
  case inr.inr =>
   obtain⟨d,dl,z1,x,b,hd,W,w0,r2,w2,A2,z2⟩:=W;obtain⟨d',m1,c0⟩:=st.dst i o _ I D rfl;rw[hd]at m1;injection m1 with m1;subst m1
   obtain⟨ι',g1,s2,e1,e2,e3,e4,a',w',F,l1⟩:=y0 W;have k1:eZ ops p listed dl=true:=kJ.2 fun j oj tj r _ _ E=>(z2 j oj r E).elim;have hx:ι' z1=some x:=by
    obtain⟨y,_,hr⟩:=F.tmp dl (.lk z1 x) (e4 dl _ (.inl k1) (by simp only[AS.put,cp];rw[io r2];exact w2));cases hr with
    | lk _ _ _ _ h _=>exact h
   refine (l1 _ (hK a' w' k ι' ?_));refine⟨by simp[h.sz],fun j oj r X j' k0=>?_,h.kK,fun j m' S=>?_,F.hs.of_eq e1 e2 e3,fun j oj d1 d' r X x0 E a0=>?_,F.dfr,F.n,fun t v hv j1=>?_⟩
   ·rw[dS G]at X⊢;rcases X with rfl|X
    ·rw[I]at r;injection r with r;subst r;exact .inr (H j' k0)
    ·exact .inr (h.cl j oj r X j' k0)
   ·rw[dS G];have e:j≠i:=by rintro rfl;rw[D]at S;cases S
    have:=h.wr j m' S;constructor
    ·rintro (h1|h1)
     ·exact(e h1).elim
     ·exact this.1 h1
    ·intro A0;exact .inr (this.2 A0)
   ·have i1:j≠i:=by rintro rfl;exact a0 ((dS G).2 (.inl rfl))
    have m0:listed[j]?≠some true:=fun Q=>a0 ((dS G).2 (.inr Q));refine g1 d' (fun e=>?_) (h.al j oj d1 d' r X x0 E m0);rw[hd]at e;injection e with e;subst e
    exact c0 j oj r i1 E
   ·by_cases e:t=d
    ·subst e;rw[w0]at hv;injection hv with hv;subst hv
     obtain⟨y,hy,hr⟩:=F.tmp t (.vv x) (e4 t _ (.inr hd.symm) (by simp[AS.put,cp]));refine⟨y,hy,?_⟩;cases hr;obtain⟨v,xs,q1,q2,_⟩:=F.hs.arrs z1 b (by rw[e2];exact A2) (by rw[hx];rfl);rw[hx]at q1;injection q1 with q1;subst q1
     obtain⟨A',m,c,rfl⟩:∃A m c,x=.slice A m c:=by
      rcases q2.2 with⟨hv,_⟩|⟨_,_,_,hv,_⟩<;>exact⟨_,_,_,hv⟩
     exact .ref _ _ _ _ _ hx
    ·refine F.tmp t v (e4 t v (.inl ?_) (by simp only[AS.put,cp];rw[io e];exact hv));refine kJ.2 fun j oj tj r e0 F0 E=>?_;have:=j1 j oj tj r e0 F0 E;rw[dS G]at this;rcases this with rfl|this
     ·rw[I]at r;injection r with r;subst r
      rw[hd]at E;injection E with E;exact(e E.symm).elim
     ·exact this
  case inr.inl =>
   obtain⟨f,args,l,V,d,h1,B2,a3,a4,a5,a7,a8,a9⟩:=W;have m2:zM ((σ k).tt (cw (eZ ops p listed) (σ k).t)) o=some (f,args,l):=by
    unfold zM at h1⊢;split at h1
    case h_2=>cases h1
    rename_i cl L;split at h1
    case h_2=>cases h1
    rename_i fo O;have e1:((σ k).tt (cw (eZ ops p listed) (σ k).t)).ev fo=(σ k).ev fo:=by
     cases fo with
     | tmp t =>
      show look t (cw _ _)=look t _;rw[fb,iF (U (.tmp t) t (by simp[L,Op.operands,Call.operands,O]) rfl)]
     | const v=>rfl
     | func g=>rfl
     | global g=>rfl
    have e2:dA ((σ k).tt (cw (eZ ops p listed) (σ k).t)) cl.args.toList=dA (σ k) cl.args.toList:=pY (fun x hx=>by
     cases x with
     | tmp t =>
      show look t (cw _ _)=look t _;rw[fb,iF (U (.tmp t) t (by simp[L,Op.operands,Call.operands,O];exact .inr (Dz.1 hx)) rfl)]
     | const v=>rfl
     | func g=>rfl
     | global g=>rfl)
    simp only[L,O,e1,e2,Tg];exact h1
   have o2:=Y5 (R:=Q') a9 a8 m2 (HH _ _ l B2) M (K:=Y) (fun x v s1 ι1 w' hv b0 hr=>by
    subst hv;rw[a3];refine hK _ _ k ι (h.step st I D rfl H a3 (h.hs.mj b0.below.plain) (fun _ _ h=>h) (fun v' C=>?_) (fun _=>a5) (fun t v' y _ _ Z=>Z.mono b0.below.plain.size (fun b _ hb=>hb) (fun b w0 _=>b0.below.plain.block b w0) (fun _ _ h=>h)));rw[a4]at C;injection C with C;subst C;exact On a7 hr)
   exact o2
  case inl =>
  unfold Fy at W;split at W
  ·rename_i cl L;split at W
   ·rename_i fo O;obtain⟨f,aV,l,V,d,a1,a2,a3,a4,a5,a6,a7,a8,a9⟩:=W;have u1:((σ k).tt (cw (eZ ops p listed) (σ k).t)).ev fo=some (.fn f aV):=by
     cases fo with
     | tmp t =>
      show look t (cw _ _)=_;rw[fb,iF (U (.tmp t) t (by simp[L,Op.operands,Call.operands,O]) rfl)];exact a1
     | const v=>exact a1
     | func g=>exact a1
     | global g=>exact a1
    have hl:dA ((σ k).tt (cw (eZ ops p listed) (σ k).t)) cl.args.toList=some l:=by
     rw[pY];exact a2;intro x hx;cases x with
     | tmp t =>
      show look t (cw _ _)=look t _;rw[fb,iF (U (.tmp t) t (by simp[L,Op.operands,Call.operands,O];exact .inr (Dz.1 hx)) rfl)]
     | const v=>rfl
     | func g=>rfl
     | global g=>rfl
    refine dK ?_;obtain⟨ys,x1,r1,t1⟩:=ld M L O u1 a8;rw[x1,iL];refine (a9 (NN u.M ι) w _ (fun b hb=>mq M.hs hb) (xn M hl a6 r1 t1)).mono ?_
    rintro e w' ⟨x,v,s3,ι1,rfl,rfl,b0,hr⟩
    have h3:Rel (NN u.M ι) w' ι v x:=(hr.pure a7 ι).mono (h7 _) (fun b _ hb=>.inl hb) (fun _ _ _=>rfl) (fun _ _ h=>h);rw[a3];refine hK _ _ k ι (h.step st I D rfl H a3 (h.hs.mj b0.below.plain) (fun _ _ h=>h) (fun v' C=>?_) (fun _=>a5) (fun t v' y _ _ Z=>Z.mono b0.below.plain.size (fun b _ hb=>hb) (fun b w0 _=>b0.below.plain.block b w0) (fun _ _ h=>h)));rw[a4]at C;injection C with C;subst C;exact h3
   ·exact W.elim
  ·exact W.elim
 | a lo n =>
  obtain⟨s1,f0⟩:=h.uA st I D rfl l0 H;obtain⟨T,d,cs,O1,L,hd,t2,u2,hz,g0⟩:=dy.a i o lo n I D;obtain⟨b1,b2,b3,b4⟩:=g0 k s1 f0;have hw:Region.wanted o (yielded ops a.tmps)=true:=by simp[Region.wanted,O1]
  rw[iF hw];have J:=h.al i o _ d I D rfl hd l0;unfold fE at hz;cases t0:u.P.info? T with
  | none=>simp[t0]at hz
  | some it =>
   cases y1:it.zero with
   | none=>simp[t0,y1]at hz
   | some zv =>
    simp only[t0,go,y1]at hz;have hc:=oh (NN u.M ι) w ι hz;have p0:(execOp a.eval o).run u.P w=.ok (.value (.pointer (some ⟨w.heap.size,0,none⟩))) (w.alloc (.cells zv.cells T)):=by
     unfold execOp;simp[L,Instr.alloc,zeroValue,typeInfo,t0,y1,newVar,newRow]
    refine dK ?_;rw[p0];show Y _ _;rw[hd];have S0:=h.hs.abl (d:=d) J b4 b2 (T:=T) (fun q=>by omega) b1 hc;simp only[aaC]at S0;refine hK _ _ k _ (h.step st I D rfl H hd S0 (fun id s0 hn=>(bR _ _ s0).trans hn) (fun v' C=>?_) (fun _=>nx t2 (Nat.min_le_left _ _)) (fun t v' y _ _ Z=>Z.mono (by simp) (fun b hb Q=>?_) (fun b hb _=>mm _ _ _ hb) (fa J _)))
    ·rw[b3]at C;injection C with C;subst C;exact .ptr _ _ _ _ (cH _ _ _)
    ·rcases gJ Q with Q|Q
     ·exact Q
     ·injection Q with Q;simp only[]at Q;omega
 | o lo n =>
  obtain⟨s1,f0⟩:=h.uA st I D rfl l0 H;obtain⟨d,a3,a5,u2,g0⟩:=dy.o i o lo n I D;obtain⟨hg,W⟩:=g0 k s1 f0;have hw:=h.wanted st I D H hg;rw[iF hw];have J:=h.al i o _ d I D rfl a3 l0;unfold AY at W;split at W
  ·rename_i cl L;split at W
   ·rename_i fo O;obtain⟨f,aV,l,V,id,ar,S1,a1,a2,a6,a8,a9,j2,hT,hR,hO,hU⟩:=W;have u1:((σ k).tt (cw (eZ ops p listed) (σ k).t)).ev fo=some (.fn f aV):=by
     cases fo with
     | tmp t =>
      show look t (cw _ _)=_;rw[fb,iF (U (.tmp t) t (by simp[L,Op.operands,Call.operands,O]) rfl)];exact a1
     | const v=>exact a1
     | func g=>exact a1
     | global g=>exact a1
    have hl:dA ((σ k).tt (cw (eZ ops p listed) (σ k).t)) cl.args.toList=some l:=by
     rw[pY];exact a2;intro x hx;cases x with
     | tmp t =>
      show look t (cw _ _)=look t _;rw[fb,iF (U (.tmp t) t (by simp[L,Op.operands,Call.operands,O];exact .inr (Dz.1 hx)) rfl)]
     | const v=>rfl
     | func g=>rfl
     | global g=>rfl
    refine dK ?_;obtain⟨ys,x1,r1,t1⟩:=ld M L O u1 a8;rw[x1,iL];refine (a9 (NN u.M ι) w _ (fun b hb=>mq M.hs hb) (xn M hl a6 r1 t1)).mono ?_
    rintro e w' ⟨x,v,s3,ι1,rfl,⟨rfl,v1⟩,b0,hr⟩
    obtain⟨y,hy⟩:=j2 _ _ _ _ hr;obtain⟨T0,p2⟩:=h.hs.Z7 b0 S1 hy v1 J hU hO hR;have h3:Rel (NN u.M (ext ι d y)) w' (ext ι d y) (v.gp id d) x:=hr.gp p2 (fun z hz=>by rw[hy]at hz;injection hz with hz;subst hz;exact cH _ _ _);rw[a3];refine hK _ _ k _ (h.step st I D rfl H a3 T0 (fun k3 s0 hn=>(bR _ _ s0).trans hn) (fun v' C=>?_) (fun _=>a5) (fun t v' y' _ _ Z=>Z.mono b0.below.plain.size (fun b hb Q=>?_) (fun b w0 _=>b0.below.plain.block b w0) (fa J _)))
    ·rw[hT]at C;injection C with C;subst C;exact h3
    ·rcases gJ Q with Q|Q
     ·exact Q
     ·rcases (b0.own id b (by rw[hy];exact Q)).1 with h9|h9;exact absurd hb (afl.2 h9);exact h9.elim
   ·exact W.elim
  ·rename_i T n' parts L;obtain⟨rfl,rfl,e,sz,L2,hz,hT,hR,hO,hU⟩:=W;have S0:(sizeOf e).run u.P w=.ok sz w:=by
    cases hi:u.P.info? e with
    | none=>simp[cz,hi]at hz
    | some it =>
     have : it.size=sz:=by simpa[cz, hi]using hz
     simp[sizeOf,typeInfo,hi,this]
   have p0:(execOp a.eval o).run u.P w=.ok (.value (.slice (some ⟨w.heap.size,0,none⟩) 0 0)) (w.alloc (.cells #[] e)):=by
    unfold execOp;have r0:Array.range 0 = #[]:=rfl;simp[L,Instr.buildSlice,ls L2,S0,Instr.fill,newRow,r0]
   refine dK ?_;rw[p0];show Y _ _;rw[a3];have T0:=h.hs.Pi (vs:=[]) J hU hO hR rfl (n3 _) (by simp) (fun c hc=>(by cases hc)) (fun v hv=>(by cases hv)) (fun j c X=>by simp at X);simp only[ro]at T0;refine hK _ _ k _ (h.step st I D rfl H a3 T0 (fun id s0 hn=>(bR _ _ s0).trans hn) (fun v' C=>?_) (fun _=>a5) (fun t v' y _ _ Z=>Z.mono (by simp) (fun b hb Q=>?_) (fun b hb _=>mm _ _ _ hb) (fa J _)))
   ·rw[hT]at C;injection C with C;subst C;exact .ref _ _ _ _ _ (cH _ _ _)
   ·rcases gJ Q with Q|Q
    ·exact Q
    ·injection Q with Q;simp only[]at Q;omega
  ·rename_i T x y L;obtain⟨kd,kd',m,e,sz,bytes,zc,hx,hy,D2,hz,hb,hT,hR,hO,hU⟩:=W;have g3:((σ k).tt (cw (eZ ops p listed) (σ k).t)).ev x=some (.int kd m):=by
    cases x with
    | tmp t=>show look t (cw _ _)=_;rw[fb,iF (U (.tmp t) t (by simp[L,Op.operands]) rfl)];exact hx
    | const v=>exact hx
    | func g=>exact hx
    | global g=>exact hx
   have i3:((σ k).tt (cw (eZ ops p listed) (σ k).t)).ev y=some (.int kd' m):=by
    cases y with
    | tmp t=>show look t (cw _ _)=_;rw[fb,iF (U (.tmp t) t (by simp[L,Op.operands]) rfl)];exact hy
    | const v=>exact hy
    | func g=>exact hy
    | global g=>exact hy
   obtain⟨vs,p0,q1,q2,q3,q4,q5⟩:=TT (P:=u.P) (N:=NN u.M ι) w D2 hz hb kd kd';refine dK ?_;unfold execOp;simp only[L,n4,mz M g3,mz M i3,p0,pt,By];show Y _ _;rw[a3];have T0:=h.hs.Pi (vs:=vs) J hU hO hR (by simp) q1 q2 q3 q4 q5;refine hK _ _ k _ (h.step st I D rfl H a3 T0 (fun id s0 hn=>(bR _ _ s0).trans hn) (fun v' C=>?_) (fun _=>a5) (fun t v' y _ _ Z=>Z.mono (by simp) (fun b hb Q=>?_) (fun b hb _=>mm _ _ _ hb) (fa J _)))
   ·rw[hT]at C;injection C with C;subst C;exact .ref _ _ _ _ _ (cH _ _ _)
   ·rcases gJ Q with Q|Q
    ·exact Q
    ·injection Q with Q;simp only[]at Q;omega
  ·exact W.elim
 | off lo n =>
  obtain⟨s1,f0⟩:=h.uA st I D rfl l0 H;obtain⟨g0,p1⟩:=dy.off i o lo n I D;obtain⟨hg,O1⟩:=g0 k s1 f0;have hw:=h.wanted st I D H hg;rw[io (by rw[hw];simp)];obtain⟨d,hd,c0⟩:=st.dst i o _ I D rfl;rw[hd];refine⟨fun _ _=>trivial,hK _ _ k ι (h.step st I D rfl H hd h.hs (fun _ _ h=>h) (fun v' C=>?_) (fun hs=>?_) (fun t v' y _ _ Z=>Z))⟩
  ·rcases p1 d k hd h.kK with h0|⟨h0,_⟩
   ·rw[h0]at C;cases C
   ·rw[h0]at C;injection C with C;subst C
    exact .tup _ _ [] rfl (fun i x v hx _=>by simp at hx)
  ·rcases p1 d k hd h.kK with h0|⟨_,h0⟩
   ·rw[h0]at hs;cases hs
   ·exact h0
theorem db.any{l:Exit→Act→World→Prop}(x:Stat ops p K)(d:p.length=ops.size)(A:lX u.P u.n B ops p K σ)(C:∀a w ι,aI u (σ K) a w ι→l .normal a w):
  ∀(b:Nat) (listed:Array Bool) (a:Act) (w:World) (k:Nat) (ι:Env),i8 listed=b→db u ops p K σ listed a w k ι→wpAnyIn FF 0 u.P .any ops l b listed a w:=by
 have g:∀(listed:Array Bool) (a:Act) (w:World) (k:Nat) (ι:Env),db u ops p K σ listed a w k ι→(∀i,i<ops.size→listed[i]?=some true)→l .normal a w:=by
  intro listed a w k ι h c;have F:k=K:=by
   have:=h.kK;rcases x.last with L|⟨i,f⟩
   ·omega
   ·have m:i<ops.size:=by rw[←d];exact(g7.1 f).1
    have:=(h.wr i K f).1 (c i m);omega
  subst F;exact C a w ι ⟨h.hs,h.dfr,h.n,fun t v H=>h.tmp t v H (fun i o N j _ _ _=>c i (lc.1 j).1)⟩
 intro b
 induction b with
 | zero =>
  intro listed a w k ι y h;have c:∀i,i<ops.size→listed[i]?=some true:=fun i f=>tP y i (by rw[h.sz];exact f);refine⟨?_,g listed a w k ι h c⟩;cases s:Region.ready .any ops listed with
  | nil=>rfl
  | cons i r =>
   exfalso;obtain⟨e,o,j,_⟩:=lP (ops:=ops) (listed:=listed) (i:=i) (by rw[s];simp);exact e (c i (lc.1 j).1)
 | succ b I =>
  intro listed a w k ι y h;refine⟨fun s=>g listed a w k ι h (aeE x d h.sz s),fun i f=>?_⟩;obtain⟨_,M,q,_⟩:=lP f;refine h.one x A (by rw[d];exact(lc.1 q).1) f (fun z w' J ι' G=>I _ z w' J ι' ?_ G);obtain⟨e,o,j,_⟩:=lP f;have n:i<listed.size:=by rw[h.sz];exact(lc.1 j).1
  have E:listed[i]?=some false:=by
   rw[h8 n]at e⊢;cases D:listed[i] with
   | true=>rw[D]at e;exact(e rfl).elim
   | false=>rfl
  have:=tA E;omega
theorem db.start(H:Stat ops p K)(f:lX u.P u.n B ops p K σ){a:Act}{w:World}{ι:Env}(x:aI u B a w ι):db u ops p K σ (Array.replicate ops.size false) a { w with drawn:=w.drawn+1 } 0 ι:=by
 have C:Below w.heap.size w { w with drawn:=w.drawn+1 }:=⟨rfl,rfl,rfl,h7 _,fun _ _=>rfl⟩;have q:=x.mj C;refine⟨by simp,fun i o s l=>?_,n3 _,fun i m r=>?_,?_,fun i o G d s A E z _=>?_,q.dfr,q.n,fun t v M F=>?_⟩
 ·rw[age]at l;split at l<;>cases l
 ·constructor
  ·intro l;rw[age]at l;split at l<;>cases l
  ·intro J;have D:i<ops.size:=by have:=(g7.1 r).1;have:=H.len;omega
   have:=(H.chain i _ m (h8 D) r).1;omega
 ·have c:=q.hs;have n:∀id,has B.u id=true→has (σ 0).u id=true:=fun id h=>(ahc h).elim (fun h=>fJ (f.i3 id h)) (fun h=>by unfold has;rw[ajT h,Bool.or_true]);refine⟨c.below,c.old,fun i y N=>n i (c.use i y N),c.own,c.inj,fun i cs k=>(f.i4 i cs k).elim (fun h=>h) (fun h=>n i (c.ko i cs h)),fun i a k=>?_,fun i cs k e=>?_,fun i a k e=>?_,fun i y e=>⟨(c.pin i y e).1,f.i3 _ (c.pin i y e).2⟩⟩
  ·exact(f.i6 i a k).elim (fun h=>h) (fun h=>n i (c.kr i a h))
  ·rcases f.i2 i cs k with g|g
   ·exact c.objs i cs g e
   ·have:=c.free g;rw[this]at e;cases e
  ·rcases f.i1 i a k with g|g
   ·exact c.arrs i a g e
   ·have:=c.free g;rw[this]at e;cases e
 ·cases G with
  | a lo m =>
   obtain⟨T,I,cs,_,_,b,_,j,_⟩:=f.a i o lo m s A;rw[z]at b;injection b with b;subst b
   exact q.hs.free j
  | o lo m =>
   obtain⟨I,b,_,j,_⟩:=f.o i o lo m s A;rw[z]at b;injection b with b;subst b
   exact q.hs.free j
  | _=>cases E
 ·rcases f.i5 t v M with⟨i,o,G,s,A,L,z⟩|g
  ·have:=F i o G s A L z;rw[age]at this;split at this<;>cases this
  ·exact q.tmp t v g
theorem acv{Q:Exit→Act→World→Prop}{e:ck}{id:Nat}(σ:Nat→AS)(p:List Tag)(K:Nat)(g:u.P.follows .mixedOrders=true)(f:Stat ops p K)(b:p.length=ops.size)(d:lX u.P u.n B ops p K σ)
  (h:VE u Q e .normal (σ K)):VE u Q (.c (.region id ops true)::e) .normal B:=fun a w ι c=>by
 refine amQ g (db.any f b d (fun a w ι i=>h a w ι i) ops.size _ a _ 0 ι (by simp[i8]) (db.start f d c))
end
def eK(lo:Nat):Nat→(Nat→Prop)→Prop
 | 0,_=>True
 | n+1,p=>p lo∧eK (lo+1) n p
theorem ra{p:Nat→Prop}:∀{n lo:Nat},eK lo n p→∀j,lo≤j→j<lo+n→p j
 | 0,lo,_,j,a,b=>by omega
 | n+1,lo,h,j,a,b=>by
  by_cases e:j=lo
  ·subst e;exact h.1
  ·exact ra h.2 j (by omega) (by omega)
def nth:ek→Nat→AS
 | [],_=>⟨[],[],[],[]⟩
 | s::_,0=>s
 | _::r,n+1=>nth r n
def ij{α:Type}:List (Nat×α)→List (Nat×α)→List (Nat×α)
 | [],l=>l
 | (k,v)::r,l=>ij r (bj k v l)
theorem qx{α:Type}:∀(m l:List (Nat×α)) (k:Nat) (v:α),look k (ij m l)=some v→(∃p∈m,p.1=k)∨look k l=some v
 | [],l,k,v,h=>.inr h
 | (j,x)::r,l,k,v,h=>by
  rcases qx r _ k v h with⟨p,b,e⟩|a
  ·exact .inl ⟨p,nw _ b,e⟩
  ·rw[cp]at a;by_cases e:k=j
   ·exact .inl ⟨(j,x),pe,e.symm⟩
   ·rw[io e]at a;exact .inr a
def BN(P:Program)(n:Nat)(s:AS)(o:Oper):Prop :=
 match o.op with
 | .call c=>match c.callee with
  | .value a=>match s.ev a,dA s c.args.toList,o.dst with
   | some (.fn f aV),some l,some d=>match look d s.t with
    | some V=>d<n∧ex [] l=true∧V.dg []=true∧cN P f=true∧aZ P f (l.map iu++aV) (fun v _=>v=V)
    | none=>False
   | _,_,_=>False
  | _=>False
 | _=>False
theorem Ym{P:Program}{n:Nat}{ops:Array Oper}{s:AS}{o:Oper}(h:BN P n s o∨(Ju P n s o∨Kb P n ops s o)):Vh P n ops s o:=by
 rcases h with h|h
 case inr=>exact .inr h
 left;unfold BN at h;unfold Fy;split at h
 ·split at h
  ·split at h
   ·rename_i f aV l d a b c;split at h
    ·rename_i V e;exact⟨f,aV,l,V,d,a,b,c,e,h.1,h.2.1,h.2.2.1,h.2.2.2.1,h.2.2.2.2⟩
    ·cases h
   ·cases h
  ·cases h
 ·cases h
def Fk(P:Program)(n:Nat)(a:AS)(o:Oper)(p:Nat→b6→Prop):Prop :=
 match o.op with
 | .alloc T=>match o.dst,fE P T with
  | some d,some cs=>d<min n 450000∧has a.u d=false∧p d cs
  | _,_=>False
 | _=>False
def H4(n:Nat)(o:Oper)(s:AS):Prop:=match o.dst with|some d=>look d s.t=none∨(look d s.t=some (.tup [])∧d<n)|none=>True
def BM:List Oper→List Tag→Nat→Nat→Bool
 | o::r,g::a,m,t=>((match o.dst with|some d=>Nat.beq d t|none=>false)&&(g.fF&&Nat.ble m g.eh.1))||BM r a m t
 | _,_,_,_=>false
theorem N4:∀{l:List Oper} {b:List Tag} {m t:Nat},BM l b m t=true→∃(i:Nat) (o:Oper) (g:Tag),l[i]?=some o∧b[i]?=some g∧g.fF=true∧o.dst=some t∧m≤g.eh.1
 | [],_,m,t,h=>by cases h
 | _::_,[],m,t,h=>by cases h
 | o::r,g::b,m,t,h=>by
  unfold BM at h;rw[zt]at h;rcases h with h|h
  ·rw[g6,g6]at h;obtain⟨a,c,e⟩:=h;refine⟨0,o,g,rfl,rfl,c,?_,hF e⟩;split at a
   ·rename_i d j;rw[j,iO a]
   ·cases a
  ·obtain⟨i,k,f,a,c,e⟩:=N4 h;exact⟨i+1,k,f,by simpa using a,by simpa using c,e⟩
def fK(P:Program)(n:Nat)(c:AS)(b:Array Oper)(e:List Tag)(K:Nat)(a:ek)(o:Oper):Tag→Prop
 | .s 0=>False
 | .s (m+1)=>iw b (nth a m) true o.guard∧(cd P n (nth a m) o=some (nth a (m+1))∨(Eu P n b (nth a m) (nth a (m+1)) o∨∃s' L,Eu P n b (nth a m) s' o∧s'.tt (ij L s'.t)=nth a (m+1)∧(L.all fun p=>BM b.toList e (m+1) p.1)=true))
 | .v lo k=>eK lo k fun j=>iw b (nth a j) true o.guard∧cd P n (nth a j) o=some (nth a j)
 | .c lo k=>eK lo k fun j=>iw b (nth a j) true o.guard∧(BN P n (nth a j) o∨(Ju P n (nth a j) o∨Kb P n b (nth a j) o))
 | .a lo k=>o.guard=none∧Fk P n c o fun d cs=>eK lo k fun j=>look d (nth a j).o=some cs∧look d (nth a j).r=none∧look d (nth a j).t=some (.ptr d 0)∧has (nth a j).u d=true
 | .o lo k=>∃d,o.dst=some d∧d<n∧has c.u d=false∧eK lo k fun j=>iw b (nth a j) true o.guard∧AY P n (nth a j) o d
 | .off lo k=>o.guard≠none∧(eK lo k fun j=>iw b (nth a j) false o.guard)∧eK 0 (K+1) fun j=>H4 n o (nth a j)
def fe(P:Program)(n:Nat)(b:AS)(a:Array Oper)(c:List Tag)(K:Nat)(d:ek):List Oper→List Tag→Prop
 | o::r,t::ts=>fK P n b a c K d o t∧fe P n b a c K d r ts
 | _,_=>True
theorem Mu{P:Program}{n:Nat}{d:AS}{a:Array Oper}{e:List Tag}{K:Nat}{f:ek}:∀{l:List Oper} {ts:List Tag},fe P n d a e K f l ts→∀(i:Nat) (o:Oper) (t:Tag),l[i]?=some o→ts[i]?=some t→fK P n d a e K f o t
 | [],_,_,i,o,t,h,_=>by simp at h
 | _::_,[],_,i,o,t,_,h=>by simp at h
 | g::r,j::ts,h,0,o,t,b,c=>by simp at b c;subst b;subst c;exact h.1
 | g::r,j::ts,h,i+1,o,t,b,c=>Mu h.2 i o t (by simpa using b) (by simpa using c)
def ir(s:AS)(b:List ee)(a:List (Nat×b6))(rl:List (Nat×bZ)):AS:={ t:=ij b s.t,o:=ij a s.o,r:=ij rl s.r,u:=rl.map (·.1)++(a.map (·.1)++s.u) }
def fresh{α:Type}(u:d4):List (Nat×α)→Prop
 | []=>True
 | (k,_)::r=>has u k=false∧fresh u r
theorem Le{α:Type}{u:d4}:∀{l:List (Nat×α)},fresh u l→∀p∈l,has u p.1=false
 | [],_,p,a=>by cases a
 | (k,x)::r,h,p,a=>by
  rcases l3.1 a with rfl|a
  ·exact h.1
  ·exact Le h.2 p a
end Go.Proofs.YtocgkfoifehcbaaGreat
namespace Go.Proofs.YtocgkfoifehcbaaGreat
set_option linter.all false
open Go.ChangeShapes Go.WideShapes Go.ChangeAt Go.RowKit
inductive cZ (P:Program):TypeId→b6→Prop
 | bool t b (h:P.underlying t=some .bool):cZ P t [.bool b]
 | int t k n (h:P.underlying t=some (.int k)) (hw:(Lit.int k n).wf=true):cZ P t [.int k n]
 | str t s (h:P.underlying t=some .string) (hs:s.size≤maxLen):cZ P t [.str s]
 | sl t e l (h:P.underlying t=some (.slice e)) (hl:l.length≤maxLen) (hz:∀c∈l,c.length=P.cellsOf e) (hc:∀c∈l,cZ P e c):cZ P t [.sl l]
 | struct t fs (parts:List b6) (h:P.underlying t=some (.struct fs)) (hl:parts.length=fs.size)
   (hp:∀(i:Nat) (f:Field) (c:b6),fs[i]?=some f→parts[i]?=some c→cZ P f.type c):cZ P t parts.flatten
 | array t e n (parts:List b6) (h:P.underlying t=some (.array n e)) (hl:parts.length=n)
   (hp:∀(c:b6),c∈parts→cZ P e c):cZ P t parts.flatten
def vi(P:Program)(ts:List TypeId)(t:TypeId):Bool :=
 match P.underlying t with
 | some .bool|some (.int _)|some .string=>true
 | some (.slice e)=>ts.contains e&&!(P.cellsOf e == 0)
 | some (.struct a)=>(a.toList.map fun f=>P.cellsOf f.type).sum == P.cellsOf t &&
   (List.range a.size).all fun i=>match a[i]? with|some f=>ts.contains f.type&&f.offset == ((a.toList.take i).map fun f=>P.cellsOf f.type).sum|none=>false
 | some (.array n e)=>ts.contains e&&P.cellsOf t == n*P.cellsOf e
 | _=>false
def VK(P:Program)(ts:List TypeId):Bool:=ts.all fun t=>vi P ts t
theorem BR{α:Type}{p:Nat→α→Prop}:∀n,(∀i,i<n→∃a,p i a)→∃l:List α,l.length=n∧∀i a,l[i]?=some a→p i a
 | 0,_=>⟨[],rfl,fun i a h=>by grind⟩
 | n+1,h=>by
  obtain⟨l,c,d⟩:=BR (p:=p) n (fun i g=>h i (by omega));obtain⟨a,e⟩:=h n (by omega);refine⟨l++[a],by grind,fun i b f=>?_⟩
  grind
theorem Cells.append{N:Nat→Prop}{w:World}{ι:Env}{a b:b6}{x y:d5}(h:Cells N w ι a x)(g:Cells N w ι b y):Cells N w ι (a++b) (x++y):=by
 refine⟨by simp[h.len,g.len],fun v d=>?_,fun i c v e d=>?_⟩
 ·rcases kb.1 d with d|d
  ·exact h.one v d
  ·exact g.one v d
 ·by_cases f:i<a.length
  ·rw[yw f]at e;rw[yw (by rw[←h.len];grind)]at d;exact h.rel i c v e d
  ·rw[w3 (by omega)]at e;rw[w3 (by rw[←h.len];omega),← h.len]at d;exact g.rel _ c v e d
theorem GD{N:Nat→Prop}{w:World}{ι:Env}:∀(a:d4) (parts:List b6) (cs:d5) (off:Nat),parts.length=a.length→off+a.sum≤cs.length →
  (∀(i:Nat) (c:b6) (n:Nat),parts[i]?=some c→a[i]?=some n→Cells N w ι c ((cs.drop (off+(a.take i).sum)).take n))→Cells N w ι parts.flatten ((cs.drop off).take a.sum)
 | [],parts,cs,off,b,_,_=>by
  have:parts=[]:=ne (by simpa using b);subst this;simp only[List.flatten_nil,List.sum_nil,alT];exact⟨rfl,fun v l=>(by cases l),fun i c v d _=>by simp at d⟩
 | n::a,[],cs,off,b,_,_=>by simp at b
 | n::a,p::parts,cs,off,b,k,h=>by
  have f:=h 0 p n rfl rfl;simp only[alT,List.sum_nil,aix]at f;simp only[al8]at k⊢;have g:=GD a parts cs (off+n) (by simpa using b) (by omega) (fun i c m d j=>by
   have:=h (i+1) c m (by simpa using d) (by simpa using j);simp only[amR,al8]at this;rw[show off+n+(a.take i).sum=off+(n+(a.take i).sum) by omega];exact this)
  have e:(cs.drop off).take (n+a.sum)=(cs.drop off).take n++(cs.drop (off+n)).take a.sum:=by
   rw[List.take_add,am6]
  rw[e,List.flatten_cons];exact f.append g
def iP:Nat→Prop:=fun _=>False
section
variable{H:Type}{enc:TypeId×Value→H}{P:Program}{w:World}{base:Nat}{d:Nat→Bool}{g:Bool}{ts:List TypeId}
theorem aho(r0:VK P ts=true):∀(B:Nat) (t:TypeId) (cs:d5) (x:DataW H×List MemPlace),ts.contains t=true→DataW.trod enc P w base d g B t cs=some x→∃as,cZ P t as∧Cells iP w bA as cs:=by
 intro B
 induction B with
 | zero=>intro t cs x _ h;simp[DataW.trod]at h
 | succ B ih =>
  intro t cs x ht h;have R:vi P ts t=true:=ll.1 r0 t (by simpa using ht);unfold vi at R;have O:∀{a:AV} {v:Value},Rel iP w bA a v→v.oneCell'=true→Cells iP w bA [a] [v]:=fun hr ho =>
   ⟨rfl,fun u q=>by simp at q;subst q;exact ho,fun i c u p q=>by
    cases i with
    | zero=>simp at p q;subst p;subst q;exact hr
    | succ i=>simp at p⟩
  split at R
  ·rename_i q;obtain⟨b,rfl,_⟩:=DataW.trod_bool q h;exact⟨_,.bool t b q,O (.bool _ _) rfl⟩
  ·rename_i k q;obtain⟨n,rfl,_,hw⟩:=DataW.trod_int q h;exact⟨_,.int t k n q hw,O (.int _ _ _) rfl⟩
  ·rename_i q;obtain⟨s,rfl,_,hs⟩:=DataW.trod_string q h;exact⟨_,.str t s q hs,O (.str _ _) rfl⟩
  ·rename_i e q;simp only[g6,BY,beq_eq_false_iff_ne,ne_eq]at R;obtain⟨R,q0⟩:=R;obtain⟨rfl,_⟩|⟨a,Z,i0,k0,w0,n,C,rfl,_,hb,A0,t0,x0,A,_⟩:=DataW.trod_slice q h
   ·exact⟨_,.sl t e [] q (by simp[maxLen]) (fun c p=>by cases p) (fun c p=>by cases p),O (.sl0 _ _ _) rfl⟩
   ·injection C with C;subst C
    have z:∀i,i<Z→∃as,(cZ P e as∧as.length=P.cellsOf e)∧∃vs,w.cells? base (a.add (i*P.cellsOf e)) (P.cellsOf e)=some vs∧Cells iP w bA as vs:=fun i r=>by
     have G:=A i r;rw[h6 (by omega)]at G;cases p:w.cells? base (a.add (i*P.cellsOf e)) (P.cellsOf e) with
     | none=>rw[p]at G;cases G
     | some vs =>
      rw[p]at G;obtain⟨as,S,T⟩:=ih e vs _ R G;exact⟨as,⟨S,by rw[T.len];exact(World.cells?_some p).2.1⟩,vs,rfl,T⟩
    obtain⟨l,b0,J⟩:=BR Z z;refine⟨[.sl l],.sl t e l q (by omega) (fun c p=>?_) (fun c p=>?_),O ?_ rfl⟩
    ·obtain⟨i,r,rfl⟩:=agi.1 p;exact(J i _ (h6 r)).1.2
    ·obtain⟨i,r,rfl⟩:=agi.1 p;exact(J i _ (h6 r)).1.1
    ·by_cases h0:l=[]
     ·subst h0;have:Z=0:=by simpa using b0.symm
      subst this;exact .sl0 _ _ _
     ·by_cases hz:P.cellsOf e=0
      ·exact(q0 hz).elim
      ·have d0:0<l.length:=amn.2 h0;have y:∀j as,l[j]?=some as→∀i c,as[i]?=some c→∃v,w.cell? ((a.add (j*P.cellsOf e)).add i)=some v∧v.oneCell'=true∧Rel iP w bA c v:=fun j as hj i c p=>by
        obtain⟨⟨_,I⟩,vs,s0,a0⟩:=J j as hj;obtain⟨_,T,g3⟩:=World.cells?_some s0;have r:i<P.cellsOf e:=by rw[←I];exact(g7.1 p).1
        have hv:=h6 (l:=vs) (i:=i) (by omega);exact⟨_,(g3 i r).trans hv,a0.one _ (sj _),a0.rel i c _ p hv⟩
       obtain⟨F,X⟩:∃F,l[0]?=some F:=⟨_,h6 d0⟩;have y0:=(J 0 F X).1.2;obtain⟨c0,m0⟩:∃c0,F[0]?=some c0:=⟨_,h6 (by omega)⟩;obtain⟨v0,V,_,_⟩:=y 0 F X 0 c0 m0;have M:a.spot=none:=by
        have ea:(a.add (0*P.cellsOf e)).add 0=a:=by simp[Addr.add]
        rw[ea]at V;cases hs:a.spot with
        | none=>rfl
        | some s =>
         unfold World.cell? at V;split at V
         ·rw[hs]at V;simp at V
         ·cases V
       obtain⟨b,o,s⟩:=a;simp only at M;subst M;have l0:b<w.heap.size:=by
        have ea:((⟨b,o,none⟩:Addr).add (0*P.cellsOf e)).add 0=⟨b,o,none⟩:=by simp[Addr.add]
        rw[ea]at V;exact block_lt_of_cell V
       have f0:=Rel.sl (N:=iP) (w:=w) bA l b o i0 (P.cellsOf e) (fun j i=>match w.cell? ⟨b,o+j*P.cellsOf e+i,none⟩ with|some v=>(if v.oneCell'=true then v else .bool true)|none=>.bool true)
        (fun c p=>by
         obtain⟨i,r,rfl⟩:=agi.1 p;exact(J i _ (h6 r)).1.2) l0 (fun h=>h)
        (fun j i=>by split<;>(try split)<;>first|assumption|rfl)
        (fun j as hj i c p=>by
         obtain⟨v,S,T,_⟩:=y j as hj i c p;rw[af0,af0]at S;simp only[S,T,wl])
        (fun j as hj i c p=>by
         obtain⟨v,S,T,g3⟩:=y j as hj i c p;rw[af0,af0]at S;simp only[S,T,wl];exact g3) (by omega)
       rw[b0]at f0;exact f0
  ·rename_i Q q;simp only[g6,alQ,ll,T4]at R;obtain⟨g0,W⟩:=R;obtain⟨xs,n,C,_,hl,I,A⟩:=DataW.trod_struct q h;injection C with C;subst C
   have z:∀i,i<Q.size→∃as,∀f,Q[i]?=some f→cZ P f.type as∧Cells iP w bA as ((cs.drop f.offset).take (P.cellsOf f.type)):=fun i r=>by
    have D:=h8 (xs:=Q) r;have G:=A i _ D;rw[h6 (by omega)]at G;have Y:=W i r;rw[D]at Y;simp only[g6]at Y;obtain⟨as,S,T⟩:=ih _ _ _ Y.1 G;exact⟨as,fun f U=>by rw[D]at U;injection U with U;subst U;exact⟨S,T⟩⟩
   obtain⟨parts,E,L⟩:=BR Q.size z;refine⟨parts.flatten,.struct t Q parts q E (fun i f c C p=>(L i c p f C).1),?_⟩;have:=GD (N:=iP) (w:=w) (ι:=bA) (Q.toList.map fun f=>P.cellsOf f.type) parts cs 0 (by simp[E]) (by omega) (fun i c m p K=>by
    rw[th]at K;have r:i<Q.size:=by rw[←E];exact(g7.1 p).1
    have D:=h8 (xs:=Q) r;have p0:Q.toList[i]?=some Q[i]:=by simp
    rw[p0]at K;simp only[If,qv]at K;subst K;have Y:=W i r;rw[D]at Y;simp only[g6,alQ]at Y;have:=(L i c p _ D).2;rw[Y.2]at this;rw[z5,← amu];exact this)
   rw[Do,g0,Dk (by omega)]at this;exact this
  ·rename_i n e q;simp only[g6,alQ]at R;obtain⟨he,o0⟩:=R;obtain⟨xs,m,C,_,hl,I,A⟩:=DataW.trod_array q h;injection C with C;subst C
   have z:∀i,i<n→∃as,cZ P e as∧Cells iP w bA as ((cs.drop (i*P.cellsOf e)).take (P.cellsOf e)):=fun i r=>by
    have G:=A i r;rw[h6 (by omega)]at G;exact ih _ _ _ he G
   obtain⟨parts,E,L⟩:=BR n z;refine⟨parts.flatten,.array t e n parts q E (fun c p=>?_),?_⟩
   ·obtain⟨i,r,rfl⟩:=agi.1 p;exact(L i _ (h6 r)).1
   ·have:=GD (N:=iP) (w:=w) (ι:=bA) (List.replicate n (P.cellsOf e)) parts cs 0 (by simp[E]) (by simp;omega) (fun i c m p K=>by
     rw[al6]at K;split at K
     ·injection K with K;subst K
      rename_i r;have:=(L i c p).2;rw[z5,List.take_replicate,anp (by omega),ann];exact this
     ·cases K)
    rw[Do,ann,← o0,Dk (by omega)]at this;exact this
  grind
end
theorem ac3{N:Nat→Prop}{w:World}{as:b6}{v:Value}(h:Cells N w bA as v.cells.toList):(∃cs,v=.agg cs)∨∃a,as=[a]∧Rel N w bA a v:=by
 cases v with
 | agg cs=>grind
 | _ =>
  right
  match as,h.len with
  | [a],_=>exact⟨a,rfl,h.rel 0 a _ rfl rfl⟩
section
variable{P:Program}
theorem cZ.gen{t}{cs}(h:cZ P t cs):match P.underlying t with
  | some .bool=>∃b,cs=[.bool b]
  | some (.int k)=>∃n,cs=[.int k n]∧(Lit.int k n).wf=true
  | some .string=>∃s:ByteArray,cs=[.str s]∧s.size≤maxLen
  | some (.slice e)=>∃l,cs=[.sl l]∧l.length≤maxLen∧(∀c∈l,c.length=P.cellsOf e)∧∀c∈l,cZ P e c
  | some (.struct a)=>∃parts:List b6,cs=parts.flatten∧parts.length=a.size∧∀(i:Nat) f c,a[i]?=some f→parts[i]?=some c→cZ P f.type c
  | some (.array n e)=>∃parts:List b6,cs=parts.flatten∧parts.length=n∧∀c∈parts,cZ P e c
  | _=>False:=by
 cases h with
 | bool _ b h=>grind
 | int _ k n h o=>grind
 | str _ s h m=>grind
 | sl _ e l h d p j=>grind
 | struct _ a parts h d g=>grind
 | array _ e n parts h d g=>grind
theorem cZ.int_inv{t}{k}{cs}(a:P.underlying t=some (.int k))(h:cZ P t cs):∃n,cs=[.int k n]∧(Lit.int k n).wf=true:=by have:=h.gen;grind
theorem cZ.bool_inv{t}{cs}(a:P.underlying t=some .bool)(h:cZ P t cs):∃b,cs=[.bool b]:=by have:=h.gen;grind
theorem cZ.str_inv{t}{cs}(a:P.underlying t=some .string)(h:cZ P t cs):∃s:ByteArray,cs=[.str s]∧s.size≤maxLen:=by have:=h.gen;grind
theorem cZ.sl_inv{t e}{cs}(a:P.underlying t=some (.slice e))(h:cZ P t cs):∃l,cs=[.sl l]∧l.length≤maxLen∧(∀c∈l,c.length=P.cellsOf e)∧∀c∈l,cZ P e c:=by have:=h.gen;grind
inductive KA where
 | int (k:IntKind)
 | str
 | bool
def KA.fits:KA→AV→Prop
 | .int k,a=>∃n,a=.int k n∧(Lit.int k n).wf=true
 | .str,a=>∃s:ByteArray,a=.str s∧s.size≤maxLen
 | .bool,a=>∃b,a=.bool b
def m5:List KA→b6→Prop
 | [],[]=>True
 | k::b,a::as=>k.fits a∧m5 b as
 | _,_=>False
theorem m5.append:∀{a b} {x y},m5 a x→m5 b y→m5 (a++b) (x++y)
 | [],_,[],_,_,h=>h
 | [],_,_::_,_,h,_=>h.elim
 | _::_,_,[],_,h,_=>h.elim
 | k::c,_,a::as,_,h,g=>⟨h.1,m5.append h.2 g⟩
def t7(P:Program):Nat→TypeId→Option (List KA)
 | 0,_=>none
 | d+1,t=>match P.underlying t with
  | some .bool=>some [.bool]
  | some (.int k)=>some [.int k]
  | some .string=>some [.str]
  | some (.struct a)=>(a.toList.mapM fun f=>t7 P d f.type).map List.flatten
  | some (.array n e)=>(t7 P d e).map fun l=>(List.replicate n l).flatten
  | _=>none
theorem Fg:∀{a:List (List KA)} {parts:List b6},parts.length=a.length→(∀(i:Nat) b c,a[i]?=some b→parts[i]?=some c→m5 b c)→m5 a.flatten parts.flatten
 | [],[],_,_=>trivial
 | [],_::_,h,_=>by grind
 | _::_,[],h,_=>by grind
 | b::a,c::parts,h,g=>by
  exact(g 0 b c rfl rfl).append (Fg (by grind) (fun i ks' d e f=>g (i+1) ks' d (by grind) (by grind)))
theorem cZ.flat:∀{d:Nat} {t:TypeId} {cs:b6} {r:List KA},cZ P t cs→t7 P d t=some r→m5 r cs
 | 0,_,_,_,_,h=>by cases h
 | d+1,t,cs,r,h,a=>by
  have g:=h.gen;unfold t7 at a;split at a
  ·rename_i j;rw[j]at g;obtain⟨b,rfl⟩:=g;injection a with a;subst a;exact⟨⟨b,rfl⟩,trivial⟩
  ·rename_i k j;rw[j]at g;obtain⟨n,rfl,C⟩:=g;injection a with a;subst a;exact⟨⟨n,rfl,C⟩,trivial⟩
  ·rename_i j;rw[j]at g;obtain⟨s,rfl,B⟩:=g;injection a with a;subst a;exact⟨⟨s,rfl,B⟩,trivial⟩
  ·rename_i p j;rw[j]at g;obtain⟨parts,rfl,v,y⟩:=g;cases o:p.toList.mapM (fun f=>t7 P d f.type) with
   | none=>rw[o]at a;cases a
   | some D =>
    rw[o]at a;injection a with a;subst a
    have q:=mapM_some_length o;refine Fg (by rw[v,q];simp) (fun i r c m u=>?_);have A:i<p.size:=by rw[←v];exact(g7.1 u).1
    have w:=h8 (xs:=p) A;have x:p.toList[i]?=some p[i]:=by simp
    have z:=mapM_some_get o i p[i] x;rw[m]at z;exact(y i _ c w u).flat z
  ·rename_i n e j;rw[j]at g;obtain⟨parts,rfl,v,y⟩:=g;cases o:t7 P d e with
   | none=>rw[o]at a;cases a
   | some l =>
    rw[o]at a;injection a with a;subst a
    refine Fg (by simp[v]) (fun i r c m u=>?_);rw[al6]at m;split at m
    ·injection m with m;subst m
     exact(y c (jt u)).flat o
    ·cases m
  ·cases a
end
end Go.Proofs.YtocgkfoifehcbaaGreat
namespace Go.Proofs.YtocgkfoifehcbaaGreat
set_option linter.all false
open Go.RowKit
variable[FM]
def sr:Code→d4→Code
 | c,[]=>c
 | .seq a _,0::p=>sr a p
 | .seq _ b,_::p=>sr b p
 | .cond _ a _,0::p=>sr a p
 | .cond _ _ b,_::p=>sr b p
 | .block _ c,_::p=>sr c p
 | .loop c,_::p=>sr c p
 | c,_::_=>c
def cat(f:Func)(p:d4):Code:=match f.body with|some c=>sr c p|none=>.skip
def opsOf:Code→Array Oper
 | .region _ ops _=>ops
 | _ => #[]
def dr(f:Func)(p:d4):Array Oper:=opsOf (cat f p)
def aL(f:Func)(p:d4)(k:Nat):Oper:=((dr f p).toList.drop k).headD default
def aJ(f:Func)(p:d4)(k:Nat):List Oper:=(dr f p).toList.drop k
def vN(a:Array Oper)(s:AS)(j:Nat):Option Bool :=
 match a.toList[j]? with
 | some b=>match b.dst with
  | some d=>match look d s.t with
   | some (.bool v)=>some v
   | _=>none
  | none=>none
 | none=>none
def Ao(n:Nat)(s:AS)(o:Oper):Option AS:=match cQ n o.dst with|true=>some (s.put o.dst (.tup []))|false=>none
def DJ(a:Array Oper)(s:AS)(j:Nat):Bool :=
 match a.toList[j]? with
 | some b=>match b.dst with
  | some d=>match look d s.t with
   | some (.tup [])=>true
   | _=>false
  | none=>false
 | none=>false
theorem Pp{a}{s}{j}(h:DJ a s j=true):∃b d,a.toList[j]?=some b∧b.dst=some d∧look d s.t=some (.tup []):=by
 grind[DJ]
def mT(P:Program)(n:Nat)(a:Array Oper)(s:AS)(o:Oper):Option AS :=
 match o.guard with
 | none=>cd P n s o
 | some (j,b)=>match vN a s j with
  | some true=>match b with|true=>cd P n s { o with guard:=none }|false=>Ao n s o
  | some false=>match b with|false=>cd P n s { o with guard:=none }|true=>Ao n s o
  | none=>match DJ a s j with|true=>Ao n s o|false=>none
def oN(P:Program)(n:Nat)(a:Array Oper):Nat→List Oper→AS→Option (List Oper×AS)
 | 0,l,s=>some (l,s)
 | _+1,[],s=>some ([],s)
 | k+1,o::r,s=>match mT P n a s o with
  | some s'=>oN P n a k r s'
  | none=>none
theorem pE{a}{s}{j}{v}(h:vN a s j=some v):∃b d,a.toList[j]?=some b∧b.dst=some d∧look d s.t=some (.bool v):=by
 grind[vN]
section
variable{B:Cx}{Q:Exit→Act→World→Prop}{C:ck}{s:AS}
theorem JA{c:Array Oper}{o m:Oper}{r:List Oper}{s':AS}{j d:Nat}{b:Bool}{v:AV}(q:o.guard=some (j,b))(t:c.toList[j]?=some m)(p:m.dst=some d)(y:look d s.t=some v)(h:v=.bool (!b)∨v=.tup [])(e:Ao B.n s o=some s')(k:OT B Q C c r s'):OT B Q C c (o::r) s:=fun a w ι n=>by
 obtain⟨x,l,u⟩:=n.tmp d _ y;have g:c[j]?=some m:=by simpa using t
 have z:¬ Region.wanted o (yielded c a.tmps)=true:=by
  rcases h with rfl|rfl<;>cases u<;>cases b<;>simp[Region.wanted,q,yielded,g,p,l]
 unfold wpListIn;rw[io z];unfold Ao at e;split at e
 ·rename_i f;injection e with e;subst e
  exact⟨fun _ _=>trivial,k _ _ _ (n.put (ge f) (.tup _ _ [] rfl (fun i x v l _=>by simp at l)))⟩
 ·cases e
theorem NX{a:Array Oper}{o:Oper}{r:List Oper}{s':AS}(h:mT B.P B.n a s o=some s')(k:OT B Q C a r s'):OT B Q C a (o::r) s:=by
 unfold mT at h;split at h
 ·rename_i c;exact Jk c h k
 ·rename_i j b c;split at h
  ·rename_i i;obtain⟨l,d,e,f,g⟩:=pE i;cases b with
   | true=>exact s7 c e f g (Jk rfl h k)
   | false=>exact JA c e f g (.inl rfl) h k
  ·rename_i i;obtain⟨l,d,e,f,g⟩:=pE i
   grind[s7,Jk,JA]
  grind[Pp,JA]
theorem zS{a}:∀k l s {l'} {s'},oN B.P B.n a k l s=some (l',s')→OT B Q C a l' s'→OT B Q C a l s
 | 0,l,s,l',s',h,b=>by grind[oN]
 | k+1,[],s,l',s',h,b=>by grind[oN]
 | k+1,o::r,s,l',s',h,b=>by
  unfold oN at h;split at h
  ·rename_i d c;exact NX c (zS k r d h b)
  grind
theorem acE{a}{l r}{s'} o(b:l=o::r)(h:mT B.P B.n a s o=some s')(k:OT B Q C a r s'):OT B Q C a l s:=b ▸ NX h k
end
theorem ak8{P}{n}{a}{s s'}{o}(b:o.guard=none)(h:cd P n s o=some s'):mT P n a s o=some s':=by
 grind[mT]
theorem aaX{P}{n}{a}{s s'}{o}{j}{b}(c:o.guard=some (j,b))(d:vN a s j=some b)(h:cd P n s { o with guard:=none }=some s'):mT P n a s o=some s':=by
 grind[mT]
def cv(a:Array Oper)(s:AS)(o:Oper):Bool:=match o.guard with
 | none=>true
 | some (j,b)=>match vN a s j with
  | some v=>(match v,b with|true,true=>true|false,false=>true|_,_=>false)
  | none=>false
theorem akT{P}{n}{a}{s s'}{o}(c:cv a s o=true)(h:cd P n s o=some s'):mT P n a s o=some s':=by
 unfold cv at c;split at c
 ·grind[ak8]
 ·rename_i j b d;split at c
  ·refine aaX d (b:=b) ?_ h
   grind
  grind
def G9(P:Program)(n:Nat):ck→Exit→AS→Option (ck×Exit×AS)
 | .c .skip::C,.normal,s=>some (C,.normal,s)
 | .c (.seq x y)::C,.normal,s=>some (.c x :: .c y::C,.normal,s)
 | .c (.block id c)::C,.normal,s=>some (.c c :: .b id::C,.normal,s)
 | .b _::C,.normal,s=>some (C,.normal,s)
 | .c (.exit id)::C,.normal,s=>some (C,.exit id,s)
 | .c .ret::C,.normal,s=>some (C,.ret,s)
 | .c (.cond c x y)::C,.normal,s=>match s.ev c with
  | some (.bool true)=>some (.c x::C,.normal,s)
  | some (.bool false)=>some (.c y::C,.normal,s)
  | _=>none
 | .c (.region _ ops false)::C,.normal,s=>match oN P n ops 10000 ops.toList s with
  | some ([],s')=>some (C,.normal,s')
  | _=>none
 | .c _::C,.exit id,s=>some (C,.exit id,s)
 | .l _::C,.exit id,s=>some (C,.exit id,s)
 | .b a::C,.exit id,s=>match Nat.beq id a with
  | true=>some (C,.normal,s)
  | false=>some (C,.exit id,s)
 | .c _::C,.ret,s=>some (C,.ret,s)
 | .l _::C,.ret,s=>some (C,.ret,s)
 | .b _::C,.ret,s=>some (C,.ret,s)
 | _,_,_=>none
def rW(P:Program)(n:Nat):Nat→ck→Exit→AS→Option (ck×Exit×AS)
 | 0,C,e,s=>some (C,e,s)
 | k+1,C,e,s=>match G9 P n C e s with
  | some (ks',e',s')=>rW P n k ks' e' s'
  | none=>none
theorem afv{B:Cx}{Q:Exit→Act→World→Prop}{C:ck}{e:Exit}{s:AS}{ks':ck}{e':Exit}{s':AS}(h:G9 B.P B.n C e s=some (ks',e',s'))(a:VE B Q ks' e' s'):VE B Q C e s:=by
 unfold G9 at h;split at h
 case h_7 =>
  split at h
  ·rename_i c;simp only[qv,u4]at h;obtain⟨rfl,rfl,rfl⟩:=h;exact ai0 c a
  ·rename_i c;simp only[qv,u4]at h;obtain⟨rfl,rfl,rfl⟩:=h;exact alh c a
  ·cases h
 case h_8 =>
  split at h
  ·rename_i d;simp only[qv,u4]at h;obtain⟨rfl,rfl,rfl⟩:=h;exact LL (zS _ _ _ d (SW a))
  ·cases h
 case h_11 =>
  split at h
  ·rename_i b;have:=iO b;simp only[qv,u4]at h;obtain⟨rfl,rfl,rfl⟩:=h;subst this;exact ahN a
  ·rename_i b;simp only[qv,u4]at h;obtain⟨rfl,rfl,rfl⟩:=h;exact ab2 (fun e=>by subst e;rw[anq]at b;cases b) a
 all_goals (first|(simp only[qv,u4]at h;obtain⟨rfl,rfl,rfl⟩:=h;first|exact afw a|exact ZZ a|exact ajr a|exact ada a|exact YZ a|exact abT a|grind|exact ZQ a|grind|exact Ye a|exact ab9 a)|grind)
theorem Lo{B}{Q}:∀k C e s {ks'} {e'} {s'},rW B.P B.n k C e s=some (ks',e',s')→VE B Q ks' e' s'→VE B Q C e s:=by
 intro k
 induction k with
 | zero =>
  grind[rW]
 | succ k a =>
  grind[rW,afv]
def mI{α}(l:List (Nat×α)):d4→Option (List (Nat×α))
 | []=>some []
 | k::r=>match look k l,mI l r with|some v,some m=>some ((k,v)::m)|_,_=>none
def BX(u:d4):List ee→Bool
 | []=>true
 | (_,v)::r=>v.dg u&&BX u r
def DA(u:d4):List (Nat×b6)→Bool
 | []=>true
 | (k,v)::r=>ex u v&&u.contains k&&DA u r
def DH(u:d4):List (Nat×bZ)→Bool
 | []=>true
 | (k,_)::r=>u.contains k&&DH u r
def pins:d4→d4
 | []=>[]
 | k::r=>match Nat.ble 1000000 k with
  | true=>k::(k-1000000)::pins r
  | false=>pins r
theorem L0:∀{u:d4} {id:Nat},u.contains (cS id)=true→(pins u).contains (cS id)=true∧(pins u).contains id=true
 | [],_,h=>by cases h
 | k::r,id,h=>by
  simp only[List.contains_cons,zt,alQ]at h;unfold pins;rcases h with h|h
  ·subst h;have:Nat.ble 1000000 (cS id)=true:=by unfold cS;simp
   rw[this];simp[cS]
  ·have a:=L0 h
   grind
def s6:List ee→d4
 | []=>[]
 | (_,.sit id _ _ _)::r=>id::s6 r
 | _::r=>s6 r
def AS.pick(s:AS)(ts a rs:d4):Option AS :=
 match mI s.t ts,mI s.o a,mI s.r rs with
 | some t,some o,some r=>if (BX (a++rs++(s6 t++pins s.u)) t&&DA (a++rs++(s6 t++pins s.u)) o&&DH (a++rs++(s6 t++pins s.u)) r)=true then some ⟨t,o,r,a++rs++(s6 t++pins s.u)⟩ else none
 | _,_,_=>none
theorem RZ{u}{l}:∀{C} {m},mI l C=some m→BX u m=true→Da u l m
 | [],m,h,_=>by injection h with h;subst h;trivial
 | k::r,m,h,a=>by
  unfold mI at h;split at h
  ·rename_i v d b c;injection h with h;subst h
   simp only[BX,g6]at a;exact⟨b,a.1,RZ c a.2⟩
  grind
theorem Vg{u}{l}:∀{C} {m},mI l C=some m→DA u m=true→Ep u l m
 | [],m,h,_=>by injection h with h;subst h;trivial
 | k::r,m,h,a=>by
  unfold mI at h;split at h
  ·rename_i v d b c;injection h with h;subst h
   simp only[DA,g6]at a;exact⟨b,a.1.1,a.1.2,Vg c a.2⟩
  grind
theorem MI{u}{l}:∀{C} {m},mI l C=some m→DH u m=true→CC u l m
 | [],m,h,_=>by injection h with h;subst h;trivial
 | k::r,m,h,a=>by
  unfold mI at h;split at h
  ·rename_i v d b c;injection h with h;subst h
   simp only[DH,g6]at a;exact⟨b,a.1,MI c a.2⟩
  grind
theorem Uv{s s'}{ts f rs}(h:s.pick ts f rs=some s'):Sub s' s:=by
 unfold AS.pick at h;split at h
 ·rename_i t o r b c d;split at h
  ·rename_i a;injection h with h;subst h
   simp only[g6]at a;refine⟨RZ b a.1.1,Vg c a.1.2,MI d a.2,fun id e=>?_⟩
   grind[L0]
  grind
 grind
section
variable{B:Cx}{Q:Exit→Act→World→Prop}{C:ck}{s:AS}
def B0(P:Program)(n k:Nat)(ts b rs:d4)(C:ck)(e:Exit)(s:AS):Option (ck×Exit×AS) :=
 match rW P n k C e s with
 | some (ks',e',s')=>match s'.pick ts b rs with|some a=>some (ks',e',a)|none=>none
 | none=>none
theorem PT{e e'}{ks'}{s'} k ts d rs(h:B0 B.P B.n k ts d rs C e s=some (ks',e',s'))(c:VE B Q ks' e' s'):VE B Q C e s:=by
 unfold B0 at h;split at h
 ·rename_i g f i a;split at h
  ·rename_i j b;simp only[qv]at h;obtain⟨rfl,rfl,rfl⟩:=h;exact Lo _ _ _ _ a (NV _ (Uv b) c)
  grind
 grind
theorem aI.WE{a:Act}{w:World}{ι:Env}(h:aI B s a w ι){k}{v v'}(d:look k s.t=some v)(c:v=v'):aI B { s with t:=bj k v' s.t } a w ι:=by
 subst c;refine⟨⟨h.hs.below,h.hs.old,h.hs.use,h.hs.own,h.hs.inj,h.hs.ko,h.hs.kr,h.hs.objs,h.hs.arrs,h.hs.pin⟩,h.dfr,h.n,fun j y b=>?_⟩;simp only[cp]at b;by_cases e:j=k
 ·subst e;rw[iF rfl]at b;injection b with b;subst b;exact h.tmp j v d
 ·rw[io e]at b;exact h.tmp j y b
theorem YA{e} k{v v'}{b}(g:look k s.t=some v)(c:v=v')(f:bj k v' s.t=b)(h:VE B Q C e { s with t:=b }):VE B Q C e s:=fun a w ι d=>h a w ι (f ▸ d.WE g c)
theorem Ir{b}{l} k{v v'}{c}(g:look k s.t=some v)(d:v=v')(f:bj k v' s.t=c)(h:OT B Q C b l { s with t:=c }):OT B Q C b l s:=fun a w ι e=>h a w ι (f ▸ e.WE g d)
theorem Yp{e}{s'}(a:s=s')(h:VE B Q C e s'):VE B Q C e s:=a ▸ h
def LP(B:Cx)(Q:Exit→Act→World→Prop)(C:ck)(c:Code)(m:Nat)(s:AS):Prop:=∀a w ι,aI B s a w ι→Code.roundsIn FF 0 B.P c (Kw B.P Q C) m a w
abbrev kl(B:Cx)(Q:Exit→Act→World→Prop)(C:ck)(c:Code)(m:Nat):aq:=.l (Code.roundsIn FF 0 B.P c (Kw B.P Q C) m)
theorem o6{c b:Code}(m:Nat)(d:b=.loop c)(h:LP B Q C c m s):VE B Q (.c b::C) .normal s:=by
 subst d;exact fun a w ι e=>wpIn_loop_rounds m (h a w ι e)
theorem bq{c}{m}(h:VE B Q (.c c::kl B Q C c m::C) .normal s):LP B Q C c (m+1) s:=fun a w ι b=>h a w ι b
theorem bu{c}{m}(h:LP B Q C c m s):VE B Q (kl B Q C c m::C) .normal s:=fun a w ι b=>h a w ι b
end
theorem ao{α:Type}{c}{x y:Option α}{r}(h:(if c=true then x else y)=some r):(c=true∧x=some r)∨(c=false∧y=some r):=by
 grind
def aA{α:Type}(c:Bool)(x:Option α):Option α:=match c with|true=>x|false=>none
theorem aB{α}{c}{x:Option α}{r}(h:aA c x=some r):c=true∧x=some r:=by
 cases c
 ·cases h
 ·exact⟨rfl,h⟩
theorem aw{α β:Type}{x}{k:α→Option β}{r}(h:x.bind k=some r):∃y,x=some y∧k y=some r:=by
 cases x with
 | none=>grind
 | some y=>grind
def aa(n:Int):Int:=IntKind.wrap .i64 n
theorem Gc{α β:Type}(f:α→β)(L:List α) d{j}(h:j<L.length):(L.map f)[j]?=some (f (L.getD j d)):=by
 grind
def aU(i:Int)(n:Nat):Bool:=decide (0≤i)&&decide (i<n)
theorem bB{i}{n}(h:aU i n=true):0≤i∧i.toNat<n:=by
 grind[aU]
section
variable{P:Program}{n:Nat}{s:AS}{o:Oper}{α:Type}[Inhabited α]
theorem alc(enc b:α→b6)(L:List α)(i:Int)(T:TypeId)(x y:Operand)(d:Nat){sz:Nat}{e:TypeId}{kd:IntKind}(f:o.op=.indexAddr T x y)(g:o.dst=some d)(p:Nat.ble (d+1) n=true)(r:s.ev x=some (.sl (L.map enc)))(t:s.ev y=some (.int kd i))
  (k:oq P T=none) (q:g8 P T=some (e,sz)) (l:aU i L.length=true) (u:∀a,(enc a).length=sz) (m:∀a,enc a=b a):cd P n s o=some (s.put (some d) (.cptr (b (L.getD i.toNat default)))):=by
 obtain⟨h,j⟩:=bB l;have c:d<n:=hF p;unfold cd;rw[iF (by rw[g];simpa[cQ]using c)];simp only[f,r,t,uk,zK,iF h,k,q,Gc enc L default j,g,iF (u _)];rw[m]
theorem adb enc(L:List α) T x(d:Nat){e}(c:o.op=.call ⟨.builtin .len,#[x],#[T]⟩)(f:o.dst=some d)(b:Nat.ble (d+1) n=true)(h:s.ev x=some (.sl (L.map enc)))
  (g:g8 P T=some e):cd P n s o=some (s.put (some d) (.int .i64 L.length)):=by
 have a:d<n:=hF b
 grind[cd,cQ,pO,As]
theorem ah1(enc:α→b6)(L:List α)(T:TypeId)(x:Operand)(d:Nat){id sz:Nat}{e:TypeId×Nat}{et:TypeId}(c:o.op=.call ⟨.builtin .len,#[x],#[T]⟩)(f:o.dst=some d)(b:Nat.ble (d+1) n=true)(i:s.ev x=some (.ref id))(g:look id s.r=some ⟨et,sz,L.map enc⟩)
  (h:g8 P T=some e):cd P n s o=some (s.put (some d) (.int .i64 L.length)):=by
 have a:d<n:=hF b;unfold cd
 grind[cQ,pO,As]
theorem aiL(enc:α→b6)(L:List α)(i:Int)(T:TypeId)(x y:Operand)(d:Nat){id sz:Nat}{e et:TypeId}{kd:IntKind}(b:o.op=.indexAddr T x y)(c:o.dst=some d)(k:Nat.ble (d+1) n=true)(p:s.ev x=some (.ref id))(q:s.ev y=some (.int kd i))
  (l:look id s.r=some ⟨et,sz,L.map enc⟩) (h:oq P T=none) (m:g8 P T=some (e,sz)) (j:aU i L.length=true):cd P n s o=some (s.put (some d) (.eptr id sz i.toNat 0)):=by
 obtain⟨f,g⟩:=bB j;have a:d<n:=hF k;unfold cd;rw[iF (by rw[c];simpa[cQ]using a)];simp only[b,p,q,uk,zK,iF f,h,m,l,c,lp,g,anG,wl]
theorem XB(enc b:α→b6)(L:List α)(T:TypeId)(x:Operand)(d:Nat){id sz j off:Nat}{et:TypeId}{v:AV}(f:id<TG)(e:o.op=.load T x)(g:o.dst=some d)(l:Nat.ble (d+1) n=true)(p:s.ev x=some (.eptr id sz j off))
  (m:look id s.r=some ⟨et,sz,L.map enc⟩) (k:j<L.length) (i:∀a,enc a=b a) (h:jj P T ((b (L.getD j default)).drop off)=some v):cd P n s o=some (s.put (some d) v):=by
 have c:d<n:=hF l;rw[←i]at h;unfold cd;rw[iF (by rw[g];simpa[cQ]using c)];simp only[f,e,p,mP,AS.mem,m,wl,Gc enc L default k,g,h]
theorem XQ(enc b:α→b6)(L:List α)(new:α)(T:TypeId)(x y:Operand){id sz j off:Nat}{et:TypeId}{v:AV}{d:b6}(e:o.op=.store T x y)(g:o.dst=none)(q:s.ev x=some (.eptr id sz j off))(t:s.ev y=some v)
  (l:look id s.r=some ⟨et,sz,L.map enc⟩) (i:j<L.length) (p:kN v=some d) (u:cz P T=some d.length) (h:∀a,enc a=b a) (k:Nat.ble (off+d.length) (b (L.getD j default)).length=true) (m:ex [] d=true) (f:jG off d (b (L.getD j default))=b new) :
  cd P n s o=some { s with r:=bj id ⟨et,sz,(L.set j new).map enc⟩ s.r }:=by
 have c:=hF k;rw[←h]at c f;rw[←h]at f;unfold cd;rw[iF (by rw[g];rfl)];simp only[e,g,q,t,qB,l,p,Gc enc L default i,u,c,m,anG,wl,f,List.map_set]
def fits(n bytes:Nat):Bool:=decide (n≤maxLen)&&decide (n*bytes≤140737488355328)
theorem Lp{n b}(h:fits n b=true):n≤maxLen∧n*b≤140737488355328:=by grind[fits]
theorem Tn(enc:α→b6)(M:List α){sz}(b:∀a,(enc a).length=sz):(M.map enc).all (fun e=>e.length == sz)=true:=by
 grind
theorem aj5(enc:α→b6)(L M:List α)(T:TypeId)(x y:Operand)(d:Nat){id sz bytes:Nat}{et:TypeId}{new:List b6}{i:List ee}{h:List (Nat×b6)}(f:o.op=.call ⟨.builtin .append,#[x,y],#[T,T]⟩)(g:o.dst=some d)(q:Nat.ble (d+1) n=true)
  (z:s.ev x=some (.ref id)) (A:s.ev y=some (.sl new)) (b:new=M.map enc) (v:look id s.r=some ⟨et,sz,L.map enc⟩) (w:iJ P T=some (et,sz,bytes)) (B:∀a,(enc a).length=sz) (p:fits (L.length+M.length) bytes=true) (e:s.u.contains (cS id)=false)
  (l:dB id s.t=i) (m:eS id s.o=h):cd P n s o=some { t:=bj d (.ref id) i,o:=h,r:=bj id ⟨et,sz,(L++M).map enc⟩ s.r,u:=s.u }:=by
 have c:d<n:=hF q;obtain⟨j,k⟩:=Lp p;subst b;unfold cd;rw[iF (by rw[g];simpa[cQ]using c)];simp only[f,g,z,A,wl,AD,w,pM,Tn enc M B,v,e,lp,j,k,anG,l,m,Db]
theorem abv T T' x y(d:Nat){k}{a b}(f:o.op=.binOp .quo T x y T')(h:o.dst=some d)(e:Nat.ble (d+1) n=true)(i:s.ev x=some (.int k a))(j:s.ev y=some (.int k b))(g:(b != 0)=true):cd P n s o=some (s.put (some d) (.int k (k.wrap (a.tdiv b)))):=by
 have c:d<n:=hF e
 grind[cd,cQ,u0]
theorem ajG(T T':TypeId)(x y:Operand)(d:Nat){k:IntKind}{a b:Int}(f:o.op=.binOp .rem T x y T')(g:o.dst=some d)(i:Nat.ble (d+1) n=true)(j:s.ev x=some (.int k a))(l:s.ev y=some (.int k b))(h:(b != 0)=true):cd P n s o=some (s.put (some d) (.int k (a.tmod b))):=by
 have e:d<n:=hF i;have c:¬ b=0:=by simpa using h
 unfold cd;rw[iF (by rw[g];simpa[cQ]using e)];simp only[f,j,l,u0,c,anG,wl,g,not_false_eq_true]
theorem Zo(T T':TypeId)(x y:Operand)(d:Nat){a b:ByteArray}(f:o.op=.binOp .add T x y T')(h:o.dst=some d)(e:Nat.ble (d+1) n=true)(i:s.ev x=some (.str a))(j:s.ev y=some (.str b))(g:ur a b=true):cd P n s o=some (s.put (some d) (.str (a++b))):=by
 have c:d<n:=hF e;unfold cd
 grind[cQ,u0,lD,G1]
def cT(a b:Int)(n:Nat):Bool:=decide (0≤a)&&(decide (a≤b)&&decide (b≤n))
theorem kS(enc:α→b6)(L:List α)(a b:Int)(T:TypeId)(x:Operand)(lo l:Option Operand)(d:Nat){e:TypeId}{sz:Nat}(i:o.op=.slice T x lo l none)(j:o.dst=some d)(p:Nat.ble (d+1) n=true)(r:s.ev x=some (.sl (L.map enc)))
  (q:P.underlying T=some (.slice e)) (t:cz P e=some sz) (f:∀c,(enc c).length=sz) (m:∀k,k=L.length→lq s k lo l=some (a,b)) (g:cT a b L.length=true):cd P n s o=some (s.put (some d) (.sl ((List.drop a.toNat (List.take b.toNat L)).map enc))):=by
 have h:d<n:=hF p;simp only[cT,g6,ob]at g;unfold cd;rw[iF (by rw[j];simpa[cQ]using h)];simp only[i,lD,r,q,t,Tn enc L f,wl,kw,lp,m L.length rfl,g.1,g.2.1,g.2.2,anG,j];rw[anH,amu]
end
theorem Q0{P:Program}{n:Nat}{s:AS}{o:Oper}{α:Type}(enc:α→b6)(L:List α)(a b:Int)(T:TypeId)(x:Operand)(lo i:Option Operand)(d:Nat){id e sz:Nat}{et:TypeId}(g:o.op=.slice T x lo i none)(h:o.dst=some d)(l:Nat.ble (d+1) n=true)(q:s.ev x=some (.ref id))
  (m:look id s.r=some ⟨et,sz,L.map enc⟩) (p:P.underlying T=some (.slice e)) (r:cz P e=some sz) (j:∀k,k=L.length→lq s k lo i=some (a,b)) (c:cT a b L.length=true):cd P n s o=some (s.put (some d) (.sref id sz a.toNat (b.toNat-a.toNat))):=by
 have f:d<n:=hF l;simp only[cT,g6,ob]at c;unfold cd;rw[iF (by rw[h];simpa[cQ]using f)];simp only[g,lD,q,p,r,m,wl,kw,lp,j L.length rfl,c.1,c.2.1,c.2.2,anG,h]
theorem ji{α:Type}{L:List α}{i j}{x}(h:j<L.length):j<(L.set i x).length:=by grind
section
variable{B:Cx}{Q:Exit→Act→World→Prop}{C:ck}{s:AS}
theorem acX{e} k{b b'}(a:b=b')(c:look k s.t=some (.bool b))(h:VE B Q C e { s with t:=bj k (.bool b') s.t }):VE B Q C e s :=by grind[YA]
theorem Z0{a}{l} k{b b'}(c:b=b')(d:look k s.t=some (.bool b))(h:OT B Q C a l { s with t:=bj k (.bool b') s.t }):OT B Q C a l s :=by grind[Ir]
theorem aI.ZP{a:Act}{w:World}{ι:Env}(h:aI B s a w ι){k}{cs}(d:look k s.o=some cs):aI B { s with o:=bj k (cs.map jF) s.o } a w ι:=by
 refine⟨⟨h.hs.below,h.hs.old,h.hs.use,h.hs.own,h.hs.inj,fun i ds b=>?_,h.hs.kr,fun i ds b c=>?_,h.hs.arrs,h.hs.pin⟩,h.dfr,h.n,h.tmp⟩
 ·simp only[cp]at b;by_cases e:i=k
  ·subst e;exact h.hs.ko i cs d
  ·rw[io e]at b;exact h.hs.ko i ds b
 ·simp only[cp]at b;by_cases e:i=k
  ·subst e;rw[iF rfl]at b;injection b with b;subst b
   obtain⟨g,T,vs,f,j,l⟩:=h.hs.objs i cs d c;exact⟨g,T,vs,f,j,l.pz⟩
  ·rw[io e]at b;exact h.hs.objs i ds b c
theorem ahY{e} k{cs}(c:look k s.o=some cs)(h:VE B Q C e { s with o:=bj k (cs.map jF) s.o }):VE B Q C e s:=fun a w ι b=>h a w ι (b.ZP c)
def eG(s:AS)(o:Oper):Option (FuncId×b6) :=
 match o.op with
 | .call c=>match c.callee with
  | .value a=>match s.ev a,dA s c.args.toList with
   | some (.fn f aV),some l=>match ex [] l with
    | true=>some (f,l.map iu++aV)
    | false=>none
   | _,_=>none
  | _=>none
 | _=>none
theorem Sr{a}{r} o(g:o.guard=none){f}{args}{V}(c:eG s o=some (f,args))(e:cQ B.n o.dst=true)(b:cN B.P f=true)(d:aZ B.P f args (fun v _=>v=V))(h:V.dg []=true)(k:OT B Q C a r (s.put o.dst V)):OT B Q C a (o::r) s:=by
 grind[eG,acW]
theorem OE{a:Array Oper}{l r:List Oper}(o:Oper){f:FuncId}{args:b6}{V:AV}(w:l=o::r)(g:cv a s o=true)(n:aZ B.P f args (fun v _=>v=V))(c:cN B.P f=true)(m:eG s o=some (f,args))(e:(cQ B.n o.dst&&V.dg [])=true)(k:OT B Q C a r (s.put o.dst V)):OT B Q C a l s:=by
 subst w;simp only[g6]at e;unfold cv at g;split at g
 ·rename_i h;exact Sr o h m e.1 c n e.2 k
 ·rename_i j b h;split at g
  ·rename_i v i;obtain⟨x,d,p,q,t⟩:=pE i;have u:v=b:=by cases v<;>cases b<;>simp at g⊢
   subst u;exact s7 h p q t (Sr { o with guard:=none } rfl m e.1 c n e.2 k)
  grind
end
section
variable{B:Cx}{Q:Exit→Act→World→Prop}{C:ck}{s:AS}
theorem U9{p:Array Oper}{r:List Oper}(o:Oper)(hg:o.guard=none){f:FuncId}{args:b6}{V:AV}(id d:Nat){ar:bZ}(g:eG s o=some (f,args))(hd:cQ B.n o.dst=true)(I:cN B.P f=true)
  (hc:aZ B.P f args (fun v U=>v=V∧look id U.r=some ar)) (a0:V.dg []=false) (S:has s.u d=false) (t:∀(N:Nat→Prop) w ι x,Rel N w ι V x→∃y,ι id=some y)
  (k:OT B Q C p r (({ s with r:=bj d ar s.r,u:=d::s.u }:AS).put o.dst (V.gp id d))) (P:Nat.ble (id+1) TG=true):OT B Q C p (o::r) s:=by
 unfold eG at g;split at g
 ·rename_i c L;split at g
  ·rename_i fo q;split at g
   ·rename_i f' aV l hf hl;split at g
    ·rename_i hu;injection g with g;injection g with W X;subst W;subst X
     intro a w ι n;refine v9 hg fun K Z=>?_;refine dK ?_;obtain⟨ys,M,G,H⟩:=ld n L q hf I;rw[M,iL];refine (hc (NN B.M ι) w _ (fun b i=>mq n.hs i) (xn n hl hu G H)).mono ?_
     rintro e w' ⟨x,v,U,ι1,rfl,⟨rfl,j⟩,h,T⟩
     obtain⟨y,R⟩:=t _ _ _ _ T;obtain⟨O,F⟩:=n.hs.import h (hF P) R j S;have J:=n.hs.free S;have Y:Rel (NN B.M (ext ι d y)) w' (ext ι d y) (v.gp id d) x:=T.gp F (fun z D=>by rw[R]at D;injection D with D;subst D;exact cH _ _ _);have A:aI B { s with r:=bj d ar s.r,u:=d::s.u } a w' (ext ι d y) :=
      n.world O rfl h.below.plain.size (fun b m i=>by
       rcases gJ i with i|i
       ·exact i
       ·rcases (h.own id b (by rw[R];exact i)).1 with E|E;exact absurd m (afl.2 E);exact E.elim) (fun b m _=>h.below.plain.block b m) (fa J y)
     exact Z _ _ (k _ _ _ (A.put (ge hd) Y))
    ·cases g
   ·cases g
  ·cases g
 ·cases g
theorem fk id:∀N w ι x,Rel N w ι (.ref id) x→∃y,ι id=some y:=by
 intro N w ι x h;cases h with|ref _ _ A n c h=>grind
theorem Du{id}{i:Nat}{cs}(b:cs[i]?=some (.ref id)):∀N w ι x,Rel N w ι (.tup cs) x→∃y,ι id=some y:=by
 intro N w ι x h;cases h with
 | tup _ _ vs d c =>
  have a:i<vs.length:=by grind
  exact fk id N w ι _ (c i _ _ b (h6 a))
theorem ahX{e:Array Oper}{l r:List Oper}(o:Oper)(id a:Nat){f:FuncId}{args:b6}{V V':AV}{ar:bZ}(H:l=o::r)(h:cv e s o=true)(t:aZ B.P f args (fun v J=>v=V∧look id J.r=some ar))(g:cN B.P f=true)
  (c:∀(N:Nat→Prop) w ι x,Rel N w ι V x→∃y,ι id=some y) (q:eG s o=some (f,args)) (z:cQ B.n o.dst=true) (i:V.dg []=false) (A:has s.u a=false) (I:V.gp id a=V')
  (k:OT B Q C e r (({ s with r:=bj a ar s.r,u:=a::s.u }:AS).put o.dst V')) (m:Nat.ble (id+1) TG=true:=by kernel_rfl):OT B Q C e l s:=by
 subst H;subst I;unfold cv at h;split at h
 ·rename_i n;exact U9 o n id a q z g t i A c k m
 ·rename_i j b n;split at h
  ·rename_i v p;obtain⟨K,d,D,E,F⟩:=pE p;have G:v=b:=by cases v<;>cases b<;>simp at h⊢
   subst G;exact s7 n D E F (U9 { o with guard:=none } rfl id a q z g t i A c k m)
  ·cases h
end
theorem aZ.cA{P}{f}{args}{V V'}{id}{ar}(p:aZ P f args (fun v s=>v=V∧look id s.r=some ar))(q:V.cA id ar.l=V')(a:Nat.ble (id+1) TG=true:=by kernel_rfl):aZ P f args (fun v _=>v=V'):=fun M w xs l m =>
 (p M w xs l m).mono fun _ _ ⟨x,v,s,ι,h,⟨j,e⟩,g,k⟩=>by
  subst j;subst q;refine⟨x,v.cA id ar.l,s.cA id ar.l,gg ι id,h,rfl,g.cA (hF a) e rfl,?_⟩;exact k.cA (fun b o=>lB b o) (fun i d=>fM _ d) (fun A n c d=>g.rK (hF a) e A n c d _)
open Classical in
section
variable{B:Cx}{Q:Exit→Act→World→Prop}{C:ck}{s:AS}
def zJ:BinOp→Bool
 | .eql|.neq=>true
 | _=>false
def vh:BinOp→Bool
 | .neq=>true
 | _=>false
theorem Sb{f:Array Oper}{l r:List Oper}(o:Oper)(op:BinOp)(T T':TypeId)(x y:Operand)(d:Nat)(L:List b6){e:TypeId}(hl:l=o::r)(i:cv f s o=true)(g:o.op=.binOp op T x y T')(E:o.dst=some d)(hn:Nat.ble (d+1) B.n=true)
  (hx:s.ev x=some (.sl L)) (hy:s.ev y=some .nils) (u:((zJ op&&(match B.P.underlying T with|some (.slice _)=>true|_=>false))=true)) (ka:L=[]→OT B Q C f r (s.put (some d) (.bool (!vh op)))) (Y:OT B Q C f r (s.put (some d) (.bool (vh op)))):OT B Q C f l s:=by
 subst hl;have J:d<B.n:=hF hn;have key:∀(o:Oper),o.guard=none→o.op=.binOp op T x y T'→o.dst=some d→OT B Q C f (o::r) s:=by
  intro o i g E a w ι M;refine v9 i fun K I=>?_;refine dK ?_;simp only[g6]at u;obtain⟨p,u⟩:=u;split at u
  case h_2=>cases u
  rename_i et N;have z:=M.ev hx;have D:=M.ev hy;have P:a.eval y=.slice none 0 0:=by cases h':a.eval y<;>rw[h']at D<;>cases D;rfl
  have run:∀(A:Option Addr) (n c:Nat),a.eval x=.slice A n c→(execOp a.eval o).run B.P w=.ok (.value (.bool (if A.isNone=true then !vh op else vh op))) w:=by
   intro A n c hA;have R:∀{q:BinOp},q=.eql∨q=.neq→(eqGuard q T x y (.slice A n c) (.slice none 0 0)).run B.P w=.ok () w:=by
    intro q hq;rcases hq with rfl|rfl<;>simp[eqGuard]
   have S:(Op.equalIn 10000 T (.slice A n c) (.slice none 0 0)).run B.P w=.ok A.isNone w:=by
    unfold Op.equalIn;rw[n4,ls N w];cases A<;>rfl
   unfold execOp;rw[g];simp only[hA,P,n4];cases op<;>simp[zJ]at p
   ·have G:binOp .eql T (.slice A n c) (.slice none 0 0)=(do pure (.bool (← Op.equalIn 10000 T (.slice A n c) (.slice none 0 0)))):=rfl;rw[R (.inl rfl),G];simp only[pt,n4,S,By,vh];cases A<;>rfl
   ·have G:binOp .neq T (.slice A n c) (.slice none 0 0)=(do pure (.bool (!(← Op.equalIn 10000 T (.slice A n c) (.slice none 0 0))))):=rfl;rw[R (.inr rfl),G];simp only[pt,n4,S,By,vh];cases A<;>rfl
  have h:∀b,OT B Q C f r (s.put (some d) (.bool b))→(execOp a.eval o).run B.P w=.ok (.value (.bool b)) w→wpListIn FF 0 B.P f (Kw B.P Q C) r (a.put o.dst (.bool b)) w:=fun b m _=>by
   rw[E];exact m _ _ _ (M.put (fun k m=>by injection m with m;subst m;exact J) (.bool _ _))
  generalize U:a.eval x=X at z;cases z with
  | sl0 _ A c =>
   have F:=run A 0 c U;rw[F];cases A with
   | none=>exact I _ _ (h _ (by simpa using ka rfl) F)
   | some _=>exact I _ _ (h _ (by simpa using Y) F)
  | sl _ _ b o c sz a0 hz V hN h1 hc F W =>
   have t:=run _ _ _ U;rw[t];exact I _ _ (h _ (by simpa using Y) t)
 unfold cv at i;split at i
 ·rename_i H;exact key o H g E
 ·rename_i j b H;split at i
  ·rename_i v O;obtain⟨og,d',Z,g2,g3⟩:=pE O;have V:v=b:=by cases v<;>cases b<;>simp at i⊢
   subst V;exact s7 H Z g2 g3 (key { o with guard:=none } rfl g E)
  ·cases i
end
def ak(k:IntKind)(x:Int):b6:=[.int k x]
def abt(x:Bool):b6:=[.bool x]
def aih(x:ByteArray):b6:=[.str x]
def tS{α:Type}(f:α→b6)(x:List α):b6:=[.sl (x.map f)]
structure V1(α:Type) where
 a0:α
structure V2(α:Type) where
 a0:α
 a1:α
structure V4(α:Type) where
 a0:α
 a1:α
 a2:α
 a3:α
instance{α:Type}[Inhabited α]:Inhabited (V2 α):=⟨⟨default,default⟩⟩
instance{α:Type}[Inhabited α]:Inhabited (V4 α):=⟨⟨default,default,default,default⟩⟩
def ly{α:Type}(f:α→b6)(x:V4 α):b6:=f x.a0++(f x.a1++(f x.a2++f x.a3))
end Go.Proofs.YtocgkfoifehcbaaGreat
namespace Go.Proofs.YtocgkfoifehcbaaGreat
set_option linter.all false
open Go.RowKit
variable[FM]
def vC:List Oper→List Tag→Nat→Bool
 | o::r,t::ts,k=>(t.fF&&(match o.dst with|some d=>Nat.beq d k|none=>false))||vC r ts k
 | _,_,_=>false
theorem T8:∀{l:List Oper} {ts:List Tag} {k:Nat},vC l ts k=true→∃(i:Nat) (o:Oper) (e:Tag),l[i]?=some o∧ts[i]?=some e∧e.fF=true∧o.dst=some k
 | [],_,_,h=>by simp[vC]at h
 | _::_,[],_,h=>by simp[vC]at h
 | o::r,t::ts,k,h=>by
  simp only[vC,zt,g6]at h;rcases h with⟨j,f⟩|h
  ·cases g:o.dst with
   | none=>grind
   | some d =>
    rw[g]at f;have:=iO f;subst this;exact⟨0,o,t,rfl,rfl,j,g⟩
  ·obtain⟨i,m,e,a,b,c,d⟩:=T8 h;exact⟨i+1,m,e,by grind,by grind,c,d⟩
def mu(l:List Oper)(ts:List Tag):List ee→Bool
 | []=>true
 | p::r=>vC l ts p.1&&mu l ts r
theorem KY{l}{ts}:∀{b},mu l ts b=true→∀p∈b,∃(i:Nat) (o:Oper) (c:Tag),l[i]?=some o∧ts[i]?=some c∧c.fF=true∧o.dst=some p.1
 | [],_,p,a=>by grind
 | q::r,h,p,a=>by
  simp only[mu,g6]at h;rcases l3.1 a with rfl|a
  ·grind[T8]
  ·exact KY h.2 p a
def jx{α:Type}(u:d4):List (Nat×α)→Bool
 | []=>true
 | (k,_)::r=>!has u k&&jx u r
theorem GV{α}{u}:∀{l:List (Nat×α)},jx u l=true→fresh u l
 | [],_=>trivial
 | (k,x)::r,h=>by
  simp only[jx,g6,BY]at h;exact⟨h.1,GV h.2⟩
theorem AR{P:Program}{n:Nat}{ops:Array Oper}{l:AS}(b:List Tag)(K:Nat)(O:List ee)(y:List (Nat×b6))(rl:List (Nat×bZ))(F:ek)
  (E:mu ops.toList b O=true) (M:jx l.u y=true) (D:jx l.u rl=true) (r:nth F 0=ir l O y rl) (X:fe P n l ops b K F ops.toList b):lX P n l ops b K (nth F):=by
 have Z:=GV M;have J:=GV D;have B:∀(i:Nat) (o:Oper) (t:Tag),ops[i]?=some o→b[i]?=some t→fK P n l ops b K F o t:=fun i o t s u=>Mu X i o t (by simpa using s) u;refine⟨fun i o m s u=>?_,fun i o lo k s u j c f=>ra (B i o _ s u) j c f,fun i o lo k s u j c f=>?_,fun i o lo k s u=>?_,fun i o lo k s u=>?_,fun i o lo k s u=>?_,fun id a q=>?_,fun id a q=>?_,fun id cs q=>?_,fun id q=>?_,fun id cs q=>?_,fun t v Q=>?_⟩
 ·obtain⟨G,C|C|⟨s',L,C,g,z⟩⟩:=B i o _ s u
  ·exact⟨G,.inl C⟩
  ·exact⟨G,.inr ⟨_,C,rfl,rfl,rfl,fun t v h=>.inl h⟩⟩
  ·refine⟨G,.inr ⟨s',C,by rw[←g];rfl,by rw[←g];rfl,by rw[←g];rfl,fun t v h=>?_⟩⟩;rw[←g]at h;rcases qx L s'.t t v h with⟨p,x,e⟩|h
   ·obtain⟨i0,o0,R,q1,q2,q3,q4,q5⟩:=N4 (ll.1 z p x);exact .inr ⟨i0,o0,R,by simpa using q1,q2,q3,e ▸ q4,q5⟩
   ·exact .inl h
 ·have:=ra (B i o _ s u) j c f;exact⟨this.1,Ym this.2⟩
 ·have g:=B i o _ s u;obtain⟨z,w⟩:=g;unfold Fk at w;split at w
  ·rename_i T N;split at w
   ·rename_i d cs I hz;exact⟨T,d,cs,z,N,I,w.1,w.2.1,hz,fun j c f=>ra w.2.2 j c f⟩
   ·cases w
  ·cases w
 ·obtain⟨z,w,H⟩:=B i o _ s u;refine⟨fun j c f=>⟨ra w j c f,z⟩,fun d j I hj=>?_⟩;have:=ra H j (n3 _) (by omega);unfold H4 at this;rw[I]at this;exact this
 ·obtain⟨d,z,w,H,Y⟩:=B i o _ s u;exact⟨d,z,w,H,fun j c f=>ra Y j c f⟩
 ·rw[r]at q;rcases qx rl l.r id a q with⟨p,x,rfl⟩|g
  ·exact .inr (Le J p x)
  ·exact .inl g
 ·rw[r]at q⊢;show has (rl.map (·.1)++(y.map (·.1)++l.u)) id=true∨_;have A:look id (ij rl l.r)=some a:=q;rcases qx rl l.r id a A with⟨p,x,rfl⟩|g
  ·refine .inl (fJ ?_);simp only[amB,kb,u6];exact .inl ⟨p,x,rfl⟩
  ·exact .inr g
 ·rw[r]at q;rcases qx y l.o id cs q with⟨p,x,rfl⟩|g
  ·exact .inr (Le Z p x)
  ·exact .inl g
 ·rw[r];show(rl.map (·.1)++(y.map (·.1)++l.u)).contains id=true;simp only[amB,kb]at q⊢;exact .inr (.inr q)
 ·rw[r]at q⊢;show has (rl.map (·.1)++(y.map (·.1)++l.u)) id=true∨_;have A:look id (ij y l.o)=some cs:=q;rcases qx y l.o id cs A with⟨p,x,rfl⟩|g
  ·refine .inl (fJ ?_);simp only[amB,kb,u6];exact .inr (.inl ⟨p,x,rfl⟩)
  ·exact .inr g
 ·rw[r]at Q;rcases qx O l.t t v Q with⟨p,x,rfl⟩|g
  ·obtain⟨i,o,tg,S,U,V,W⟩:=KY E p x;exact .inl ⟨i,o,tg,by simpa using S,U,V,W⟩
  ·exact .inr g
theorem aiB{b}{Q}{o}{id}{c}{ops}{f sK} a K l i rl g
  (q:c=.region id ops true) (s:b.P.follows .mixedOrders=true) (n:xB ops a K=true) (m:nK a K=true) (e:mu ops.toList a l=true) (k:jx f.u i=true) (d:jx f.u rl=true)
  (j:nth g 0=ir f l i rl) (p:fe b.P b.n f ops a K g ops.toList a) (r:nth g K=sK) (h:VE b Q o .normal sK):VE b Q (.c c::o) .normal f:=by
 subst q;have t:=W7 n m;exact acv (nth g) a K s t (aaG n m) (AR a K l i rl g e k d j p) (r ▸ h)
theorem adi{e}{Q}{l}{id}{c}{ops}{b} a K i d rl k
  (n:c=.region id ops true) (p:e.P.follows .mixedOrders=true) (q:xB ops a K=true) (o:nK a K=true) (g:mu ops.toList a i=true) (j:jx b.u d=true) (f:jx b.u rl=true)
  (m:fe e.P e.n b ops a K (ir b i d rl::k) ops.toList a) (h:VE e Q l .normal (nth (ir b i d rl::k) K)):VE e Q (.c c::l) .normal b :=
 aiB a K i d rl (ir b i d rl::k) n p q o g j f rfl m rfl h
section
variable{P:Program}{n:Nat}{i:AS}{a:Array Oper}{u:List Tag}{K:Nat}{g:ek}
theorem adE{l r}{o}{t}{ts}(c:l=o::r)(h:fK P n i a u K g o t)(b:fe P n i a u K g r ts):fe P n i a u K g l (t::ts):=by
 subst c;exact⟨h,b⟩
theorem ai3{l}(b:l=[]):fe P n i a u K g l []:=by subst b;trivial
theorem fG{lo}{p}:eK lo 0 p:=trivial
theorem di{lo k}{p}(h:p lo)(a:eK (lo+1) k p):eK lo (k+1) p:=⟨h,a⟩
theorem Ei{s}{o}(h:cv a s o=true):iw a s true o.guard:=by
 grind[cv,iw,pE]
def CJ(a:Array Oper)(s:AS)(o:Oper):Bool:=match o.guard with
 | none=>false
 | some (j,b)=>match vN a s j with
  | some v=>(match v,b with|true,false=>true|false,true=>true|_,_=>false)
  | none=>DJ a s j
theorem adu{s}{o}(h:CJ a s o=true):iw a s false o.guard∧o.guard≠none:=by
 grind[CJ,iw,pE,Pp]
theorem W1{o:Oper}{m:Nat}(b:o.guard.isNone=true)(h:cd P n (nth g m) o=some (nth g (m+1))):fK P n i a u K g o (.s (m+1)):=⟨by rw[show o.guard=none by simpa using b];rfl,.inl h⟩
theorem fv{o}{lo k}(h:eK lo k fun j=>cv a (nth g j) o=true∧cd P n (nth g j) o=some (nth g j)):fK P n i a u K g o (.v lo k):=by
 revert lo
 induction k with
 | zero=>intro lo _;trivial
 | succ k b=>intro lo h;exact⟨⟨Ei h.1.1,h.1.2⟩,b h.2⟩
theorem k_c{o:Oper}{lo k:Nat}{f:FuncId}{args:b6}(V:AV)(w:aZ P f args (fun v _=>v=V))(m:cN P f=true)(B:V.dg []=true)(d:Nat)(x:o.dst=some d)(p:Nat.ble (d+1) n=true)
  (h:eK lo k fun j=>cv a (nth g j) o=true∧eG (nth g j) o=some (f,args)∧look d (nth g j).t=some V):fK P n i a u K g o (.c lo k):=by
 show eK lo k _;revert lo
 induction k with
 | zero=>intro lo _;trivial
 | succ k C =>
  intro lo h;refine⟨⟨Ei h.1.1,.inl ?_⟩,C h.2⟩;obtain⟨_,b,t⟩:=h.1;unfold eG at b;unfold BN;split at b
  ·rename_i c q;split at b
   ·rename_i E e;split at b
    ·rename_i D aV l y z;split at b
     ·rename_i A;injection b with b;injection b with r s;subst r
      simp only[q,e,y,z,x,t];exact⟨hF p,A,B,m,s ▸ w⟩
     ·cases b
    ·cases b
   ·cases b
  ·cases b
theorem k_a{o:Oper}{lo k} T(d:Nat) cs(m:o.guard.isNone=true)(c:o.op=.alloc T)(e:o.dst=some d)(b:Nat.ble (d+1) (min n 450000)=true)(l:fE P T=some cs)(f:has i.u d=false)
  (h:eK lo k fun j=>look d (nth g j).o=some cs∧look d (nth g j).r=none∧look d (nth g j).t=some (.ptr d 0)∧has (nth g j).u d=true):fK P n i a u K g o (.a lo k):=by
 refine⟨by simp_all,?_⟩;unfold Fk;rw[c];simp only[e,l];exact⟨hF b,f,h⟩
theorem zr{p q}(a:∀j,p j→q j):∀{k lo},eK lo k p→eK lo k q
 | 0,_,_=>trivial
 | _+1,_,h=>⟨a _ h.1,zr a h.2⟩
theorem k_o{o:Oper}{lo k:Nat}{f:FuncId}{args:b6}(V:AV){id:Nat}{ar:bZ}(d:Nat)(s:Nat.ble (id+1) TG=true)(D:aZ P f args (fun v H=>v=V∧look id H.r=some ar))(p:cN P f=true)(m:∀(N:Nat→Prop) w ι x,Rel N w ι V x→∃y,ι id=some y)
  (E:o.dst=some d) (q:Nat.ble (d+1) n=true) (t:has i.u d=false)
  (h:eK lo k fun j=>cv a (nth g j) o=true∧eG (nth g j) o=some (f,args)∧look d (nth g j).t=some (V.gp id d)∧look d (nth g j).r=some ar∧look d (nth g j).o=none∧has (nth g j).u d=true):fK P n i a u K g o (.o lo k):=by
 refine⟨d,E,hF q,t,zr (fun j z=>⟨Ei z.1,?_⟩) h⟩;obtain⟨_,b,C⟩:=z;unfold eG at b;unfold AY;split at b
 ·rename_i c r;split at b
  ·rename_i J e;split at b
   ·rename_i I aV l F G;split at b
    ·rename_i t;injection b with b;injection b with A B;subst A
     simp only[r,e];exact⟨_,aV,l,V,id,ar,hF s,F,G,t,p,B ▸ D,m,C⟩
    ·cases b
   ·cases b
  ·cases b
 ·cases b
theorem YX{o:Oper}{lo k:Nat}(m:o.guard.isSome=true)(h:eK lo k fun j=>CJ a (nth g j) o=true)(f:eK 0 (K+1) fun j=>(match o.dst with|some d=>(match look d (nth g j).t with|none=>true|some (.tup [])=>Nat.ble (d+1) n|_=>false)|none=>true)=true):fK P n i a u K g o (.off lo k):=by
 refine⟨fun e=>(by grind),zr (fun j b=>(adu b).1) h,zr (fun j b=>?_) f⟩;unfold H4;cases l:o.dst with
 | none=>grind
 | some d =>
  rw[l]at b;simp only[]at b⊢;split at b
  ·grind
  ·rename_i c;exact .inr ⟨c,hF b⟩
  grind
theorem dp{s}{o}{s'}(h:cd P n s o=some s')(a:s'=s):cd P n s o=some s:=by grind
theorem aee{s}{o}(d:Nat){e b}(a:e=b)(h:cd P n s o=some (s.put (some d) (.bool e)))(c:s.put (some d) (.bool b)=s):cd P n s o=some s:=by grind
end
end Go.Proofs.YtocgkfoifehcbaaGreat
namespace Go.Proofs.YtocgkfoifehcbaaGreat
set_option linter.all false
open Go.RowKit
variable[FM]
theorem HS.xV{M:Nat→Prop}{Q:az}{w:World}{ι:Env}{s:AS}(h:HS M Q w ι s){d:Nat}(T:has s.u d=false){e:TypeId}{sz n:Nat}{l:List b6}{vs:d5}(E:l.length=n)(hm:n≤maxLen)(z:vs.length=n*sz)(hz:∀c∈l,c.length=sz)(D:∀v∈vs,v.oneCell'=true)
  (hc:∀(j:Nat) (c:b6),l[j]?=some c→∀(i:Nat) (x:AV),c[i]?=some x→∃v,vs[j*sz+i]?=some v∧Rel (NN M ι) w bA x v) :
  HS M Q (w.alloc (.cells vs.toArray e)) (ext ι d (.slice (some ⟨w.heap.size,0,none⟩) n n)) { s with r:=bj d ⟨e,sz,l⟩ s.r,u:=d::s.u }:=by
 have N:=h.free T;have A:Q.w.heap.size≤w.heap.size:=h.below.size;have G:∀b,b<w.heap.size→¬ NN M ι b→(w.alloc (.cells vs.toArray e)).heap[b]?=w.heap[b]?:=fun b S _=>mm _ _ _ S;have I:∀b,b<w.heap.size→NN M (ext ι d (.slice (some ⟨w.heap.size,0,none⟩) n n)) b→NN M ι b:=fun b S q=>by
  rcases gJ q with q|q
  ·exact q
  ·injection q with q;simp only[]at q;omega
 have K:=fa N (.slice (some ⟨w.heap.size,0,none⟩) n n);refine⟨h.below.alloc A _,h.old,fun i y U=>?_,fun i g m=>?_,fun i F g m f=>?_,fun i cs o=>dN (h.ko i cs o),fun i a o=>?_,fun i cs o p=>?_,fun i a o p=>?_,fun i y p=>⟨K i y (h.pin i y p).1,nS (h.pin i y p).2⟩⟩
 ·by_cases e:i=d
  ·subst e;exact iV _ _
  ·rw[bR _ _ e]at U;exact dN (h.use i y U)
 ·by_cases e:i=d
  ·subst e;rw[cH]at m;injection m with m;simp only[]at m;subst m;exact⟨.inl A,by simp⟩
  ·rw[bR _ _ e]at m;exact⟨(h.own i g m).1,by have:=(h.own i g m).2;simp;omega⟩
 ·by_cases e:i=d
  ·by_cases e':F=d
   ·omega
   ·subst e;rw[cH]at m;rw[bR _ _ e']at f;injection m with m;simp only[]at m
    have:=(h.own F g f).2;omega
  ·by_cases e':F=d
   ·subst e';rw[cH]at f;rw[bR _ _ e]at m;injection f with f;simp only[]at f
    have:=(h.own i g m).2;omega
   ·rw[bR _ _ e]at m;rw[bR _ _ e']at f;exact h.inj i F g m f
 ·simp only[cp]at o;by_cases e:i=d
  ·subst e;exact iV _ _
  ·rw[io e]at o;exact dN (h.kr i a o)
 ·have e:i≠d:=by rintro rfl;have:=h.ko i cs o;rw[T]at this;cases this
  rw[bR _ _ e]at p;obtain⟨C,T',P,D,h2,h3⟩:=h.objs i cs o p;have L:=(h.own i C (by rw[D];rfl)).2;exact⟨C,T',P,(bR _ _ e).trans D,(mm _ _ _ L).trans h2,h3.mono (by simp) I G K⟩
 ·simp only[cp]at o;by_cases B:i=d
  ·subst B;rw[iF rfl]at o;injection o with o;subst o
   refine⟨_,vs,cH _ _ _,⟨by simp[z,E],.inr ⟨w.heap.size,n,vs.toArray,by simp[E],n3 _,am5 w _,by simp[E],hm,by simpa using z,by simp[E,← z]⟩⟩,hz,D,fun j c J k x t=>?_⟩;obtain⟨v,hv,O⟩:=hc j c J k x t;exact⟨v,hv,.inl (O.mono (by simp) I G (fun _ _ h=>h))⟩
  ·rw[io B]at o;rw[bR _ _ B]at p;obtain⟨v,xs,R,W,X,Y,Z⟩:=h.arrs i a o p;refine⟨v,xs,(bR _ _ B).trans R,fS W (fun C f=>mm _ _ _ (h.own i C (by rw[R];exact f)).2),X,Y,fun j V J k c t=>?_⟩;obtain⟨x,hx,O⟩:=Z j V J k c t;exact⟨x,hx,O.mono (by simp) I G (fun r H=>K _ _ H) (fun r H=>mm _ _ _ (h.kR H)) (fun h=>h)⟩
theorem aI.xV{f:Cx}{s:AS}{a:Act}{w:World}{ι:Env}(h:aI f s a w ι){d:Nat}(B:d<f.n)(q:has s.u d=false){e:TypeId}{sz n:Nat}{l:List b6}{vs:d5}(D:l.length=n)(C:n≤maxLen)(m:vs.length=n*sz)(F:∀c∈l,c.length=sz)(y:∀v∈vs,v.oneCell'=true)
  (A:∀(j:Nat) (c:b6),l[j]?=some c→∀(i:Nat) (x:AV),c[i]?=some x→∃v,vs[j*sz+i]?=some v∧Rel (NN f.M ι) w bA x v) :
  aI f { t:=bj d (.ref d) s.t,o:=s.o,r:=bj d ⟨e,sz,l⟩ s.r,u:=d::s.u } (a.put (some d) (.slice (some ⟨w.heap.size,0,none⟩) n n)) (w.alloc (.cells vs.toArray e)) (ext ι d (.slice (some ⟨w.heap.size,0,none⟩) n n)):=by
 have E:=h.hs.xV q D C m F y A (e:=e);have z:aI f { s with r:=bj d ⟨e,sz,l⟩ s.r,u:=d::s.u } a (w.alloc (.cells vs.toArray e)) (ext ι d (.slice (some ⟨w.heap.size,0,none⟩) n n)) :=
  h.world E rfl (by simp) (fun b p g=>by
   rcases gJ g with g|g
   ·grind
   ·injection g with g;grind) (fun b p _=>mm _ _ _ p) (fa (h.hs.free q) _)
 exact z.put (d:=some d) (fun k G=>by grind) (.ref _ _ _ _ _ (cH _ _ _))
section
variable{b:Cx}{Q:Exit→Act→World→Prop}{f:ck}{s:AS}
theorem eL{a}{r} o(c:cv a s o=true)(h:OT b Q f a ({ o with guard:=none }::r) s):OT b Q f a (o::r) s:=by
 unfold cv at c;split at c
 ·have:{ o with guard:=none }=o:=by cases o;grind
  grind
 grind[pE,s7]
theorem alC{g:Array Oper}{l r:List Oper}(o:Oper)(T:TypeId)(d:Nat){e:TypeId}{sz:Nat}(D:l=o::r)(B:cv g s o=true)(m:o.op=.buildSlice T 0 #[])(A:o.dst=some d)(E:Nat.ble (d+1) b.n=true)(G:b.P.underlying T=some (.slice e))(x:cz b.P e=some sz)(H:has s.u d=false)
  (k:OT b Q f g r { t:=bj d (.ref d) s.t,o:=s.o,r:=bj d ⟨e,sz,[]⟩ s.r,u:=d::s.u }):OT b Q f g l s:=by
 subst D;refine eL o B fun a w ι F=>?_;refine v9 rfl fun K y=>?_;have q:=F.xV (hF E) H (e:=e) (sz:=sz) (n:=0) (l:=[]) (vs:=[]) rfl (n3 _) (by simp) (fun c z=>by cases z) (fun v I=>by cases I) (fun j c C=>by simp at C);have p:(sizeOf e).run b.P w=.ok sz w:=by
  cases i:b.P.info? e with
  | none=>simp[cz,i]at x
  | some J =>
   have : J.size=sz:=by simpa[cz, i]using x
   simp[sizeOf,typeInfo,i,this]
 refine dK ?_;unfold execOp;have h:(Instr.buildSlice T 0 #[]).run b.P w=.ok (.slice (some ⟨w.heap.size,0,none⟩) 0 0) (w.alloc (.cells #[] e)):=by
  simp[Instr.buildSlice,ls G,p,Instr.fill,newRow,Pq]
 simp only[m,n4];simp only[amP,anl,u7,h,pt,By];rw[A];exact y _ _ (k _ _ _ q)
theorem afc{α:Type}(enc:α→b6)(W:α){C:Array Oper}{l r:List Oper}(o:Oper)(T:TypeId)(x y:Operand)(d:Nat){e:TypeId}{sz:Nat}{zc:b6}{bytes:Nat}{n:Int}{kd kd':IntKind}(hl:l=o::r)(hg:cv C s o=true)(O:o.op=.makeSlice T x y)(hd:o.dst=some d)(hn:Nat.ble (d+1) b.n=true)
  (I:s.ev x=some (.int kd n)) (hy:s.ev y=some (.int kd' n)) (m:iJ b.P T=some (e,sz,bytes)) (hz:fE b.P e=some zc) (Z:zc.map jF=enc W) (hu:has s.u d=false) (X:fO n bytes=true)
  (k:OT b Q f C r { t:=bj d (.ref d) s.t,o:=s.o,r:=bj d ⟨e,sz,List.map enc (List.replicate n.toNat W)⟩ s.r,u:=d::s.u }):OT b Q f C l s:=by
 subst hl;refine eL o hg fun a w ι R=>?_;refine v9 rfl fun K hK=>?_;simp only[fO,g6,ob]at X;obtain⟨b0,b1,b2⟩:=X;unfold iJ at m;split at m
 case h_2=>cases m
 rename_i e' U;split at m
 case h_2=>cases m
 rename_i h H;split at m
 case h_2=>cases m
 rename_i z J;split at m
 case isFalse=>cases m
 rename_i A;injection m with m;injection m with h1 m;injection m with h2 h3
 subst h1;subst h2;subst h3;have V:n0 z.cells.toList=some zc:=by simpa[fE,H,J]using hz
 have g:=(oh (NN b.M ι) w bA V);have P:=g.pz;have G:=RQ w T e' h z U H J kd kd' n b0 b1 b2 A.2;have p:zc.length=h.size:=by rw[g.len,← A.1];simp
 have B:∀q,q<n.toNat*h.size→((Array.range (n.toNat*h.size)).map (z.cells[· % z.cells.size]!)).toList[q]?=z.cells.toList[q % h.size]?:=fun q D=>by
  have hm:q % h.size<z.cells.size:=by rw[A.1];exact Nat.mod_lt _ A.2
  simp[D,A.1];rw[getElem!_pos z.cells (q % h.size) hm,h8 hm]
 have S:=R.xV (hF hn) hu (e:=e') (sz:=h.size) (n:=n.toNat) (l:=List.map enc (List.replicate n.toNat W)) (vs:=((Array.range (n.toNat*h.size)).map (z.cells[· % z.cells.size]!)).toList) (by simp) (by unfold maxLen;omega) (by simp)
  (fun c Y=>by
   simp only[List.map_replicate,List.mem_replicate]at Y;rw[Y.2,← Z,lp,p])
  (fun v L=>by
   obtain⟨q,D⟩:=amg L;have N:q<n.toNat*h.size:=by have:=(g7.1 D).1;simpa using this
   rw[B q N]at D;exact g.one v (jt D))
  (fun j c E i x I=>by
   simp only[List.map_replicate,al6]at E;split at E
   ·rename_i M;injection E with E;subst E
    rw[←Z]at I;have hi:i<h.size:=by have:=(g7.1 I).1;rw[lp,p]at this;exact this
    have D:j*h.size+i<n.toNat*h.size:=by
     have:(j+1)*h.size≤n.toNat*h.size:=ye _ M;rw[ac6,al4]at this;omega
    have F:(j*h.size+i) % h.size=i:=by rw[amr,Nat.mul_add_mod,amD hi]
    rw[B _ D,F];have L:=h6 (l:=z.cells.toList) (i:=i) (by rw[←g.len,p];exact hi);exact⟨_,L,P.rel i x _ I L⟩
   ·cases E)
 refine dK ?_;unfold execOp;simp only[O,n4,mz R I,mz R hy,G,pt,By];rw[hd];have:=k _ _ _ S;simp only[aaC]at this;exact hK _ _ this
end
mutual
def AV.mv(id a:Nat):AV→AV
 | .ref i=>if i=id then .ref a else .ref i
 | .ptr i o=>if i=id then .any else .ptr i o
 | .pp i g o=>if i=id then .any else .pp i g o
 | .sit i g s p=>if i=id then .any else .sit i g s p
 | .adr g o=>.adr g o
 | .eptr i sz j o=>if i=id then .any else .eptr i sz j o
 | .sref i sz o m=>if i=id then .any else .sref i sz o m
 | .agg cs=>.agg (lK id a cs)
 | .tup cs=>.tup (lK id a cs)
 | .int k n=>.int k n
 | .bool b=>.bool b
 | .str s=>.str s
 | .nils=>.nils
 | .sl l=>.sl l
 | .nilm=>.nilm
 | .mref _ _=>.any
 | .omp m=>.omp m
 | .osl e sz l=>.osl e sz l
 | .vv x=>.vv x
 | .lk i x=>if i=id then .any else .lk i x
 | .fn f c=>.fn f c
 | .fno f c=>.fno f (lK id a c)
 | .nilf=>.nilf
 | .nilp=>.nilp
 | .cptr cs=>.cptr cs
 | .any=>.any
def lK(id a:Nat):b6→b6
 | []=>[]
 | c::r=>c.mv id a::lK id a r
end
def pZ(id a:Nat):List ee→List ee
 | []=>[]
 | (k,v)::r=>(k,v.mv id a)::pZ id a r
def qE(id a:Nat):List (Nat×b6)→List (Nat×b6)
 | []=>[]
 | (k,v)::r=>(k,lK id a v)::qE id a r
theorem Ai{id a}:∀{l} {i:Nat} {x},(lK id a l)[i]?=some x→∃y,l[i]?=some y∧x=y.mv id a
 | [],i,x,h=>by grind[lK]
 | c::r,0,x,h=>by grind[lK]
 | c::r,i+1,x,h=>by simp only[amt]at h⊢;exact Ai h
theorem xa{id a}:∀l,(lK id a l).length=l.length
 | []=>rfl
 | c::r=>by simp[lK,xa r]
theorem Np{id a}:∀{l} {k} {v},look k (pZ id a l)=some v→∃u,look k l=some u∧v=u.mv id a
 | [],k,v,h=>by cases h
 | (j,x)::r,k,v,h=>by
  simp only[pZ,look]at h⊢;split at h
  ·grind
  ·rename_i e;rw[io e];exact Np h
theorem Iw{id a}:∀{l} {k} {v},look k (qE id a l)=some v→∃u,look k l=some u∧v=lK id a u
 | [],k,v,h=>by cases h
 | (j,x)::r,k,v,h=>by
  simp only[qE,look]at h⊢;split at h
  ·grind
  ·rename_i e;rw[io e];exact Iw h
def kO(ι:Env)(id a:Nat):Env:=fun i=>if i=a then ι id else if i=id then none else ι i
theorem Rel.mv{N N':Nat→Prop}{w:World}{ι:Env}{v:AV}{x:Value}(h:Rel N w ι v x){id H:Nat}{ι':Env}(J:∀b,N' b→N b)(I:∀y,ι id=some y→ι' H=some y)(a:∀i y,i≠id→ι i=some y→ι' i=some y):Rel N' w ι' (v.mv id H) x:=by
 have L:∀{e:Env} {v:AV} {x:Value},Rel N w e v x→Rel N' w e v x:=fun h=>h.mono (h7 _) (fun b _ p=>J b p) (fun _ _ _=>rfl) (fun _ _ h=>h)
 induction h with
 | int ι k n=>exact .int _ _ _
 | bool ι b=>exact .bool _ _
 | str ι s=>exact .str _ _
 | nils ι=>exact .nils _
 | nilm ι=>simp only[AV.mv];exact .nilm _
 | mref ι i q r v h a=>simp only[AV.mv];exact .any _ _ rfl
 | sl0 ι A c=>exact .sl0 _ _ _
 | sl ι l b o c sz u U p G C K d E z=>simp only[AV.mv];exact .sl _ l b o c sz u U p (fun h=>G (J b h)) C K (fun j e R i x t=>L (d j e R i x t)) E
 | fn ι f aV O F d z=>exact .fn _ f aV O F (fun i c y I a=>L (d i c y I a))
 | fno ι f aV O F d z =>
  refine .fno _ _ _ O (by rw[xa];exact F) (fun i x v t M=>?_);obtain⟨y,T,rfl⟩:=Ai t;exact z i y v T M I a
 | nilf ι=>exact .nilf _
 | nilp ι=>exact .nilp _
 | any ι x h=>exact .any _ _ h
 | ptr ι i off g h =>
  simp only[AV.mv];split
  ·exact .any _ _ rfl
  ·rename_i e;exact .ptr _ _ _ _ (a _ _ e h)
 | adr ι g off=>simp only[AV.mv];exact .adr _ _ _
 | vv ι x h=>simp only[AV.mv];exact .vv _ _ h
 | lk ι i v x h D =>
  simp only[AV.mv];split
  ·exact .any _ _ D
  ·rename_i e;exact .lk _ _ _ _ (a _ _ e h) D
 | pp ι i g off h =>
  simp only[AV.mv];split
  ·exact .any _ _ rfl
  ·rename_i e;exact .pp _ _ _ _ (a _ _ e h)
 | sit ι i g s V h S G p =>
  simp only[AV.mv];split
  ·exact .any _ _ rfl
  ·rename_i e;exact .sit _ _ _ _ _ (a _ _ e h) S (fun h=>G (J g h)) p
 | eptr ι i sz j off g n c h =>
  simp only[AV.mv];split
  ·exact .any _ _ rfl
  ·rename_i e;exact .eptr _ _ _ _ _ _ n c (a _ _ e h)
 | sref ι i sz off m n c P A B h Q =>
  simp only[AV.mv];split
  ·exact .any _ _ rfl
  ·rename_i e;exact .sref _ _ _ _ _ n c P A B (a _ _ e h) Q
 | cptr ι cs b o u p G C K d z=>simp only[AV.mv];exact .cptr _ cs b o u p (fun h=>G (J b h)) C K (fun i x t=>L (d i x t))
 | ref ι i A n c h =>
  simp only[AV.mv];split
  ·rename_i e;subst e;exact .ref _ _ _ _ _ (I _ h)
  ·rename_i e;exact .ref _ _ _ _ _ (a _ _ e h)
 | agg ι cs vs F C d z =>
  refine .agg _ _ _ (by grind[xa]) C (fun i x v t M=>?_)
  grind[Ai]
 | tup ι cs vs F d z =>
  refine .tup _ _ _ (by grind[xa]) (fun i x v t M=>?_)
  grind[Ai]
theorem aI.mvG{I:Cx}{s:AS}{a:Act}{w:World}{ι:Env}(h:aI I s a w ι){id d:Nat}{ar:bZ}(M:look id s.r=some ar)(N:TG≤id→∀e∈ar.l,∀c∈e,c.Vl=true)(Q:has s.u d=false)(U:s.u.contains (cS id)=false):
  aI I ⟨pZ id d s.t,qE id d s.o,bj d ar (era id s.r),d::s.u⟩ a w (kO ι id d):=by
 have S:=h.hs.free Q;have R:d≠id:=fun e=>by have:=h.hs.kr id ar M;rw[←e,Q]at this;cases this
 have K:kO ι id d d=ι id:=by simp[kO]
 have F:∀i,i≠id→i≠d→kO ι id d i=ι i:=fun i a b=>by simp[kO,a,b]
 have L:kO ι id d id=none:=by simp[kO,Ne.symm R]
 have W:∀y,ι id=some y→kO ι id d d=some y:=fun y n=>by rw[K];exact n
 have J:∀i y,i≠id→ι i=some y→kO ι id d i=some y:=fun i y f n=>by
  have:i≠d:=fun e=>by subst e;rw[S]at n;cases n
  rw[F i f this];exact n
 have z:∀i g,bg (kO ι id d i)=some g→∃j,bg (ι j)=some g∧(i=d∧j=id∨i≠d∧i≠id∧j=i):=fun i g p=>by
  by_cases l:i=d
  ·subst l;rw[K]at p;exact⟨id,p,.inl ⟨rfl,rfl⟩⟩
  ·by_cases o:i=id
   ·subst o;rw[L]at p;cases p
   ·rw[F i o l]at p;exact⟨i,p,.inr ⟨l,o,rfl⟩⟩
 have t:∀b,NN I.M (kO ι id d) b→NN I.M ι b:=fun b G=>by
  rcases G with G|⟨i,G⟩
  ·exact .inl G
  ·obtain⟨j,q,_⟩:=z i b G;exact .inr ⟨j,q⟩
 refine⟨⟨h.hs.below,h.hs.old,fun i y n=>?_,fun i g p=>?_,fun i Z g p O=>?_,fun i cs f=>?_,fun i a f=>?_,fun i cs f m=>?_,fun i a f m=>?_,fun i y m=>(by
  have e:i≠id:=fun e=>by subst e;rw[h.hs.np U]at m;cases m
  exact⟨J i y e (h.hs.pin i y m).1,nS (h.hs.pin i y m).2⟩)⟩,h.dfr,h.n,fun k v D=>?_⟩
 ·by_cases l:i=d
  ·subst l;exact iV _ _
  ·by_cases o:i=id
   ·subst o;rw[L]at n;cases n
   ·rw[F i o l]at n;exact dN (h.hs.use i y n)
 ·obtain⟨j,q,_⟩:=z i g p;exact h.hs.own j g q
 ·obtain⟨j,q,c1⟩:=z i g p;obtain⟨j',P,A⟩:=z Z g O;have:=h.hs.inj j j' g q P;rcases c1 with⟨q1,q2⟩|⟨q1,q2,q3⟩<;>rcases A with⟨r1,r2⟩|⟨r1,r2,r3⟩<;>omega
 ·obtain⟨u,E,rfl⟩:=Iw f;exact dN (h.hs.ko i u E)
 ·simp only[cp]at f;by_cases l:i=d
  ·subst l;exact iV _ _
  ·rw[io l,AE]at f;split at f
   ·cases f
   ·exact dN (h.hs.kr i a f)
 ·obtain⟨u,E,rfl⟩:=Iw f;by_cases l:i=d
  ·subst l;have:=h.hs.ko i u E;rw[Q]at this;cases this
  ·by_cases o:i=id
   ·subst o;rw[L]at m;cases m
   ·rw[F i o l]at m⊢;obtain⟨g,T,vs,c1,A,B⟩:=h.hs.objs i u E m;refine⟨g,T,vs,c1,A,by rw[xa];exact B.len,B.one,fun j x v C Y=>?_⟩;obtain⟨y,n,rfl⟩:=Ai C;exact(B.rel j y v n Y).mv t W J
 ·simp only[cp]at f;by_cases l:i=d
  ·subst l;rw[iF rfl]at f;injection f with f;subst f
   rw[K]at m⊢;obtain⟨v,xs,c1,A,B,c4,c5⟩:=h.hs.arrs id ar M m;refine⟨v,xs,c1,A,B,c4,fun j e q k c D=>?_⟩;obtain⟨x,C,H⟩:=c5 j e q k c D;exact⟨x,C,.inl ((H.ags (fun X=>N X e (jt q) c (jt D))).mono (h7 _) (fun b _ z=>t b z) (fun _ _ _=>rfl) (fun _ _ h=>h))⟩
  ·rw[io l,AE]at f;split at f
   ·cases f
   ·rename_i o;rw[F i o l]at m⊢;obtain⟨v,xs,c1,A,B,c4,c5⟩:=h.hs.arrs i a f m;refine⟨v,xs,c1,A,B,c4,fun j e q k c D=>?_⟩;obtain⟨x,C,H⟩:=c5 j e q k c D;exact⟨x,C,H.mono (h7 _) (fun b _ z=>t b z) (fun _ _ _=>rfl) (fun r V=>J _ _ (h.hs.AG M V) V) (fun _ _=>rfl) (fun h=>h)⟩
 ·obtain⟨u,E,rfl⟩:=Np D;obtain⟨x,C,H⟩:=h.tmp k u E;exact⟨x,C,H.mv t W J⟩
theorem aI.mv{d}{s}{a}{w}{ι}(h:aI d s a w ι){id b}{ar}(g:id<TG)(e:look id s.r=some ar)(f:has s.u b=false)(c:s.u.contains (cS id)=false):
  aI d ⟨pZ id b s.t,qE id b s.o,bj b ar (era id s.r),b::s.u⟩ a w (kO ι id b) :=
 h.mvG e (fun h=>by omega) f c
theorem akm{f}{Q}{g}{s}{e} id b{ar}(d:id<TG)(i:look id s.r=some ar)(j:has s.u b=false)(c:s.u.contains (cS id)=false)(h:VE f Q g e ⟨pZ id b s.t,qE id b s.o,bj b ar (era id s.r),b::s.u⟩):VE f Q g e s:=fun a w ι k=>h a w _ (k.mv d i j c)
theorem BA{id}{i:Nat}{cs}(b:cs[i]?=some (.ref id)):∀N w ι x,Rel N w ι (.agg cs) x→∃y,ι id=some y:=by
 intro N w ι x h;cases h with
 | agg _ _ vs d _ c =>
  have a:i<vs.length:=by grind
  exact fk id N w ι _ (c i _ _ b (h6 a))
end Go.Proofs.YtocgkfoifehcbaaGreat
namespace Go.Proofs.YtocgkfoifehcbaaGreat
set_option linter.all false
open Go.ChangeShapes Go.WideShapes Go.ChangeAt Go.RowKit
def oM(P:Program)(t:TypeId):Bool:=match P.underlying t with
 | some (.struct _)|some (.array _ _)=>true
 | _=>false
def re(P:Program)(t:TypeId)(a:AV):Prop:=if oM P t=true then ∃cs,a=.agg cs∧cZ P t cs else cZ P t [a]
def IJ(P:Program):List TypeId→b6→Prop
 | [],[]=>True
 | t::ts,a::as=>re P t a∧IJ P ts as
 | _,_=>False
section
variable{H:Type}{enc:TypeId×Value→H}{P:Program}{w:World}{ts:List TypeId}{base:Nat}
theorem ady{t:TypeId}(c:vi P ts t=true)(b:oM P t=false){cs:Array Value}(h:Value.okWide P w .any base t (.agg cs)):False:=by
 unfold vi at c;unfold oM at b;cases a:P.underlying t with
 | none=>grind
 | some d =>
  rw[a]at c b;cases d<;>simp at c b
  ·have:=okWide_bool a h;grind
  ·have:=okWide_int a h;grind
  ·have:=okWide_string a h;grind
  ·have:=okWide_slice a h;grind
theorem Vd(g:VK P ts=true):∀(ps:List TypeId) (vs:d5) (ds:List (DataW H)) (q:List MemPlace),(∀t∈ps,ts.contains t=true)→DataW.TrodAll enc P w 0 (fun _=>true) true ps vs ds q →
  (∀(j:Nat) t v,ps[j]?=some t→vs[j]?=some v→Value.okWide P w .any base t v) →
  ∃as,IJ P ps as∧as.length=vs.length∧∀(i:Nat) (a:AV) (v:Value),as[i]?=some a→vs[i]?=some v→Rel iP w bA a v
 | [],[],[],_,_,_,_=>⟨[],trivial,rfl,fun i a v h _=>by simp at h⟩
 | [],_::_,_,_,_,h,_=>h.elim
 | [],[],_::_,_,_,h,_=>h.elim
 | _::_,[],_,_,_,h,_=>h.elim
 | _::_,_::_,[],_,_,h,_=>h.elim
 | t::ps,v::vs,d::ds,q,B,h,o=>by
  obtain⟨p,O,C,L,rfl⟩:=h;obtain⟨as,u,x,I⟩:=Vd g ps vs ds O (fun Q M=>B Q (nw _ M)) L (fun j t v u x=>o (j+1) t v (by simpa using u) (by simpa using x));obtain⟨n,K⟩:=C;obtain⟨cs,G,s⟩:=aho g n t _ _ (B t pe) K;have r:=o 0 t v rfl rfl;have E:vi P ts t=true:=by
   have:=ll.1 g t (by have:=B t pe;simpa using this);exact this
  have m:∀a,re P t a→Rel iP w bA a v→∃as,IJ P (t::ps) as∧as.length=(v::vs).length∧∀(i:Nat) (a:AV) (v':Value),as[i]?=some a→(v::vs)[i]?=some v'→Rel iP w bA a v':=fun a J D=>by
   refine⟨a::as,⟨J,u⟩,by simp[x],fun i b v' y k=>?_⟩;cases i with
   | zero=>simp at y k;subst y;subst k;exact D
   | succ i=>exact I i b v' (by simpa using y) (by simpa using k)
  by_cases c:oM P t=true
  ·have:∃cs,v=.agg cs:=by
    unfold Value.okWide at r;unfold oM at c;split at r
    ·obtain⟨cs,e,_⟩:=r;exact⟨cs,e⟩
    ·obtain⟨cs,e,_⟩:=r;exact⟨cs,e⟩
    ·rename_i z A;split at c
     ·rename_i f F;exact(z f F).elim
     ·rename_i a b F;exact(A a b F).elim
     ·cases c
   obtain⟨l,rfl⟩:=this;refine m (.agg cs) (by unfold re;rw[iF c];exact⟨cs,rfl,G⟩) ?_;have:=Rel.agg (N:=iP) (w:=w) bA cs l.toList s.len s.one s.rel;simpa using this
  ·obtain⟨l,rfl⟩|⟨a,rfl,D⟩:=ac3 s
   ·exact(ady E (by simpa using c) r).elim
   ·exact m a (by unfold re;rw[io c];exact G) D
end
theorem NO{H}{enc:TypeId×Value→H}{P}{w}{b}{sp}{a}:∀ps vs ds q,DataW.TrodAll enc P w b sp a ps vs ds q→ds.length=ps.length
 | [],[],[],_,_=>rfl
 | [],_::_,_,_,h=>h.elim
 | [],[],_::_,_,h=>h.elim
 | _::_,[],_,_,h=>h.elim
 | _::_,_::_,[],_,h=>h.elim
 | t::ps,v::vs,d::ds,q,h=>by
  obtain⟨p,f,c,e,rfl⟩:=h;simp[NO ps vs ds f e]
theorem Zu{P:Program}{f:FuncId}{as:b6}(h:aZ P f as (fun v _=>v=.bool true)){W:World}{xs:d5}(n:as.length=xs.length)(l:∀(i:Nat) (a:AV) (v:Value),as[i]?=some a→xs[i]?=some v→Rel iP W bA a v):
  Calls P f xs.toArray W fun e c=>e=.returned (.bool true)∧Below W.heap.size W c:=by
 refine (h iP W xs.toArray (fun b g=>g.elim) ⟨by grind,fun i v y d m=>l i v y d (by grind)⟩).mono ?_
 rintro e w' ⟨x,v,s,ι,rfl,rfl,k,j⟩
 cases j;exact⟨rfl,k.below.plain⟩
theorem cV{α:Type}{l:List α}{n}(h:l.length=n+1):∃a r,l=a::r∧r.length=n:=by
 cases l with
 | nil=>grind
 | cons a r=>grind
theorem Qh{α:Type}{p:b6→α→Prop}:∀{l:List b6},(∀c∈l,∃x,p c x)→∃L:List α,l.length=L.length∧∀(j:Nat) c x,l[j]?=some c→L[j]?=some x→p c x
 | [],_=>⟨[],rfl,fun j c x h _=>by grind⟩
 | c::r,h=>by
  obtain⟨x,g⟩:=h c pe;obtain⟨L,e,f⟩:=Qh (l:=r) (fun c a=>h c (by grind));refine⟨x::L,by grind,fun j d i a b=>?_⟩
  grind
theorem PW{α:Type}{e:α→b6}{l}(h:∀c∈l,∃x,c=e x):∃L:List α,l=L.map e:=by
 obtain⟨L,a,b⟩:=Qh h;refine⟨L,alV fun j=>?_⟩
 grind
section
variable{H:Type}{enc:TypeId×Value→H}{P:Program}
theorem Pz(g:laidOutB P=true){W e}(f:Below W.heap.size W e):∀ts vs ds ps,
  (∀t∈ts,P.readableRec t=true∧t<P.types.size)→(∀x∈ps,x.block<W.heap.size)→DataW.TrodAll enc P W 0 (fun _=>true) true ts vs ds ps →
  DataW.TrodAll enc P e 0 (fun b=>decide (b<W.heap.size)) true ts vs ds ps
 | [],[],[],ps,_,_,h=>h
 | [],_::_,_,_,_,_,h=>h.elim
 | [],[],_::_,_,_,_,h=>h.elim
 | _::_,[],_,_,_,_,h=>h.elim
 | _::_,_::_,[],_,_,_,h=>h.elim
 | t::ts,v::vs,d::ds,ps,c,a,h=>by
  obtain⟨p,q,i,j,rfl⟩:=h;refine⟨p,q,?_,Pz g f ts vs ds q (fun l m=>c l (by grind)) (fun x k=>a x (by grind)) j,rfl⟩;exact Below.trod g (c t pe).1 (c t pe).2 i f (fun x k=>a x (by grind))
theorem ad1{f:Func}{s:ChangeSpec}{b fresh c:Bool}{W k:World}{args:Array Value}{ds:List (DataW H)}{a:List MemPlace}{tb:TypeId}
  (o:laidOutB P=true) (e:s.vars=[]) (i:f.resultTypes = #[tb]) (j:P.underlying tb=some .bool) (g:(s.fn H ds).results=[.lit (.bool true)]) (d:(s.fn H ds).args=ds) (u:(s.fn H ds).vars=[])
  (r:∀t∈f.params.toList,P.readableRec t=true∧t<P.types.size)
  (l:DataW.Whole enc P f.params.toList s.vars b W args.toList ds [] a) (n:DataW.TrodAll enc P W 0 (fun _=>true) true f.params.toList args.toList ds a) (m:Below W.heap.size W k) :
  s.post enc P f b fresh c false W args (.bool true) k:=by
 refine⟨ds,[],a,[],a,[],l,?_,?_,?_,m.frame _,fun h=>by grind⟩
 ·rw[IF,g,i];exact trodAll_mk1 (shut_bool j true)
 ·rw[IF,d];exact Pz o m _ _ _ _ r (fun p q=>l.lt p q) n
 ·rw[IF,u,e];rfl
end
end Go.Proofs.YtocgkfoifehcbaaGreat
namespace Go.Proofs.YtocgkfoifehcbaaGreat
set_option linter.all false
open Go.RowKit
variable[FM]
def keys{α:Type}:List (Nat×α)→d4
 | []=>[]
 | (k,_)::r=>k::keys r
def gx(P:Program)(n k:Nat)(a:ck)(e:Exit)(s:AS):AS:=match rW P n k a e s with
 | some (_,_,s')=>s'
 | none=>s
def gQ(P:Program)(n k:Nat)(a:ck)(e:Exit)(s:AS):Option (ck×Exit):=match rW P n k a e s with
 | some (ks',e',_)=>some (ks',e')
 | none=>none
def UQ(s:AS)(ts a rs:d4):AS:=match s.pick ts a rs with|some s'=>s'|none=>s
def Qk(s:AS)(ts a rs:d4):Bool:=match s.pick ts a rs with|some _=>true|none=>false
def sI(P:Program)(n:Nat)(a:Array Oper)(k:Nat)(l:List Oper)(s:AS):AS:=match oN P n a k l s with
 | some (_,s')=>s'
 | none=>s
def vV(P:Program)(n:Nat)(a:Array Oper)(k:Nat)(l:List Oper)(s:AS):Option (List Oper):=match oN P n a k l s with
 | some (l',_)=>some l'
 | none=>none
def F3(s:AS):List (AS→AS)→ek
 | []=>[]
 | g::r=>g s::F3 (g s) r
def Vf(k:Nat)(b:Bool)(s:AS):AS:={ s with t:=bj k (.bool b) s.t }
def coS(a:Nat)(ar:bZ)(s:AS):AS:={ s with r:=bj a ar s.r,u:=a::s.u }
def pP(c:AS)(b:List ee)(a:List (Nat×b6))(rl:List (Nat×bZ))(d:List (AS→AS)):ek:=ir c b a rl::F3 (ir c b a rl) d
def KL(c:AS)(b:List ee)(a:List (Nat×b6))(rl:List (Nat×bZ))(d:List (AS→AS))(K:Nat):AS:=nth (pP c b a rl d) K
def JL(f:Func)(p:d4):Bool:=match cat f p with|.region _ _ false=>true|_=>false
section
variable{a:Cx}{Q:Exit→Act→World→Prop}{d ks':ck}{e e':Exit}{s s':AS}{f:Func}{p:d4}{c:Array Oper}{i:Nat}
theorem ah k(b:VE a Q ks' e' s')(h:B0 a.P a.n k (keys s'.t) (keys s'.o) (keys s'.r) d e s=some (ks',e',s'):=by kernel_rfl):VE a Q d e s:=PT k _ _ _ h b
theorem bC k s'(b:VE a Q ks' .normal s')(h:B0 a.P a.n k (keys s'.t) (keys s'.o) (keys s'.r) d e s=some (ks',.normal,s'):=by kernel_rfl):VE a Q d e s:=PT k _ _ _ h b
theorem bW k(b:VE a Q ks' .normal (gx a.P a.n k d e s))(h:gQ a.P a.n k d e s=some (ks',.normal):=by kernel_rfl):VE a Q d e s:=by
 grind[gQ,Lo,gx]
theorem aM k(b:VE a Q [] .ret (gx a.P a.n k d e s))(h:gQ a.P a.n k d e s=some ([],.ret):=by kernel_rfl):VE a Q d e s:=by
 grind[gQ,Lo,gx]
theorem bV ts f rs(b:VE a Q d e (UQ s ts f rs))(h:Qk s ts f rs=true:=by kernel_rfl):VE a Q d e s:=by
 unfold Qk at h;split at h
 ·rename_i g c;unfold UQ at b;rw[c]at b;exact NV _ (Uv c) b
 grind
theorem aj(n:Nat)(g:OT a Q d (dr f p) (aJ f p n) (sI a.P a.n (dr f p) n (aJ f p 0) s))(h:JL f p=true:=by kernel_rfl)(e:vV a.P a.n (dr f p) n (aJ f p 0) s=some (aJ f p n):=by kernel_rfl):VE a Q (.c (cat f p)::d) .normal s:=by
 have i:aJ f p 0=(dr f p).toList:=by simp[aJ]
 cases c:cat f p with
 | region id ops b =>
  cases b with
  | true=>unfold JL at h;rw[c]at h;cases h
  | false =>
   have j:dr f p=ops:=by unfold dr;rw[c];rfl
   grind[vV,sI,LL,zS]
 | _=>grind[JL]
theorem aW j k(e:OT a Q d c (aJ f p j) (sI a.P a.n c k (aJ f p i) s))(b:vV a.P a.n c k (aJ f p i) s=some (aJ f p j):=by kernel_rfl):OT a Q d c (aJ f p i) s:=by
 grind[vV,sI,zS]
theorem ae(e:VE a Q d .normal (sI a.P a.n c 10000 (aJ f p i) s))(b:vV a.P a.n c 10000 (aJ f p i) s=some []:=by kernel_rfl):OT a Q d c (aJ f p i) s:=by
 grind[vV,sI,zS,SW]
theorem au(h:cd a.P a.n s (aL f p i)=some s')(k:OT a Q d c (aJ f p (i+1)) s')(e:aJ f p i=aL f p i::aJ f p (i+1):=by kernel_rfl)(b:cv c s (aL f p i)=true:=by kernel_rfl):OT a Q d c (aJ f p i) s:=acE _ e (akT b h) k
theorem ai k{b b'}(c:b=b')(h:VE a Q d e (Vf k b' s))(f:look k s.t=some (.bool b):=by kernel_rfl):VE a Q d e s:=acX k c f h
theorem aF{l} k{b b'}(e:b=b')(h:OT a Q d c l (Vf k b' s))(f:look k s.t=some (.bool b):=by kernel_rfl):OT a Q d c l s:=Z0 k e f h
theorem aR{g}{args}{V}(h:aZ a.P g args (fun v _=>v=V))(k:OT a Q d c (aJ f p (i+1)) (s.put (aL f p i).dst V))(l:aJ f p i=aL f p i::aJ f p (i+1):=by kernel_rfl)(j:cv c s (aL f p i)=true:=by kernel_rfl)(b:cN a.P g=true:=by kernel_rfl)
  (e:eG s (aL f p i)=some (g,args):=by kernel_rfl) (m:(cQ a.n (aL f p i).dst&&V.dg [])=true:=by kernel_rfl):OT a Q d c (aJ f p i) s :=by grind[OE]
theorem oB{g}{args}{V}(e:cN a.P g=true∧aZ a.P g args (fun v _=>v=V))(k:OT a Q d c (aJ f p (i+1)) (s.put (aL f p i).dst V))(j:aJ f p i=aL f p i::aJ f p (i+1):=by kernel_rfl)(h:cv c s (aL f p i)=true:=by kernel_rfl)
  (b:eG s (aL f p i)=some (g,args):=by kernel_rfl) (l:(cQ a.n (aL f p i).dst&&V.dg [])=true:=by kernel_rfl):OT a Q d c (aJ f p i) s :=by grind[OE]
theorem fc b{id}{g}{args}{V}{ar}(n:aZ a.P g args (fun v u=>v=V∧look id u.r=some ar))(e:∀(N:Nat→Prop) w ι x,Rel N w ι V x→∃y,ι id=some y)
  (k:OT a Q d c (aJ f p (i+1)) ((coS b ar s).put (aL f p i).dst (V.gp id b))) (r:aJ f p i=aL f p i::aJ f p (i+1):=by kernel_rfl) (q:cv c s (aL f p i)=true:=by kernel_rfl) (h:cN a.P g=true:=by kernel_rfl)
  (m:eG s (aL f p i)=some (g,args):=by kernel_rfl) (o:cQ a.n (aL f p i).dst=true:=by kernel_rfl) (j:V.dg []=false:=by kernel_rfl) (t:has s.u b=false:=by kernel_rfl) (l:Nat.ble (id+1) TG=true:=by kernel_rfl):OT a Q d c (aJ f p i) s:=ahX _ id b r q n h e m o j t rfl k l
theorem cf{f}{p}{q} m(h:LP a Q d (cat f q) m s)(b:cat f p=.loop (cat f q):=by kernel_rfl):VE a Q (.c (cat f p)::d) .normal s:=o6 m b h
def EO(P:Program)(n:Nat)(c:Array Oper)(a:ek)(o:Oper):Nat→Nat→List (Bool×Option AS)
 | _,0=>[]
 | lo,k+1=>(cv c (nth a lo) o,cd P n (nth a lo) o)::EO P n c a o (lo+1) k
def Fe(a:ek):Nat→Nat→List (Bool×Option AS)
 | _,0=>[]
 | lo,k+1=>(true,some (nth a lo))::Fe a (lo+1) k
def tM(P:Program)(n:Nat)(c:Array Oper)(a:ek):List Oper→List Tag→List (List (Bool×Option AS))
 | o::r,.v lo k::ts=>EO P n c a o lo k::tM P n c a r ts
 | _,_=>[]
def qK(a:ek):List Tag→List (List (Bool×Option AS))
 | []=>[]
 | .v lo k::ts=>Fe a lo k::qK a ts
 | _::ts=>[]::qK a ts
end
section
variable{P:Program}{n:Nat}{c:AS}{a:Array Oper}{d:List Tag}{K:Nat}{b:ek}{f:Func}{p:d4}{i:Nat}
theorem TN{o}:∀{k lo},EO P n a b o lo k=Fe b lo k→eK lo k fun j=>cv a (nth b j) o=true∧cd P n (nth b j) o=some (nth b j)
 | 0,_,_=>trivial
 | k+1,lo,h=>by
  simp only[EO,Fe,alt,u4]at h;exact⟨h.1,TN h.2⟩
theorem WU:∀{ts:List Tag} {l:List Oper} {e},tM P n a b l ts=qK b ts→fe P n c a d K b (l.drop ts.length) e→fe P n c a d K b l (ts++e)
 | [],l,e,_,h=>by grind
 | t::ts,[],e,h,_=>by cases t<;>simp[tM,qK]at h
 | t::ts,o::r,e,h,f=>by
  cases t with
  | v lo k =>
   simp only[tM,qK,alt]at h;exact⟨fv (TN h.1),WU h.2 (by grind)⟩
  | _=>grind[tM,qK]
theorem aE ts{e}(g:fe P n c a d K b (aJ f p (i+ts.length)) e)(h:tM P n a b (aJ f p i) ts=qK b ts:=by kernel_rfl):fe P n c a d K b (aJ f p i) (ts++e):=by
 refine WU h ?_
 simp_all[aJ]
theorem ax{t}{ts}(h:fK P n c a d K b (aL f p i) t)(e:fe P n c a d K b (aJ f p (i+1)) ts)(g:aJ f p i=aL f p i::aJ f p (i+1):=by kernel_rfl):fe P n c a d K b (aJ f p i) (t::ts):=adE g h e
theorem cg(e:aJ f p i=[]:=by kernel_rfl):fe P n c a d K b (aJ f p i) []:=ai3 e
def cF(P:Program)(n:Nat)(f:Func)(p:d4)(i:Nat)(s:AS):AS:=match cd P n s (aL f p i) with|some s'=>s'|none=>s
def kV(f:Func)(p:d4):Bool:=match cat f p with|.region _ _ true=>true|_=>false
end
theorem Ar{P:Program}{n:Nat}{b:AS}{a:Array Oper}{c:List Tag}{K:Nat}{d:ek}{l:List Oper}:fe P n b a c K d l []:=by cases l<;>trivial
theorem ci{g:Cx}{Q:Exit→Act→World→Prop}{r:ck}{f:Func}{p:d4}{d:AS}{a:List Tag}(K:Nat)(k:List ee)(e:List (Nat×b6))(rl:List (Nat×bZ))(o:List (AS→AS))
  (l:fe g.P g.n d (dr f p) a K (pP d k e rl o) (aJ f p 0) a) (h:VE g Q r .normal (KL d k e rl o K))
  (m:kV f p=true:=by kernel_rfl) (u:g.P.follows .mixedOrders=true:=by kernel_rfl) (q:xB (dr f p) a K=true:=by kernel_rfl) (t:nK a K=true:=by kernel_rfl) (c:mu (aJ f p 0) a k=true:=by kernel_rfl) (n:jx d.u e=true:=by kernel_rfl) (j:jx d.u rl=true:=by kernel_rfl):VE g Q (.c (cat f p)::r) .normal d:=by
 have s:aJ f p 0=(dr f p).toList:=by simp[aJ]
 cases i:cat f p with
 | region id ops b =>
  cases b with
  | false=>unfold kV at m;rw[i]at m;cases m
  | true =>
   have v:dr f p=ops:=by unfold dr;rw[i];rfl
   rw[s]at l c;rw[v]at l c q;exact adi (id:=id) a K k e rl (F3 (ir d k e rl) o) rfl u q t c n j l h
 | _=>grind[kV]
end Go.Proofs.YtocgkfoifehcbaaGreat
namespace Go.Proofs.YtocgkfoifehcbaaGreat
set_option linter.all false
open Go.RowKit
variable[FM]
def eD(id:Nat)(ar:bZ)(s:AS):AS:={ s with r:=bj id ar s.r }
def gh(d id:Nat)(ar:bZ)(s:AS):AS:={ t:=bj d (.ref id) (dB id s.t),o:=eS id s.o,r:=bj id ar s.r,u:=s.u }
def Ld(d:Nat)(ar:bZ)(s:AS):AS:={ t:=bj d (.ref d) s.t,o:=s.o,r:=bj d ar s.r,u:=d::s.u }
def XY(k d:Nat)(ar:bZ)(s:AS):AS:=⟨bj k (.ref d) s.t,s.o,bj d ar s.r,d::s.u⟩
section
variable{P:Program}{n:Nat}{s:AS}{o:Oper}{α:Type}[Inhabited α]
def lQ(n:Nat)(o:Oper):Bool:=match o.dst with|some d=>Nat.ble (d+1) n|none=>false
theorem pu(h:lQ n o=true):∃d,o.dst=some d∧Nat.ble (d+1) n=true:=by
 grind[lQ]
def Nq(P:Program)(n:Nat)(s:AS)(o:Oper):Option (List b6×Int×Nat):=match lQ n o,o.op with
 | true,.indexAddr T x y=>match s.ev x,s.ev y,oq P T,g8 P T with
  | some (.sl l),some (.int _ i),none,some (_,sz)=>some (l,i,sz)
  | _,_,_,_=>none
 | _,_=>none
theorem bX(enc b:α→b6){L:List α}{i:Int}{sz:Nat}(l:aU i L.length=true)(q:∀a,(enc a).length=sz)(m:∀a,enc a=b a)(h:Nq P n s o=some (L.map enc,i,sz):=by kernel_rfl):cd P n s o=some (s.put o.dst (.cptr (b (L.getD i.toNat default)))):=by
 unfold Nq at h;split at h
 case h_2=>cases h
 rename_i T x y c e;obtain⟨d,c,p⟩:=pu c;split at h
 case h_2=>cases h
 rename_i f g j k;simp only[qv]at h;obtain⟨rfl,rfl,rfl⟩:=h;rw[c];exact alc enc b L _ T x y d e c p f g j k l q m
def Kx(P:Program)(n:Nat)(s:AS)(o:Oper):Option (Nat×Nat×Int×List b6):=match lQ n o,o.op with
 | true,.indexAddr T x y=>match s.ev x,s.ev y,oq P T,g8 P T with
  | some (.ref id),some (.int _ i),none,some (_,sz)=>match look id s.r with
   | some ⟨_,a,l⟩=>match Nat.beq sz a with
    | true=>some (id,sz,i,l)
    | false=>none
   | none=>none
  | _,_,_,_=>none
 | _,_=>none
theorem cr(id sz:Nat)(enc:α→b6){L:List α}{i:Int}(l:aU i L.length=true)(h:Kx P n s o=some (id,sz,i,L.map enc):=by kernel_rfl):cd P n s o=some (s.put o.dst (.eptr id sz i.toNat 0)):=by
 unfold Kx at h;split at h
 case h_2=>cases h
 rename_i T x y a c;obtain⟨d,a,m⟩:=pu a;split at h
 case h_2=>cases h
 rename_i e f g j;split at h
 case h_2=>cases h
 rename_i k;split at h
 case h_2=>cases h
 rename_i b;have b:=iO b;simp only[qv,u4]at h;obtain⟨rfl,rfl,rfl,rfl⟩:=h;subst b;rw[a];exact aiL enc L _ T x y d c a m e f k g j l
def RK(n:Nat)(s:AS)(o:Oper):Option (TypeId×Nat×Nat×List b6):=match lQ n o,o.op with
 | true,.load T x=>match s.ev x with
  | some (.eptr id sz j off)=>match look id s.r with
   | some ⟨_,a,l⟩=>match Nat.beq sz a&&Nat.ble (id+1) TG with
    | true=>some (T,j,off,l)
    | false=>none
   | none=>none
  | _=>none
 | _,_=>none
def ad6:Option AV→AV
 | some v=>v
 | none=>.any
def ad4:Option AV→Bool
 | some _=>true
 | none=>false
theorem bJ(T:TypeId)(off:Nat)(enc b:α→b6){L:List α}{j:Nat}(q:j<L.length)(p:∀a,enc a=b a)(h:RK n s o=some (T,j,off,L.map enc):=by kernel_rfl)(k:ad4 (jj P T ((b (L.getD j default)).drop off))=true:=by kernel_rfl):
  cd P n s o=some (s.put o.dst (ad6 (jj P T ((b (L.getD j default)).drop off)))):=by
 unfold RK at h;split at h
 case h_2=>cases h
 rename_i T' x e f;obtain⟨d,e,r⟩:=pu e;split at h
 case h_2=>cases h
 rename_i l;split at h
 case h_2=>cases h
 rename_i m;split at h
 case h_2=>cases h
 rename_i c;rw[g6]at c;have g:=hF c.2;have c:=iO c.1;simp only[qv,u4]at h;obtain⟨rfl,rfl,rfl,rfl⟩:=h;subst c;cases i:jj P T' ((b (L.getD _ default)).drop _) with
 | none=>rw[i]at k;cases k
 | some v =>
  rw[e];exact XB enc b L T' x d g f e r l m q p i
def PN(P:Program)(s:AS)(o:Oper):Option (Nat×TypeId×Nat×Nat×Nat×List b6):=match o.dst,o.op with
 | none,.store T x y=>match s.ev x,s.ev y with
  | some (.eptr id sz j off),some v=>match look id s.r,kN v,cz P T with
   | some ⟨et,a,l⟩,some b,some k=>match Nat.beq sz a&&Nat.beq k b.length with
    | true=>some (id,et,sz,j,off,l)
    | false=>none
   | _,_,_=>none
  | _,_=>none
 | _,_=>none
def zE(s:AS)(o:Oper):b6:=match o.op with
 | .store _ _ y=>match s.ev y with
  | some v=>match kN v with|some a=>a|none=>[]
  | none=>[]
 | _=>[]
theorem dI(id:Nat)(et:TypeId)(sz off:Nat)(enc b:α→b6){L:List α}{j:Nat}(new:α)(w:j<L.length)(u:∀a,enc a=b a)(h:PN P s o=some (id,et,sz,j,off,L.map enc):=by kernel_rfl)
  (d:(Nat.ble (off+(zE s o).length) (b (L.getD j default)).length&&ex [] (zE s o))=true:=by kernel_rfl) (g:jG off (zE s o) (b (L.getD j default))=b new:=by kernel_rfl) :
  cd P n s o=some (eD id ⟨et,sz,(L.set j new).map enc⟩ s):=by
 unfold PN at h;split at h
 case h_2=>cases h
 rename_i T x y t c;split at h
 case h_2=>cases h
 rename_i v l f;split at h
 case h_2=>cases h
 rename_i A k m i z;split at h
 case h_2=>cases h
 rename_i e;simp only[g6]at e;have p:=iO e.1;have q:=iO e.2;simp only[qv,u4]at h;obtain⟨rfl,rfl,rfl,rfl,rfl,rfl⟩:=h;subst p;subst q;have r:zE s o=A:=by unfold zE;simp only[c,f,i]
 rw[r]at d g;simp only[g6]at d;exact XQ enc b L new T x y c t l f m w i z u d.1 d.2 g
def Nc(P:Program)(n:Nat)(s:AS)(o:Oper):Option (List b6):=match lQ n o,o.op with
 | true,.call ⟨.builtin .len,⟨[x]⟩,⟨[T]⟩⟩=>match s.ev x,g8 P T with
  | some (.sl l),some _=>some l
  | some (.ref id),some _=>match look id s.r with
   | some ⟨_,_,l⟩=>some l
   | none=>none
  | _,_=>none
 | _,_=>none
theorem bF enc(L:List α)(h:Nc P n s o=some (L.map enc):=by kernel_rfl):cd P n s o=some (s.put o.dst (.int .i64 L.length)):=by
 grind[Nc,pu,adb,ah1]
def PO(P:Program)(n:Nat)(s:AS)(o:Oper):Option (Nat×Nat×TypeId×Nat×Nat×List b6×List b6):=match o.dst,o.op with
 | some d,.call ⟨.builtin .append,⟨[x,y]⟩,⟨[T,T']⟩⟩=>match Nat.beq T T'&&Nat.ble (d+1) n,s.ev x,s.ev y,iJ P T with
  | true,some (.ref id),some (.sl new),some (et,sz,bytes)=>match look id s.r with
   | some ⟨a,b,l⟩=>match (Nat.beq et a&&Nat.beq sz b)&&!s.u.contains (cS id) with
    | true=>some (d,id,et,sz,bytes,new,l)
    | false=>none
   | none=>none
  | _,_,_,_=>none
 | _,_=>none
theorem cG(d id:Nat)(et:TypeId)(sz:Nat)(enc:α→b6){L M:List α}{bytes:Nat}{new:List b6}(b:new=M.map enc)(v:∀a,(enc a).length=sz)(u:fits (L.length+M.length) bytes=true)(h:PO P n s o=some (d,id,et,sz,bytes,new,L.map enc):=by kernel_rfl):
  cd P n s o=some (gh d id ⟨et,sz,(L++M).map enc⟩ s):=by
 unfold PO at h;split at h
 case h_2=>cases h
 rename_i w x y T T' t g;split at h
 case h_2=>cases h
 rename_i f i j k;simp only[g6]at f;have r:=iO f.1;split at h
 case h_2=>cases h
 rename_i l;split at h
 case h_2=>cases h
 rename_i c;simp only[g6,BY]at c;have m:=iO c.1.1;have p:=iO c.1.2;have q:=c.2;simp only[qv,u4]at h;obtain⟨rfl,rfl,rfl,rfl,rfl,rfl,rfl⟩:=h;have e:T=T':=r;subst e;subst m;subst p;exact aj5 enc L M T x y _ g t f.2 i j b l k v u q rfl rfl
def N2(P:Program)(n:Nat)(s:AS)(o:Oper)(new:List b6):Option AS:=match lQ n o with
 | true=>some (s.put o.dst (.sl new))
 | false=>none
theorem ii enc(M:List α){new}(a:new=M.map enc)(h:cd P n s o=N2 P n s o new:=by kernel_rfl)(b:lQ n o=true:=by kernel_rfl):cd P n s o=some (s.put o.dst (.sl (M.map enc))):=by
 grind[N2]
def sV(n:Nat)(s:AS)(o:Oper):Option (BinOp×AV×AV):=match lQ n o,o.op with
 | true,.binOp op _ x y _=>match s.ev x,s.ev y with
  | some u,some v=>some (op,u,v)
  | _,_=>none
 | _,_=>none
theorem akV k a{b}(c:(b != 0)=true)(h:sV n s o=some (.quo,.int k a,.int k b):=by kernel_rfl):cd P n s o=some (s.put o.dst (.int k (k.wrap (a.tdiv b)))):=by
 grind[sV,pu,abv]
theorem Gm k a{b}(c:(b != 0)=true)(h:sV n s o=some (.rem,.int k a,.int k b):=by kernel_rfl):cd P n s o=some (s.put o.dst (.int k (a.tmod b))):=by
 grind[sV,pu,ajG]
theorem alI{a b}(c:ur a b=true)(h:sV n s o=some (.add,.str a,.str b):=by kernel_rfl):cd P n s o=some (s.put o.dst (.str (a++b))):=by
 grind[sV,pu,Zo]
end
section
variable{a:Cx}{Q:AV→AS→Prop}{s:AS}{fn:Func}
theorem bD{V}(h:gz a.P s fn.results.toList=some [V]:=by kernel_rfl):VE (fm:=fm0) a (bodyPost a.P fn (bP a.M a.w0 (fun v _=>v=V))) [] .ret s:=rr rfl h rfl
theorem jC{l}(h:gz a.P s fn.results.toList=some l:=by kernel_rfl)(b:oe l=.tup l:=by kernel_rfl):VE (fm:=fm0) a (bodyPost a.P fn (bP a.M a.w0 (fun v _=>v=.tup l))) [] .ret s:=rr rfl h b
theorem eX{V}{id}{ar}(h:gz a.P s fn.results.toList=some [V]:=by kernel_rfl)(b:look id s.r=some ar:=by kernel_rfl):VE (fm:=fm0) a (bodyPost a.P fn (bP a.M a.w0 (fun v s=>v=V∧look id s.r=some ar))) [] .ret s:=rr rfl h ⟨rfl,b⟩
theorem qW{l}{id}{ar}(h:gz a.P s fn.results.toList=some l:=by kernel_rfl)(b:look id s.r=some ar:=by kernel_rfl)(c:oe l=.tup l:=by kernel_rfl):VE (fm:=fm0) a (bodyPost a.P fn (bP a.M a.w0 (fun v s=>v=.tup l∧look id s.r=some ar))) [] .ret s :=by grind[rr]
end
def EH(id:Nat)(s:AS):AS:=match look id s.r with|some ar=>s.cA id ar.l|none=>s
def vn(id:Nat)(s:AS):Bool:=match look id s.r with|some _=>!s.u.contains (cS id)&&Nat.ble (id+1) TG|none=>false
theorem wo{b}{id}(h:(!b&&Nat.ble (id+1) TG)=true):b=false∧id<TG:=by
 rw[g6]at h;exact⟨by grind,hF h.2⟩
def QV(id a:Nat)(s:AS):AS:=match look id s.r with|some ar=>⟨pZ id a s.t,qE id a s.o,bj a ar (era id s.r),a::s.u⟩|none=>s
def WB(k:Nat)(s:AS):AS:=match look k s.o with|some cs=>{ s with o:=bj k (cs.map jF) s.o }|none=>s
def CO(d i n:Nat)(et:TypeId)(sz:Nat)(s:AS):AS:=match look i s.o with|some cs=>⟨s.t,bj i (cs.set n (.ref d)) s.o,bj d ⟨et,sz,[]⟩ s.r,d::s.u⟩|none=>s
def C2(i n:Nat)(s:AS):Bool:=match look i s.o with|some cs=>(match cs[n]? with|some .nils=>true|_=>false)|none=>false
section
variable{c:Cx}{Q:Exit→Act→World→Prop}{g:ck}{e:Exit}{s:AS}{b:Array Oper}{l:List Oper}
theorem jz id(h:VE c Q g e (EH id s))(b:vn id s=true:=by kernel_rfl):VE c Q g e s:=by
 unfold vn at b;unfold EH at h;split at b
 ·rename_i ar a;rw[a]at h;exact agD id (wo b).2 a (wo b).1 h
 grind
theorem ny id(h:OT c Q g b l (EH id s))(d:vn id s=true:=by kernel_rfl):OT c Q g b l s:=by
 unfold vn at d;unfold EH at h;split at d
 ·rename_i ar a;rw[a]at h;exact ajW id (wo d).2 a (wo d).1 h
 grind
theorem rf id a(h:VE c Q g e (QV id a s))(d:vn id s=true:=by kernel_rfl)(f:has s.u a=false:=by kernel_rfl):VE c Q g e s:=by
 unfold vn at d;unfold QV at h;split at d
 ·rename_i ar b;rw[b]at h;exact akm id a (wo d).2 b f (wo d).1 h
 grind
theorem va k(h:VE c Q g e (WB k s)):VE c Q g e s:=by
 grind[WB,ahY]
theorem Bv{b:Array Oper}{f:Func}{p:d4}{i:Nat}(T:TypeId)(d:Nat){e:TypeId}{sz:Nat}(k:OT c Q g b (aJ f p (i+1)) (Ld d ⟨e,sz,[]⟩ s))(l:aJ f p i=aL f p i::aJ f p (i+1):=by kernel_rfl)(j:cv b s (aL f p i)=true:=by kernel_rfl)(a:(aL f p i).op=.buildSlice T 0 #[]:=by kernel_rfl)(h:(aL f p i).dst=some d:=by kernel_rfl)(m:Nat.ble (d+1) c.n=true:=by kernel_rfl)
  (n:c.P.underlying T=some (.slice e):=by kernel_rfl) (q:cz c.P e=some sz:=by kernel_rfl) (o:has s.u d=false:=by kernel_rfl):OT c Q g b (aJ f p i) s:=alC _ T d l j a h m n q o k
theorem UY{b:Array Oper}{f:Func}{p:d4}{i:Nat}(T:TypeId)(h:Nat)(parts:Array (Nat×Operand))(d:Nat){e:TypeId}{sz:Nat}{l:List b6}(k:OT c Q g b (aJ f p (i+1)) (Ld d ⟨e,sz,l⟩ s))(hl:aJ f p i=aL f p i::aJ f p (i+1):=by kernel_rfl)(hg:cv b s (aL f p i)=true:=by kernel_rfl)
  (I:(aL f p i).op=.buildSlice T h parts:=by kernel_rfl) (hd:(aL f p i).dst=some d:=by kernel_rfl) (hn:Nat.ble (d+1) c.n=true:=by kernel_rfl) (j:oJ c.P s T h parts.toList=some (.sl l):=by kernel_rfl) (x:g8 c.P T=some (e,sz):=by kernel_rfl) (hu:has s.u d=false:=by kernel_rfl):OT c Q g b (aJ f p i) s:=by
 rw[hl];refine eL _ hg fun a w ι N=>?_;refine v9 rfl fun K hK=>?_;unfold oJ at j;split at j
 case h_2=>cases j
 rename_i e1 A ps q J;split at j
 case h_2=>cases j
 rename_i l' G;split at j
 case isFalse=>cases j
 rename_i u;obtain⟨c1,R,c3,c4⟩:=u;injection j with j;injection j with j;subst j
 rw[x]at q;injection q with q;injection q with Z h2;subst Z;subst h2
 obtain⟨q1,q2⟩:=B9 N J;unfold g8 at x;split at x
 case h_2=>cases x
 rename_i e' L;cases o:c.P.info? e' with
 | none=>simp[cz,o]at x
 | some t =>
  simp only[cz,o,If,qv,u4]at x;obtain⟨rfl,r⟩:=x;have m:t.size=A+1:=r;clear r;unfold fE at c4;cases D:t.zero with
  | none=>simp[o,D]at c4
  | some z =>
   have H:(parts.map fun (y:Nat×Operand)=>(y.1,a.eval y.2)).toList=parts.toList.map fun y=>(y.1,a.eval y.2):=agQ;obtain⟨B,O,E,S,U,V,W,X,Y⟩:=Hs (zs:=(Array.range (h*t.size)).map (z.cells[· % z.cells.size]!)) q1 q2 G (by simp[c1,m]);rw[←H]at E;have hy:B.toList=O:=by
    rw[S,c1];simp[m]
   have F:Instr.fill (fun i=>some (i*t.size,t.size)) ((Array.range (h*t.size)).map (z.cells[· % z.cells.size]!)) (parts.map fun (y:Nat×Operand)=>(y.1,a.eval y.2)).toList=some B:=by rw[m];rw[m]at E;exact E
   have M:0<h*t.size:=Nat.mul_pos R (by omega);have C:=run_buildSlice (P:=c.P) w T e' h (parts.map fun (y:Nat×Operand)=>(y.1,a.eval y.2)) B t z L o D (by rw[m];omega) (by omega) F;have hm:h*1≤h*(A+1):=anB _ (by omega);have v:=N.xV (hF hn) hu (e:=e') (sz:=A+1) (n:=h) (l:=l') (vs:=O) (by rw[V,c1]) (by unfold maxLen;omega) (by rw[U,c1]) W X Y;refine dK ?_;unfold execOp;simp only[I,n4,C,pt,By];rw[hd];rw[←hy]at v;simp only[aaC]at v;exact hK _ _ (k _ _ _ v)
theorem pg{α:Type}(enc:α→b6)(h:α){b:Array Oper}{f:Func}{p:d4}{i:Nat}(T:TypeId)(x y:Operand)(d:Nat){e:TypeId}{sz:Nat}{zc:b6}{bytes:Nat}{n:Int}{kd kd':IntKind}(j:fO n bytes=true)(k:OT c Q g b (aJ f p (i+1)) (Ld d ⟨e,sz,List.map enc (List.replicate n.toNat h)⟩ s))
  (q:aJ f p i=aL f p i::aJ f p (i+1):=by kernel_rfl) (o:cv b s (aL f p i)=true:=by kernel_rfl) (a:(aL f p i).op=.makeSlice T x y:=by kernel_rfl) (l:(aL f p i).dst=some d:=by kernel_rfl) (r:Nat.ble (d+1) c.n=true:=by kernel_rfl) (v:s.ev x=some (.int kd n):=by kernel_rfl) (w:s.ev y=some (.int kd' n):=by kernel_rfl)
  (t:iJ c.P T=some (e,sz,bytes):=by kernel_rfl) (z:fE c.P e=some zc:=by kernel_rfl) (m:zc.map jF=enc h:=by kernel_rfl) (u:has s.u d=false:=by kernel_rfl):OT c Q g b (aJ f p i) s:=afc enc h _ T x y d q o a l r v w t z m u j k
theorem fQ d k et sz(h:VE c Q g e (XY k d ⟨et,sz,[]⟩ s))(a:has s.u d=false:=by kernel_rfl)(b:look k s.t=some .nils:=by kernel_rfl):VE c Q g e s:=acZ d k et sz a b h
theorem sC d i n et sz(h:VE c Q g e (CO d i n et sz s))(a:has s.u d=false:=by kernel_rfl)(b:C2 i n s=true:=by kernel_rfl):VE c Q g e s:=by
 grind[C2,CO,aio]
end
section
variable{P:Program}{n:Nat}{c:AS}{b:Array Oper}{g:List Tag}{K:Nat}{a:ek}{o:Oper}
theorem dq{m}{s'}(h:cd P n (nth a m) o=some s')(d:s'=nth a (m+1):=by kernel_rfl)(e:o.guard.isNone=true:=by kernel_rfl):fK P n c b g K a o (.s (m+1)) :=by grind[W1]
theorem cE m(h:cd P n (nth a m) o=some (nth a (m+1)):=by kernel_rfl)(d:o.guard.isNone=true:=by kernel_rfl):fK P n c b g K a o (.s (m+1)):=W1 d h
theorem Dm{lo}{s'}(h:cd P n (nth a lo) o=some s')(d:s'=nth a lo:=by kernel_rfl)(e:cv b (nth a lo) o=true:=by kernel_rfl):fK P n c b g K a o (.v lo 1) :=by grind[fv,di,dp,fG]
def E1(b:Array Oper)(a:ek)(o:Oper)(d:Nat):Nat→Nat→List (Bool×Option (FuncId×b6)×Option AV)
 | _,0=>[]
 | lo,k+1=>(cv b (nth a lo) o,eG (nth a lo) o,look d (nth a lo).t)::E1 b a o d (lo+1) k
def DM(x:Bool×Option (FuncId×b6)×Option AV):Nat→List (Bool×Option (FuncId×b6)×Option AV)
 | 0=>[]
 | k+1=>x::DM x k
theorem VG{d}{f}{args}{V}:∀{k lo},E1 b a o d lo k=DM (true,some (f,args),some V) k→eK lo k fun j=>cv b (nth a j) o=true∧eG (nth a j) o=some (f,args)∧look d (nth a j).t=some V
 | 0,_,_=>trivial
 | k+1,lo,h=>by
  simp only[E1,DM,alt,u4]at h;exact⟨⟨h.1.1,h.1.2.1,h.1.2.2⟩,VG h.2⟩
theorem cR(lo k d:Nat){f}{args}{V}(j:aZ P f args (fun v _=>v=V))(e:cN P f=true:=by kernel_rfl)(m:V.dg []=true:=by kernel_rfl)(l:o.dst=some d:=by kernel_rfl)(i:Nat.ble (d+1) n=true:=by kernel_rfl)
  (h:E1 b a o d lo k=DM (true,some (f,args),some V) k:=by kernel_rfl):fK P n c b g K a o (.c lo k) :=by grind[k_c,VG]
def DN(a:ek)(d:Nat):Nat→Nat→List (Option b6×Bool×Option AV×Bool)
 | _,0=>[]
 | lo,k+1=>(look d (nth a lo).o,(look d (nth a lo).r).isNone,look d (nth a lo).t,has (nth a lo).u d)::DN a d (lo+1) k
def Ch(x:Option b6×Bool×Option AV×Bool):Nat→List (Option b6×Bool×Option AV×Bool)
 | 0=>[]
 | k+1=>x::Ch x k
theorem OV{d}{cs}:∀{k lo},DN a d lo k=Ch (some cs,true,some (.ptr d 0),true) k→eK lo k fun j=>look d (nth a j).o=some cs∧look d (nth a j).r=none∧look d (nth a j).t=some (.ptr d 0)∧has (nth a j).u d=true
 | 0,_,_=>trivial
 | k+1,lo,h=>by
  simp only[DN,Ch,alt,u4]at h;exact⟨⟨h.1.1,by simp_all,h.1.2.2.1,h.1.2.2.2⟩,OV h.2⟩
theorem tW(lo k T d:Nat) cs(j:o.guard.isNone=true:=by kernel_rfl)(f:o.op=.alloc T:=by kernel_rfl)(i:o.dst=some d:=by kernel_rfl)(e:Nat.ble (d+1) (min n 450000)=true:=by kernel_rfl)(m:fE P T=some cs:=by kernel_rfl)(l:has c.u d=false:=by kernel_rfl)
  (h:DN a d lo k=Ch (some cs,true,some (.ptr d 0),true) k:=by kernel_rfl):fK P n c b g K a o (.a lo k) :=by grind[k_a,OV]
def Cd(b:Array Oper)(a:ek)(o:Oper)(d:Nat):Nat→Nat→List (Bool×Option AV×Option bZ×Bool×Bool)
 | _,0=>[]
 | lo,k+1=>(cv b (nth a lo) o,look d (nth a lo).t,look d (nth a lo).r,(look d (nth a lo).o).isNone,has (nth a lo).u d)::Cd b a o d (lo+1) k
def CN(x:Bool×Option AV×Option bZ×Bool×Bool):Nat→List (Bool×Option AV×Option bZ×Bool×Bool)
 | 0=>[]
 | k+1=>x::CN x k
theorem TY{d}{ar}:∀{k lo},Cd b a o d lo k=CN (true,some (.ref d),some ar,true,true) k→eK lo k fun j=>cv b (nth a j) o=true∧look d (nth a j).t=some (.ref d)∧look d (nth a j).r=some ar∧look d (nth a j).o=none∧has (nth a j).u d=true
 | 0,_,_=>trivial
 | k+1,lo,h=>by
  simp only[Cd,CN,alt,u4]at h;exact⟨⟨h.1.1,h.1.2.1,h.1.2.2.1,by simp_all,h.1.2.2.2.2⟩,TY h.2⟩
theorem e_n(lo k T d e sz:Nat)(m:o.op=.buildSlice T 0 #[]:=by kernel_rfl)(i:o.dst=some d:=by kernel_rfl)(f:Nat.ble (d+1) n=true:=by kernel_rfl)(p:has c.u d=false:=by kernel_rfl)(q:P.underlying T=some (.slice e):=by kernel_rfl)(r:cz P e=some sz:=by kernel_rfl)
  (h:Cd b a o d lo k=CN (true,some (.ref d),some ⟨e,sz,[]⟩,true,true) k:=by kernel_rfl):fK P n c b g K a o (.o lo k):=by
 refine⟨d,i,hF f,p,zr (fun j l=>⟨Ei l.1,?_⟩) (TY h)⟩
 grind[AY]
def Cr(b:Array Oper)(a:ek)(o:Oper)(d:Nat):Nat→Nat→List (Bool×Option (FuncId×b6)×Option AV×Option bZ×Bool×Bool)
 | _,0=>[]
 | lo,k+1=>(cv b (nth a lo) o,eG (nth a lo) o,look d (nth a lo).t,look d (nth a lo).r,(look d (nth a lo).o).isNone,has (nth a lo).u d)::Cr b a o d (lo+1) k
def Cb(x:Bool×Option (FuncId×b6)×Option AV×Option bZ×Bool×Bool):Nat→List (Bool×Option (FuncId×b6)×Option AV×Option bZ×Bool×Bool)
 | 0=>[]
 | k+1=>x::Cb x k
theorem Pw{d}{f}{args}{V}{ar}:∀{k lo},Cr b a o d lo k=Cb (true,some (f,args),some V,some ar,true,true) k→eK lo k fun j=>cv b (nth a j) o=true∧eG (nth a j) o=some (f,args)∧look d (nth a j).t=some V∧look d (nth a j).r=some ar∧look d (nth a j).o=none∧has (nth a j).u d=true
 | 0,_,_=>trivial
 | k+1,lo,h=>by
  simp only[Cr,Cb,alt,u4]at h;exact⟨⟨h.1.1,h.1.2.1,h.1.2.2.1,h.1.2.2.2.1,by simp_all,h.1.2.2.2.2.2⟩,Pw h.2⟩
theorem Jw(lo k d:Nat){f}{args}{V}{id}{ar}(m:aZ P f args (fun v r=>v=V∧look id r.r=some ar))(e:∀(N:Nat→Prop) w ι x,Rel N w ι V x→∃y,ι id=some y)(i:cN P f=true:=by kernel_rfl)
  (p:o.dst=some d:=by kernel_rfl) (j:Nat.ble (d+1) n=true:=by kernel_rfl) (q:has c.u d=false:=by kernel_rfl) (l:Nat.ble (id+1) TG=true:=by kernel_rfl) (h:Cr b a o d lo k=Cb (true,some (f,args),some (V.gp id d),some ar,true,true) k:=by kernel_rfl):fK P n c b g K a o (.o lo k):=k_o V d l m i e p j q (Pw h)
end
def aY(p:Nat×Nat):b6:=[.adr p.1 p.2]
def ah5(k id g off:Nat)(s:AS):AS:={ s with t:=bj k (.pp id g off) s.t }
def lz(k:Nat)(v:AV)(s:AS):AS:={ s with t:=bj k v s.t }
theorem aI.kZ{c:Cx}{s:AS}{a:Act}{w:World}{ι:Env}(h:aI c s a w ι){k}{v}(i:∀x,a.tmps[k]?=some x→Rel (NN c.M ι) w ι v x)(f:∃u,look k s.t=some u):aI c (lz k v s) a w ι:=by
 refine⟨⟨h.hs.below,h.hs.old,h.hs.use,h.hs.own,h.hs.inj,h.hs.ko,h.hs.kr,h.hs.objs,h.hs.arrs,h.hs.pin⟩,h.dfr,h.n,fun j y d=>?_⟩;have b:look j (bj k v s.t)=some y:=d;rw[cp]at b;split at b
 ·rename_i e;subst e;obtain⟨u,g⟩:=f;obtain⟨x,l,_⟩:=h.tmp j u g
  grind
 ·exact h.tmp j y b
section
variable{b:Cx}{Q:Exit→Act→World→Prop}{d:ck}{e:Exit}{s:AS}{c:Array Oper}{l:List Oper}
theorem Rz k id off(h:∀g:Nat,VE b Q d e (ah5 k id g off s))(f:look k s.t=some (.ptr id off):=by kernel_rfl):VE b Q d e s:=fun a w ι i=>by
 obtain⟨x,m,l⟩:=i.tmp k _ f;cases l with
 | ptr _ _ _ g j=>exact h g a w ι (i.kZ (v:=.pp id g off) (fun y c=>by rw[m]at c;injection c with c;subst c;exact .pp _ _ _ _ j) ⟨_,f⟩)
theorem ahS{a}{w}{ι}(e:aI b s a w ι){j k id g off o}(f:look j s.t=some (.adr g off))(i:look k s.t=some (.pp id g o)):aI b (lz j (.ptr id off) s) a w ι:=by
 obtain⟨x,m,l⟩:=e.tmp j _ f;obtain⟨y,n,d⟩:=e.tmp k _ i;refine e.kZ (fun z c=>?_) ⟨_,f⟩;rw[m]at c;injection c with c;subst c
 cases l with
 | adr _ _ _ =>
  cases d with
  | pp _ _ _ _ h=>exact .ptr _ _ _ _ h
theorem dc j k id g off o(h:OT b Q d c l (lz j (.ptr id off) s))(e:look j s.t=some (.adr g off):=by kernel_rfl)(f:look k s.t=some (.pp id g o):=by kernel_rfl):OT b Q d c l s:=fun a w ι i=>h a w ι (ahS i e f)
end
end Go.Proofs.YtocgkfoifehcbaaGreat
namespace Go.Proofs.YtocgkfoifehcbaaGreat
set_option linter.all false
open Go.RowKit
variable[FM]
def nC(w:World)(id0:Nat)(v0:Value):az:=⟨w,fun g=>bg (some v0)=some g,fun i=>if i=id0 then some v0 else none⟩
def wj(P:Program)(f:FuncId)(args:b6)(id0:Nat)(ar:bZ)(Q:AV→AS→Prop):Prop :=
 ∀M w xs v0 d,(∀b,M b→b<w.heap.size∧bg (some v0)≠some b)→w.ownsRow 0 ar.e ar.sz v0 ar.l.length d→(∀e∈ar.l,e.length=ar.sz)→(∀x∈d,x.oneCell'=true) →
  (∀j e,ar.l[j]?=some e→∀i c,e[i]?=some c→∃x,d[j*ar.sz+i]?=some x∧Rel (NN M (ext bA id0 v0)) w bA c x) →
  args.length=xs.size→(∀(i:Nat) a x,args[i]?=some a→xs[i]?=some x→Rel (NN M (ext bA id0 v0)) w (ext bA id0 v0) a x)→Calls P f xs w (bP M (nC w id0 v0) Q)
theorem JE{w:World}{e}{sz n}{v}{k}(h:w.ownsRow 0 e sz v n k){g}(a:bg (some v)=some g):g<w.heap.size:=by
 obtain⟨b,_⟩|⟨f,c,d,b,_,j,_⟩:=h.2
 ·rw[b]at a;cases a
 ·rw[b]at a;have i:some f=some g:=a
  grind
theorem Bo{P:Program}{f:FuncId}{fn:Func}{c:Code}{args:b6}{id0:Nat}{ar:bZ}{Q:AV→AS→Prop}(L:P.funcs[f]?=some fn)(z:fn.body=some c)(n:Nat)(V:fn.ntmps=n)(U:args.length≤n)
  (h:∀M G,VE (fm:=fm0) ⟨P,n,M,G⟩ (bodyPost P fn (bP M G Q)) [.c c] .normal ⟨idxs 0 args,[],[(id0,ar)],[id0,cS id0]⟩):wj P f args id0 ar Q:=by
 intro M w xs v0 T J p t u A D E;refine amy L z ?_;have F:∀i y,ext bA id0 v0 i=some y→i=id0∧y=v0:=fun i y q=>by
  by_cases e:i=id0
  ·subst e;rw[cH]at q;injection q with q;exact⟨rfl,q.symm⟩
  ·rw[bR _ _ e]at q;cases q
 have m:∀i g,bg (ext bA id0 v0 i)=some g→i=id0∧bg (some v0)=some g:=fun i g o=>by
  cases s:ext bA id0 v0 i with
  | none=>rw[s]at o;cases o
  | some y=>obtain⟨H,I⟩:=F i y s;rw[s,I]at o;exact⟨H,o⟩
 refine rQ (h M (nC w id0 v0) { tmps:=xs++Array.replicate (fn.ntmps-xs.size) undef,defers:=[] } w (ext bA id0 v0) ?_) (fun e a w' N=>?_)
 ·refine @aI.mk fm0 _ _ _ _ _ ⟨⟨rfl,rfl,rfl,h7 _,fun _ _ _=>rfl⟩,fun b z=>J b z,fun i y q=>?_,fun i g o=>⟨.inr (m i g o).2,JE p (m i g o).2⟩,fun i S g o B=>(m i g o).1.trans (m S g B).1.symm,fun i cs d=>(by cases d),fun i a d=>?_,fun i cs d=>(by cases d),fun i a d W=>?_,fun i v R=>?_⟩ rfl ?_ (fun k v C=>?_)
  ·rw[(F i y q).1];exact fJ (by simp)
  ·simp only[look]at d;split at d
   ·rename_i e;subst e;exact fJ (by simp)
   ·cases d
  ·simp only[look]at d;split at d
   ·rename_i e;subst e;injection d with d;subst d
    exact⟨v0,T,cH _ _ _,p,t,u,fun j e s k c K=>by obtain⟨x,E,O⟩:=A j e s k c K;exact⟨x,E,.inl O⟩⟩
   ·cases d
  ·have l:(if i=id0 then some v0 else none)=some v:=R;split at l
   ·rename_i e;subst e;injection l with l;subst l
    exact⟨cH _ _ _,by simp⟩
   ·cases l
  ·simp;omega
  ·rw[nM,iF (n3 _),aiE]at C;have r:k<xs.size:=by rw[←D];exact(g7.1 C).1
   refine⟨xs[k],?_,E k v _ C (h8 r)⟩;simp only[];rw[An r,h8 r]
 ·cases e<;>exact N
theorem HS.back{M:Nat→Prop}{V:az}{w w':World}{ι G:Env}{s U:AS}(h:HS M V w ι s){id id0:Nat}{ar m:bZ}{v0:Value}(a0:id0<TG)(J:look id s.r=some ar)(p:ι id=some v0)
  (q:HS (fun b=>NN M ι b∧bg (some v0)≠some b) (nC w id0 v0) w' G U) (K:look id0 U.r=some m):HS M V w' ι (eD id m s)∧(∀b,NN M ι b→NN (fun b=>NN M ι b∧bg (some v0)≠some b) G b)∧(∀b,b<w.heap.size→¬ NN M ι b→w'.heap[b]?=w.heap[b]?)∧w.heap.size≤w'.heap.size:=by
 have u:G id0=some v0:=(q.pin id0 v0 (by simp[nC])).1;have C:∀b,NN M ι b→NN (fun b=>NN M ι b∧bg (some v0)≠some b) G b:=fun b n=>by
  by_cases e:bg (some v0)=some b
  ·exact .inr ⟨id0,by rw[u];exact e⟩
  ·exact .inl ⟨n,e⟩
 have o:w.heap.size≤w'.heap.size:=q.below.size;have B:∀b,b<w.heap.size→bg (some v0)≠some b→w'.heap[b]?=w.heap[b]?:=fun b t n=>q.below.block b t n;have f:∀b,b<w.heap.size→¬ NN M ι b→w'.heap[b]?=w.heap[b]?:=fun b t n=>B b t (fun e=>n (.inr ⟨id,by rw[p];exact e⟩));refine⟨⟨?_,h.old,h.use,fun i g D=>⟨(h.own i g D).1,nx (h.own i g D).2 o⟩,h.inj,h.ko,fun i a E=>?_,fun i cs E O=>?_,fun i a E O=>?_,h.pin⟩,C,f,o⟩
 ·refine h.below.trans ⟨q.below.os,q.below.tape,q.below.output,o,fun k z Z=>B k (nx z h.below.size) (fun e=>?_)⟩;rcases (h.own id k (by rw[p];exact e)).1 with I|I
  ·exact absurd z (afl.2 I)
  ·exact Z I
 ·have d:look i (bj id m s.r)=some a:=E;rw[cp]at d;split at d
  ·rename_i e;subst e;exact h.kr i ar J
  ·exact h.kr i a d
 ·obtain⟨g,T,vs,y,W,X⟩:=h.objs i cs E O;have N:bg (some v0)≠some g:=fun e=>by
   have:=h.inj i id g (by rw[y];rfl) (by rw[p];exact e);subst this;rw[y]at p;injection p with p;subst p
   obtain⟨v,xs,l,F,_⟩:=h.arrs i ar J (by rw[y];rfl);rw[y]at l;injection l with l;subst l
   rcases F.2 with⟨A,_⟩|⟨_,_,_,A,_⟩<;>cases A
  exact⟨g,T,vs,y,(B g (h.own i g (by rw[y];rfl)).2 N).trans W,X.mono o (fun b _ n=>n) f (fun _ _ h=>h)⟩
 ·have d:look i (bj id m s.r)=some a:=E;rw[cp]at d;split at d
  ·rename_i e;subst e;injection d with d;subst d
   obtain⟨v,xs,l,F,A,R,S⟩:=q.arrs id0 m K (by rw[u];rfl);rw[u]at l;injection l with l;subst l
   refine⟨v0,xs,p,F,A,R,fun j e L k c z=>?_⟩;obtain⟨x,Q,P⟩:=S j e L k c z;exact⟨x,Q,.inl ((P.flat (by omega)).mono (h7 _) (fun b _ n=>C b n) (fun _ _ _=>rfl) (fun _ _ h=>h))⟩
  ·rename_i e;obtain⟨v,xs,l,F,A,R,S⟩:=h.arrs i a d O;refine⟨v,xs,l,fS F (fun g D=>B g (h.own i g (by rw[l];exact D)).2 (fun e'=>e (h.inj i id g (by rw[l];exact D) (by rw[p];exact e')))),A,R,fun j Y L k c z=>?_⟩;obtain⟨x,Q,P⟩:=S j Y L k c z;exact⟨x,Q,P.mono o (fun b _ n=>n) f (fun _ h=>h) (fun r H=>B r (h.kR H) (fun e=>by
    have:=h.inj _ id r (by rw[H];rfl) (by rw[p];exact e);exact h.AG J H this)) (fun h=>h)⟩
def C6(id id0:Nat):AV→Option AV
 | .ref i=>match Nat.beq i id with|true=>some (.ref id0)|false=>none
 | v=>match v.dg [] with|true=>some (iu v)|false=>none
def uw(id id0:Nat):b6→Option b6
 | []=>some []
 | v::r=>match C6 id id0 v,uw id id0 r with|some x,some l=>some (x::l)|_,_=>none
def OW(s:AS)(o:Oper)(id id0:Nat):Option (FuncId×b6) :=
 match o.op with
 | .call c=>match c.callee with
  | .value a=>match s.ev a,dA s c.args.toList with
   | some (.fn f []),some l=>match uw id id0 l with
    | some l'=>some (f,l')
    | none=>none
   | _,_=>none
  | _=>none
 | _=>none
theorem Om{id id0}:∀{l l'},uw id id0 l=some l'→l'.length=l.length
 | [],_,h=>by injection h with h;grind
 | v::r,l',h=>by
  unfold uw at h;split at h
  ·rename_i b a;injection h with h;subst h;simp[Om a]
  grind
theorem I0{id id0}:∀{l l'},uw id id0 l=some l'→∀(i:Nat) a,l'[i]?=some a→∃b,l[i]?=some b∧C6 id id0 b=some a
 | [],_,h,i,a,c=>by injection h with h;grind
 | v::r,l',h,i,a,c=>by
  unfold uw at h;split at h
  ·rename_i e d;injection h with h;subst h
   cases i with
   | zero=>grind
   | succ i=>exact I0 d i a c
  grind
theorem pF{b}{s}{fn}{R}(h:VE (fm:=fm0) b (bodyPost b.P fn R) [] .ret s):VE (fm:=fm0) b (bodyPost b.P fn R) [] .normal s:=fun a w ι c=>h a w ι c
def wG(id0:Nat):b6→Bool
 | []=>false
 | .ref i::r=>Nat.beq i id0||wG id0 r
 | _::r=>wG id0 r
theorem Jl{id0}:∀{l},wG id0 l=true→∃i:Nat,l[i]?=some (.ref id0)
 | [],h=>by cases h
 | v::r,h=>by
  unfold wG at h;split at h
  ·grind
  ·rename_i i e a;injection a with d b;subst d;subst b
   simp only[zt]at h;rcases h with h|h
   ·have:=iO h;subst this;exact⟨0,rfl⟩
   ·obtain⟨j,c⟩:=Jl h;exact⟨j+1,c⟩
  ·rename_i a;injection a with d b;subst b
   obtain⟨j,c⟩:=Jl h;exact⟨j+1,c⟩
theorem L5{id id0}{b a}(h:C6 id id0 b=some a):(b=.ref id∧a=.ref id0)∨(b.dg []=true∧a=iu b):=by
 unfold C6 at h;split at h
 ·split at h
  ·simp_all
  grind
 grind
theorem Z5{b}{id0}(h:iu b=.ref id0)(a:b.dg []=true):False:=by
 cases b<;>first|grind|(simp[AV.dg]at a;done)|(cases h)
theorem cc{α β:Type}{x}{f:α→Option β}{r}(h:(some x).bind f=some r):∃v,x=v∧f v=some r :=by grind
section
variable{d:Cx}{Q:Exit→Act→World→Prop}{q:ck}{s:AS}{m:Array Oper}{f:Func}{p:d4}{i:Nat}
theorem tx(id id0:Nat){g:FuncId}{args:b6}{V:AV}{ar C:bZ}(R:wj d.P g args id0 ar (fun v s1=>v=V∧look id0 s1.r=some C))(k:OT d Q q m (aJ f p (i+1)) ((eD id C s).put (aL f p i).dst V))
  (hl:aJ f p i=aL f p i::aJ f p (i+1):=by kernel_rfl) (hg:cv m s (aL f p i)=true:=by kernel_rfl) (T:cN d.P g=true:=by kernel_rfl) (t:OW s (aL f p i) id id0=some (g,args):=by kernel_rfl)
  (ha:look id s.r=some ar:=by kernel_rfl) (U:(cQ d.n (aL f p i).dst&&V.dg [])=true:=by kernel_rfl) (L:wG id0 args=true:=by kernel_rfl) (u:(Nat.ble (id+1) TG&&Nat.ble (id0+1) TG)=true:=by kernel_rfl):OT d Q q m (aJ f p i) s:=by
 rw[hl];refine eL _ hg fun a w ι H=>?_;refine v9 rfl fun K hK=>?_;simp only[g6]at U;unfold OW at t;split at t
 case h_2=>cases t
 rename_i c Y;split at t
 case h_2=>cases t
 rename_i fo I;split at t
 case h_2=>cases t
 rename_i f' l hf X;split at t
 case h_2=>cases t
 rename_i l' E;injection t with t;injection t with e1 e2;subst e1;subst e2
 obtain⟨q1,q2⟩:=lV H X;have z:∀(i:Nat) (b:AV),l[i]?=some b→∃y,(c.args.map a.eval)[i]?=some y∧Rel (NN d.M ι) w ι b y:=fun i b r=>by
  have e0:i<l.length:=(g7.1 r).1;have J:i<(c.args.toList.map a.eval).length:=by have d0:=q1;simp only[lp]at d0⊢;omega
  have G:=h6 J;exact⟨_,by rw[←aas,agQ];exact G,q2 i b _ r G⟩
 obtain⟨j,hj⟩:=Jl L;obtain⟨b,r,D⟩:=I0 E j _ hj;obtain⟨v0,N⟩:∃v0,ι id=some v0:=by
  obtain⟨rfl,_⟩|⟨Z,hz⟩:=L5 D
  ·obtain⟨y,_,B⟩:=z j _ r;cases B with
   | ref _ _ A n c h=>exact⟨_,h⟩
  ·exact(Z5 hz.symm Z).elim
 obtain⟨v1,xs,O,r2,r3,r4,r5⟩:=H.hs.arrs id ar ha (by rw[N];rfl);rw[N]at O;injection O with O;subst O
 have hN:∀b,NN (fun b=>NN d.M ι b∧bg (some v0)≠some b) (ext bA id0 v0) b→NN d.M ι b:=fun b r=>by
  rcases r with r|⟨i,r⟩
  ·exact r.1
  ·by_cases e:i=id0
   ·subst e;rw[cH]at r;exact .inr ⟨id,by rw[N];exact r⟩
   ·rw[bR _ _ e]at r;cases r
 refine dK ?_;obtain⟨ys,a0,S,_⟩:=ld (o:={ aL f p i with guard:=none }) H Y I hf T;have c0:ys=[]:=ne (by simpa using S.symm);subst c0;have b0:c.args.map a.eval++([]:d5).toArray=c.args.map a.eval:=by simp
 rw[a0,iL,b0];refine (R (fun b=>NN d.M ι b∧bg (some v0)≠some b) w _ v0 xs (fun b r=>⟨mq H.hs r.1,r.2⟩) r2 r3 r4 (fun j e he i c R=>?_) ?_ (fun i a' x P hx=>?_)).mono ?_
 ·obtain⟨x,hx,B⟩:=r5 j e he i c R;rw[g6]at u;have:=hF u.1;exact⟨x,hx,(B.flat (by omega)).mono (h7 _) (fun b _ r=>hN b r) (fun _ _ _=>rfl) (fun _ _ h=>h)⟩
 ·rw[Om E];simp at q1⊢;omega
 ·obtain⟨b,r,D⟩:=I0 E i _ P;obtain⟨y,G,B⟩:=z i b r;rw[hx]at G;injection G with G;subst G
  obtain⟨rfl,rfl⟩|⟨Z,rfl⟩:=L5 D
  ·cases B with
   | ref _ _ A n c h =>
    rw[N]at h;injection h with h;subst h
    exact .ref _ _ _ _ _ (cH _ _ _)
  ·exact Ac ((B.pure Z (ext bA id0 v0)).mono (h7 _) (fun b _ r=>hN b r) (fun _ _ _=>rfl) (fun _ _ h=>h))
 ·rintro e w' ⟨x,v,s1,ι1,rfl,⟨rfl,F⟩,W,B⟩
  rw[g6]at u;obtain⟨g1,g2,g3,g4⟩:=H.hs.back (hF u.2) ha N W F;have h3:Rel (NN d.M ι) w' ι v x:=(B.pure U.2 ι).mono (h7 _) (fun b _ r=>g2 b r) (fun _ _ _=>rfl) (fun _ _ h=>h);have M:aI d (eD id C s) a w' ι:=H.world g1 rfl g4 (fun b _ r=>r) g3 (fun _ _ h=>h);exact hK _ _ (k _ _ _ (M.put (ge U.1) h3))
end
def II(k id:Nat)(cs:b6)(s:AS):AS:={ t:=bj k (.cptr cs) (dB id s.t),o:=eS id s.o,r:=s.r,u:=s.u }
theorem HS.fo{M:Nat→Prop}{D:az}{w:World}{ι:Env}{s:AS}(h:HS M D w ι s){k id:Nat}{cs:b6}(I:D.pv id=none)(J:look id s.o=some cs):HS M D w (gg ι id) (II k id cs s):=by
 refine⟨h.below,h.old,fun i y f=>h.use i y (nJ f).2,fun i g z=>h.own i g (kU z).2,fun i N g z A=>h.inj i N g (kU z).2 (kU A).2,fun i cs m=>?_,h.kr,fun i cs m l=>?_,fun i a m l=>?_,fun i y l=>?_⟩
 ·obtain⟨u,B,_⟩:=kv m;exact h.ko i u B
 ·obtain⟨u,B,rfl⟩:=kv m;obtain⟨y,f⟩:=BH l;obtain⟨d,f⟩:=nJ f;obtain⟨g,T,vs,o,p,n⟩:=h.objs i u B (by rw[fM ι d]at l;exact l);refine⟨g,T,vs,(fM ι d).trans o,p,by rw[l4];exact n.len,n.one,fun j x v C L=>?_⟩;obtain⟨y,f,rfl⟩:=mi C;exact((n.rel j y v f L).cW (fun i m=>fM ι m)).mono (h7 _) (fun b _ t=>lB b t) (fun _ _ _=>rfl) (fun _ _ h=>h)
 ·obtain⟨y,f⟩:=yd.mp l;obtain⟨d,f⟩:=nJ f;obtain⟨v,xs,o,p,n,E,F⟩:=h.arrs i a m (by grind);refine⟨v,xs,(fM ι d).trans o,p,n,E,fun j e H k c G=>?_⟩;obtain⟨x,C,K⟩:=F j e H k c G;exact⟨x,C,K.mono (by omega) (fun b _ t=>lB b t) (fun _ _ _=>rfl) (fun r q=>(fM ι (fun e=>by
   rw[e]at q;obtain⟨g,T,vs,o,_,_⟩:=h.objs id cs J (by rw[q];rfl)
   grind)).trans q) (fun _ _=>rfl) (fun h=>h)⟩
 ·have e:i≠id:=fun e=>by grind
  exact⟨(fM ι e).trans (h.pin i y l).1,(h.pin i y l).2⟩
section
variable{m:Cx}{Q:Exit→Act→World→Prop}{n:ck}{s:AS}{d:Array Oper}{f:Func}{p:d4}{i:Nat}
theorem Xc{a:Act}{w:World}{ι:Env}(n:aI m s a w ι){k id:Nat}{cs:b6}(H:look k s.t=some (.ptr id 0))(C:look id s.o=some cs)(I:ex [] cs=true)(A:s.u.contains (cS id)=false):aI m (II k id cs s) a w (gg ι id):=by
 obtain⟨x,K,r⟩:=n.tmp k _ H;cases r with
 | ptr _ _ _ g q =>
  obtain⟨M,T,vs,l,D,t⟩:=n.hs.objs id cs C (by rw[q];rfl);rw[q]at l;injection l with l;injection l with l;injection l with l;injection l with l;subst l
  refine⟨n.hs.fo (n.hs.np A) C,n.dfr,n.n,fun j v G=>?_⟩;have d:look j (bj k (.cptr cs) (dB id s.t))=some v:=G;rw[cp]at d;split at d
  ·rename_i e;subst e;injection d with d;subst d
   refine⟨_,K,.cptr _ cs g 0 (fun i=>(vs[i]?).getD (.bool true)) (n.hs.own id g (by rw[q];rfl)).2 (fun f=>?_) (fun i=>?_) (fun i c p=>?_) (fun i c p=>?_)⟩
   ·rcases f with f|⟨i,f⟩
    ·exact n.hs.sep f (by rw[q];rfl)
    ·obtain⟨z,f⟩:=kU f;exact z (n.hs.inj i id g f (by rw[q];rfl))
   ·cases e:vs[i]? with
    | none=>rfl
    | some v=>exact t.one v (by rw[←aas]at e;exact jt e)
   ·have o:i<vs.size:=by have:=(g7.1 p).1;rw[t.len]at this;simpa using this
    rw[amm w g _ vs T (0,0) D,z5];simp[h8 o]
   ·have o:i<vs.size:=by have:=(g7.1 p).1;rw[t.len]at this;simpa using this
    have B:vs.toList[i]?=some vs[i]:=by simp
    have r:=(t.rel i c _ p B).pure (mb I i c p) bA;have E:=r.mono (N':=NN m.M (gg ι id)) (w':=w) (h7 _) (fun b _ f=>lB b f) (fun _ _ _=>rfl) (fun _ _ h=>h);simpa[h8 o]using E
  ·obtain⟨u,J,rfl⟩:=lJ d;obtain⟨y,L,r⟩:=n.tmp j u J;exact⟨y,L,(r.cW (fun i F=>fM ι F)).mono (h7 _) (fun b _ f=>lB b f) (fun _ _ _=>rfl) (fun _ _ h=>h)⟩
theorem mK k id cs{l}(h:OT m Q n d l (II k id cs s))(c:look k s.t=some (.ptr id 0):=by kernel_rfl)(e:look id s.o=some cs:=by kernel_rfl)(f:ex [] cs=true:=by kernel_rfl)(b:s.u.contains (cS id)=false:=by kernel_rfl):OT m Q n d l s:=fun a w ι g=>h a w _ (Xc g c e f b)
theorem rZ(g:FuncId)(b:Array Operand)(l:b6)(k:OT m Q n d (aJ f p (i+1)) (s.put (aL f p i).dst (.fn g l)))(z:aJ f p i=aL f p i::aJ f p (i+1):=by kernel_rfl)(x:cv d s (aL f p i)=true:=by kernel_rfl)
  (h:(aL f p i).op=.makeFunc (.func g) #[] b:=by kernel_rfl) (v:dA s b.toList=some l:=by kernel_rfl) (e:(cQ m.n (aL f p i).dst&&ex [] l)=true:=by kernel_rfl):OT m Q n d (aJ f p i) s:=by
 rw[z];refine eL _ x fun a w ι q=>?_;refine v9 rfl fun K u=>?_;simp only[g6]at e;obtain⟨A,B⟩:=lV q v;have t:Rel (NN m.M ι) w ι (.fn g l) (.func (.func g) #[] (b.map a.eval)):=by
  have o:=Rel.fn (N:=NN m.M ι) (w:=w) ι g l (b.map a.eval).toList (by simp at A⊢;omega) (fun i c y j r=>(B i c y j (by simpa using r)).pure (mb e.2 i c j) bA);rw[aaC]at o;exact o
 refine dK ?_;unfold execOp;simp only[h,amP];exact u _ _ (k _ _ _ (q.put (ge e.1) t))
end
def Fp(s:AS):AV→Option AV
 | .ref i=>match look i s.r,Nat.ble (i+1) TG with|some ar,true=>some (.sl ar.l)|_,_=>none
 | v=>match v.dg [] with|true=>some (iu v)|false=>none
def t8(s:AS):b6→Option b6
 | []=>some []
 | v::r=>match Fp s v,t8 s r with|some x,some l=>some (x::l)|_,_=>none
theorem Ov{s}:∀{l m},t8 s l=some m→m.length=l.length
 | [],m,h=>by injection h with h;grind
 | v::r,m,h=>by
  unfold t8 at h;split at h
  ·rename_i x l' b a;injection h with h;subst h;simp[Ov a]
  grind
theorem Pm{s:AS}:∀{l m:b6},t8 s l=some m→∀(i:Nat) (a:AV),m[i]?=some a→∃b,l[i]?=some b∧Fp s b=some a
 | [],m,h,i,a,c=>by injection h with h;subst h;simp at c
 | v::r,m,h,i,a,c=>by
  unfold t8 at h;split at h
  ·rename_i x l' d e;injection h with h;subst h
   cases i with
   | zero=>grind
   | succ i=>simp_all[Pm]
  grind
def Qg(s:AS)(o:Oper):Option (FuncId×b6) :=
 match o.op with
 | .call c=>match c.callee with
  | .value a=>match s.ev a,dA s c.args.toList with
   | some (.fn f aV),some l=>match t8 s l with
    | some l'=>some (f,l'++aV)
    | none=>none
   | _,_=>none
  | _=>none
 | _=>none
section
variable{j:Cx}{Q:Exit→Act→World→Prop}{m:ck}{s:AS}{d:Array Oper}{f:Func}{p:d4}{i:Nat}
theorem ajO{g:FuncId}{args:b6}{V:AV}(Y:aZ j.P g args (fun v _=>v=V))(k:OT j Q m d (aJ f p (i+1)) (s.put (aL f p i).dst V))
  (hl:aJ f p i=aL f p i::aJ f p (i+1):=by kernel_rfl) (hg:cv d s (aL f p i)=true:=by kernel_rfl) (J:cN j.P g=true:=by kernel_rfl) (r:Qg s (aL f p i)=some (g,args):=by kernel_rfl)
  (L:(cQ j.n (aL f p i).dst&&V.Gx)=true:=by kernel_rfl):OT j Q m d (aJ f p i) s:=by
 rw[hl];refine eL _ hg fun a w ι F=>?_;refine v9 rfl fun K X=>?_;simp only[g6]at L;unfold Qg at r;split at r
 case h_2=>cases r
 rename_i c O;split at r
 case h_2=>cases r
 rename_i fo u;split at r
 case h_2=>cases r
 rename_i f' aV l hf N;split at r
 case h_2=>cases r
 rename_i l' z;injection r with r;injection r with U W;subst U;subst W
 obtain⟨q1,q2⟩:=lV F N;refine dK ?_;obtain⟨ys,P,Z,I⟩:=ld (o:={ aL f p i with guard:=none }) F O u hf J;rw[P,iL];have B:=Ov z;have t:l'.length=(c.args.map a.eval).size:=by rw[B,q1];simp
 refine (Y (fun _=>False) w _ (fun b H=>H.elim) ⟨by simp at t⊢;omega,fun i v y C D=>?_⟩).mono ?_
 ·by_cases T:i<l'.length
  ·rw[yw T]at C;rw[An (by rw[←t];exact T)]at D;obtain⟨b,H,q⟩:=Pm z i v C;have S:(c.args.toList.map a.eval)[i]?=some y:=by rw[←aas,agQ]at D;exact D
   have E:=q2 i b y H S;unfold Fp at q;split at q
   ·rename_i id;split at q
    ·rename_i ar G R;injection q with q;subst q
     cases E with
     | ref _ _ A n c h=>exact(F.hs.rK (hF R) G A n c h bA).mono (h7 _) (fun _ _ h=>h.elim) (fun _ _ _=>rfl) (fun _ _ h=>h)
    ·cases q
   ·split at q
    ·rename_i hp;injection q with q;subst q
     exact Ac ((E.pure hp bA).mono (h7 _) (fun _ _ h=>h.elim) (fun _ _ _=>rfl) (fun _ _ h=>h))
    ·cases q
  ·rw[w3 (by omega)]at C;rw[aea (by rw[←t];omega)]at D;rw[t]at C;exact(I _ v y C (by simpa using D)).mono (h7 _) (fun _ _ h=>h.elim) (fun _ _ _=>rfl) (fun _ _ h=>h)
 ·rintro e w' ⟨x,v,s1,ι1,rfl,rfl,M,E⟩
  exact X _ _ (k _ _ _ ((F.mj M.below.plain).put (ge L.1) (On L.2 E)))
end
abbrev iI(x:Int):AV:=.int .i64 x
abbrev gD{α:Type}[Inhabited α](L:List α)(i:Int):α:=List.getD L i.toNat default
def xh(b:Nat→Bool):Nat→Nat→Bool
 | _,0=>true
 | lo,k+1=>b lo&&xh b (lo+1) k
theorem Ur{b}:∀{lo k},xh b lo k=true→eK lo k fun j=>b j=true
 | _,0,_=>trivial
 | lo,k+1,h=>by
  unfold xh at h;rw[g6]at h;exact⟨h.1,Ur h.2⟩
theorem bO{P}{n:Nat}{c}{a}{e}{K}{b}{o} lo k(g:o.guard.isSome=true:=by kernel_rfl)(h:xh (fun j=>CJ a (nth b j) o) lo k=true:=by kernel_rfl)
  (f:xh (fun j=>(match o.dst with|some d=>(match look d (nth b j).t with|none=>true|some (.tup [])=>Nat.ble (d+1) n|_=>false)|none=>true)) 0 (K+1)=true:=by kernel_rfl):fK P n c a e K b o (.off lo k) :=by grind[YX,Ur]
def vz(n:Nat):List Tag:=List.replicate n (.v 0 1)
theorem iB{P}{n}{f}{c}{g}{K}{a}{o}(lo d:Nat){e b}(i:e=b)(j:cv c (nth a lo) o=true:=by kernel_rfl)(h:cd P n (nth a lo) o=some ((nth a lo).put (some d) (.bool e)):=by kernel_rfl)(k:(nth a lo).put (some d) (.bool b)=nth a lo:=by kernel_rfl):
  fK P n f c g K a o (.v lo 1) :=by grind[fv,di,aee,fG]
def nu:Nat→b6→List ee
 | _,[]=>[]
 | k,x::l=>(k,x)::nu (k+1) l
abbrev lm{α β:Type}(f:α→β)(l:List α):List β:=List.map f l
theorem bK{P}{f}{fn}{args}{Q}{n} c(d:P.funcs[f]?=some fn)(g:fn.ntmps=n)(h:∀M a,VE (fm:=fm0) ⟨P,n,M,a⟩ (bodyPost P fn (bP M a Q)) [.c c] .normal ⟨idxs 0 args,[],[],[]⟩)
  (b:fn.body=some c:=by kernel_rfl) (e:decide (args.length≤n)=true:=by kernel_rfl):aZ P f args Q :=by grind[af8]
theorem bn{a}{Q}{b}{e}{s} s'(h:VE a Q b e s')(c:s=s':=by kernel_rfl):VE a Q b e s:=c ▸ h
theorem cD{P}{n}{s}{o}{α:Type}[Inhabited α] id sz enc{L:List α}{i}{m}(a:aU i m=true)(b:L.length=m:=by simp only[alW])(h:Kx P n s o=some (id,sz,i,L.map enc):=by kernel_rfl):cd P n s o=some (s.put o.dst (.eptr id sz i.toNat 0)) :=by grind[cr]
theorem bE{P}{n}{c}{a}{d}{K}{b}{f}{p}{i}{ts}{s'}(h:cd P n (nth b 0) (aL f p i)=some s')(e:fe P n c a d K b (aJ f p (i+1)) ts)(g:s'=nth b 0:=by kernel_rfl)(j:cv a (nth b 0) (aL f p i)=true:=by kernel_rfl)
  (k:aJ f p i=aL f p i::aJ f p (i+1):=by kernel_rfl):fe P n c a d K b (aJ f p i) (.v 0 1::ts):=ax (Dm h g j) e k
def QS:Nat→Nat→d4→d4
 | 0,_,l=>l
 | k+1,x,l=>match Nat.ble x 1 with
  | true=>l
  | false=>QS k (x / 2) (x % 2::l)
def pn(x:Nat):d4:=QS 90 x []
def wq(n q:Nat):Nat:=n*2 ^ q.log2+(q-2 ^ q.log2)
section
variable{e:Cx}{Q:Exit→Act→World→Prop}{g:ck}{s:AS}{f:Func}{n:Nat}
abbrev cP(f:Func)(n:Nat):aq:=.c (cat f (pn n))
theorem av a b k(c:VE e Q (cP f (wq n a)::cP f (wq n b)::g) .normal (gx e.P e.n k (cP f n::g) .normal s))(h:gQ e.P e.n k (cP f n::g) .normal s=some (cP f (wq n a)::cP f (wq n b)::g,.normal):=by kernel_rfl):VE e Q (cP f n::g) .normal s:=bW k c h
theorem br a k(b:VE e Q (cP f (wq n a)::g) .normal (gx e.P e.n k (cP f n::g) .normal s))(h:gQ e.P e.n k (cP f n::g) .normal s=some (cP f (wq n a)::g,.normal):=by kernel_rfl):VE e Q (cP f n::g) .normal s:=bW k b h
theorem dL a b c d k(i:VE e Q (cP f (wq n a)::cP f (wq n b) :: .b c::cP f (wq n d)::g) .normal (gx e.P e.n k (cP f n::g) .normal s))(h:gQ e.P e.n k (cP f n::g) .normal s=some (cP f (wq n a)::cP f (wq n b) :: .b c::cP f (wq n d)::g,.normal):=by kernel_rfl):VE e Q (cP f n::g) .normal s:=bW k i h
theorem cj a b c k(d:VE e Q (cP f (wq n a)::cP f (wq n b)::cP f (wq n c)::g) .normal (gx e.P e.n k (cP f n::g) .normal s))(h:gQ e.P e.n k (cP f n::g) .normal s=some (cP f (wq n a)::cP f (wq n b)::cP f (wq n c)::g,.normal):=by kernel_rfl):VE e Q (cP f n::g) .normal s:=bW k d h
theorem jb a b c k(d:VE e Q (cP f (wq n a) :: .b b::cP f (wq n c)::g) .normal (gx e.P e.n k (cP f n::g) .normal s))(h:gQ e.P e.n k (cP f n::g) .normal s=some (cP f (wq n a) :: .b b::cP f (wq n c)::g,.normal):=by kernel_rfl):VE e Q (cP f n::g) .normal s:=bW k d h
theorem ic a b k(c:VE e Q (cP f (wq n a) :: .b b::g) .normal (gx e.P e.n k (cP f n::g) .normal s))(h:gQ e.P e.n k (cP f n::g) .normal s=some (cP f (wq n a) :: .b b::g,.normal):=by kernel_rfl):VE e Q (cP f n::g) .normal s:=bW k c h
theorem WL{d i j} a b c k(l:VE e Q (cP f (wq n a)::cP f (wq n b)::cP f (wq n c)::g) .normal (gx e.P e.n k (d::i::j::cP f n::g) .normal s))(h:gQ e.P e.n k (d::i::j::cP f n::g) .normal s=some (cP f (wq n a)::cP f (wq n b)::cP f (wq n c)::g,.normal):=by kernel_rfl):VE e Q (d::i::j::cP f n::g) .normal s:=bW k l h
theorem gV{c d i j} a b k(l:VE e Q (cP f (wq n a)::cP f (wq n b)::g) .normal (gx e.P e.n k (c::d::i::j::cP f n::g) .normal s))(h:gQ e.P e.n k (c::d::i::j::cP f n::g) .normal s=some (cP f (wq n a)::cP f (wq n b)::g,.normal):=by kernel_rfl):VE e Q (c::d::i::j::cP f n::g) .normal s:=bW k l h
theorem afr a b c k(d:VE e Q (cP f (wq n a)::cP f (wq n b) :: .b c::g) .normal (gx e.P e.n k (cP f n::g) .normal s))(h:gQ e.P e.n k (cP f n::g) .normal s=some (cP f (wq n a)::cP f (wq n b) :: .b c::g,.normal):=by kernel_rfl):VE e Q (cP f n::g) .normal s:=bW k d h
theorem cX{i} a b c d k(j:VE e Q (cP f (wq n a)::cP f (wq n b) :: .b c::cP f (wq n d)::g) .normal (gx e.P e.n k (i::cP f n::g) .normal s))(h:gQ e.P e.n k (i::cP f n::g) .normal s=some (cP f (wq n a)::cP f (wq n b) :: .b c::cP f (wq n d)::g,.normal):=by kernel_rfl):VE e Q (i::cP f n::g) .normal s:=bW k j h
theorem gY{c} a b k(d:VE e Q (cP f (wq n a)::cP f (wq n b)::g) .normal (gx e.P e.n k (c::cP f n::g) .normal s))(h:gQ e.P e.n k (c::cP f n::g) .normal s=some (cP f (wq n a)::cP f (wq n b)::g,.normal):=by kernel_rfl):VE e Q (c::cP f n::g) .normal s:=bW k d h
theorem GX{d} a b c k(i:VE e Q (cP f (wq n a) :: .b b::cP f (wq n c)::g) .normal (gx e.P e.n k (d::cP f n::g) .normal s))(h:gQ e.P e.n k (d::cP f n::g) .normal s=some (cP f (wq n a) :: .b b::cP f (wq n c)::g,.normal):=by kernel_rfl):VE e Q (d::cP f n::g) .normal s:=bW k i h
theorem n9{d} a b c k(i:VE e Q (cP f (wq n a)::cP f (wq n b)::cP f (wq n c)::g) .normal (gx e.P e.n k (d::cP f n::g) .normal s))(h:gQ e.P e.n k (d::cP f n::g) .normal s=some (cP f (wq n a)::cP f (wq n b)::cP f (wq n c)::g,.normal):=by kernel_rfl):VE e Q (d::cP f n::g) .normal s:=bW k i h
theorem yo{d i j l} a b c k(m:VE e Q (cP f (wq n a)::cP f (wq n b)::cP f (wq n c)::g) .normal (gx e.P e.n k (d::i::j::l::cP f n::g) .normal s))(h:gQ e.P e.n k (d::i::j::l::cP f n::g) .normal s=some (cP f (wq n a)::cP f (wq n b)::cP f (wq n c)::g,.normal):=by kernel_rfl):VE e Q (d::i::j::l::cP f n::g) .normal s:=bW k m h
end
end Go.Proofs.YtocgkfoifehcbaaGreat
namespace Go.Proofs.YtocgkfoifehcbaaGreat
set_option linter.all false
open Go.RowKit
variable[FM]
def nh(ops:Array Oper):Nat→d4→d4
 | 0,S=>S
 | j+1,S=>match S.contains j with
  | true=>nh ops j (S++(match ops[j]? with|some o=>c7 o|none=>[]))
  | false=>nh ops j S
def E5(ops:Array Oper)(z:Nat):Bool:=match ops[z]? with
 | some o=>(Nat.beq (z+1) ops.size&&(c7 o).all fun j=>decide (j<z))&&(List.range z).all fun i=>(nh ops z (c7 o)).contains i
 | none=>false
theorem ve{ops}{listed:Array Bool}(cl:∀(i:Nat) (o:Oper),ops[i]?=some o→listed[i]?=some true→∀j∈c7 o,listed[j]?=some true):∀n S,(∀j∈S,listed[j]?=some true)→∀j∈nh ops n S,listed[j]?=some true
 | 0,S,h,j,a=>h j a
 | n+1,S,h,j,a=>by
  unfold nh at a;split at a
  ·have c:n∈S:=by grind
   refine ve cl n _ (fun i b=>?_) j a
   grind
  ·exact ve cl n S h j a
section
variable{d:Cx}{ops:Array Oper}{c:List Tag}{K:Nat}{σ:Nat→AS}{g:AS}
theorem db.XD{O:Exit→Act→World→Prop}(st:Stat ops c K)(dy:lX d.P d.n g ops c K σ){z:Nat}{oz:Oper}(R:c.length=z)(A:ops[z]?=some oz)(m:E5 ops z=true)(hQ:∀a w ι,aI d (σ K) a w ι→wpListIn FF 0 d.P ops O [oz] a w):
  ∀(l:Nat) (listed:Array Bool) (a:Act) (w:World) (k:Nat) (ι:Env),i8 listed=l→listed[z]?≠some true→db d ops c K σ listed a w k ι→wpAnyIn FF 0 d.P .any ops O l listed a w:=by
 unfold E5 at m;rw[A]at m;simp only[g6,ll,ob,T4]at m;obtain⟨⟨N,X⟩,G⟩:=m;have N:=iO N;have B:∀{listed:Array Bool},(∀(i:Nat) (o:Oper),ops[i]?=some o→listed[i]?=some true→∀j∈c7 o,listed[j]?=some true)→(∀j∈c7 oz,listed[j]?=some true)→∀i,i<z→listed[i]?=some true:=fun cl T i u =>
  ve cl z _ T i (by simpa using G i u)
 have S:∀(listed:Array Bool) (a:Act) (w:World) (k:Nat) (ι:Env),db d ops c K σ listed a w k ι→(∀i,i<z→listed[i]?=some true)→aI d (σ K) a w ι:=by
  intro listed a w k ι h n;have hk:k=K:=by
   have:=h.kK;rcases st.last with h0|⟨i,u⟩
   ·omega
   ·have W:i<z:=by rw[←R];exact(g7.1 u).1
    have:=(h.wr i K u).1 (n i W);omega
  subst hk;exact⟨h.hs,h.dfr,h.n,fun t v hv=>h.tmp t v hv (fun i o tg _ Z _ _=>n i (by rw[←R];exact(g7.1 Z).1))⟩
 intro l
 induction l with
 | zero =>
  intro listed a w k ι hl y h;exact absurd (tP hl z (by rw[h.sz];omega)) y
 | succ l ih =>
  intro listed a w k ι hl y h;refine⟨fun E=>?_,fun i u=>?_⟩
  ·-- nothing is up: all are listed,the last one too
   exfalso;have key:∀i,i<ops.size→listed[i]?=some true:=by
    intro i
    induction i using Nat.strongRecOn with
    | _ i a0 =>
     intro u;have p:=h8 (xs:=ops) u;cases H:listed[i]? with
     | none=>rw[ah6,h.sz]at H;omega
     | some b =>
      cases b with
      | true=>rfl
      | false =>
       exfalso;have Q:i∈Region.ready .any ops listed:=by
        unfold Region.ready;simp only[ald,T4,g6,BY];refine⟨u,by rw[qk,H];rfl,?_⟩;rw[p];simp only[If,DO,OR,zt,BY];intro e T;by_cases P:Region.binds .any e=true
        ·right;have D:e.on∈c7 ops[i]:=qt.2 ⟨e,T,P,rfl⟩;have I:e.on<i:=by
          by_cases x:i<z
          ·exact st.lex i _ _ p (h6 (by rw[R];exact x)) e.on D
          ·have:i=z:=by omega
           subst this;rw[A]at p;injection p with p
           rw[←p]at D;exact X _ D
         rw[qk,a0 e.on I (by omega)];rfl
        ·left;simpa using P
       rw[E]at Q;cases Q
   exact y (key z (by omega))
  ·obtain⟨C,o,p,U⟩:=lP u;have s:i<listed.size:=by rw[h.sz];exact(lc.1 p).1
   have hf:listed[i]?=some false:=by
    rw[h8 s]at C⊢;cases P:listed[i] with
    | true=>rw[P]at C;exact(C rfl).elim
    | false=>rfl
   have b0:=tA hf;by_cases x:i=z
   ·subst x;rw[A]at p;injection p with p;subst p
    have n:=B h.cl U;have L:=hQ a w ι (S listed a w k ι h n);have q:∀F w',O .normal F w'→wpAnyIn FF 0 d.P .any ops O l (listed.setIfInBounds i true) F w':=fun F w' M=>by
     have E:Region.ready .any ops (listed.setIfInBounds i true)=[]:=by
      cases E:Region.ready .any ops (listed.setIfInBounds i true) with
      | nil=>rfl
      | cons j r =>
       exfalso;obtain⟨J,o2,Y,_⟩:=lP (ops:=ops) (listed:=listed.setIfInBounds i true) (i:=j) (by rw[E];simp);refine J ((dS s).2 ?_);have:j<ops.size:=(lc.1 Y).1;by_cases e:j=i
       ·exact .inl e
       ·exact .inr (n j (by omega))
     cases l with
     | zero=>exact⟨E,M⟩
     | succ f=>exact⟨fun _=>M,fun j D=>by rw[E]at D;cases D⟩
    unfold wpOpIn;simp only[A];unfold wpListIn at L;split at L
    ·rename_i hw;rw[iF hw];exact T1 q (fun _ _ _ _ h=>h) L
    ·rename_i hw;rw[io hw];exact⟨L.1,q _ _ L.2⟩
   ·refine h.one st dy (by rw[R];have:=(lc.1 p).1;omega) u (fun F w' k' ι' Q=>ih _ F w' k' ι' (by omega) (fun V=>?_) Q);rcases (dS s).1 V with e|V
    ·exact x e.symm
    ·exact y V
end
theorem akU{i:Cx}{Q:Exit→Act→World→Prop}{E:ck}{f:Func}{p:d4}{l:AS}{c:List Tag}(z K:Nat)(u:List ee)(o:List (Nat×b6))(rl:List (Nat×bZ))(x:List (AS→AS))
  (y:fe i.P i.n l (dr f p) c K (pP l u o rl x) (aJ f p 0) c) (h:OT i Q E (dr f p) (aJ f p z) (KL l u o rl x K))
  (m:kV f p=true:=by kernel_rfl) (J:i.P.follows .mixedOrders=true:=by kernel_rfl) (v:uY (dr f p) c K z=true:=by kernel_rfl) (I:nK c K=true:=by kernel_rfl) (e:mu (aJ f p 0) c u=true:=by kernel_rfl) (A:jx l.u o=true:=by kernel_rfl) (q:jx l.u rl=true:=by kernel_rfl)
  (g:E5 (dr f p) z=true:=by kernel_rfl):VE i Q (.c (cat f p)::E) .normal l:=by
 have G:aJ f p 0=(dr f p).toList:=by simp[aJ]
 cases j:cat f p with
 | region id ops b =>
  cases b with
  | false=>unfold kV at m;rw[j]at m;cases m
  | true =>
   have C:dr f p=ops:=by unfold dr;rw[j];rfl
   rw[G]at y e;have d:∃t,ops[z]?=some t∧aJ f p z=[t]:=by
    unfold E5 at g;rw[C]at g;split at g
    ·rename_i t d;refine⟨t,d,?_⟩;simp only[g6]at g;have L:=iO g.1.1;unfold aJ;rw[C];rw[kp (by rw[yk];omega),la (by rw[yk];omega)];obtain⟨_,H⟩:=lc.1 d;simp[H]
    ·cases g
   obtain⟨t,d,k⟩:=d;rw[k]at h;rw[C]at y e v h g;intro a w ι s;obtain⟨F,r,_⟩:=AH v I;have D:=AR (P:=i.P) (n:=i.n) c K u o rl (pP l u o rl x) e A q (by unfold pP;cases x<;>rfl) y;refine amQ J (db.XD F D r d g (fun a w ι v=>h a w ι v) ops.size _ a _ 0 ι (by simp[i8]) (fun B=>?_) (db.start F D s));rw[age]at B;split at B<;>cases B
 | _=>unfold kV at m;rw[j]at m;cases m
end Go.Proofs.YtocgkfoifehcbaaGreat
