/- Strings: their parts, their bytes, their runes one after the other. No program in sight. -/
import Derived.Test.YtocgkfoifehcbaaGreatRdVl
import Derived.Laws.RangeAny
namespace Go.Proofs.YtocgkfoifehcbaaGreat
set_option linter.all false
open Go.RowKit
section
variable{P:Program}{n:Nat}{s:AS}{o:Oper}
def Py(P:Program)(n:Nat)(s:AS)(o:Oper):Option (ByteArray×Int×Int):=match l7 n o,o.op with
 | true,.slice T x lo hi none=>match P.underlying T,s.ev x with
  | some .string,some (.str b)=>match jJ s b.size lo hi with
   | some (i,j)=>some (b,i,j)
   | none=>none
  | _,_=>none
 | _,_=>none
theorem CI{b:ByteArray}{i j:Int}(k:cF i j b.size=true)(h:Py P n s o=some (b,i,j):=by kernel_rfl):cc P n s o=some (s.put o.dst (.str (b.extract i.toNat j.toNat))):=by
 unfold Py at h;split at h
 case h_2=>cases h
 rename_i T x lo hi e g;obtain⟨d,e,p⟩:=q9 e;split at h
 case h_2=>cases h
 rename_i t q r;split at h
 case h_2=>cases h
 rename_i u v c;injection h with h;injection h with l a;injection a with a m;subst l;subst a;subst m
 simp only[cF,iO,q6]at k;have f:d<n:=kb p;unfold cc lG ke;simp[g,e,cK,f,r,q,c,k]
end
mutual
def AV.oU:AV→Bool
 | .sit _ _ _ _=>false
 | .agg cs=>mN cs
 | .tup cs=>mN cs
 | .fno _ cs=>mN cs
 | _=>true
def mN:c6→Bool
 | []=>true
 | c::r=>c.oU&&mN r
end
theorem xj:∀{l},mN l=true→∀(i:Nat) x,l[i]?=some x→x.oU=true
 | [],_,i,x,a=>by grind
 | c::r,h,0,x,a=>by grind[mN]
 | c::r,h,i+1,x,a=>by simp only[mN,iO]at h;exact xj h.2 i x a
section
variable{w w':World}{g:Nat}{p:ByteArray}{d:Nat}
theorem SQ(a:w.heap[g]?=some (.stringIter p d))(c:∀b,b≠g→w'.heap[b]?=w.heap[b]?){b o}{v}(h:w.cell? ⟨b,o,none⟩=some v):w'.cell? ⟨b,o,none⟩=some v:=by
 by_cases e:b=g
 ·subst e;simp[World.cell?,a]at h
 grind[FL]
theorem Rel.iter{N:Nat→Prop}{ι:Env}{v:AV}{x:Value}(h:Rel N w ι v x)(M:w.heap[g]?=some (.stringIter p d))(O:w.heap.size≤w'.heap.size)(P:∀b,b≠g→w'.heap[b]?=w.heap[b]?):
  (v.oU=true∨∀i,ι i=none)→Rel N w' ι v x:=by
 induction h with
 | int ι k n=>intro _;exact .int _ _ _
 | bool ι b=>intro _;exact .bool _ _
 | str ι s=>intro _;exact .str _ _
 | nils ι=>intro _;exact .nils _
 | sl0 ι A c=>intro _;exact .sl0 _ _ _
 | sl ι l b o c sz C S G J t H F E u =>
  intro _;exact .sl ι l b o c sz C S (wl G O) J t (fun j e I i x a=>SQ M P (H j e I i x a)) (fun j e I i x a=>u j e I i x a (.inr fun _=>rfl)) E
 | fn ι f aR L z F u=>intro _;exact .fn _ f aR L z (fun i c y t D=>u i c y t D (.inr fun _=>rfl))
 | fno ι f aR L z F u=>intro q;exact .fno ι f aR L z (fun i c y t D=>u i c y t D (q.imp (fun q=>xj (by simpa[AV.oU]using q) i c t) id))
 | nilf ι=>intro _;exact .nilf _
 | nilp ι=>intro _;exact .nilp _
 | any ι x h=>intro _;exact .any _ _ h
 | ptr ι id off g h=>intro _;exact .ptr _ _ _ _ h
 | eptr ι id sz j off g n c h=>intro _;exact .eptr _ _ _ _ _ _ n c h
 | sref ι id sz off m n c Q A B h R=>intro _;exact .sref _ _ _ _ _ n c Q A B h R
 | cptr ι cs b o C G J t H F u =>
  intro _;exact .cptr ι cs b o C (wl G O) J t (fun i x a=>SQ M P (H i x a)) (fun i x a=>u i x a (.inr fun _=>rfl))
 | adr ι g off=>intro _;exact .adr _ _ _
 | pp ι id g off h=>intro _;exact .pp _ _ _ _ h
 | sit ι id g s T h _ _ _ =>
  intro q;rcases q with q|q
  ·cases q
  ·rw[q]at h;cases h
 | ref ι id A n c h=>intro _;exact .ref _ _ _ _ _ h
 | nilm ι=>intro _;exact .nilm _
 | vv ι x h=>intro _;exact .vv _ _ h
 | lk ι id v x h t=>intro _;exact .lk _ _ _ _ h t
 | mref ι id q r v h D=>intro _;exact .mref _ _ _ _ v h D
 | agg ι cs vs z t F u=>intro q;exact .agg ι cs vs z t (fun i x v a K=>u i x v a K (q.imp (fun q=>xj (by grind[AV.oU]) i x a) id))
 | tup ι cs vs z F u=>intro q;exact .tup ι cs vs z (fun i x v a K=>u i x v a K (q.imp (fun q=>xj (by grind[AV.oU]) i x a) id))
theorem U2{B}{e}{sz}{v}{n}{xs}(q:w.heap[g]?=some (.stringIter p d))(m:∀b,b≠g→w'.heap[b]?=w.heap[b]?)(h:w.ownsRow B e sz v n xs):w'.ownsRow B e sz v n xs :=
 fK h fun f a=>m f fun o=>by
  obtain⟨c,_⟩|⟨k,i,j,c,_,l,_⟩:=h.2
  ·rw[c]at a;cases a
  ·rw[c]at a;have a:some k=some f:=a
   grind
theorem gv.iter{N:Nat→Prop}{t:Prop}{o:Option Value}{c:AV}{x:Value}(h:gv N w t o c x)(n:w.heap[g]?=some (.stringIter p d))(B:w.heap.size≤w'.heap.size)(q:∀b,b≠g→w'.heap[b]?=w.heap[b]?):gv N w' t o c x:=by
 rcases h with h|⟨u,m,r,v,z,A,k⟩|⟨u,e,sz,l,r,v,z,A,k⟩
 ·exact .inl (h.iter n B q (.inr fun _=>rfl))
 ·refine .inr (.inl ⟨u,m,r,v,z,A,?_⟩);unfold Gx at k⊢;cases m with
  | none=>exact k
  | some l =>
   obtain⟨C,F,D,s,f,E⟩:=k;exact⟨C,F,D,s,(q C (fun e=>by subst e;rw[n]at f;cases f)).trans f,E⟩
 ·refine .inr (.inr ⟨u,e,sz,l,r,v,z,A,?_⟩);obtain⟨xs,H,I,J,K⟩:=k;refine⟨xs,U2 n q H,I,J,fun j c G i a hi=>?_⟩;obtain⟨y,s,f⟩:=K j c G i a hi;exact⟨y,s,f.iter n B q (.inr fun _=>rfl)⟩
end
def Bk(t:Nat):il→Bool
 | []=>true
 | (k,v)::r=>(Nat.beq k t||v.oU)&&Bk t r
def ue:iF→Bool
 | []=>true
 | (_,cs)::r=>mN cs&&ue r
theorem TL{t k}{v}:∀{l},Bk t l=true→look k l=some v→k≠t→v.oU=true
 | [],_,h,_=>by cases h
 | (j,x)::r,a,h,b=>by
  simp only[Bk,iO]at a;simp only[look]at h;split at h
  ·simp_all
  ·exact TL a.2 h b
theorem Lt{k}{cs}:∀{l},ue l=true→look k l=some cs→mN cs=true
 | [],_,h=>by cases h
 | (j,x)::r,a,h=>by
  simp only[ue,iO]at a;simp only[look]at h;split at h
  ·grind
  ·exact Lt a.2 h
section
variable{d:Cx}{s:AS}{a:Act}{w:World}{ι:Env}
theorem HS.iter{M:Nat→Prop}{r:aB}(h:HS M r w ι s){g:Nat}{K q:ByteArray}{J p1:Nat}(f:w.heap[g]?=some (.stringIter K J))(F:r.w.heap.size≤g)(G:ue s.o=true):
  HS M r { w with heap:=w.heap.setIfInBounds g (.stringIter q p1) } ι s:=by
 have d:∀b,b≠g→({ w with heap:=w.heap.setIfInBounds g (.stringIter q p1) }:World).heap[b]?=w.heap[b]?:=fun b D=>by
  simp only[];rw[alk (fun e=>D e.symm)]
 have l:w.heap.size≤({ w with heap:=w.heap.setIfInBounds g (.stringIter q p1) }:World).heap.size:=by simp
 refine⟨h.below.trans ⟨rfl,rfl,rfl,l,fun k a _=>d k (by omega)⟩,h.old,h.use,fun i k a=>⟨(h.own i k a).1,wl (h.own i k a).2 l⟩,h.inj,h.ko,h.kr,fun i cs hi p=>?_,fun i ar hi p=>?_,h.pin⟩
 ·obtain⟨t,T,vs,u,n,o⟩:=h.objs i cs hi p;refine⟨t,T,vs,u,(d t (fun e=>by subst e;rw[f]at n;cases n)).trans n,o.len,o.one,fun j x v m I=>(o.rel j x v m I).iter f l d (.inl (xj (Lt G hi) j x m))⟩
 ·obtain⟨v,xs,y,z,A,B,C⟩:=h.arrs i ar hi p;refine⟨v,xs,y,U2 f d z,A,B,fun j e E k c a=>?_⟩;obtain⟨x,m,H⟩:=C j e E k c a;exact⟨x,m,H.iter f l d⟩
def J6(t id g:Nat)(b:ByteArray)(p:Nat)(s:AS):AS:={ s with t:=bd t (.sit id g b p) s.t }
theorem aV.iter(h:aV d s a w ι){t id g:Nat}{b:ByteArray}{p p1:Nat}(z:look t s.t=some (.sit id g b p))(c:d.w0.w.heap.size≤g)(u:Bk t s.t=true)(m:ue s.o=true):
  a.tmps[t]?=some (.pointer (some ⟨g,0,none⟩))∧w.heap[g]?=some (.stringIter b p)∧aV d (J6 t id g b p1 s) a { w with heap:=w.heap.setIfInBounds g (.stringIter b p1) } ι:=by
 obtain⟨x,o,n⟩:=h.tmp t _ z;cases n with
 | sit _ _ _ _ _ C j q i =>
  refine⟨o,i,⟨⟨(h.hs.iter i c m).below,h.hs.old,h.hs.use,(h.hs.iter i c m).own,h.hs.inj,h.hs.ko,h.hs.kr,(h.hs.iter i c m).objs,(h.hs.iter i c m).arrs,h.hs.pin⟩,h.dfr,h.n,fun k v f=>?_⟩⟩;have A:∀l,l≠g→({ w with heap:=w.heap.setIfInBounds g (.stringIter b p1) }:World).heap[l]?=w.heap[l]?:=fun l r=>by
   simp only[];rw[alk (fun e=>r e.symm)]
  simp only[J6,cn]at f;split at f
  ·rename_i e;subst e;injection f with f;subst f
   exact⟨_,o,.sit _ _ _ _ _ C (by simpa using j) q (by simp[Array.getElem?_setIfInBounds_self_of_lt,j])⟩
  ·rename_i e;obtain⟨y,B,n⟩:=h.tmp k v f;exact⟨y,B,n.iter i (by simp) A (.inl (TL u f e))⟩
def QC(id:Nat)(s:AS):AS:={ s with u:=id::s.u }
theorem aV.range(h:aV d s a w ι){id:Nat}(B:has s.u id=false)(b:ByteArray):
  aV d (QC id s) a (w.iter b 0) (ext ι id (.int .u64 (w.heap.size:Nat)))∧Rel (NN d.M (ext ι id (.int .u64 (w.heap.size:Nat)))) (w.iter b 0) (ext ι id (.int .u64 (w.heap.size:Nat))) (.sit id w.heap.size b 0) (.pointer (some ⟨w.heap.size,0,none⟩)):=by
 have N:=h.hs.free B;have o:=h.hs.fresh (.stringIter b 0);have p:=fd N (.int .u64 (w.heap.size:Nat));have l:∀g,NN d.M (ext ι id (.int .u64 (w.heap.size:Nat))) g→NN d.M ι g:=fun g f=>by
  rcases gk f with f|f
  ·exact f
  ·cases f
 have u:∀{i g},bu (ext ι id (.int .u64 (w.heap.size:Nat)) i)=some g→bu (ι i)=some g:=fun {i g} f=>by
  by_cases e:i=id
  ·subst e;rw[cJ]at f;cases f
  ·rw[bS _ _ e]at f;exact f
 have sm:∀i,(∃c,look i s.o=some c)∨(∃c,look i s.r=some c)→i≠id:=fun i hi e=>by
  subst e;obtain⟨c,hi⟩|⟨c,hi⟩:=hi
  ·have:=h.hs.ko i c hi;rw[B]at this;cases this
  ·have:=h.hs.kr i c hi;rw[B]at this;cases this
 refine⟨⟨⟨o.below,h.hs.old,fun i y t=>?_,fun i g f=>o.own i g (u f),fun i R g f z=>h.hs.inj i R g (u f) (u z),fun i c hi=>dS (h.hs.ko i c hi),fun i c hi=>dS (h.hs.kr i c hi),fun i c hi n=>?_,fun i c hi n=>?_,fun i v n=>⟨p i v (h.hs.pin i v n).1,rF (h.hs.pin i v n).2⟩⟩,h.dfr,h.n,fun k v P=>?_⟩,?_⟩
 ·by_cases e:i=id
  ·subst e;exact js _ _
  ·rw[bS _ _ e]at t;exact dS (h.hs.use i y t)
 ·have e:=sm i (.inl ⟨c,hi⟩);rw[bS _ _ e]at n;obtain⟨g,T,vs,C,D,E⟩:=o.objs i c hi n;exact⟨g,T,vs,(bS _ _ e).trans C,D,E.mono (la _) (fun b _ m=>l b m) (fun _ _ _=>rfl) p⟩
 ·have e:=sm i (.inr ⟨c,hi⟩);rw[bS _ _ e]at n;obtain⟨v,xs,H,I,J,K,L⟩:=o.arrs i c hi n;refine⟨v,xs,(bS _ _ e).trans H,I,J,K,fun j F M q x O=>?_⟩;obtain⟨y,t,A⟩:=L j F M q x O;exact⟨y,t,A.mono (la _) (fun b _ m=>l b m) (fun _ _ _=>rfl) (fun r G=>p _ _ G) (fun _ _=>rfl) (fun h=>h)⟩
 ·obtain⟨x,Q,A⟩:=h.tmp k v P;exact⟨x,Q,A.mono (by simp[World.iter]) (fun b _ m=>l b m) (fun b m _=>u7 _ _ _ m) p⟩
 ·refine .sit _ _ _ _ _ (cJ _ _ _) (by simp[World.iter]) (fun m=>?_) (w.iter_heap b 0);have:=ml h.hs (l _ m);omega
end
section
variable{d:Cx}{Q:Exit→Act→World→Prop}{e:dt}{s:AS}{c:Array Oper}{f:Func}{p:ed}{i:Nat}
def T1(P:Program)(s:AS)(o:Oper):Option ByteArray:=match o.op with
 | .range T x=>match P.underlying T,s.ev x with
  | some .string,some (.str b)=>some b
  | _,_=>none
 | _=>none
theorem FK(id:Nat){b:ByteArray}(k:∀g,d.w0.w.heap.size≤g→OT d Q e c (aU f p (i+1)) ((QC id s).put (aS f p i).dst (.sit id g b 0)))(A:aU f p i=aS f p i::aU f p (i+1):=by kernel_rfl)(z:cC c s (aS f p i)=true:=by kernel_rfl)
  (h:T1 d.P s (aS f p i)=some b:=by kernel_rfl) (B:has s.u id=false:=by kernel_rfl) (y:cK d.n (aS f p i).dst=true:=by kernel_rfl):OT d Q e c (aU f p i) s:=by
 rw[A];refine eU _ z fun a w ι n=>?_;refine Ts rfl fun K t=>?_;unfold T1 at h;split at h
 case h_2=>cases h
 rename_i T x m;split at h
 case h_2=>cases h
 rename_i l u C;injection h with h;subst h
 obtain⟨q,r⟩:=n.range B l;have o:=n.ev C;generalize v:a.eval x=X at o;cases o;have j:(execOp a.eval ({ aS f p i with guard:=none }:Oper)).run d.P w=.ok (.value (.pointer (some ⟨w.heap.size,0,none⟩))) (w.iter l 0):=by
  unfold execOp;simp[m,v,run_range_string w T l u]
 unfold Oper.wp;rw[j];exact t _ _ (k _ n.hs.below.size _ _ _ (q.put (fX y) r))
def Di(s:AS)(o:Oper):Option (Nat×Nat×Nat×ByteArray×Nat):=match o.op with
 | .next (.tmp t) true=>match look t s.t with
  | some (.sit id g b p)=>some (t,id,g,b,p)
  | _=>none
 | _=>none
theorem Im(t:Nat){id g:Nat}{b:ByteArray}{j:Nat}(m:decide (j<b.size)=true)(y:d.w0.w.heap.size≤g)
  (k:OT d Q e c (aU f p (i+1)) ((J6 t id g b (j+(Utf8.decode b j).2) s).put (aS f p i).dst (.tup [.bool true,.int .i64 (j:Nat),.int .i32 ((Utf8.decode b j).1:Nat)])))
  (L:aU f p i=aS f p i::aU f p (i+1):=by kernel_rfl) (J:cC c s (aS f p i)=true:=by kernel_rfl) (h:Di s (aS f p i)=some (t,id,g,b,j):=by kernel_rfl) (I:cK d.n (aS f p i).dst=true:=by kernel_rfl)
  (z:(Bk t s.t&&ue s.o)=true:=by kernel_rfl):OT d Q e c (aU f p i) s:=by
 rw[L];refine eU _ J fun a w ι M=>?_;refine Ts rfl fun K G=>?_;have m:=lc m;unfold Di at h;split at h
 case h_2=>cases h
 rename_i C A;split at h
 case h_2=>cases h
 rename_i O B r l N;simp only[th,BY]at h;obtain⟨rfl,rfl,rfl,rfl,rfl⟩:=h;simp only[iO]at z;obtain⟨D,E,F⟩:=M.iter (p1:=l+(Utf8.decode r l).2) N y z.1 z.2;have H:a.eval (.tmp C)=.pointer (some ⟨B,0,none⟩):=by show a.tmps.getD C undef=_;rw[v9,D];rfl
 have u:(execOp a.eval ({ aS f p i with guard:=none }:Oper)).run d.P w=.ok (.value (.tuple #[.bool true,.int .i64 (l:Nat),.int .i32 ((Utf8.decode r l).1:Nat)])) { w with heap:=w.heap.setIfInBounds B (.stringIter r (l+(Utf8.decode r l).2)) }:=by
  unfold execOp;simp only[A,H];simp[Instr.next,getObj,setObj,sj,Sem.run,E,Result.andThen,m,goInt]
 unfold Oper.wp;rw[u];refine G _ _ (k _ _ _ (F.put (fX I) (.tup _ _ [.bool true,.int .i64 (l:Nat),.int .i32 ((Utf8.decode r l).1:Nat)] rfl fun q x v n o=>?_)));rcases q with _|_|_|q
 ·simp at n o;subst n;subst o;exact .bool _ _
 ·simp at n o;subst n;subst o;exact .int _ _ _
 ·simp at n o;subst n;subst o;exact .int _ _ _
 ·simp at n
theorem Kb(t:Nat){id g:Nat}{b:ByteArray}{l:Nat}(j:decide (l<b.size)=false)(k:OT d Q e c (aU f p (i+1)) (s.put (aS f p i).dst (.tup [.bool false])))
  (G:aU f p i=aS f p i::aU f p (i+1):=by kernel_rfl) (F:cC c s (aS f p i)=true:=by kernel_rfl) (h:Di s (aS f p i)=some (t,id,g,b,l):=by kernel_rfl) (E:cK d.n (aS f p i).dst=true:=by kernel_rfl):OT d Q e c (aU f p i) s:=by
 rw[G];refine eU _ F fun a w ι r=>?_;refine Ts rfl fun K C=>?_;have j:¬ l<b.size:=of_decide_eq_false j;unfold Di at h;split at h
 case h_2=>cases h
 rename_i y n;split at h
 case h_2=>cases h
 rename_i J z L M I;simp only[th,BY]at h;obtain⟨rfl,rfl,rfl,rfl,rfl⟩:=h;obtain⟨x,A,H⟩:=r.tmp _ _ I;cases H with
 | sit _ _ _ _ _ _ _ _ B =>
  have D:a.eval (.tmp y)=.pointer (some ⟨z,0,none⟩):=by show a.tmps.getD y undef=_;rw[v9,A];rfl
  have m:(execOp a.eval ({ aS f p i with guard:=none }:Oper)).run d.P w=.ok (.value (.tuple #[.bool false])) w:=by
   unfold execOp;simp only[n,D];simp[Instr.next,getObj,sj,Sem.run,B,Result.andThen,j]
  unfold Oper.wp;rw[m];refine C _ _ (k _ _ _ (r.put (fX E) (.tup _ _ [.bool false] rfl fun q x v o u=>?_)));rcases q with _|q
  ·simp at o u;subst o;subst u;exact .bool _ _
  ·simp at o
end
end Go.Proofs.YtocgkfoifehcbaaGreat
