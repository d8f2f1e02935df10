/- Strings: their parts, their bytes, their runes one after the other. No program in sight. -/
import Derived.Test.YtocgkfoifehcbaaGreatRkVl
import Derived.Laws.RangeAny
namespace Go.Proofs.YtocgkfoifehcbaaGreat
set_option linter.all false
open Go.RowKit
section
variable{P:Program}{n:Nat}{s:AS}{o:Oper}
def Uc(P:Program)(n:Nat)(s:AS)(o:Oper):Option (ByteArray×Int×Int):=match md n o,o.op with
 | true,.slice T x lo a none=>match P.underlying T,s.ev x with
  | some .string,some (.str b)=>match lq s b.size lo a with
   | some (i,j)=>some (b,i,j)
   | none=>none
  | _,_=>none
 | _,_=>none
theorem CA{b:ByteArray}{i j:Int}(k:cQ i j b.size=true)(h:Uc P n s o=some (b,i,j):=by kernel_rfl):cb P n s o=some (s.put o.dst (.str (b.extract i.toNat j.toNat))):=by
 unfold Uc at h;split at h
 case h_2=>cases h
 rename_i T x lo u e g;obtain⟨d,e,p⟩:=oW e;split at h
 case h_2=>cases h
 rename_i t q r;split at h
 case h_2=>cases h
 rename_i v w c;injection h with h;injection h with l a;injection a with a m;subst l;subst a;subst m
 simp only[cQ,iN,q7]at k;have f:d<n:=j3 p;unfold cb l4 kL;simp[g,e,cJ,f,r,q,c,k]
end
mutual
def AV.nN:AV→Bool
 | .sit _ _ _ _=>false
 | .agg cs=>mG cs
 | .tup cs=>mG cs
 | .fno _ cs=>mG cs
 | _=>true
def mG:c6→Bool
 | []=>true
 | c::r=>c.nN&&mG r
end
theorem A7:∀{l},mG l=true→∀(i:Nat) x,l[i]?=some x→x.nN=true
 | [],_,i,x,a=>by grind
 | c::r,h,0,x,a=>by grind[mG]
 | c::r,h,i+1,x,a=>by simp only[mG,iN]at h;exact A7 h.2 i x a
section
variable{w w':World}{g:Nat}{p:ByteArray}{d:Nat}
theorem Lc(a:w.heap[g]?=some (.stringIter p d))(c:∀b,b≠g→w'.heap[b]?=w.heap[b]?){b o}{v}(h:w.cell? ⟨b,o,none⟩=some v):w'.cell? ⟨b,o,none⟩=some v:=by
 by_cases e:b=g
 ·subst e;simp[World.cell?,a]at h
 grind[Gb]
theorem Rel.iter{N:Nat→Prop}{ι:Env}{v:AV}{x:Value}(h:Rel N w ι v x)(M:w.heap[g]?=some (.stringIter p d))(O:w.heap.size≤w'.heap.size)(P:∀b,b≠g→w'.heap[b]?=w.heap[b]?):
  (v.nN=true∨∀i,ι i=none)→Rel N w' ι v x:=by
 induction h with
 | int ι k n=>intro _;exact .int _ _ _
 | bool ι b=>intro _;exact .bool _ _
 | str ι s=>intro _;exact .str _ _
 | nils ι=>intro _;exact .nils _
 | sl0 ι A c=>intro _;exact .sl0 _ _ _
 | sl ι l b o c sz C S G J t H F E u =>
  intro _;exact .sl ι l b o c sz C S (u7 G O) J t (fun j e I i x a=>Lc M P (H j e I i x a)) (fun j e I i x a=>u j e I i x a (.inr fun _=>rfl)) E
 | fn ι f aO L z F u=>intro _;exact .fn _ f aO L z (fun i c y t D=>u i c y t D (.inr fun _=>rfl))
 | fno ι f aO L z F u=>intro q;exact .fno ι f aO L z (fun i c y t D=>u i c y t D (q.imp (fun q=>A7 (by simpa[AV.nN]using q) i c t) id))
 | nilf ι=>intro _;exact .nilf _
 | nilp ι=>intro _;exact .nilp _
 | any ι x h=>intro _;exact .any _ _ h
 | ptr ι id off g h=>intro _;exact .ptr _ _ _ _ h
 | eptr ι id sz j off g n c h=>intro _;exact .eptr _ _ _ _ _ _ n c h
 | sref ι id sz off m n c Q A B h R=>intro _;exact .sref _ _ _ _ _ n c Q A B h R
 | cptr ι cs b o C G J t H F u =>
  intro _;exact .cptr ι cs b o C (u7 G O) J t (fun i x a=>Lc M P (H i x a)) (fun i x a=>u i x a (.inr fun _=>rfl))
 | adr ι g off=>intro _;exact .adr _ _ _
 | pp ι id g off h=>intro _;exact .pp _ _ _ _ h
 | sit ι id g s T h _ _ _ =>
  intro q;rcases q with q|q
  ·cases q
  ·rw[q]at h;cases h
 | ref ι id A n c h=>intro _;exact .ref _ _ _ _ _ h
 | nilm ι=>intro _;exact .nilm _
 | vv ι x h=>intro _;exact .vv _ _ h
 | lk ι id v x h t=>intro _;exact .lk _ _ _ _ h t
 | mref ι id q r v h D=>intro _;exact .mref _ _ _ _ v h D
 | agg ι cs vs z t F u=>intro q;exact .agg ι cs vs z t (fun i x v a K=>u i x v a K (q.imp (fun q=>A7 (by grind[AV.nN]) i x a) id))
 | tup ι cs vs z F u=>intro q;exact .tup ι cs vs z (fun i x v a K=>u i x v a K (q.imp (fun q=>A7 (by grind[AV.nN]) i x a) id))
theorem PG{B}{e}{sz}{v}{n}{xs}(q:w.heap[g]?=some (.stringIter p d))(m:∀b,b≠g→w'.heap[b]?=w.heap[b]?)(h:w.ownsRow B e sz v n xs):w'.ownsRow B e sz v n xs :=
 fR h fun f a=>m f fun o=>by
  obtain⟨c,_⟩|⟨k,i,j,c,_,l,_⟩:=h.2
  ·rw[c]at a;cases a
  ·rw[c]at a;have a:some k=some f:=a
   grind
theorem gG.iter{N:Nat→Prop}{t:Prop}{o:Option Value}{c:AV}{x:Value}(h:gG N w t o c x)(n:w.heap[g]?=some (.stringIter p d))(B:w.heap.size≤w'.heap.size)(q:∀b,b≠g→w'.heap[b]?=w.heap[b]?):gG N w' t o c x:=by
 rcases h with h|⟨u,m,r,v,z,A,k⟩|⟨u,e,sz,l,r,v,z,A,k⟩
 ·exact .inl (h.iter n B q (.inr fun _=>rfl))
 ·refine .inr (.inl ⟨u,m,r,v,z,A,?_⟩);unfold He at k⊢;cases m with
  | none=>exact k
  | some l =>
   obtain⟨C,F,D,s,f,E⟩:=k;exact⟨C,F,D,s,(q C (fun e=>by subst e;rw[n]at f;cases f)).trans f,E⟩
 ·refine .inr (.inr ⟨u,e,sz,l,r,v,z,A,?_⟩);obtain⟨xs,I,J,K,L⟩:=k;refine⟨xs,PG n q I,J,K,fun j c H i a G=>?_⟩;obtain⟨y,s,f⟩:=L j c H i a G;exact⟨y,s,f.iter n B q (.inr fun _=>rfl)⟩
end
def Ah(t:Nat):h8→Bool
 | []=>true
 | (k,v)::r=>(Nat.beq k t||v.nN)&&Ah t r
def tn:io→Bool
 | []=>true
 | (_,cs)::r=>mG cs&&tn r
theorem Og{t k}{v}:∀{l},Ah t l=true→look k l=some v→k≠t→v.nN=true
 | [],_,h,_=>by cases h
 | (j,x)::r,a,h,b=>by
  simp only[Ah,iN]at a;simp only[look]at h;split at h
  ·simp_all
  ·exact Og a.2 h b
theorem Vb{k}{cs}:∀{l},tn l=true→look k l=some cs→mG cs=true
 | [],_,h=>by cases h
 | (j,x)::r,a,h=>by
  simp only[tn,iN]at a;simp only[look]at h;split at h
  ·grind
  ·exact Vb a.2 h
section
variable{d:Cx}{s:AS}{a:Act}{w:World}{ι:Env}
theorem HS.iter{M:Nat→Prop}{t:aA}(h:HS M t w ι s){g:Nat}{L r:ByteArray}{K p1:Nat}(f:w.heap[g]?=some (.stringIter L K))(G:t.w.heap.size≤g)(H:tn s.o=true):
  HS M t { w with heap:=w.heap.setIfInBounds g (.stringIter r p1) } ι s:=by
 have d:∀b,b≠g→({ w with heap:=w.heap.setIfInBounds g (.stringIter r p1) }:World).heap[b]?=w.heap[b]?:=fun b E=>by
  simp only[];rw[akL (fun e=>E e.symm)]
 have m:w.heap.size≤({ w with heap:=w.heap.setIfInBounds g (.stringIter r p1) }:World).heap.size:=by simp
 refine⟨h.below.trans ⟨rfl,rfl,rfl,m,fun k a _=>d k (by omega)⟩,h.old,h.use,fun i k a=>⟨(h.own i k a).1,u7 (h.own i k a).2 m⟩,h.inj,h.ko,h.kr,fun i cs l q=>?_,fun i ar l q=>?_,h.pin⟩
 ·obtain⟨u,T,vs,y,o,p⟩:=h.objs i cs l q;refine⟨u,T,vs,y,(d u (fun e=>by subst e;rw[f]at o;cases o)).trans o,p.len,p.one,fun j x v n J=>(p.rel j x v n J).iter f m d (.inl (A7 (Vb H l) j x n))⟩
 ·obtain⟨v,xs,z,A,B,C,D⟩:=h.arrs i ar l q;refine⟨v,xs,z,PG f d A,B,C,fun j e F k c a=>?_⟩;obtain⟨x,n,I⟩:=D j e F k c a;exact⟨x,n,I.iter f m d⟩
def Kf(t id g:Nat)(b:ByteArray)(p:Nat)(s:AS):AS:={ s with t:=bm t (.sit id g b p) s.t }
theorem aU.iter(h:aU d s a w ι){t id g:Nat}{b:ByteArray}{p p1:Nat}(z:look t s.t=some (.sit id g b p))(c:d.w0.w.heap.size≤g)(u:Ah t s.t=true)(m:tn s.o=true):
  a.tmps[t]?=some (.pointer (some ⟨g,0,none⟩))∧w.heap[g]?=some (.stringIter b p)∧aU d (Kf t id g b p1 s) a { w with heap:=w.heap.setIfInBounds g (.stringIter b p1) } ι:=by
 obtain⟨x,o,n⟩:=h.tmp t _ z;cases n with
 | sit _ _ _ _ _ C j q i =>
  refine⟨o,i,⟨⟨(h.hs.iter i c m).below,h.hs.old,h.hs.use,(h.hs.iter i c m).own,h.hs.inj,h.hs.ko,h.hs.kr,(h.hs.iter i c m).objs,(h.hs.iter i c m).arrs,h.hs.pin⟩,h.dfr,h.n,fun k v f=>?_⟩⟩;have A:∀l,l≠g→({ w with heap:=w.heap.setIfInBounds g (.stringIter b p1) }:World).heap[l]?=w.heap[l]?:=fun l r=>by
   simp only[];rw[akL (fun e=>r e.symm)]
  simp only[Kf,cv]at f;split at f
  ·rename_i e;subst e;injection f with f;subst f
   exact⟨_,o,.sit _ _ _ _ _ C (by simpa using j) q (by simp[Array.getElem?_setIfInBounds_self_of_lt,j])⟩
  ·rename_i e;obtain⟨y,B,n⟩:=h.tmp k v f;exact⟨y,B,n.iter i (by simp) A (.inl (Og u f e))⟩
def R9(id:Nat)(s:AS):AS:={ s with u:=id::s.u }
theorem aU.range(h:aU d s a w ι){id:Nat}(C:has s.u id=false)(b:ByteArray):
  aU d (R9 id s) a (w.iter b 0) (ext ι id (.int .u64 (w.heap.size:Nat)))∧Rel (NN d.M (ext ι id (.int .u64 (w.heap.size:Nat)))) (w.iter b 0) (ext ι id (.int .u64 (w.heap.size:Nat))) (.sit id w.heap.size b 0) (.pointer (some ⟨w.heap.size,0,none⟩)):=by
 have O:=h.hs.free C;have p:=h.hs.fresh (.stringIter b 0);have t:=ff O (.int .u64 (w.heap.size:Nat));have m:∀g,NN d.M (ext ι id (.int .u64 (w.heap.size:Nat))) g→NN d.M ι g:=fun g l=>by
  rcases gg l with l|l
  ·exact l
  ·cases l
 have z:∀{i g},bz (ext ι id (.int .u64 (w.heap.size:Nat)) i)=some g→bz (ι i)=some g:=fun {i g} l=>by
  by_cases e:i=id
  ·subst e;rw[cI]at l;cases l
  ·rw[bS _ _ e]at l;exact l
 have sm:∀i,(∃c,look i s.o=some c)∨(∃c,look i s.r=some c)→i≠id:=fun i f e=>by
  subst e;obtain⟨c,f⟩|⟨c,f⟩:=f
  ·have:=h.hs.ko i c f;rw[C]at this;cases this
  ·have:=h.hs.kr i c f;rw[C]at this;cases this
 refine⟨⟨⟨p.below,h.hs.old,fun i y u=>?_,fun i g l=>p.own i g (z l),fun i S g l A=>h.hs.inj i S g (z l) (z A),fun i c f=>dY (h.hs.ko i c f),fun i c f=>dY (h.hs.kr i c f),fun i c f o=>?_,fun i c f o=>?_,fun i v o=>⟨t i v (h.hs.pin i v o).1,qK (h.hs.pin i v o).2⟩⟩,h.dfr,h.n,fun k v Q=>?_⟩,?_⟩
 ·by_cases e:i=id
  ·subst e;exact jv _ _
  ·rw[bS _ _ e]at u;exact dY (h.hs.use i y u)
 ·have e:=sm i (.inl ⟨c,f⟩);rw[bS _ _ e]at o;obtain⟨g,T,vs,D,E,F⟩:=p.objs i c f o;exact⟨g,T,vs,(bS _ _ e).trans D,E,F.mono (ll _) (fun b _ n=>m b n) (fun _ _ _=>rfl) t⟩
 ·have e:=sm i (.inr ⟨c,f⟩);rw[bS _ _ e]at o;obtain⟨v,xs,I,J,K,L,M⟩:=p.arrs i c f o;refine⟨v,xs,(bS _ _ e).trans I,J,K,L,fun j G N q x P=>?_⟩;obtain⟨y,u,B⟩:=M j G N q x P;exact⟨y,u,B.mono (ll _) (fun b _ n=>m b n) (fun _ _ _=>rfl) (fun r H=>t _ _ H) (fun _ _=>rfl) (fun h=>h)⟩
 ·obtain⟨x,R,B⟩:=h.tmp k v Q;exact⟨x,R,B.mono (by simp[World.iter]) (fun b _ n=>m b n) (fun b n _=>u4 _ _ _ n) t⟩
 ·refine .sit _ _ _ _ _ (cI _ _ _) (by simp[World.iter]) (fun n=>?_) (w.iter_heap b 0);have:=lW h.hs (m _ n);omega
end
section
variable{d:Cx}{Q:Exit→Act→World→Prop}{e:dt}{s:AS}{c:Array Oper}{f:Func}{p:eb}{i:Nat}
def VF(P:Program)(s:AS)(o:Oper):Option ByteArray:=match o.op with
 | .range T x=>match P.underlying T,s.ev x with
  | some .string,some (.str b)=>some b
  | _,_=>none
 | _=>none
theorem I6(id:Nat){b:ByteArray}(k:∀g,d.w0.w.heap.size≤g→OT d Q e c (aV f p (i+1)) ((R9 id s).put (aW f p i).dst (.sit id g b 0)))(A:aV f p i=aW f p i::aV f p (i+1):=by kernel_rfl)(z:cH c s (aW f p i)=true:=by kernel_rfl)
  (h:VF d.P s (aW f p i)=some b:=by kernel_rfl) (B:has s.u id=false:=by kernel_rfl) (y:cJ d.n (aW f p i).dst=true:=by kernel_rfl):OT d Q e c (aV f p i) s:=by
 rw[A];refine fu _ z fun a w ι n=>?_;refine aa6 rfl fun K t=>?_;unfold VF at h;split at h
 case h_2=>cases h
 rename_i T x m;split at h
 case h_2=>cases h
 rename_i l u C;injection h with h;subst h
 obtain⟨q,r⟩:=n.range B l;have o:=n.ev C;generalize v:a.eval x=X at o;cases o;have j:(execOp a.eval ({ aW f p i with guard:=none }:Oper)).run d.P w=.ok (.value (.pointer (some ⟨w.heap.size,0,none⟩))) (w.iter l 0):=by
  unfold execOp;simp[m,v,run_range_string w T l u]
 unfold Oper.wp;rw[j];exact t _ _ (k _ n.hs.below.size _ _ _ (q.put (fU y) r))
def D7(s:AS)(o:Oper):Option (Nat×Nat×Nat×ByteArray×Nat):=match o.op with
 | .next (.tmp t) true=>match look t s.t with
  | some (.sit id g b p)=>some (t,id,g,b,p)
  | _=>none
 | _=>none
theorem KS(t:Nat){id g:Nat}{b:ByteArray}{j:Nat}(m:decide (j<b.size)=true)(y:d.w0.w.heap.size≤g)
  (k:OT d Q e c (aV f p (i+1)) ((Kf t id g b (j+(Utf8.decode b j).2) s).put (aW f p i).dst (.tup [.bool true,.int .i64 (j:Nat),.int .i32 ((Utf8.decode b j).1:Nat)])))
  (L:aV f p i=aW f p i::aV f p (i+1):=by kernel_rfl) (J:cH c s (aW f p i)=true:=by kernel_rfl) (h:D7 s (aW f p i)=some (t,id,g,b,j):=by kernel_rfl) (I:cJ d.n (aW f p i).dst=true:=by kernel_rfl)
  (z:(Ah t s.t&&tn s.o)=true:=by kernel_rfl):OT d Q e c (aV f p i) s:=by
 rw[L];refine fu _ J fun a w ι M=>?_;refine aa6 rfl fun K G=>?_;have m:=kc m;unfold D7 at h;split at h
 case h_2=>cases h
 rename_i C A;split at h
 case h_2=>cases h
 rename_i O B r l N;simp only[rv,w3]at h;obtain⟨rfl,rfl,rfl,rfl,rfl⟩:=h;simp only[iN]at z;obtain⟨D,E,F⟩:=M.iter (p1:=l+(Utf8.decode r l).2) N y z.1 z.2;have H:a.eval (.tmp C)=.pointer (some ⟨B,0,none⟩):=by show a.tmps.getD C undef=_;rw[u5,D];rfl
 have u:(execOp a.eval ({ aW f p i with guard:=none }:Oper)).run d.P w=.ok (.value (.tuple #[.bool true,.int .i64 (l:Nat),.int .i32 ((Utf8.decode r l).1:Nat)])) { w with heap:=w.heap.setIfInBounds B (.stringIter r (l+(Utf8.decode r l).2)) }:=by
  unfold execOp;simp only[A,H];simp[Instr.next,getObj,setObj,sj,Sem.run,E,Result.andThen,m,goInt]
 unfold Oper.wp;rw[u];refine G _ _ (k _ _ _ (F.put (fU I) (.tup _ _ [.bool true,.int .i64 (l:Nat),.int .i32 ((Utf8.decode r l).1:Nat)] rfl fun q x v n o=>?_)));rcases q with _|_|_|q
 ·simp at n o;subst n;subst o;exact .bool _ _
 ·simp at n o;subst n;subst o;exact .int _ _ _
 ·simp at n o;subst n;subst o;exact .int _ _ _
 ·simp at n
theorem KU(t:Nat){id g:Nat}{b:ByteArray}{l:Nat}(j:decide (l<b.size)=false)(k:OT d Q e c (aV f p (i+1)) (s.put (aW f p i).dst (.tup [.bool false])))
  (G:aV f p i=aW f p i::aV f p (i+1):=by kernel_rfl) (F:cH c s (aW f p i)=true:=by kernel_rfl) (h:D7 s (aW f p i)=some (t,id,g,b,l):=by kernel_rfl) (E:cJ d.n (aW f p i).dst=true:=by kernel_rfl):OT d Q e c (aV f p i) s:=by
 rw[G];refine fu _ F fun a w ι r=>?_;refine aa6 rfl fun K C=>?_;have j:¬ l<b.size:=of_decide_eq_false j;unfold D7 at h;split at h
 case h_2=>cases h
 rename_i y n;split at h
 case h_2=>cases h
 rename_i J z L M I;simp only[rv,w3]at h;obtain⟨rfl,rfl,rfl,rfl,rfl⟩:=h;obtain⟨x,A,H⟩:=r.tmp _ _ I;cases H with
 | sit _ _ _ _ _ _ _ _ B =>
  have D:a.eval (.tmp y)=.pointer (some ⟨z,0,none⟩):=by show a.tmps.getD y undef=_;rw[u5,A];rfl
  have m:(execOp a.eval ({ aW f p i with guard:=none }:Oper)).run d.P w=.ok (.value (.tuple #[.bool false])) w:=by
   unfold execOp;simp only[n,D];simp[Instr.next,getObj,sj,Sem.run,B,Result.andThen,j]
  unfold Oper.wp;rw[m];refine C _ _ (k _ _ _ (r.put (fU E) (.tup _ _ [.bool false] rfl fun q x v o u=>?_)));rcases q with _|q
  ·simp at o u;subst o;subst u;exact .bool _ _
  ·simp at o
end
end Go.Proofs.YtocgkfoifehcbaaGreat
