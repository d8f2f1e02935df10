/- Strings: their parts, their bytes, their runes one after the other. No program in sight. -/
import Derived.Test.YtocgkfoifehcbaaGreatRfVl
import Derived.Laws.RangeAny
namespace Go.Proofs.YtocgkfoifehcbaaGreat
set_option linter.all false
open Go.RowKit
section
variable{P:Program}{n:Nat}{s:AS}{o:Oper}
def Gm(P:Program)(n:Nat)(s:AS)(o:Oper):Option (ByteArray×Int×Int):=match iy n o,o.op with
 | true,.slice T x lo hi none=>match P.underlying T,s.ev x with
  | some .string,some (.str b)=>match gO s b.size lo hi with
   | some (i,j)=>some (b,i,j)
   | none=>none
  | _,_=>none
 | _,_=>none
theorem vc{b:ByteArray}{i j:Int}(hb:cH i j b.size=true)(h:Gm P n s o=some (b,i,j):=by kernel_rfl):bE P n s o=some (s.put o.dst (.str (b.extract i.toNat j.toNat))):=by
 unfold Gm at h;split at h
 case h_2=>cases h
 rename_i T x lo hi hd hop;obtain⟨d,hd,hn⟩:=lu hd;split at h
 case h_2=>cases h
 rename_i b' hu hx;split at h
 case h_2=>cases h
 rename_i i' j' hab;injection h with h;injection h with e1 e2;injection e2 with e2 e3;subst e1;subst e2;subst e3
 simp only[cH,Bool.and_eq_true,decide_eq_true_eq]at hb;have hdn:d<n:=Nat.le_of_ble_eq_true hn;unfold bE hI gw;simp[hop,hd,cm,hdn,hx,hu,hab,hb]
end
mutual
def AV.lc:AV→Bool
 | .sit _ _ _ _=>false
 | .agg cs=>jN cs
 | .tup cs=>jN cs
 | .fno _ cs=>jN cs
 | _=>true
def jN:List AV→Bool
 | []=>true
 | c::r=>c.lc&&jN r
end
theorem tu:∀{l:List AV},jN l=true→∀(i:Nat) (x:AV),l[i]?=some x→x.lc=true
 | [],_,i,x,hx=>by simp at hx
 | c::r,h,0,x,hx=>by simp only[jN,Bool.and_eq_true]at h;simp at hx;subst hx;exact h.1
 | c::r,h,i+1,x,hx=>by simp only[jN,Bool.and_eq_true]at h;simp at hx;exact tu h.2 i x hx
section
variable{w w':World}{g:Nat}{s0:ByteArray}{p0:Nat}
theorem JC(hg:w.heap[g]?=some (.stringIter s0 p0))(hw:∀b,b≠g→w'.heap[b]?=w.heap[b]?){b o:Nat}{v:Value}(h:w.cell? ⟨b,o,none⟩=some v):w'.cell? ⟨b,o,none⟩=some v:=by
 by_cases e:b=g
 ·subst e;simp[World.cell?,hg]at h
 ·exact(Am (hw b e)).trans h
theorem Rel.iter{N:Nat→Prop}{ι:Env}{v:AV}{x:Value}(h:Rel N w ι v x)(hg:w.heap[g]?=some (.stringIter s0 p0))(hs:w.heap.size≤w'.heap.size)(hw:∀b,b≠g→w'.heap[b]?=w.heap[b]?):
  (v.lc=true∨∀i,ι i=none)→Rel N w' ι v x:=by
 induction h with
 | int ι k n=>intro _;exact .int _ _ _
 | bool ι b=>intro _;exact .bool _ _
 | str ι s=>intro _;exact .str _ _
 | nils ι=>intro _;exact .nils _
 | sl0 ι A c=>intro _;exact .sl0 _ _ _
 | sl ι l b o c sz val hz hb hn h1 hc hr hcap ih =>
  intro _;exact .sl ι l b o c sz val hz (Nat.lt_of_lt_of_le hb hs) hn h1 (fun j e he i x hx=>JC hg hw (hc j e he i x hx)) (fun j e he i x hx=>ih j e he i x hx (.inr fun _=>rfl)) hcap
 | fn ι f aP ys hl hr ih=>intro _;exact .fn _ f aP ys hl (fun i c y h1 h2=>ih i c y h1 h2 (.inr fun _=>rfl))
 | fno ι f aP ys hl hr ih=>intro q;exact .fno ι f aP ys hl (fun i c y h1 h2=>ih i c y h1 h2 (q.imp (fun q=>tu (by simpa[AV.lc]using q) i c h1) id))
 | nilf ι=>intro _;exact .nilf _
 | nilp ι=>intro _;exact .nilp _
 | any ι x h=>intro _;exact .any _ _ h
 | ptr ι id off g h=>intro _;exact .ptr _ _ _ _ h
 | eptr ι id sz j off g n c h=>intro _;exact .eptr _ _ _ _ _ _ n c h
 | sref ι id sz off m n c c' A B h hB=>intro _;exact .sref _ _ _ _ _ n c c' A B h hB
 | cptr ι cs b o val hb hn h1 hc hr ih =>
  intro _;exact .cptr ι cs b o val (Nat.lt_of_lt_of_le hb hs) hn h1 (fun i x hx=>JC hg hw (hc i x hx)) (fun i x hx=>ih i x hx (.inr fun _=>rfl))
 | adr ι g off=>intro _;exact .adr _ _ _
 | pp ι id g off h=>intro _;exact .pp _ _ _ _ h
 | sit ι id g s pos h _ _ _ =>
  intro q;rcases q with q|q
  ·cases q
  ·rw[q]at h;cases h
 | ref ι id A n c h=>intro _;exact .ref _ _ _ _ _ h
 | nilm ι=>intro _;exact .nilm _
 | vv ι x h=>intro _;exact .vv _ _ h
 | lk ι id v x h h1=>intro _;exact .lk _ _ _ _ h h1
 | mref ι id q r v h h2=>intro _;exact .mref _ _ _ _ v h h2
 | agg ι cs vs hl h1 hr ih=>intro q;exact .agg ι cs vs hl h1 (fun i x v hx hv=>ih i x v hx hv (q.imp (fun q=>tu (by simpa[AV.lc]using q) i x hx) id))
 | tup ι cs vs hl hr ih=>intro q;exact .tup ι cs vs hl (fun i x v hx hv=>ih i x v hx hv (q.imp (fun q=>tu (by simpa[AV.lc]using q) i x hx) id))
theorem C8{B:Nat}{e:TypeId}{sz:Nat}{v:Value}{n:Nat}{xs:List Value}(hg:w.heap[g]?=some (.stringIter s0 p0))(hw:∀b,b≠g→w'.heap[b]?=w.heap[b]?)(h:w.ownsRow B e sz v n xs):w'.ownsRow B e sz v n xs :=
 eo h fun g' hg'=>hw g' fun e'=>by
  subst e';obtain⟨hv,_⟩|⟨g2,cap,cur,hv,_,hgg,_⟩:=h.2
  ·rw[hv]at hg';cases hg'
  ·rw[hv]at hg';have hg':some g2=some g':=hg';injection hg' with hg';subst hg'
   rw[hg]at hgg;cases hgg
theorem ft.iter{N:Nat→Prop}{t:Prop}{o:Option Value}{c:AV}{x:Value}(h:ft N w t o c x)(hg:w.heap[g]?=some (.stringIter s0 p0))(hs:w.heap.size≤w'.heap.size)(hw:∀b,b≠g→w'.heap[b]?=w.heap[b]?):ft N w' t o c x:=by
 rcases h with h|⟨h0,m,r,h1,h2,h3,h4⟩|⟨h0,e,sz,l,r,h1,h2,h3,h4⟩
 ·exact .inl (h.iter hg hs hw (.inr fun _=>rfl))
 ·refine .inr (.inl ⟨h0,m,r,h1,h2,h3,?_⟩);unfold yj at h4⊢;cases m with
  | none=>exact h4
  | some l =>
   obtain⟨r',es,ck,e1,e2,e3⟩:=h4;exact⟨r',es,ck,e1,(hw r' (fun e=>by subst e;rw[hg]at e2;cases e2)).trans e2,e3⟩
 ·refine .inr (.inr ⟨h0,e,sz,l,r,h1,h2,h3,?_⟩);obtain⟨xs,q1,q2,q3,q4⟩:=h4;refine⟨xs,C8 hg hw q1,q2,q3,fun j c hj i a hi=>?_⟩;obtain⟨y,e1,e2⟩:=q4 j c hj i a hi;exact⟨y,e1,e2.iter hg hs hw (.inr fun _=>rfl)⟩
end
def rC(t:Nat):List (Nat×AV)→Bool
 | []=>true
 | (k,v)::r=>(Nat.beq k t||v.lc)&&rC t r
def nz:List (Nat×List AV)→Bool
 | []=>true
 | (_,cs)::r=>jN cs&&nz r
theorem Jx{t k:Nat}{v:AV}:∀{l:List (Nat×AV)},rC t l=true→look k l=some v→k≠t→v.lc=true
 | [],_,h,_=>by cases h
 | (j,x)::r,hn,h,hk=>by
  simp only[rC,Bool.and_eq_true]at hn;simp only[look]at h;split at h
  ·rename_i e;subst e;injection h with h;subst h
   rcases Bool.or_eq_true_iff.1 hn.1 with q|q
   ·exact absurd (Nat.eq_of_beq_eq_true q) hk
   ·exact q
  ·exact Jx hn.2 h hk
theorem I5{k:Nat}{cs:List AV}:∀{l:List (Nat×List AV)},nz l=true→look k l=some cs→jN cs=true
 | [],_,h=>by cases h
 | (j,x)::r,hn,h=>by
  simp only[nz,Bool.and_eq_true]at hn;simp only[look]at h;split at h
  ·injection h with h;subst h;exact hn.1
  ·exact I5 hn.2 h
section
variable{cx:Cx}{s:AS}{a:Act}{w:World}{ι:Env}
theorem HS.iter{M:Nat→Prop}{w0:aE}(h:HS M w0 w ι s){g:Nat}{s0 s1:ByteArray}{p0 p1:Nat}(hg:w.heap[g]?=some (.stringIter s0 p0))(hlo:w0.w.heap.size≤g)(ho:nz s.o=true):
  HS M w0 { w with heap:=w.heap.setIfInBounds g (.stringIter s1 p1) } ι s:=by
 have hw:∀b,b≠g→({ w with heap:=w.heap.setIfInBounds g (.stringIter s1 p1) }:World).heap[b]?=w.heap[b]?:=fun b hb=>by
  simp only[];rw[Array.getElem?_setIfInBounds_ne (fun e=>hb e.symm)]
 have hs:w.heap.size≤({ w with heap:=w.heap.setIfInBounds g (.stringIter s1 p1) }:World).heap.size:=by simp
 refine⟨h.below.trans ⟨rfl,rfl,rfl,hs,fun k hk _=>hw k (by omega)⟩,h.old,h.use,fun i k hk=>⟨(h.own i k hk).1,Nat.lt_of_lt_of_le (h.own i k hk).2 hs⟩,h.inj,h.ko,h.kr,fun i cs hi hp=>?_,fun i ar hi hp=>?_,h.pin⟩
 ·obtain⟨g',T,vs,e1,e2,e3⟩:=h.objs i cs hi hp;refine⟨g',T,vs,e1,(hw g' (fun e=>by subst e;rw[hg]at e2;cases e2)).trans e2,e3.len,e3.one,fun j x v hx hv=>(e3.rel j x v hx hv).iter hg hs hw (.inl (tu (I5 ho hi) j x hx))⟩
 ·obtain⟨v,xs,h1,h2,h3,h4,h5⟩:=h.arrs i ar hi hp;refine⟨v,xs,h1,C8 hg hw h2,h3,h4,fun j e hj k c hk=>?_⟩;obtain⟨x,hx,hr⟩:=h5 j e hj k c hk;exact⟨x,hx,hr.iter hg hs hw⟩
def Ab(t id g:Nat)(b:ByteArray)(p:Nat)(s:AS):AS:={ s with t:=aZ t (.sit id g b p) s.t }
theorem aN.iter(h:aN cx s a w ι){t id g:Nat}{b:ByteArray}{p p1:Nat}(ht:look t s.t=some (.sit id g b p))(hlo:cx.w0.w.heap.size≤g)(hn:rC t s.t=true)(ho:nz s.o=true):
  a.tmps[t]?=some (.pointer (some ⟨g,0,none⟩))∧w.heap[g]?=some (.stringIter b p)∧aN cx (Ab t id g b p1 s) a { w with heap:=w.heap.setIfInBounds g (.stringIter b p1) } ι:=by
 obtain⟨x,hx,hr⟩:=h.tmp t _ ht;cases hr with
 | sit _ _ _ _ _ hι hlt hN hg =>
  refine⟨hx,hg,⟨⟨(h.hs.iter hg hlo ho).below,h.hs.old,h.hs.use,(h.hs.iter hg hlo ho).own,h.hs.inj,h.hs.ko,h.hs.kr,(h.hs.iter hg hlo ho).objs,(h.hs.iter hg hlo ho).arrs,h.hs.pin⟩,h.dfr,h.n,fun k v hk=>?_⟩⟩;have hw:∀b',b'≠g→({ w with heap:=w.heap.setIfInBounds g (.stringIter b p1) }:World).heap[b']?=w.heap[b']?:=fun b' hb=>by
   simp only[];rw[Array.getElem?_setIfInBounds_ne (fun e=>hb e.symm)]
  simp only[Ab,ca]at hk;split at hk
  ·rename_i e;subst e;injection hk with hk;subst hk
   exact⟨_,hx,.sit _ _ _ _ _ hι (by simpa using hlt) hN (by simp[Array.getElem?_setIfInBounds_self_of_lt,hlt])⟩
  ·rename_i e;obtain⟨y,hy,hr⟩:=h.tmp k v hk;exact⟨y,hy,hr.iter hg (by simp) hw (.inl (Jx hn hk e))⟩
def Ji(id:Nat)(s:AS):AS:={ s with u:=id::s.u }
theorem aN.range(h:aN cx s a w ι){id:Nat}(hu:has s.u id=false)(b:ByteArray):
  aN cx (Ji id s) a (w.iter b 0) (ext ι id (.int .u64 (w.heap.size:Nat)))∧Rel (NN cx.M (ext ι id (.int .u64 (w.heap.size:Nat)))) (w.iter b 0) (ext ι id (.int .u64 (w.heap.size:Nat))) (.sit id w.heap.size b 0) (.pointer (some ⟨w.heap.size,0,none⟩)):=by
 have hn:=h.hs.free hu;have hf:=h.hs.fresh (.stringIter b 0);have hk:=dQ hn (.int .u64 (w.heap.size:Nat));have hNN:∀g,NN cx.M (ext ι id (.int .u64 (w.heap.size:Nat))) g→NN cx.M ι g:=fun g hg=>by
  rcases er hg with hg|hg
  ·exact hg
  ·cases hg
 have bk:∀{i g},bm (ext ι id (.int .u64 (w.heap.size:Nat)) i)=some g→bm (ι i)=some g:=fun {i g} hg=>by
  by_cases e:i=id
  ·subst e;rw[cr]at hg;cases hg
  ·rw[bq _ _ e]at hg;exact hg
 have sm:∀i,(∃c,look i s.o=some c)∨(∃c,look i s.r=some c)→i≠id:=fun i hi e=>by
  subst e;obtain⟨c,hi⟩|⟨c,hi⟩:=hi
  ·have:=h.hs.ko i c hi;rw[hu]at this;cases this
  ·have:=h.hs.kr i c hi;rw[hu]at this;cases this
 refine⟨⟨⟨hf.below,h.hs.old,fun i y hy=>?_,fun i g hg=>hf.own i g (bk hg),fun i i' g hg hg'=>h.hs.inj i i' g (bk hg) (bk hg'),fun i c hi=>eA (h.hs.ko i c hi),fun i c hi=>eA (h.hs.kr i c hi),fun i c hi hp=>?_,fun i c hi hp=>?_,fun i v hp=>⟨hk i v (h.hs.pin i v hp).1,mI (h.hs.pin i v hp).2⟩⟩,h.dfr,h.n,fun k v hv=>?_⟩,?_⟩
 ·by_cases e:i=id
  ·subst e;exact g8 _ _
  ·rw[bq _ _ e]at hy;exact eA (h.hs.use i y hy)
 ·have e:=sm i (.inl ⟨c,hi⟩);rw[bq _ _ e]at hp;obtain⟨g,T,vs,e1,e2,e3⟩:=hf.objs i c hi hp;exact⟨g,T,vs,(bq _ _ e).trans e1,e2,e3.mono (Nat.le_refl _) (fun b _ hb=>hNN b hb) (fun _ _ _=>rfl) hk⟩
 ·have e:=sm i (.inr ⟨c,hi⟩);rw[bq _ _ e]at hp;obtain⟨v,xs,h1,h2,h3,h4,h5⟩:=hf.arrs i c hi hp;refine⟨v,xs,(bq _ _ e).trans h1,h2,h3,h4,fun j el hj q x hq=>?_⟩;obtain⟨y,hy,hr⟩:=h5 j el hj q x hq;exact⟨y,hy,hr.mono (Nat.le_refl _) (fun b _ hb=>hNN b hb) (fun _ _ _=>rfl) (fun r h'=>hk _ _ h') (fun _ _=>rfl) (fun h=>h)⟩
 ·obtain⟨x,hx,hr⟩:=h.tmp k v hv;exact⟨x,hx,hr.mono (by simp[World.iter]) (fun b _ hb=>hNN b hb) (fun b hb _=>Below.heap_alloc _ _ _ hb) hk⟩
 ·refine .sit _ _ _ _ _ (cr _ _ _) (by simp[World.iter]) (fun hb=>?_) (w.iter_heap b 0);have:=jH h.hs (hNN _ hb);omega
end
section
variable{cx:Cx}{Q:Exit→Act→World→Prop}{ks:List aq}{s:AS}{all:Array Oper}{f:Func}{p:List Nat}{i:Nat}
def Hd(P:Program)(s:AS)(o:Oper):Option ByteArray:=match o.op with
 | .range T x=>match P.underlying T,s.ev x with
  | some .string,some (.str b)=>some b
  | _,_=>none
 | _=>none
theorem Ar(id:Nat){b:ByteArray}(k:∀g,cx.w0.w.heap.size≤g→OT cx Q ks all (aK f p (i+1)) ((Ji id s).put (aQ f p i).dst (.sit id g b 0)))(hl:aK f p i=aQ f p i::aK f p (i+1):=by kernel_rfl)(hg:cd all s (aQ f p i)=true:=by kernel_rfl)
  (h:Hd cx.P s (aQ f p i)=some b:=by kernel_rfl) (hu:has s.u id=false:=by kernel_rfl) (hd:cm cx.n (aQ f p i).dst=true:=by kernel_rfl):OT cx Q ks all (aK f p i) s:=by
 rw[hl];refine ef _ hg fun a w ι hs=>?_;refine wpList_plain rfl fun K hK=>?_;unfold Hd at h;split at h
 case h_2=>cases h
 rename_i T x hop;split at h
 case h_2=>cases h
 rename_i b' hT hx;injection h with h;subst h
 obtain⟨h1,h2⟩:=hs.range hu b';have hv:=hs.ev hx;generalize hX:a.eval x=X at hv;cases hv;have hrun:(execOp a.eval ({ aQ f p i with guard:=none }:Oper)).run cx.P w=.ok (.value (.pointer (some ⟨w.heap.size,0,none⟩))) (w.iter b' 0):=by
  unfold execOp;simp[hop,hX,run_range_string w T b' hT]
 unfold Oper.wp;rw[hrun];exact hK _ _ (k _ hs.hs.below.size _ _ _ (h1.put (eN hd) h2))
def wo(s:AS)(o:Oper):Option (Nat×Nat×Nat×ByteArray×Nat):=match o.op with
 | .next (.tmp t) true=>match look t s.t with
  | some (.sit id g b p)=>some (t,id,g,b,p)
  | _=>none
 | _=>none
theorem ye(t:Nat){id g:Nat}{b:ByteArray}{pos:Nat}(hlt:decide (pos<b.size)=true)(hlo:cx.w0.w.heap.size≤g)
  (k:OT cx Q ks all (aK f p (i+1)) ((Ab t id g b (pos+(Utf8.decode b pos).2) s).put (aQ f p i).dst (.tup [.bool true,.int .i64 (pos:Nat),.int .i32 ((Utf8.decode b pos).1:Nat)])))
  (hl:aK f p i=aQ f p i::aK f p (i+1):=by kernel_rfl) (hg:cd all s (aQ f p i)=true:=by kernel_rfl) (h:wo s (aQ f p i)=some (t,id,g,b,pos):=by kernel_rfl) (hd:cm cx.n (aQ f p i).dst=true:=by kernel_rfl)
  (hn:(rC t s.t&&nz s.o)=true:=by kernel_rfl):OT cx Q ks all (aK f p i) s:=by
 rw[hl];refine ef _ hg fun a w ι hs=>?_;refine wpList_plain rfl fun K hK=>?_;have hlt:=of_decide_eq_true hlt;unfold wo at h;split at h
 case h_2=>cases h
 rename_i t' hop;split at h
 case h_2=>cases h
 rename_i id' g' b' p' ht;simp only[Option.some.injEq,Prod.mk.injEq]at h;obtain⟨rfl,rfl,rfl,rfl,rfl⟩:=h;simp only[Bool.and_eq_true]at hn;obtain⟨h1,h2,h3⟩:=hs.iter (p1:=p'+(Utf8.decode b' p').2) ht hlo hn.1 hn.2;have hX:a.eval (.tmp t')=.pointer (some ⟨g',0,none⟩):=by show a.tmps.getD t' undef=_;rw[Array.getD_eq_getD_getElem?,h1];rfl
 have hrun:(execOp a.eval ({ aQ f p i with guard:=none }:Oper)).run cx.P w=.ok (.value (.tuple #[.bool true,.int .i64 (p':Nat),.int .i32 ((Utf8.decode b' p').1:Nat)])) { w with heap:=w.heap.setIfInBounds g' (.stringIter b' (p'+(Utf8.decode b' p').2)) }:=by
  unfold execOp;simp only[hop,hX];simp[Instr.next,getObj,setObj,Sem.run_bind,Sem.run,h2,Result.andThen,hlt,goInt]
 unfold Oper.wp;rw[hrun];refine hK _ _ (k _ _ _ (h3.put (eN hd) (.tup _ _ [.bool true,.int .i64 (p':Nat),.int .i32 ((Utf8.decode b' p').1:Nat)] rfl fun q x v hx hv=>?_)));rcases q with _|_|_|q
 ·simp at hx hv;subst hx;subst hv;exact .bool _ _
 ·simp at hx hv;subst hx;subst hv;exact .int _ _ _
 ·simp at hx hv;subst hx;subst hv;exact .int _ _ _
 ·simp at hx
theorem Bi(t:Nat){id g:Nat}{b:ByteArray}{pos:Nat}(hlt:decide (pos<b.size)=false)(k:OT cx Q ks all (aK f p (i+1)) (s.put (aQ f p i).dst (.tup [.bool false])))
  (hl:aK f p i=aQ f p i::aK f p (i+1):=by kernel_rfl) (hg:cd all s (aQ f p i)=true:=by kernel_rfl) (h:wo s (aQ f p i)=some (t,id,g,b,pos):=by kernel_rfl) (hd:cm cx.n (aQ f p i).dst=true:=by kernel_rfl):OT cx Q ks all (aK f p i) s:=by
 rw[hl];refine ef _ hg fun a w ι hs=>?_;refine wpList_plain rfl fun K hK=>?_;have hlt:¬ pos<b.size:=of_decide_eq_false hlt;unfold wo at h;split at h
 case h_2=>cases h
 rename_i t' hop;split at h
 case h_2=>cases h
 rename_i id' g' b' p' ht;simp only[Option.some.injEq,Prod.mk.injEq]at h;obtain⟨rfl,rfl,rfl,rfl,rfl⟩:=h;obtain⟨x,h1,hr⟩:=hs.tmp _ _ ht;cases hr with
 | sit _ _ _ _ _ _ _ _ h2 =>
  have hX:a.eval (.tmp t')=.pointer (some ⟨g',0,none⟩):=by show a.tmps.getD t' undef=_;rw[Array.getD_eq_getD_getElem?,h1];rfl
  have hrun:(execOp a.eval ({ aQ f p i with guard:=none }:Oper)).run cx.P w=.ok (.value (.tuple #[.bool false])) w:=by
   unfold execOp;simp only[hop,hX];simp[Instr.next,getObj,Sem.run_bind,Sem.run,h2,Result.andThen,hlt]
  unfold Oper.wp;rw[hrun];refine hK _ _ (k _ _ _ (hs.put (eN hd) (.tup _ _ [.bool false] rfl fun q x v hx hv=>?_)));rcases q with _|q
  ·simp at hx hv;subst hx;subst hv;exact .bool _ _
  ·simp at hx
end
end Go.Proofs.YtocgkfoifehcbaaGreat
