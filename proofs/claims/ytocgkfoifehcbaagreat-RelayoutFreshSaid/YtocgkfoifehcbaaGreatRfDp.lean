/- Memory that a callee made and that only this call knows, block by block: bases that follow one another; calls that give such memory, calls that turn it. No program in sight. -/
import Derived.Test.YtocgkfoifehcbaaGreatRfVg
import Derived.Test.YtocgkfoifehcbaaGreatRfVdt
import Derived.Test.YtocgkfoifehcbaaGreatRfVn
namespace Go.Proofs.YtocgkfoifehcbaaGreat
set_option linter.all false
open Go.RowKit
structure d5(E:Nat→Prop)(b b':aE):Prop where
 os:b'.w.os=b.w.os
 tape:b'.w.tape=b.w.tape
 output:b'.w.output=b.w.output
 size:b.w.heap.size≤b'.w.heap.size
 block:∀k,k<b.w.heap.size→¬ b.G k→¬ E k→b'.w.heap[k]?=b.w.heap[k]?
 O:∀g,b'.O g→b.O g
 pv:b'.pv=b.pv
theorem d5.refl(E:Nat→Prop)(b:aE):d5 E b b:=⟨rfl,rfl,rfl,Nat.le_refl _,fun _ _ _ _=>rfl,fun _ h=>h,rfl⟩
theorem d5.trans{E:Nat→Prop}{b b' b2:aE}(h:d5 E b b')(k:d5 E b' b2):d5 E b b2 :=
 ⟨k.os.trans h.os,k.tape.trans h.tape,k.output.trans h.output,Nat.le_trans h.size k.size,fun i hi hg he=>by
  have hn:¬ b'.G i:=fun hG=>by
   rcases h.O i (.inr hG)with h1|h1
   ·exact absurd hi (Nat.not_lt.2 h1)
   ·exact hg h1
  exact(k.block i (Nat.lt_of_lt_of_le hi h.size) hn he).trans (h.block i hi hg he),fun g hg=>h.O g (k.O g hg),k.pv.trans h.pv⟩
theorem d5.mono{E E':Nat→Prop}{b b':aE}(h:d5 E b b')(he:∀k,E k→E' k):d5 E' b b' :=
 ⟨h.os,h.tape,h.output,h.size,fun i hi hg hn=>h.block i hi hg (fun h=>hn (he i h)),h.O,h.pv⟩
def qf(b:aE)(ι:Env)(w:World):aE:=⟨w,fun g=>∃id,bm (ι id)=some g,b.pv⟩
theorem aN.step{cx:Cx}{s:AS}{a:Act}{w w':World}{ι:Env}(h:aN cx s a w ι){E E':Nat→Prop}(h1:w'.os=w.os)(h2:w'.tape=w.tape)(h3:w'.output=w.output)(h4:w.heap.size≤w'.heap.size)
  (hE:∀k,E k→cx.M k) (hw:∀k,k<w.heap.size→¬ E k→w'.heap[k]?=w.heap[k]?) (hE':∀k,E' k→w.heap.size≤k∧k<w'.heap.size) :
  aN ⟨cx.P,cx.n,fun k=>cx.M k∨E' k,qf cx.w0 ι w'⟩ s a w' ι∧d5 E cx.w0 (qf cx.w0 ι w'):=by
 have own:∀{id g},bm (ι id)=some g→w'.heap[g]?=w.heap[g]?:=fun {id g} hg=>hw g (h.hs.own id g hg).2 (fun he=>h.hs.sep (hE g he) hg);have hN:∀b,b<w.heap.size→NN (fun k=>cx.M k∨E' k) ι b→NN cx.M ι b:=fun b hb hn=>by
  rcases hn with (hn|hn)|hn
  ·exact .inl hn
  ·have:=(hE' b hn).1;omega
  ·exact .inr hn
 have hk:∀b,b<w.heap.size→¬ NN cx.M ι b→w'.heap[b]?=w.heap[b]?:=fun b hb hn=>hw b hb (fun he=>hn (.inl (hE b he)));refine⟨⟨⟨⟨rfl,rfl,rfl,Nat.le_refl _,fun _ _ _=>rfl⟩,fun b hb=>?_,h.hs.use,fun id g hg=>⟨.inr ⟨id,hg⟩,Nat.lt_of_lt_of_le (h.hs.own id g hg).2 h4⟩,h.hs.inj,h.hs.ko,h.hs.kr,fun i cs hi hp=>?_,fun i ar hi hp=>?_,h.hs.pin⟩,h.dfr,h.n,fun k v hk'=>?_⟩,
  ⟨h1.trans h.hs.below.os,h2.trans h.hs.below.tape,h3.trans h.hs.below.output,Nat.le_trans h.hs.below.size h4,fun k hk hG hnE=>(hw k (Nat.lt_of_lt_of_le hk h.hs.below.size) hnE).trans (h.hs.below.block k hk hG),fun g hg=>?_,rfl⟩⟩
 ·rcases hb with hb|hb
  ·exact⟨Nat.lt_of_lt_of_le (h.hs.old b hb).1 (Nat.le_trans h.hs.below.size h4),fun⟨id,hid⟩=>h.hs.sep hb hid⟩
  ·exact⟨(hE' b hb).2,fun⟨id,hid⟩=>by have:=(hE' b hb).1;have:=(h.hs.own id b hid).2;omega⟩
 ·obtain⟨g,T,vs,e1,e2,e3⟩:=h.hs.objs i cs hi hp;exact⟨g,T,vs,e1,(own (id:=i) (by rw[e1];rfl)).trans e2,e3.mono h4 hN hk (fun _ _ h=>h)⟩
 ·obtain⟨v',xs,e1,e2,e3,e4,e5⟩:=h.hs.arrs i ar hi hp;refine⟨v',xs,e1,eo e2 (fun g hg=>own (id:=i) (by rw[e1];exact hg)),e3,e4,fun j e hj k' c' hk'=>?_⟩;obtain⟨y,hy,hry⟩:=e5 j e hj k' c' hk';exact⟨y,hy,hry.mono h4 hN hk (fun _ h=>h) (fun r h'=>own (id:=nm i (j*ar.sz+k')) (by rw[h'];rfl)) (fun h=>h)⟩
 ·obtain⟨x,hx,hr⟩:=h.tmp k v hk';exact⟨x,hx,hr.mono h4 hN hk (fun _ _ h=>h)⟩
 ·rcases hg with hg|⟨id,hg⟩
  ·exact .inl (Nat.le_trans (Nat.le_trans h.hs.below.size h4) hg)
  ·exact(h.hs.own id g hg).1
theorem HS.UE{M M' E:Nat→Prop}{b b':aE}{w:World}{ι:Env}{s:AS}(h:HS M' b' w ι s)(hg:d5 E b b')(hE:∀k,E k→b.w.heap.size≤k)(hM:∀k,M k→M' k∧k<b.w.heap.size∧¬ b.G k):HS M b w ι s:=by
 have hN:∀b,b<w.heap.size→NN M ι b→NN M' ι b:=fun b _ hb=>hb.elim (fun h=>.inl (hM b h).1) .inr;refine⟨⟨h.below.os.trans hg.os,h.below.tape.trans hg.tape,h.below.output.trans hg.output,Nat.le_trans hg.size h.below.size,fun k hk hG=>?_⟩,fun k hk=>(hM k hk).2,h.use,fun id g hg'=>⟨hg.O g (h.own id g hg').1,(h.own id g hg').2⟩,h.inj,h.ko,h.kr,fun i cs hi hp=>?_,fun i ar hi hp=>?_,fun i v hp=>h.pin i v (by rw[hg.pv];exact hp)⟩
 ·have hn:¬ b'.G k:=fun hG'=>by
   rcases hg.O k (.inr hG')with h1|h1
   ·exact absurd hk (Nat.not_lt.2 h1)
   ·exact hG h1
  exact(h.below.block k (Nat.lt_of_lt_of_le hk hg.size) hn).trans (hg.block k hk hG (fun he=>absurd hk (Nat.not_lt.2 (hE k he))))
 ·obtain⟨g,T,vs,e1,e2,e3⟩:=h.objs i cs hi hp;exact⟨g,T,vs,e1,e2,e3.mono (Nat.le_refl _) hN (fun _ _ _=>rfl) (fun _ _ h=>h)⟩
 ·obtain⟨v',xs,e1,e2,e3,e4,e5⟩:=h.arrs i ar hi hp;refine⟨v',xs,e1,e2,e3,e4,fun j e hj k' c' hk'=>?_⟩;obtain⟨y,hy,hry⟩:=e5 j e hj k' c' hk';exact⟨y,hy,hry.mono (Nat.le_refl _) hN (fun _ _ _=>rfl) (fun _ h=>h) (fun _ _=>rfl) (fun h=>h)⟩
def ff(v:AV)(x:Value):Prop:=∀(N:Nat→Prop) (w:World) (ι:Env),Rel N w ι v x
def sU(P:Program)(f:FuncId)(args:List AV)(R:World→World→AV→Prop):Prop :=
 ∀(M:Nat→Prop) (w:World) (xs:Array Value),(∀b,M b→b<w.heap.size)→ov M w args xs →
  Calls P f xs w fun e w'=>∃x v,e=.returned x∧Below w.heap.size w w'∧R w w' v∧ff v x
def l8(P:Program)(f:FuncId)(args:List AV)(E:Nat→Prop)(Φ:World→Prop)(V:AV)(R:World→Prop):Prop :=
 ∀(M:Nat→Prop) (w:World) (xs:Array Value),(∀b,M b→b<w.heap.size∧¬ E b)→(∀b,E b→b<w.heap.size)→Φ w→ov (fun b=>M b∨E b) w args xs →
  Calls P f xs w fun e w'=>∃x,e=.returned x∧w'.os=w.os∧w'.tape=w.tape∧w'.output=w.output∧w.heap.size≤w'.heap.size∧(∀k,k<w.heap.size→¬ E k→w'.heap[k]?=w.heap[k]?)∧R w'∧ff V x
theorem HO{cx:Cx}{s:AS}{a:Act}{w:World}{ι:Env}(hs:aN cx s a w ι){o:Oper}{g:FuncId}{args:List AV}(h1:df s o=some (g,args))(hcl:cf cx.P g=true):
  ∃xs,(execOp a.eval o).run cx.P w=.ok (.enter g xs) w∧ov (NN cx.M ι) w args xs:=by
 unfold df at h1;split at h1
 ·rename_i c hop;split at h1
  ·rename_i fo hcal;split at h1
   ·rename_i f' aP l hf hl;split at h1
    ·rename_i hu;injection h1 with h1;injection h1 with e1 e2;subst e1;subst e2
     obtain⟨ys,hrc,hc1,hc2⟩:=iR hs hop hcal hf hcl;exact⟨_,hrc,tq hs hl hu hc1 hc2⟩
    ·cases h1
   ·cases h1
  ·cases h1
 ·cases h1
section
variable{cx:Cx}{Q:Exit→Act→World→Prop}{ks:List aq}{s:AS}{all:Array Oper}{f:Func}{p:List Nat}{i:Nat}
theorem D3{g:FuncId}{args:List AV}{R:World→World→AV→Prop}(hc:sU cx.P g args R)
  (k:∀v w b',R w b'.w v→(∀k,cx.M k→k<cx.w0.w.heap.size∧¬ cx.w0.G k)→cx.w0.w.heap.size≤w.heap.size→(∀k,b'.G k→k<w.heap.size)→d5 (fun _=>False) cx.w0 b'→∃E:Nat→Prop,(∀k,E k→w.heap.size≤k∧k<b'.w.heap.size)∧OT ⟨cx.P,cx.n,fun c=>cx.M c∨E c,b'⟩ Q ks all (aK f p (i+1)) (s.put (aQ f p i).dst v))
  (hl:aK f p i=aQ f p i::aK f p (i+1):=by kernel_rfl) (hg:cd all s (aQ f p i)=true:=by kernel_rfl) (hcl:cf cx.P g=true:=by kernel_rfl)
  (h1:df s { aQ f p i with guard:=none }=some (g,args):=by kernel_rfl) (hd:cm cx.n (aQ f p i).dst=true:=by kernel_rfl):OT cx Q ks all (aK f p i) s:=by
 rw[hl];refine ef _ hg fun a w ι hs=>?_;refine wpList_plain rfl fun K hK=>?_;unfold Oper.wp;obtain⟨xs,hrc,hx⟩:=HO hs h1 hcl;rw[hrc,Oper.upon_enter];refine (hc (NN cx.M ι) w xs (fun b hb=>jH hs.hs hb) hx).mono ?_
 rintro e w' ⟨x,v,rfl,hb,hR,hp⟩
 obtain⟨E,hE,hk⟩:=k v w (qf cx.w0 ι w') hR hs.hs.old hs.hs.below.size (fun k ⟨id,hk⟩=>(hs.hs.own id k hk).2) (hs.step (E':=fun _=>False) hb.os hb.tape hb.output hb.size (fun _ h=>h.elim) (fun k hk _=>hb.block k hk) (fun _ h=>h.elim)).2;have hsim:=(hs.step (E:=fun _=>False) (E':=E) hb.os hb.tape hb.output hb.size (fun _ h=>h.elim) (fun k hk _=>hb.block k hk) hE).1;exact hK _ _ (hk _ _ _ (hsim.put (eN hd) (hp _ _ _)))
theorem Ho{g:FuncId}{args:List AV}{E:Nat→Prop}{Φ R:World→Prop}{V:AV}(hc:l8 cx.P g args E Φ V R){o:Oper}{a:Act}{w:World}{ι:Env}(hs:aN cx s a w ι)(h1:df s o=some (g,args))(hcl:cf cx.P g=true)(hd:cm cx.n o.dst=true)
  (hE:∀k,E k→cx.M k) (hΦ:∀w,cx.w0.w.heap.size≤w.heap.size→(∀k,E k→w.heap[k]?=cx.w0.w.heap[k]?)→Φ w) {Kn:Act→World→Prop} {Q':Exit→Act→World→Prop}
  (k:∀b' x w',d5 E cx.w0 b'→R b'.w→b'=qf cx.w0 ι w'→aN ⟨cx.P,cx.n,cx.M,b'⟩ (s.put o.dst V) (a.put o.dst x) w' ι→Kn (a.put o.dst x) w'):o.wp cx.P a w Kn Q':=by
 unfold Oper.wp;obtain⟨xs,hrc,hx⟩:=HO hs h1 hcl;rw[hrc,Oper.upon_enter];have hlt:∀k,E k→k<w.heap.size:=fun k hk=>Nat.lt_of_lt_of_le (hs.hs.old k (hE k hk)).1 hs.hs.below.size;refine (hc (fun b=>NN cx.M ι b∧¬ E b) w xs (fun b hb=>⟨jH hs.hs hb.1,hb.2⟩) hlt (hΦ w hs.hs.below.size (fun k hk=>hs.hs.below.block k (hs.hs.old k (hE k hk)).1 (hs.hs.old k (hE k hk)).2)) ⟨hx.1,fun i v y hv hy=>(hx.2 i v y hv hy).mono (Nat.le_refl _) (fun b _ hb=>?_) (fun _ _ _=>rfl) (fun _ _ h=>h)⟩).mono ?_
 ·rcases hb with hb|hb
  ·exact hb.1
  ·exact .inl (hE b hb)
 rintro e w' ⟨x,rfl,q1,q2,q3,q4,q5,hR,hp⟩
 obtain⟨hsim,hg⟩:=hs.step (E:=E) (E':=fun _=>False) q1 q2 q3 q4 hE q5 (fun _ h=>h.elim);refine k (qf cx.w0 ι w') x w' hg hR rfl ?_;have he:(fun k=>cx.M k∨False)=cx.M:=by funext k;simp
 rw[he]at hsim;exact hsim.put (eN hd) (hp _ _ _)
theorem Sk{g:FuncId}{args:List AV}{E:Nat→Prop}{Φ R:World→Prop}{V:AV}(hc:l8 cx.P g args E Φ V R)(hE:∀k,E k→cx.M k)(hΦ:∀w,cx.w0.w.heap.size≤w.heap.size→(∀k,E k→w.heap[k]?=cx.w0.w.heap[k]?)→Φ w)
  (k:∀b',d5 E cx.w0 b'→R b'.w→(∀k,cx.M k→k<cx.w0.w.heap.size∧¬ cx.w0.G k)→OT ⟨cx.P,cx.n,cx.M,b'⟩ Q ks all (aK f p (i+1)) (s.put (aQ f p i).dst V))
  (hl:aK f p i=aQ f p i::aK f p (i+1):=by kernel_rfl) (hg:cd all s (aQ f p i)=true:=by kernel_rfl) (hcl:cf cx.P g=true:=by kernel_rfl)
  (h1:df s { aQ f p i with guard:=none }=some (g,args):=by kernel_rfl) (hd:cm cx.n (aQ f p i).dst=true:=by kernel_rfl):OT cx Q ks all (aK f p i) s:=by
 rw[hl];refine ef _ hg fun a w ι hs=>?_;refine wpList_plain rfl fun K hK=>?_;exact Ho hc hs h1 hcl hd hE hΦ (fun b' x w' h1 h2 _ h4=>hK _ _ (k b' h1 h2 hs.hs.old _ _ _ h4))
end
theorem m6{cx:Cx}{fn:Func}{s:AS}{RX:Ending→World→Prop}{l:List AV}(h:fC cx.P s fn.results.toList=some l)(hq:∀w ι x,HS cx.M cx.w0 w ι s→Rel (NN cx.M ι) w ι (na l) x→RX (.returned x) w):VE cx (bodyPost cx.P fn RX) [] .ret s:=fun a w ι hsim=>by
 obtain⟨vs,e1,e2,e3⟩:=xc hsim h;refine⟨hsim.dfr,_,Je e1,hq w ι _ hsim.hs ?_⟩
 match l,vs,e2,e3 with
 | [],[],_,e3=>exact .tup _ _ _ rfl (fun i x v hx _=>by simp at hx)
 | [v],[y],_,e3=>exact e3 0 v y rfl rfl
 | v::u::r,y::z::q,e2,e3=>exact .tup _ _ _ e2 e3
theorem NK{P:Program}{f:FuncId}{fn:Func}{c:Code}{args:List AV}{R:World→World→AV→Prop}(hf:P.funcs[f]?=some fn)(hb:fn.body=some c)(n:Nat)(hn:fn.ntmps=n)(hl:args.length≤n)
  (h:∀M w,VE ⟨P,n,M,jy w⟩ (bodyPost P fn (fun e w'=>∃x v,e=.returned x∧Below w.heap.size w w'∧R w w' v∧ff v x)) [.c c] .normal ⟨idxs 0 args,[],[],[]⟩):sU P f args R:=by
 intro M w xs hM hx;refine calls_of_wp hf hb ?_;refine wp_mono (h M w { tmps:=xs++Array.replicate (fn.ntmps-xs.size) undef,defers:=[] } w bn ?_) (fun e a w' hq=>?_)
 ·refine⟨⟨⟨rfl,rfl,rfl,Nat.le_refl _,fun _ _ _=>rfl⟩,fun b hb=>⟨hM b hb,fun h=>h⟩,fun i y hy=>(by cases hy),fun i g hg=>(by cases hg),fun i i' g hg=>(by cases hg),fun i cs hi=>(by cases hi),fun i a hi=>(by cases hi),fun i cs hi=>(by cases hi),fun i a hi=>(by cases hi),fun i v hv=>(by cases hv)⟩,rfl,?_,fun k v hk=>?_⟩
  ·have:=hx.1;simp;omega
  ·rw[nC,if_pos (Nat.zero_le _),Nat.sub_zero]at hk;have hlt:k<xs.size:=by rw[←hx.1];exact(List.getElem?_eq_some_iff.1 hk).1
   refine⟨xs[k],?_,(hx.2 k v _ hk (Array.getElem?_eq_getElem hlt)).mono (Nat.le_refl _) (fun b _ hb=>?_) (fun _ _ _=>rfl) (fun _ _ h=>h)⟩
   ·simp only[];rw[Array.getElem?_append_left hlt,Array.getElem?_eq_getElem hlt]
   ·rcases hb with hb|⟨id,hb⟩
    ·exact hb
    ·cases hb
 ·cases e<;>exact hq
theorem ML{P:Program}{f:FuncId}{fn:Func}{c:Code}{args args':List AV}{E:Nat→Prop}{Φ R:World→Prop}{V:AV}{id0:Nat}{v0:Value}{ar:br}(hf:P.funcs[f]?=some fn)(hb:fn.body=some c)(n:Nat)(hn:fn.ntmps=n)(hl:args.length≤n)(hll:args'.length=args.length)
  (hv0:∀g,bm (some v0)=some g→E g)
  (hrow:∀w,Φ w→∃ys,w.ownsRow 0 ar.e ar.sz v0 ar.l.length ys∧(∀e∈ar.l,e.length=ar.sz)∧(∀x∈ys,x.oneCell'=true)∧∀(j:Nat) (e:List AV),ar.l[j]?=some e→∀(i:Nat) (c:AV),e[i]?=some c→∃x,ys[j*ar.sz+i]?=some x∧ff c x)
  (harg:∀(N:Nat→Prop) (w:World) (i:Nat) (a b:AV) (x:Value),args[i]?=some a→args'[i]?=some b→Rel N w bn a x→Rel N w (ext bn id0 v0) b x)
  (h:∀M w,(∀g,E g→bm (some v0)≠some g→M g)→Φ w→VE ⟨P,n,M,pY w id0 v0⟩ (bodyPost P fn (fun e w'=>∃x,e=.returned x∧w'.os=w.os∧w'.tape=w.tape∧w'.output=w.output∧w.heap.size≤w'.heap.size∧(∀k,k<w.heap.size→¬ E k→w'.heap[k]?=w.heap[k]?)∧R w'∧ff V x)) [.c c] .normal ⟨idxs 0 args',[],[(id0,ar)],[id0,cK id0]⟩):l8 P f args E Φ V R:=by
 intro M w xs hM hE hΦ hx;obtain⟨ys,hrow,hlen,hone,hcl⟩:=hrow w hΦ;refine calls_of_wp hf hb ?_;have hι:∀i y,ext bn id0 v0 i=some y→i=id0∧y=v0:=fun i y hy=>by
  by_cases e:i=id0
  ·subst e;rw[cr]at hy;injection hy with hy;exact⟨rfl,hy.symm⟩
  ·rw[bq _ _ e]at hy;cases hy
 have hbk:∀i g,bm (ext bn id0 v0 i)=some g→i=id0∧bm (some v0)=some g:=fun i g hg=>by
  cases he:ext bn id0 v0 i with
  | none=>rw[he]at hg;cases hg
  | some y=>obtain⟨h1,h2⟩:=hι i y he;rw[he,h2]at hg;exact⟨h1,hg⟩
 have hxs:args'.length=xs.size:=by rw[hll];exact hx.1
 refine wp_mono (h (fun b=>M b∨(E b∧bm (some v0)≠some b)) w (fun g h1 h2=>.inr ⟨h1,h2⟩) hΦ { tmps:=xs++Array.replicate (fn.ntmps-xs.size) undef,defers:=[] } w (ext bn id0 v0) ?_) (fun e a w' hq=>?_)
 ·refine⟨⟨⟨rfl,rfl,rfl,Nat.le_refl _,fun _ _ _=>rfl⟩,fun b hb=>?_,fun i y hy=>?_,fun i g hg=>⟨.inr (hbk i g hg).2,Jf hrow (hbk i g hg).2⟩,fun i i' g hg hg'=>(hbk i g hg).1.trans (hbk i' g hg').1.symm,fun i cs hi=>(by cases hi),fun i a hi=>?_,fun i cs hi=>(by cases hi),fun i a hi hp=>?_,fun i v hv=>?_⟩,rfl,?_,fun k v hk=>?_⟩
  ·rcases hb with hb|hb
   ·exact⟨(hM b hb).1,fun hg=>(hM b hb).2 (hv0 b hg)⟩
   ·exact⟨hE b hb.1,hb.2⟩
  ·rw[(hι i y hy).1];exact eB (by simp)
  ·simp only[look]at hi;split at hi
   ·rename_i e;subst e;exact eB (by simp)
   ·cases hi
  ·simp only[look]at hi;split at hi
   ·rename_i e;subst e;injection hi with hi;subst hi
    exact⟨v0,ys,cr _ _ _,hrow,hlen,hone,fun j e he k c hc=>by obtain⟨x,hx,hr⟩:=hcl j e he k c hc;exact⟨x,hx,.inl (hr _ _ _)⟩⟩
   ·cases hi
  ·have hv':(if i=id0 then some v0 else none)=some v:=hv;split at hv'
   ·rename_i e;subst e;injection hv' with hv';subst hv'
    exact⟨cr _ _ _,by simp⟩
   ·cases hv'
  ·have:=hx.1;simp;omega
  ·rw[nC,if_pos (Nat.zero_le _),Nat.sub_zero]at hk;have hlt:k<xs.size:=by rw[←hxs];exact(List.getElem?_eq_some_iff.1 hk).1
   have hlt2:k<args.length:=by rw[hx.1];exact hlt
   refine⟨xs[k],?_,?_⟩
   ·simp only[];rw[Array.getElem?_append_left hlt,Array.getElem?_eq_getElem hlt]
   ·have h9:=harg _ w k _ v _ (List.getElem?_eq_getElem hlt2) hk (hx.2 k _ _ (List.getElem?_eq_getElem hlt2) (Array.getElem?_eq_getElem hlt));refine h9.mono (Nat.le_refl _) (fun b _ hb=>?_) (fun _ _ _=>rfl) (fun _ _ h=>h);rcases hb with (hb|hb)|⟨id,hb⟩
    ·exact .inl hb
    ·exact .inr hb.1
    ·exact .inr (hv0 b (hbk id b hb).2)
 ·cases e<;>exact hq
section
variable{cx:Cx}{ops:Array Oper}{tags:List Tag}{σ σ':Nat→AS}{s0 s0':AS}
theorem cB.PN{Q':Exit→Act→World→Prop}(st:Stat ops tags 0)(dy:iH cx.P cx.n s0 ops tags 0 σ){z:Nat}(hz:tags.length=z)(hzs:z+1≤ops.size)(hlast:kf ops (z+1)=true)(hze:∀(o:Oper),ops[z]?=some o→∀j∈ct o,j<z)(hQ:∀a w ι,aN cx (σ 0) a w ι→wpList cx.P ops Q' (ops.toList.drop (z+1)) a w):
  ∀(fuel:Nat) (listed:Array Bool) (a:Act) (w:World) (k:Nat) (ι:Env),fp listed=fuel→listed[z]?=some true→(∀i,z+1≤i→listed[i]?≠some true)→cB cx ops tags 0 σ listed a w k ι→wpAny cx.P .any ops Q' fuel listed a w:=by
 have hlex:∀(n:Nat) (o:Oper),n<z+1→ops[n]?=some o→∀j∈ct o,j<n:=fun n o hn ho=>by
  by_cases e:n=z
  ·subst e;exact hze o ho
  ·exact st.lex n _ _ ho (List.getElem?_eq_getElem (by rw[hz];omega))
 have fin:∀(listed:Array Bool) (a:Act) (w:World) (k:Nat) (ι:Env),cB cx ops tags 0 σ listed a w k ι→(∀i,i<z+1→listed[i]?=some true)→aN cx (σ 0) a w ι:=by
  intro listed a w k ι h hall;have hk:k=0:=by have:=h.kK;omega
  subst hk;exact⟨h.hs,h.dfr,h.n,fun t v hv=>h.tmp t v hv (fun i o tg _ htg _ _=>hall i (by have:=(List.getElem?_eq_some_iff.1 htg).1;omega))⟩
 intro fuel
 induction fuel with
 | zero =>
  intro listed a w k ι hl hlz hnz h;have hall:∀i,i<z+1→listed[i]?=some true:=fun i hi=>n9 hl i (by rw[h.sz];omega);exact wG hlast hlex 0 listed a w (z+1) hl (Nat.le_refl _) hzs h.sz (fun i hi=>⟨fun hh=>Classical.byContradiction fun hge=>hnz i (by omega) hh,hall i⟩) (hQ a w ι (fin listed a w k ι h hall))
 | succ fuel ih =>
  intro listed a w k ι hl hlz hnz h;by_cases hall:∀i,i<z+1→listed[i]?=some true
  ·exact wG hlast hlex (fuel+1) listed a w (z+1) hl (Nat.le_refl _) hzs h.sz (fun i hi=>⟨fun hh=>Classical.byContradiction fun hge=>hnz i (by omega) hh,hall i⟩) (hQ a w ι (fin listed a w k ι h hall))
  ·refine⟨fun hr=>?_,fun i hi=>?_⟩
   ·exfalso;apply hall;intro i
    induction i using Nat.strongRecOn with
    | _ i ih2 =>
     intro hi;have ho:=Array.getElem?_eq_getElem (xs:=ops) (show i<ops.size by omega);cases hli:listed[i]? with
     | none=>rw[Array.getElem?_eq_none_iff,h.sz]at hli;omega
     | some b =>
      cases b with
      | true=>rfl
      | false =>
       exfalso;have hm:i∈Region.ready .any ops listed:=by
        unfold Region.ready;simp only[List.mem_filter,List.mem_range,Bool.and_eq_true,Bool.not_eq_true'];refine⟨by omega,by rw[Array.getD_eq_getD_getElem?,hli];rfl,?_⟩;rw[ho];simp only[Option.map_some,Option.getD_some,Array.all_eq_true_iff_forall_mem,Bool.or_eq_true,Bool.not_eq_true'];intro e he;by_cases hb:Region.binds .any e=true
        ·right;have hj:e.on∈ct ops[i]:=lJ.2 ⟨e,he,hb,rfl⟩;have hlt':=hlex i _ hi ho e.on hj;rw[Array.getD_eq_getD_getElem?,ih2 e.on hlt' (by omega)];rfl
        ·left;simpa using hb
       rw[hr]at hm;cases hm
   ·obtain⟨hnl,o,ho,hed⟩:=gL hi;have his:i<ops.size:=(Array.getElem?_eq_some_iff.1 ho).1;have hlt1:i<listed.size:=by rw[h.sz];exact his
    have hf:listed[i]?=some false:=by
     rw[Array.getElem?_eq_getElem hlt1]at hnl⊢;cases hb:listed[i] with
     | true=>rw[hb]at hnl;exact(hnl rfl).elim
     | false=>rfl
    have hls:=nj hf;have hiz:i<z:=by
     refine Classical.byContradiction fun hge=>hall fun q hq=>?_;have hne:i≠z:=fun e=>by subst e;exact hnl hlz
     obtain⟨_,g2⟩:=nH hlast (by omega) ho;exact nY h.cl i _ (fun j hj=>hed j hj) q (g2 q (by omega))
    refine h.one st dy (by rw[hz];exact hiz) hi (fun a' w' k' ι' hm=>ih _ a' w' k' ι' (by omega) ((cV hlt1).2 (.inr hlz)) (fun q hq hh=>?_) hm);rcases (cV hlt1).1 hh with e|hh
    ·omega
    ·exact hnz q hq hh
theorem cB.RK{Q':Exit→Act→World→Prop}(st:Stat ops tags 0)(dy:iH cx.P cx.n s0 ops tags 0 σ){z:Nat}{oz:Oper}(hz:tags.length=z)(hzs:z+1≤ops.size)(hlast:kf ops (z+1)=true)(hoz:ops[z]?=some oz)(hze:∀j∈ct oz,j<z)(hgz:oz.guard=none)
  (hook:∀(listed:Array Bool) (a:Act) (w:World) (ι:Env),cB cx ops tags 0 σ listed a w 0 ι→listed[z]?≠some true→(∀j∈ct oz,listed[j]?=some true)→∀(Kn:Act→World→Prop),(∀cx' σ' s0' a' w',iH cx'.P cx'.n s0' ops tags 0 σ'→cB cx' ops tags 0 σ' (listed.setIfInBounds z true) a' w' 0 ι→(∀a w ι,aN cx' (σ' 0) a w ι→wpList cx'.P ops Q' (ops.toList.drop (z+1)) a w)→cx'.P=cx.P→Kn a' w')→oz.wp cx.P a w Kn Q') :
  ∀(fuel:Nat) (listed:Array Bool) (a:Act) (w:World) (k:Nat) (ι:Env),fp listed=fuel→(∀i,z≤i→listed[i]?≠some true)→cB cx ops tags 0 σ listed a w k ι→wpAny cx.P .any ops Q' fuel listed a w:=by
 intro fuel
 induction fuel with
 | zero =>
  intro listed a w k ι hl hnz h;exact absurd (n9 hl z (by rw[h.sz];omega)) (hnz z (Nat.le_refl _))
 | succ fuel ih =>
  intro listed a w k ι hl hnz h;refine⟨fun hr=>?_,fun i hi=>?_⟩
  ·exfalso;have key:∀i,i<z+1→listed[i]?=some true:=by
    intro i
    induction i using Nat.strongRecOn with
    | _ i ih2 =>
     intro hi;have ho:=Array.getElem?_eq_getElem (xs:=ops) (show i<ops.size by omega);cases hli:listed[i]? with
     | none=>rw[Array.getElem?_eq_none_iff,h.sz]at hli;omega
     | some b =>
      cases b with
      | true=>rfl
      | false =>
       exfalso;have hm:i∈Region.ready .any ops listed:=by
        unfold Region.ready;simp only[List.mem_filter,List.mem_range,Bool.and_eq_true,Bool.not_eq_true'];refine⟨by omega,by rw[Array.getD_eq_getD_getElem?,hli];rfl,?_⟩;rw[ho];simp only[Option.map_some,Option.getD_some,Array.all_eq_true_iff_forall_mem,Bool.or_eq_true,Bool.not_eq_true'];intro e he;by_cases hb:Region.binds .any e=true
        ·right;have hj:e.on∈ct ops[i]:=lJ.2 ⟨e,he,hb,rfl⟩;have hlt':e.on<i:=by
          by_cases hiz:i<z
          ·exact st.lex i _ _ ho (List.getElem?_eq_getElem (by rw[hz];exact hiz)) e.on hj
          ·have:i=z:=by omega
           subst this;rw[hoz]at ho;injection ho with ho
           rw[←ho]at hj;exact hze _ hj
         rw[Array.getD_eq_getD_getElem?,ih2 e.on hlt' (by omega)];rfl
        ·left;simpa using hb
       rw[hr]at hm;cases hm
   exact hnz z (Nat.le_refl _) (key z (by omega))
  ·obtain⟨hnl,o,ho,hed⟩:=gL hi;have his:i<ops.size:=(Array.getElem?_eq_some_iff.1 ho).1;have hlt1:i<listed.size:=by rw[h.sz];exact his
   have hf:listed[i]?=some false:=by
    rw[Array.getElem?_eq_getElem hlt1]at hnl⊢;cases hb:listed[i] with
    | true=>rw[hb]at hnl;exact(hnl rfl).elim
    | false=>rfl
   have hls:=nj hf;by_cases hiz:i=z
   ·subst hiz;rw[hoz]at ho;injection ho with ho;subst ho
    have hk:k=0:=by have:=h.kK;omega
    subst hk;unfold wpOp;simp only[hoz];have hw:Region.wanted oz (yielded ops a.tmps)=true:=by simp[Region.wanted,hgz]
    rw[if_pos hw];refine .inl (hook listed a w ι h hnl hed _ fun cx' σ' s0' a' w' dy' hm hq hP=>?_);have:=cB.PN st dy' hz hzs hlast (fun o' ho'=>by rw[hoz]at ho';injection ho' with ho';subst ho';exact hze) hq fuel _ a' w' 0 ι (by omega) ((cV hlt1).2 (.inl rfl)) (fun q hq' hh=>by
     rcases (cV hlt1).1 hh with e|hh
     ·omega
     ·exact hnz q (by omega) hh) hm
    rw[hP]at this;exact this
   ·have hiz2:i<z:=by
     refine Classical.byContradiction fun hge=>?_;obtain⟨_,g2⟩:=nH hlast (by omega) ho;exact hnz z (Nat.le_refl _) (nY h.cl i _ (fun j hj=>hed j hj) z (g2 z (by omega)))
    refine h.one st dy (by rw[hz];exact hiz2) hi (fun a' w' k' ι' hm=>ih _ a' w' k' ι' (by omega) (fun q hq hh=>?_) hm);rcases (cV hlt1).1 hh with e|hh
    ·omega
    ·exact hnz q hq hh
end
theorem IV{α:Type}:∀(m l l':List (Nat×α)) (k:Nat),(∃p∈m,p.1=k)→look k (eJ m l)=look k (eJ m l')
 | [],l,l',k,⟨p,hp,_⟩=>by cases hp
 | (j,x)::r,l,l',k,⟨p,hp,e⟩=>by
  by_cases h:∃q∈r,q.1=k
  ·exact IV r _ _ k h
  ·rcases List.mem_cons.1 hp with rfl|hp
   ·have key:∀(r l:List (Nat×α)),(¬ ∃q∈r,q.1=k)→look k (eJ r l)=look k l:=by
     intro r
     induction r with
     | nil=>intro l _;rfl
     | cons q r ih =>
      intro l hn;obtain⟨qk,qv⟩:=q;show look k (eJ r (aZ qk qv l))=_;rw[ih _ (fun⟨q',h1,h2⟩=>hn ⟨q',List.mem_cons_of_mem _ h1,h2⟩),ca,if_neg (fun e'=>hn ⟨(qk,qv),List.mem_cons_self,e'.symm⟩)]
    show look k (eJ r (aZ j x l))=look k (eJ r (aZ j x l'));rw[key _ _ h,key _ _ h,ca,ca,if_pos e.symm,if_pos e.symm]
   ·exact absurd ⟨p,hp,e⟩ h
theorem M3{s:AS}{o:Oper}(t:List (Nat×AV))(he:∀x∈o.op.operands.toList,(s.tt t).ev x=s.ev x):df (s.tt t) o=df s o:=by
 unfold df;cases hop:o.op with
 | call c =>
  simp only;cases hcal:c.callee with
  | value fo =>
   simp only;have h1:=he fo (by simp[hop,Op.operands,Call.operands,hcal]);have h2:cG (s.tt t) c.args.toList=cG s c.args.toList:=mc (fun x hx=>he x (by simp[hop,Op.operands,Call.operands,hcal];exact .inr (Array.mem_toList_iff.1 hx)));rw[h1,h2]
  | _=>rfl
 | _=>rfl
theorem BX{α:Type}{k:Nat}:∀(r l:List (Nat×α)),(¬ ∃q∈r,q.1=k)→look k (eJ r l)=look k l
 | [],l,_=>rfl
 | (qk,qv)::r,l,hn=>by
  show look k (eJ r (aZ qk qv l))=_;rw[BX r _ (fun⟨q',h1,h2⟩=>hn ⟨q',List.mem_cons_of_mem _ h1,h2⟩),ca,if_neg (fun e'=>hn ⟨(qk,qv),List.mem_cons_self,e'.symm⟩)]
def uJ(o:Oper):List Nat:=o.op.operands.toList.filterMap fun x=>match x with|.tmp t=>some t|_=>none
def GZ(ops:Array Oper)(z d:Nat):Bool:=match ops[z]? with
 | some oz=>(match oz.dst with|some d'=>Nat.beq d' d|none=>false)&&((match oz.guard with|none=>true|some _=>false)&&((List.range z).all fun j=>match ops[j]? with
  | some oj=>(match oj.dst with|some t=>(match Nat.beq t d with|true=>false|false=>true)&&(match (uJ oz).contains t with|true=>(ct oz).contains j|false=>true)|none=>true)
  | none=>false))
 | none=>false
theorem Li{cx:Cx}{Q:Exit→Act→World→Prop}{ks:List aq}{f:Func}{p:List Nat}{s0:AS}{tags:List Tag}(z d:Nat)(rv:List (Nat×AV)){g:FuncId}{args:List AV}{E:Nat→Prop}{Φ R:World→Prop}{V:AV}(hc':l8 cx.P g args E Φ V R)
  (hE:∀k,E k→cx.M k) (hΦ:∀w,cx.w0.w.heap.size≤w.heap.size→(∀k,E k→w.heap[k]?=cx.w0.w.heap[k]?)→Φ w)
  (h3:dz cx.P cx.n s0 (cC f p) 0 [eR s0 rv [] []] (aK f p 0) tags) (h3':dz cx.P cx.n (s0.put (some d) V) (cC f p) 0 [eR (s0.put (some d) V) rv [] []] (aK f p 0) tags)
  (h:∀b',d5 E cx.w0 b'→R b'.w→(∀k,cx.M k→k<cx.w0.w.heap.size∧¬ cx.w0.G k)→OT ⟨cx.P,cx.n,cx.M,b'⟩ Q ks (cC f p) (aK f p (z+1)) (eR (s0.put (some d) V) rv [] []))
  (hdn:cm cx.n (some d)=true:=by kernel_rfl) (hcl:cf cx.P g=true:=by kernel_rfl) (h1:df (eR s0 rv [] []) (aQ f p z)=some (g,args):=by kernel_rfl)
  (hzo:GZ (cC f p) z d=true:=by kernel_rfl) (hc:gi f p=true:=by kernel_rfl) (hm:cx.P.follows .mixedOrders=true:=by kernel_rfl) (hs:nZ (cC f p) tags 0 z=true:=by kernel_rfl) (hkey:iv (aK f p 0) tags rv=true:=by kernel_rfl)
  (hz:(Nat.ble (z+1) (cC f p).size&&(kf (cC f p) (z+1)&&(ct (aQ f p z)).all fun j=>Nat.ble (j+1) z))=true:=by kernel_rfl):VE cx Q (.c (cat f p)::ks) .normal s0:=by
 have e0:aK f p 0=(cC f p).toList:=by simp[aK]
 have ez:aK f p (z+1)=(cC f p).toList.drop (z+1):=rfl;have hop:∀oz,(cC f p)[z]?=some oz→aQ f p z=oz:=fun oz hoz=>by
  unfold aQ;obtain⟨hlt,he⟩:=Array.getElem?_eq_some_iff.1 hoz;rw[List.drop_eq_getElem_cons (by rw[Array.length_toList];exact hlt)];simp[he]
 rw[ez]at h;cases hcc:cat f p with
 | region id ops b =>
  cases b with
  | false=>unfold gi at hc;rw[hcc]at hc;cases hc
  | true =>
   have ho:cC f p=ops:=by unfold cC;rw[hcc];rfl
   rw[e0]at h3 h3' hkey;rw[ho]at h3 h3' hkey hs h hz hzo hop;simp only[Bool.and_eq_true]at hz;obtain⟨hz1,hz2,hz3⟩:=hz;have hz1:=Nat.le_of_ble_eq_true hz1;unfold GZ at hzo;split at hzo
   case h_2=>cases hzo
   rename_i oz hoz;rw[hop oz hoz]at h1 hz3;simp only[Bool.and_eq_true,List.all_eq_true,List.mem_range]at hzo;obtain⟨hdz,hgz,hall⟩:=hzo;have hdz:oz.dst=some d:=by
    split at hdz
    ·rename_i d' hd';rw[hd',Nat.eq_of_beq_eq_true hdz]
    ·cases hdz
   have hgz:oz.guard=none:=by
    cases hq:oz.guard with
    | none=>rfl
    | some _=>rw[hq]at hgz;cases hgz
   have hze:∀j∈ct oz,j<z:=fun j hj=>Nat.le_of_ble_eq_true (List.all_eq_true.1 hz3 j hj);have hnd:∀j oj t,j<z→ops[j]?=some oj→oj.dst=some t→t≠d∧(t∈uJ oz→j∈ct oz):=fun j oj t hj hoj ht=>by
    have:=hall j hj;rw[hoj]at this;simp only[ht,Bool.and_eq_true]at this;refine⟨fun e=>?_,fun hm=>?_⟩
    ·rw[e]at this;rw[show Nat.beq d d=true from Nat.beq_refl d]at this;cases this.1
    ·have h2:=this.2;rw[show(uJ oz).contains t=true by simpa using hm]at h2;simpa using h2
   intro a w ι hsim;obtain⟨st,hlen,_⟩:=rN hs rfl;have dy:=sO (P:=cx.P) (n:=cx.n) tags 0 rv [] [] [eR s0 rv [] []] hkey rfl rfl rfl h3;have hkd:∀q∈rv,∃(i:Nat) (o:Oper),i<z∧ops[i]?=some o∧o.dst=some q.1:=fun q hq=>by
    obtain⟨i,o,tg,g1,g2,_,g4⟩:=AZ hkey q hq;exact⟨i,o,by have:=(List.getElem?_eq_some_iff.1 g2).1;omega,by simpa using g1,g4⟩
   refine wp_region_any hm (cB.RK st dy hlen hz1 hz2 hoz hze hgz (fun listed a w ι hmid hnl hed Kn hKn=>?_) ops.size _ a _ 0 ι (by simp[fp]) (fun q _ hh=>?_) (cB.start st dy hsim))
   case refine_2=>rw[Array.getElem?_replicate]at hh;split at hh<;>cases hh
   have hlsz:z<listed.size:=by rw[hmid.sz];omega
   have hok:∀t,t∈uJ oz→dE ops tags listed t=true:=fun t ht=>gR.2 fun j oj tj hoj htj _ hdj=>by
    have hj:j<z:=by have:=(List.getElem?_eq_some_iff.1 htj).1;omega
    exact hed j ((hnd j oj t hj hoj hdj).2 ht)
   have h1':df (((nth [eR s0 rv [] []]) 0).tt (bS (dE ops tags listed) ((nth [eR s0 rv [] []]) 0).t)) oz=some (g,args):=by
    rw[M3 _ (fun x hx=>?_)]
    ·exact h1
    ·cases x with
     | tmp t =>
      show look t (bS _ _)=look t _;rw[dB,if_pos (hok t (List.mem_filterMap.2 ⟨.tmp t,hx,rfl⟩))]
     | _=>rfl
   refine Ho hc' hmid.EI h1' hcl (by rw[hdz];exact hdn) hE hΦ (fun b' x w' hG hR _ hs2=>?_);refine hKn ⟨cx.P,cx.n,cx.M,b'⟩ (nth [eR (s0.put (some d) V) rv [] []]) _ _ _ (sO (P:=cx.P) (n:=cx.n) tags 0 rv [] [] [eR (s0.put (some d) V) rv [] []] hkey rfl rfl rfl h3') ?_ (fun a w ι hs=>h b' hG hR hmid.hs.old a w ι hs) rfl;rw[hdz]at hs2⊢;refine⟨by simp[hmid.sz],fun j oj hoj hj j' hj'=>?_,Nat.le_refl _,fun j m' hjm=>?_,hs2.hs.sa rfl rfl rfl,fun j oj tg' d' hoj hj hnw hdj hnl'=>?_,hs2.dfr,hs2.n,fun t v hv hokt=>?_⟩
   ·rw[cV hlsz]at hj⊢;rcases hj with rfl|hj
    ·rw[hoz]at hoj;injection hoj with hoj;subst hoj;exact .inr (hed j' hj')
    ·exact .inr (hmid.cl j oj hoj hj j' hj')
   ·have hjs:j<ops.size:=by have:=(List.getElem?_eq_some_iff.1 hjm).1;omega
    have:=st.chain j _ m' (Array.getElem?_eq_getElem hjs) hjm;omega
   ·exact hmid.al j oj tg' d' hoj hj hnw hdj (fun hh=>hnl' ((cV hlsz).2 (.inr hh)))
   ·have hok2:(∀(i:Nat) (o:Oper) (tg:Tag),ops[i]?=some o→tags[i]?=some tg→tg.ew=true→o.dst=some t→listed[i]?=some true):=fun i o tg h1 h2 h3 h4=>by
     have hi:i<z:=by have:=(List.getElem?_eq_some_iff.1 h2).1;omega
     rcases (cV hlsz).1 (hokt i o tg h1 h2 h3 h4)with e|e
     ·omega
     ·exact e
    have hok3:=gR.2 hok2;have hv':look t (eJ rv (aZ d V s0.t))=some v:=hv;refine hs2.tmp t v ?_;show look t (aZ d V (bS (dE ops tags listed) (eJ rv s0.t)))=some v;rw[ca,dB,if_pos hok3];by_cases hin:∃q∈rv,q.1=t
    ·obtain⟨q,hq,rfl⟩:=hin;obtain⟨i,o,g1,g2,g3⟩:=hkd q hq;rw[if_neg (hnd i o q.1 g1 g2 g3).1,← IV rv _ _ q.1 ⟨q,hq,rfl⟩];exact hv'
    ·rw[BX _ _ hin,ca]at hv';rw[BX _ _ hin];exact hv'
 | _=>unfold gi at hc;rw[hcc]at hc;cases hc
end Go.Proofs.YtocgkfoifehcbaaGreat
