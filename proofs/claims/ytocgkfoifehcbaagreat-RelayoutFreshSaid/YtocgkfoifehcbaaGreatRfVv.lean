/- strings.Builder's copyCheck and String as steps of a walk. -/
import Derived.Test.YtocgkfoifehcbaaGreatRfVu
namespace Go.Proofs.YtocgkfoifehcbaaGreat
set_option linter.all false
open Go.RowKit
def t6(F:Nat)(s:AS)(o:Oper):Option AV:=match o.op with
 | .call c=>match c.callee,c.args.toList with
  | .value (.func g),[x]=>match Nat.beq g F with
   | true=>s.ev x
   | false=>none
  | _,_=>none
 | _=>none
theorem Hq{cx:Cx}{s:AS}{a:Act}{w:World}{ι:Env}(hs:aN cx s a w ι){F:Nat}{o:Oper}{v:AV}(h:t6 F s o=some v)(hcl:cf cx.P F=true):
  ∃x,Rel (NN cx.M ι) w ι v x∧(execOp a.eval ({ o with guard:=none }:Oper)).run cx.P w=.ok (.enter F #[x]) w:=by
 unfold t6 at h;split at h
 case h_2=>cases h
 rename_i c hop;split at h
 case h_2=>cases h
 rename_i g x hcal hargs;split at h
 case h_2=>cases h
 rename_i hg;have hg:=Nat.eq_of_beq_eq_true hg;subst hg;obtain⟨ys,hrc,hc1,_⟩:=iR (o:={ o with guard:=none }) hs hop hcal (f:=g) (aP:=[]) rfl hcl;have hys:ys=[]:=List.eq_nil_of_length_eq_zero (by simpa using hc1.symm);subst hys;have ha:c.args = #[x]:=by rw[←Array.toArray_toList (xs:=c.args),hargs]
 exact⟨a.eval x,hs.ev h,by rw[hrc,ha];simp⟩
section
variable{cx:Cx}{Q:Exit→Act→World→Prop}{ks:List aq}{s:AS}{all:Array Oper}{f:Func}{p:List Nat}{i:Nat}
def Fb(id T:Nat)(s:AS):Option (Bool×AV):=match Nat.ble 450000 id&&Nat.ble (id+1) 500000&&Nat.beq T ((id-450000) % 1000),look id s.o with
 | true,some [.nilp,c1]=>some (false,c1)
 | true,some [.ptr i 0,c1]=>match Nat.beq i id with|true=>some (true,c1)|false=>none
 | _,_=>none
def yJ(id:Nat)(c1:AV)(s:AS):AS:={ s with o:=aZ id [.ptr id 0,c1] s.o }
theorem H5(id:Nat){b:Bool}{c1:AV}(k:OT cx Q ks all (aK f p (i+1)) ((yJ id c1 s).put (aQ f p i).dst (.tup [])))(hP:cx.P=Tryz.prog:=by rfl)
  (hl:aK f p i=aQ f p i::aK f p (i+1):=by kernel_rfl) (hg:cd all s (aQ f p i)=true:=by kernel_rfl) (h:t6 123 s (aQ f p i)=some (.ptr id 0):=by kernel_rfl)
  (hb:Fb id 119 s=some (b,c1):=by kernel_rfl) (hd:cm cx.n (aQ f p i).dst=true:=by kernel_rfl):OT cx Q ks all (aK f p i) s:=by
 rw[hl];refine ef _ hg fun a w ι hs=>?_;refine wpList_plain rfl fun K hK=>?_;have hcl:cf cx.P 123=true:=by rw[hP];kernel_rfl
 obtain⟨x,hx,hr⟩:=Hq hs h hcl;cases hx with
 | ptr _ _ _ g hι =>
 have go:∃c0,look id s.o=some [c0,c1]∧(Nat.ble 450000 id&&Nat.ble (id+1) 500000&&Nat.beq 119 ((id-450000) % 1000))=true∧c0=rF b id:=by
  unfold Fb at hb;split at hb
  ·rename_i h1 h2;injection hb with hb;injection hb with e1 e2;subst e1;subst e2;exact⟨_,h2,h1,rfl⟩
  ·rename_i h1 h2;split at hb
   ·rename_i j _ _ _ _ hj;have hj:=Nat.eq_of_beq_eq_true hj;subst hj;injection hb with hb;injection hb with e1 e2;subst e1;subst e2;exact⟨_,h2,h1,rfl⟩
   ·cases hb
  ·cases hb
 obtain⟨c0,ho,ht,hc0⟩:=go;simp only[Bool.and_eq_true]at ht;obtain⟨g',T,vs,e1,e2,e3⟩:=hs.hs.objs id _ ho (by rw[hι];rfl);rw[hι]at e1;injection e1 with e1;injection e1 with e1;injection e1 with e1;injection e1 with e1;subst e1
 have hT:T.1=119:=by
  rw[T.2 (Nat.le_of_ble_eq_true ht.1.1) (Nat.lt_of_succ_le (Nat.le_of_ble_eq_true ht.1.2))];exact(Nat.eq_of_beq_eq_true ht.2).symm
 have hsz:vs.size=2:=by have:=e3.len;simp at this;omega
 obtain⟨x0,x1,rfl⟩:∃x0 x1,vs = #[x0,x1]:=⟨vs[0],vs[1],by apply Array.ext (by simp[hsz]);intro i h1 h2;simp at h2;rcases i with _|_|i;rfl;rfl;omega⟩;have r0:=e3.rel 0 c0 x0 rfl rfl;have r1:=e3.rel 1 c1 x1 rfl rfl;rw[hT]at e2;have hcell:w.cell? ⟨g,0,none⟩=some x0:=by rw[Lib.cell_of_heap e2];rfl
 unfold Oper.wp;rw[hr,Oper.upon_enter];have hno : @Cells (NN cx.M ι) w ι [.ptr id 0,c1] [.pointer (some ⟨g,0,none⟩),x1]:=⟨rfl,fun v hv=>by
  rcases List.mem_cons.1 hv with rfl|hv
  ·rfl
  ·exact e3.one v (List.mem_cons_of_mem _ hv),fun q x v hx hv=>by
  rcases q with _|_|q
  ·simp at hx hv;subst hx;subst hv;exact .ptr _ _ _ _ hι
  ·simp at hx hv;subst hx;subst hv;exact r1
  ·simp at hx⟩
 have fin:∀w',w'=w.setRow g #[.pointer (some ⟨g,0,none⟩),x1]→aN cx (yJ id c1 s) a w' ι:=fun w' hw=>by
  subst hw;have h9:=hs.hs.setObj (T:=T) hι (by rw[hT];exact e2) hno;have hbg:bm (ι id)=some g:=by rw[hι];rfl
  exact hs.world h9 rfl (by simp) (fun b _ hb=>hb) (fun b _ hb=>du (fun e=>hb (.inr ⟨id,by rw[e];exact hbg⟩))) (fun _ _ h=>h)
 have pt:∀w',aN cx (yJ id c1 s) a w' ι→K (a.put (aQ f p i).dst (.tuple #[])) w':=fun w' hw=>hK _ _ (k _ _ _ (hw.put (eN hd) (.tup _ [] [] rfl (fun q x v hx hv=>by simp at hx))));rw[hP];cases b with
 | true =>
  subst hc0;cases r0 with
  | ptr _ _ _ g2 hg2 =>
   rw[hι]at hg2;injection hg2 with hg2;injection hg2 with hg2;injection hg2 with hg2;injection hg2 with hg2;subst hg2
   refine (OW g w hcell).mono ?_
   rintro e w' ⟨he,hw⟩
   subst he;rw[hw];exact pt _ (fin _ (setRow_self w g _ _ _ e2).symm)
 | false =>
  subst hc0;cases r0 with
  | nilp =>
   refine (T2 g w hcell (by simp[World.shape?,e2]) (Lib.frozen_of_heap e2 0)).mono ?_
   rintro e w' ⟨rfl,rfl⟩
   exact pt _ (fin _ (by rw[setCell_eq_setRow w g 0 _ _ _ _ e2];rfl))
end
def lF(L:List Int):Bool:=L.all (fun n=>decide (0≤n)&&decide (n<256))&&!L.isEmpty
def bytesOf(L:List Int):ByteArray:=⟨(L.map fun n=>UInt8.ofNat n.toNat).toArray⟩
theorem HS.gone{M:Nat→Prop}{w0:aE}{w w':World}{ι:Env}{s:AS}(h:HS M w0 w ι s){id g:Nat}{ar:br}(ha:look id s.r=some ar)(hg:bm (ι id)=some g)(hnp:w0.pv id=none)(hos:w'.os=w.os)(htp:w'.tape=w.tape)(hou:w'.output=w.output)(hsz:w'.heap.size=w.heap.size)(hk:∀b,b≠g→w'.heap[b]?=w.heap[b]?):
  HS M w0 w' (dX ι id) { s with t:=cQ id s.t,o:=dJ id s.o }∧(∀{v:AV} {x:Value},Rel (NN M ι) w ι v x→Rel (NN M (dX ι id)) w' (dX ι id) (v.co id) x):=by
 have bI:∀b,b<w.heap.size→¬ NN M ι b→w'.heap[b]?=w.heap[b]?:=fun b _ hb=>hk b (fun e=>hb (.inr ⟨id,by rw[e];exact hg⟩));have T:∀{v:AV} {x:Value},Rel (NN M ι) w ι v x→Rel (NN M (dX ι id)) w' (dX ι id) (v.co id) x:=fun hv =>
  (hv.co (fun i hi=>eu ι hi)).mono (by rw[hsz];exact Nat.le_refl _) (fun b _ hb=>gU b hb) bI (fun _ _ h=>h)
 refine⟨⟨?_,h.old,fun i y hy=>h.use i y (jP hy).2,fun i b hb=>?_,fun i i' b hb hb'=>h.inj i i' b (gy hb).2 (gy hb').2,fun i cs hi=>?_,h.kr,fun i cs hi hp=>?_,fun i a hi hp=>?_,fun i y hp=>?_⟩,T⟩
 ·refine h.below.trans ⟨hos,htp,hou,by rw[hsz];exact Nat.le_refl _,fun k hk0 hG=>hk k (fun e=>?_)⟩;subst e;rcases (h.own id k hg).1 with h9|h9
  ·exact absurd hk0 (Nat.not_lt.2 h9)
  ·exact hG h9
 ·obtain⟨q1,q2⟩:=h.own i b (gy hb).2;exact⟨q1,by rw[hsz];exact q2⟩
 ·obtain⟨u,hu,_⟩:=gP hi;exact h.ko i u hu
 ·obtain⟨u,hu,rfl⟩:=gP hi;obtain⟨y,hy⟩:=Option.isSome_iff_exists.mp hp;obtain⟨hne,hy⟩:=jP hy;obtain⟨g',T',vs,e1,e2,e3⟩:=h.objs i u hu (by rw[hy];rfl);refine⟨g',T',vs,(eu ι hne).trans e1,(hk g' (fun e=>hne (h.inj i id g (by rw[e1,e];rfl) hg))).trans e2,by rw[jj];exact e3.len,e3.one,fun j x v hx hv=>?_⟩;obtain⟨y,hy,rfl⟩:=jk hx;exact T (e3.rel j y v hy hv)
 ·obtain⟨y,hy⟩:=Option.isSome_iff_exists.mp hp;obtain⟨hne,hy⟩:=jP hy;obtain⟨v,xs,e1,e2,e3,e4,e5⟩:=h.arrs i a hi (by rw[hy];rfl);refine⟨v,xs,(eu ι hne).trans e1,eo e2 (fun b hb=>hk b (fun e=>hne (h.inj i id g (by rw[e1,← e];exact hb) hg))),e3,e4,fun j e he k c hc=>?_⟩;obtain⟨x,hx,hr⟩:=e5 j e he k c hc;refine⟨x,hx,hr.mono (by rw[hsz];exact Nat.le_refl _) (fun b _ hb=>gU b hb) bI (fun r h'=>(eu ι (h.wa ha h')).trans h') (fun r hr'=>hk r (fun e=>?_)) (fun h=>h)⟩;subst e;exact h.wa ha hr' (h.inj _ id r (by rw[hr'];rfl) hg)
 ·have e:i≠id:=fun e=>by subst e;rw[hnp]at hp;cases hp
  exact⟨(eu ι e).trans (h.pin i y hp).1,(h.pin i y hp).2⟩
section
variable{cx:Cx}{Q:Exit→Act→World→Prop}{ks:List aq}{s:AS}{all:Array Oper}{f:Func}{p:List Nat}{i:Nat}
def Fc(id sid T u8:Nat)(s:AS):Option (List (List AV)):=match Nat.ble 450000 id&&Nat.ble (id+1) 500000&&Nat.beq T ((id-450000) % 1000)&&Nat.ble (sid+1) TG&&(match s.u.contains (cK sid) with|true=>false|false=>true),look id s.o,look sid s.r with
 | true,some [_,.ref i],some ar=>match Nat.beq i sid&&Nat.beq ar.e u8&&Nat.beq ar.sz 1 with|true=>some ar.l|false=>none
 | _,_,_=>none
theorem DT(id sid:Nat){L:List Int}(hL:lF L=true)(k:OT cx Q ks all (aK f p (i+1)) ({ s with t:=cQ sid s.t,o:=dJ sid s.o }.put (aQ f p i).dst (.str (bytesOf L))))(hP:cx.P=Tryz.prog:=by rfl)
  (hl:aK f p i=aQ f p i::aK f p (i+1):=by kernel_rfl) (hg:cd all s (aQ f p i)=true:=by kernel_rfl) (h:t6 71 s (aQ f p i)=some (.ptr id 0):=by kernel_rfl)
  (hb:Fc id sid 119 5 s=some (L.map (ba .u8)):=by kernel_rfl) (hd:cm cx.n (aQ f p i).dst=true:=by kernel_rfl):OT cx Q ks all (aK f p i) s:=by
 rw[hl];refine ef _ hg fun a w ι hs=>?_;refine wpList_plain rfl fun K hK=>?_;have hcl:cf cx.P 71=true:=by rw[hP];kernel_rfl
 obtain⟨x,hx,hr⟩:=Hq hs h hcl;cases hx with
 | ptr _ _ _ g hι =>
 unfold Fc at hb;split at hb
 case h_2=>cases hb
 rename_i c0 j ar ht ho ha;split at hb
 case h_2=>cases hb
 rename_i hj;simp only[Bool.and_eq_true]at ht hj;obtain⟨⟨hj,hje⟩,hjs⟩:=hj;have hj:=Nat.eq_of_beq_eq_true hj;subst hj;have hje:=Nat.eq_of_beq_eq_true hje;have hjs:=Nat.eq_of_beq_eq_true hjs;injection hb with hb
 obtain⟨⟨⟨⟨t1,t2⟩,t3⟩,t4⟩,t5⟩:=ht;obtain⟨g',T,vs,e1,e2,e3⟩:=hs.hs.objs id _ ho (by rw[hι];rfl);rw[hι]at e1;injection e1 with e1;injection e1 with e1;injection e1 with e1;injection e1 with e1;subst e1
 have hT:T.1=119:=by
  rw[T.2 (Nat.le_of_ble_eq_true t1) (Nat.lt_of_succ_le (Nat.le_of_ble_eq_true t2))];exact(Nat.eq_of_beq_eq_true t3).symm
 have hsz:vs.size=2:=by have:=e3.len;simp at this;omega
 obtain⟨x0,x1,rfl⟩:∃x0 x1,vs = #[x0,x1]:=⟨vs[0],vs[1],by apply Array.ext (by simp[hsz]);intro i h1 h2;simp at h2;rcases i with _|_|i;rfl;rfl;omega⟩;have r1:=e3.rel 1 _ x1 rfl rfl;rw[hT]at e2;cases r1 with
 | ref _ _ A n c hc =>
 obtain⟨v,xs,h1,h2,h3,h4,h5⟩:=hs.hs.arrs j ar ha (by rw[hc];rfl);rw[hc]at h1;injection h1 with h1;subst h1
 simp only[lF,Bool.and_eq_true]at hL;have hlen:ar.l.length=L.length:=by rw[hb];simp
 have hLn:L≠[]:=by intro e;rw[e]at hL;simp at hL
 have hL0:0<L.length:=List.length_pos_iff.2 hLn;obtain⟨_,h0⟩|⟨g2,cap,cur,hv,hb2,hg2,hn,hcap,hcs,htk⟩:=h2.2
 ·omega
 injection hv with v1 v2 v3
 subst v1;subst v2;subst v3;rw[hje]at hg2
 let l:List UInt8:=L.map fun n=>UInt8.ofNat n.toNat
 have hll:l.length=ar.l.length:=by simp[l,hlen]
 have hbyte:∀(q:Nat) (n:Int),L[q]?=some n→0≤n∧n<256:=fun q n hq=>by
  have:=List.all_eq_true.1 hL.1 n (List.mem_of_getElem? hq);simpa using this
 have hxs:∀(q:Nat) (n:Int),L[q]?=some n→xs[q]?=some (.int .u8 n):=fun q n hq=>by
  obtain⟨x,hx,hrx⟩:=h5 q [.int .u8 n] (by rw[hb,List.getElem?_map,hq];rfl) 0 (.int .u8 n) rfl;rw[hjs]at hx;have hrx:=hrx.flat (by have:=Nat.le_of_ble_eq_true t4;omega);cases hrx;simpa using hx
 have hcell:∀(q:Nat) (x:UInt8),l[q]?=some x→w.cell? ((⟨g2,0,none⟩:Addr).add q)=some (.int .u8 x.toNat):=fun q x hq=>by
  simp only[l,List.getElem?_map]at hq;cases hLq:L[q]? with
  | none=>rw[hLq]at hq;cases hq
  | some n =>
   rw[hLq]at hq;simp only[Option.map_some,Option.some.injEq]at hq;have e9:=hxs q n hLq;rw[←htk,List.getElem?_take]at e9;split at e9
   ·obtain⟨b0,b1⟩:=hbyte q n hLq;have hcc:w.cell? ⟨g2,q,none⟩=cur[q]?:=Lib.cell_of_heap hg2 q;have:((⟨g2,0,none⟩:Addr).add q)=⟨g2,q,none⟩:=by
     simp only[Addr.add,Nat.zero_add];split
     ·rename_i e;rw[e]
     ·rfl
    rw[this,hcc,← Array.getElem?_toList,e9,← hq];have hto:(((UInt8.ofNat n.toNat).toNat:Nat):Int)=n:=by
     rw[UInt8.toNat_ofNat',Nat.mod_eq_of_lt (by omega)];omega
    rw[hto]
   ·cases e9
 unfold Oper.wp;rw[hr,Oper.upon_enter,hP];refine (Sl g g2 c x0 cur l w (by rw[hll];exact e2) hg2 (by intro e;rw[e]at hll;simp at hll;omega) (by rw[hll];exact hn) hcap (by rw[hcs,hjs];omega) hcell).mono ?_
 rintro e w' ⟨rfl,rfl⟩
 have hbl:bm (ι j)=some g2:=by rw[hc];rfl
 have hfz:∀b,b≠g2→(w.drew.freeze ⟨g2,0,none⟩ l.length).heap[b]?=w.heap[b]?:=fun b hb=>by
  unfold World.freeze;split
  ·rfl
  ·simp only[World.drew];rw[Array.getElem?_modify,if_neg (fun e=>hb e.symm)]
 have hnp5:s.u.contains (cK j)=false:=by
  cases hq:s.u.contains (cK j) with
  | true=>rw[hq]at t5;cases t5
  | false=>rfl
 obtain⟨q1,q2⟩:=hs.hs.gone (w':=w.drew.freeze ⟨g2,0,none⟩ l.length) ha hbl (hs.hs.np hnp5) (by unfold World.freeze;split<;>rfl) (by unfold World.freeze;split<;>rfl) (by unfold World.freeze;split<;>rfl) (by unfold World.freeze;split;rfl;simp only[World.drew,Array.size_modify]) hfz;have hsim:aN cx { s with t:=cQ j s.t,o:=dJ j s.o } a (w.drew.freeze ⟨g2,0,none⟩ l.length) (dX ι j):=⟨q1,hs.dfr,hs.n,fun k v hk=>by
  obtain⟨u,hu,rfl⟩:=lO hk;obtain⟨y,hy,hr⟩:=hs.tmp k u hu;exact⟨y,hy,q2 hr⟩⟩
 exact hK _ _ (k _ _ _ (hsim.put (eN hd) (.str _ _)))
end
end Go.Proofs.YtocgkfoifehcbaaGreat
