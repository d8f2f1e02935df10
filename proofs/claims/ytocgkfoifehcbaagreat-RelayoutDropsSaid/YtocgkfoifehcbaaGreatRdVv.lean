/- strings.Builder's copyCheck and String as steps of a walk. -/
import Derived.Test.YtocgkfoifehcbaaGreatRdVu
namespace Go.Proofs.YtocgkfoifehcbaaGreat
set_option linter.all false
open Go.RowKit
def Dc(F:Nat)(s:AS)(o:Oper):Option AV:=match o.op with
 | .call c=>match c.callee,c.args.toList with
  | .value (.func g),[x]=>match Nat.beq g F with
   | true=>s.ev x
   | false=>none
  | _,_=>none
 | _=>none
theorem P1{d:Cx}{s:AS}{a:Act}{w:World}{ι:Env}(m:aV d s a w ι){F:Nat}{o:Oper}{v:AV}(h:Dc F s o=some v)(i:cI d.P F=true):
  ∃x,Rel (NN d.M ι) w ι v x∧(execOp a.eval ({ o with guard:=none }:Oper)).run d.P w=.ok (.enter F #[x]) w:=by
 unfold Dc at h;split at h
 case h_2=>cases h
 rename_i c k;split at h
 case h_2=>cases h
 rename_i g x b e;split at h
 case h_2=>cases h
 rename_i j;have j:=nx j;subst j;obtain⟨q,p,n,_⟩:=kF (o:={ o with guard:=none }) m k b (f:=g) (aR:=[]) rfl i;have l:q=[]:=qk (by grind);subst l;have r:c.args = #[x]:=by grind
 exact⟨a.eval x,m.ev h,by grind⟩
section
variable{c:Cx}{Q:Exit→Act→World→Prop}{l:dt}{s:AS}{d:Array Oper}{f:Func}{p:ed}{i:Nat}
def Pn(id T:Nat)(s:AS):Option (Bool×AV):=match Nat.ble 450000 id&&Nat.ble (id+1) 500000&&Nat.beq T ((id-450000) % 1000),look id s.o with
 | true,some [.nilp,c1]=>some (false,c1)
 | true,some [.ptr i 0,c1]=>match Nat.beq i id with|true=>some (true,c1)|false=>none
 | _,_=>none
def GW(id:Nat)(c1:AV)(s:AS):AS:={ s with o:=bd id [.ptr id 0,c1] s.o }
theorem Lu(id:Nat){b:Bool}{c1:AV}(k:OT c Q l d (aU f p (i+1)) ((GW id c1 s).put (aS f p i).dst (.tup [])))(R:c.P=Tryz.prog:=by rfl)
  (hl:aU f p i=aS f p i::aU f p (i+1):=by kernel_rfl) (hg:cC d s (aS f p i)=true:=by kernel_rfl) (h:Dc 123 s (aS f p i)=some (.ptr id 0):=by kernel_rfl)
  (n:Pn id 119 s=some (b,c1):=by kernel_rfl) (Z:cK c.n (aS f p i).dst=true:=by kernel_rfl):OT c Q l d (aU f p i) s:=by
 rw[hl];refine eU _ hg fun a w ι H=>?_;refine Ts rfl fun K Y=>?_;have M:cI c.P 123=true:=by rw[R];kernel_rfl
 obtain⟨x,y,hr⟩:=P1 H h M;cases y with
 | ptr _ _ _ g z =>
 have W:∃c0,look id s.o=some [c0,c1]∧(Nat.ble 450000 id&&Nat.ble (id+1) 500000&&Nat.beq 119 ((id-450000) % 1000))=true∧c0=xk b id:=by
  unfold Pn at n;split at n
  ·rename_i G B;injection n with n;injection n with o r;subst o;subst r;exact⟨_,B,G,rfl⟩
  ·rename_i G B;split at n
   ·rename_i j _ _ _ _ N;have N:=nx N;subst N;injection n with n;injection n with o r;subst o;subst r;exact⟨_,B,G,rfl⟩
   ·cases n
  ·cases n
 obtain⟨c0,ho,I,C⟩:=W;simp only[iO]at I;obtain⟨g',T,vs,o,r,F⟩:=H.hs.objs id _ ho (by rw[z];rfl);rw[z]at o;injection o with o;injection o with o;injection o with o;injection o with o;subst o
 have S:T.1=119:=by
  rw[T.2 (kb I.1.1) (Nat.lt_of_succ_le (kb I.1.2))];exact(nx I.2).symm
 have P:vs.size=2:=by have:=F.len;simp at this;omega
 obtain⟨J,E,rfl⟩:∃J E,vs = #[J,E]:=⟨vs[0],vs[1],by apply Array.ext (by simp[P]);intro i G B;simp at B;rcases i with _|_|i;rfl;rfl;omega⟩;have V:=F.rel 0 c0 J rfl rfl;have r1:=F.rel 1 c1 E rfl rfl;rw[S]at r;have t:w.cell? ⟨g,0,none⟩=some J:=by rw[amu r];rfl
 unfold Oper.wp;rw[hr,ahR];have O : @Cells (NN c.M ι) w ι [.ptr id 0,c1] [.pointer (some ⟨g,0,none⟩),E]:=⟨rfl,fun v u=>by
  rcases ol.1 u with rfl|u
  ·rfl
  ·exact F.one v (oR _ u),fun q x v y u=>by
  rcases q with _|_|q
  ·simp at y u;subst y;subst u;exact .ptr _ _ _ _ z
  ·simp at y u;subst y;subst u;exact r1
  ·simp at y⟩
 have A:∀w',w'=w.setRow g #[.pointer (some ⟨g,0,none⟩),E]→aV c (GW id c1 s) a w' ι:=fun w' D=>by
  subst D;have X:=H.hs.setObj (T:=T) z (by rw[S];exact r) O;have L:bu (ι id)=some g:=by rw[z];rfl
  exact H.world X rfl (by simp) (fun b _ n=>n) (fun b _ n=>eG (fun e=>n (.inr ⟨id,by rw[e];exact L⟩))) (fun _ _ h=>h)
 have U:∀w',aV c (GW id c1 s) a w' ι→K (a.put (aS f p i).dst (.tuple #[])) w':=fun w' D=>Y _ _ (k _ _ _ (D.put (fX Z) (.tup _ [] [] rfl (fun q x v y u=>by simp at y))));rw[R];cases b with
 | true =>
  subst C;cases V with
  | ptr _ _ _ g2 m =>
   rw[z]at m;injection m with m;injection m with m;injection m with m;injection m with m;subst m
   refine (Zg g w t).mono ?_
   rintro e w' ⟨he,D⟩
   subst he;rw[D];exact U _ (A _ (setRow_self w g _ _ _ r).symm)
 | false =>
  subst C;cases V with
  | nilp =>
   refine (Wf g w t (by simp[World.shape?,r]) (Lib.frozen_of_heap r 0)).mono ?_
   rintro e w' ⟨rfl,rfl⟩
   exact U _ (A _ (by rw[setCell_eq_setRow w g 0 _ _ _ _ r];rfl))
end
def rz(L:ck):Bool:=L.all (fun n=>decide (0≤n)&&decide (n<256))&&!L.isEmpty
def bytesOf(L:ck):ByteArray:=⟨(L.map fun n=>UInt8.ofNat n.toNat).toArray⟩
theorem HS.gone{M:Nat→Prop}{O:aB}{w w':World}{ι:Env}{s:AS}(h:HS M O w ι s){id g:Nat}{ar:cj}(S:look id s.r=some ar)(z:bu (ι id)=some g)(G:O.pv id=none)(H:w'.os=w.os)(J:w'.tape=w.tape)(I:w'.output=w.output)(m:w'.heap.size=w.heap.size)(A:∀b,b≠g→w'.heap[b]?=w.heap[b]?):
  HS M O w' (fH ι id) { s with t:=dw id s.t,o:=eV id s.o }∧(∀{v:AV} {x:Value},Rel (NN M ι) w ι v x→Rel (NN M (fH ι id)) w' (fH ι id) (v.cO id) x):=by
 have P:∀b,b<w.heap.size→¬ NN M ι b→w'.heap[b]?=w.heap[b]?:=fun b _ d=>A b (fun e=>d (.inr ⟨id,by rw[e];exact z⟩));have T:∀{v:AV} {x:Value},Rel (NN M ι) w ι v x→Rel (NN M (fH ι id)) w' (fH ι id) (v.cO id) x:=fun L =>
  (L.cO (fun i hi=>gj ι hi)).mono (by rw[m];exact la _) (fun b _ d=>kA b d) P (fun _ _ h=>h)
 refine⟨⟨?_,h.old,fun i y l=>h.use i y (nl l).2,fun i b d=>?_,fun i i' b d E=>h.inj i i' b (kg d).2 (kg E).2,fun i cs hi=>?_,h.kr,fun i cs hi n=>?_,fun i a hi n=>?_,fun i y n=>?_⟩,T⟩
 ·refine h.below.trans ⟨H,J,I,by rw[m];exact la _,fun k F W=>A k (fun e=>?_)⟩;subst e;rcases (h.own id k z).1 with D|D
  ·exact absurd F (akX.2 D)
  ·exact W D
 ·obtain⟨q1,q2⟩:=h.own i b (kg d).2;exact⟨q1,by rw[m];exact q2⟩
 ·obtain⟨u,K,_⟩:=jB hi;exact h.ko i u K
 ·obtain⟨u,K,rfl⟩:=jB hi;obtain⟨y,l⟩:=w3.mp n;obtain⟨f,l⟩:=nl l;obtain⟨Q,T',vs,p,C,q⟩:=h.objs i u K (by rw[l];rfl);refine⟨Q,T',vs,(gj ι f).trans p,(A Q (fun e=>f (h.inj i id g (by rw[p,e];rfl) z))).trans C,by rw[l5];exact q.len,q.one,fun j x v N L=>?_⟩;obtain⟨y,l,rfl⟩:=lq N;exact T (q.rel j y v l L)
 ·obtain⟨y,l⟩:=w3.mp n;obtain⟨f,l⟩:=nl l;obtain⟨v,xs,p,C,q,U,V⟩:=h.arrs i a hi (by rw[l];rfl);refine⟨v,xs,(gj ι f).trans p,fK C (fun b d=>A b (fun e=>f (h.inj i id g (by rw[p,← e];exact d) z))),q,U,fun j e Y k c X=>?_⟩;obtain⟨x,N,Z⟩:=V j e Y k c X;refine⟨x,N,Z.mono (by rw[m];exact la _) (fun b _ d=>kA b d) P (fun r R=>(gj ι (h.ya S R)).trans R) (fun r B=>A r (fun e=>?_)) (fun h=>h)⟩;subst e;exact h.ya S B (h.inj _ id r (by rw[B];rfl) z)
 ·have e:i≠id:=fun e=>by subst e;rw[G]at n;cases n
  exact⟨(gj ι e).trans (h.pin i y n).1,(h.pin i y n).2⟩
section
variable{m:Cx}{Q:Exit→Act→World→Prop}{r:dt}{s:AS}{d:Array Oper}{f:Func}{p:ed}{i:Nat}
def UU(id a T b:Nat)(s:AS):Option h6:=match Nat.ble 450000 id&&Nat.ble (id+1) 500000&&Nat.beq T ((id-450000) % 1000)&&Nat.ble (a+1) TG&&(match s.u.contains (da a) with|true=>false|false=>true),look id s.o,look a s.r with
 | true,some [_,.ref i],some ar=>match Nat.beq i a&&Nat.beq ar.e b&&Nat.beq ar.sz 1 with|true=>some ar.l|false=>none
 | _,_,_=>none
theorem U3(id P:Nat){L:ck}(hL:rz L=true)(k:OT m Q r d (aU f p (i+1)) ({ s with t:=dw P s.t,o:=eV P s.o }.put (aS f p i).dst (.str (bytesOf L))))(hP:m.P=Tryz.prog:=by rfl)
  (hl:aU f p i=aS f p i::aU f p (i+1):=by kernel_rfl) (hg:cC d s (aS f p i)=true:=by kernel_rfl) (h:Dc 71 s (aS f p i)=some (.ptr id 0):=by kernel_rfl)
  (B:UU id P 119 5 s=some (L.map (ak .u8)):=by kernel_rfl) (hd:cK m.n (aS f p i).dst=true:=by kernel_rfl):OT m Q r d (aU f p i) s:=by
 rw[hl];refine eU _ hg fun a w ι H=>?_;refine Ts rfl fun K hK=>?_;have f0:cI m.P 71=true:=by rw[hP];kernel_rfl
 obtain⟨x,hx,hr⟩:=P1 H h f0;cases hx with
 | ptr _ _ _ g hι =>
 unfold UU at B;split at B
 case h_2=>cases B
 rename_i c0 j ar ht ho ha;split at B
 case h_2=>cases B
 rename_i R;simp only[iO]at ht R;obtain⟨⟨R,N⟩,F⟩:=R;have R:=nx R;subst R;have N:=nx N;have F:=nx F;injection B with B
 obtain⟨⟨⟨⟨t1,t2⟩,t3⟩,t4⟩,t5⟩:=ht;obtain⟨g',T,vs,C,e2,e3⟩:=H.hs.objs id _ ho (by rw[hι];rfl);rw[hι]at C;injection C with C;injection C with C;injection C with C;injection C with C;subst C
 have hT:T.1=119:=by
  rw[T.2 (kb t1) (Nat.lt_of_succ_le (kb t2))];exact(nx t3).symm
 have k0:vs.size=2:=by have:=e3.len;simp at this;omega
 obtain⟨x0,x1,rfl⟩:∃x0 x1,vs = #[x0,x1]:=⟨vs[0],vs[1],by apply Array.ext (by simp[k0]);intro i U h2;simp at h2;rcases i with _|_|i;rfl;rfl;omega⟩;have r1:=e3.rel 1 _ x1 rfl rfl;rw[hT]at e2;cases r1 with
 | ref _ _ A n c hc =>
 obtain⟨v,xs,U,h2,h3,h4,h5⟩:=H.hs.arrs j ar ha (by rw[hc];rfl);rw[hc]at U;injection U with U;subst U
 simp only[rz,iO]at hL;have W:ar.l.length=L.length:=by rw[B];simp
 have a0:L≠[]:=by intro e;rw[e]at hL;simp at hL
 have q0:0<L.length:=List.length_pos_iff.2 a0;obtain⟨_,h0⟩|⟨D,p0,S,hv,r0,M,hn,V,g0,l0⟩:=h2.2
 ·omega
 injection hv with v1 v2 v3
 subst v1;subst v2;subst v3;rw[N]at M
 let l:List UInt8:=L.map fun n=>UInt8.ofNat n.toNat
 have G:l.length=ar.l.length:=by simp[l,W]
 have I:∀(q:Nat) (n:Int),L[q]?=some n→0≤n∧n<256:=fun q n z=>by
  have:=n3.1 hL.1 n (mm z);simpa using this
 have o0:∀(q:Nat) (n:Int),L[q]?=some n→xs[q]?=some (.int .u8 n):=fun q n z=>by
  obtain⟨x,hx,O⟩:=h5 q [.int .u8 n] (by rw[B,Do,z];rfl) 0 (.int .u8 n) rfl;rw[F]at hx;have O:=O.flat (by have:=kb t4;omega);cases O;simpa using hx
 have J:∀(q:Nat) (x:UInt8),l[q]?=some x→w.cell? ((⟨D,0,none⟩:Addr).add q)=some (.int .u8 x.toNat):=fun q x z=>by
  simp only[l,Do]at z;cases E:L[q]? with
  | none=>rw[E]at z;cases z
  | some n =>
   rw[E]at z;simp only[aa3,th]at z;have Z:=o0 q n E;rw[←l0,By]at Z;split at Z
   ·obtain⟨b0,b1⟩:=I q n E;have e0:w.cell? ⟨D,q,none⟩=S[q]?:=amu M q;have:((⟨D,0,none⟩:Addr).add q)=⟨D,q,none⟩:=by
     simp only[Addr.add,IF];split
     ·rename_i e;rw[e]
     ·rfl
    rw[this,e0,← aix,Z,← z];have m0:(((UInt8.ofNat n.toNat).toNat:Nat):Int)=n:=by
     rw[UInt8.toNat_ofNat',alo (by omega)];omega
    rw[m0]
   ·cases Z
 unfold Oper.wp;rw[hr,ahR,hP];refine (agS g D c x0 S l w (by rw[G];exact e2) M (by intro e;rw[e]at G;simp at G;omega) (by rw[G];exact hn) V (by rw[g0,F];omega) J).mono ?_
 rintro e w' ⟨rfl,rfl⟩
 have d0:bu (ι j)=some D:=by rw[hc];rfl
 have i0:∀b,b≠D→(w.drew.freeze ⟨D,0,none⟩ l.length).heap[b]?=w.heap[b]?:=fun b B=>by
  unfold World.freeze;split
  ·rfl
  ·simp only[World.drew];rw[Array.getElem?_modify,kc (fun e=>B e.symm)]
 have X:s.u.contains (da j)=false:=by
  cases z:s.u.contains (da j) with
  | true=>rw[z]at t5;cases t5
  | false=>rfl
 obtain⟨q1,q2⟩:=H.hs.gone (w':=w.drew.freeze ⟨D,0,none⟩ l.length) ha d0 (H.hs.np X) (by unfold World.freeze;split<;>rfl) (by unfold World.freeze;split<;>rfl) (by unfold World.freeze;split<;>rfl) (by unfold World.freeze;split;rfl;simp only[World.drew,Array.size_modify]) i0;have Y:aV m { s with t:=dw j s.t,o:=eV j s.o } a (w.drew.freeze ⟨D,0,none⟩ l.length) (fH ι j):=⟨q1,H.dfr,H.n,fun k v hk=>by
  obtain⟨u,hu,rfl⟩:=ow hk;obtain⟨y,hy,hr⟩:=H.tmp k u hu;exact⟨y,hy,q2 hr⟩⟩
 exact hK _ _ (k _ _ _ (Y.put (fX hd) (.str _ _)))
end
end Go.Proofs.YtocgkfoifehcbaaGreat
