/- Calls that are lent variables and one slice, with a result of which a slice is the callee's own; calls that are lent the state of layer 22. No program in sight. -/
import Derived.Test.YtocgkfoifehcbaaGreatRfVv
namespace Go.Proofs.YtocgkfoifehcbaaGreat
set_option linter.all false
open Go.RowKit
def q7(cx:Cx)(ι:Env)(w:World)(ρ:List (Nat×Nat))(args:List AV)(xs:Array Value):Prop :=
 args.length=xs.size∧∀(i:Nat) (v:AV) (x:Value),args[i]?=some v→xs[i]?=some x→∀(N':Nat→Prop) (ι0:Env),(∀b,N' b→NN cx.M ι b)→(∀id j,look id ρ=some j→ι0 j=ι id)→Rel N' w ι0 v x
def fT(f g:Nat):Value:=.func (.func f) #[.pointer (some ⟨g,0,none⟩)] #[]
def kE(s:AS)(o:Oper)(ρ:List (Nat×Nat)):Option (FuncId×List AV) :=
 match o.op with
 | .call c=>match c.callee with
  | .value fo=>match s.ev fo,cG s c.args.toList with
   | some (.fn f aP),some l=>match eE ρ l with
    | some l'=>some (f,l'++aP)
    | none=>none
   | _,_=>none
  | _=>none
 | _=>none
def xw(s:AS)(o:Oper)(ρ:List (Nat×Nat)):Option (Value×List AV) :=
 match o.op with
 | .call c=>match c.callee with
  | .value fo=>match s.ev fo,cG s c.args.toList with
   | some (.vv x),some l=>match eE ρ l with
    | some l'=>some (x,l')
    | none=>none
   | _,_=>none
  | _=>none
 | _=>none
section
variable{cx:Cx}{s:AS}{a:Act}{w:World}{ι:Env}
theorem J2(hs:aN cx s a w ι){l l':List AV}{xs:Array Operand}{ρ:List (Nat×Nat)}(hl:cG s xs.toList=some l)(hl':eE ρ l=some l'):q7 cx ι w ρ l' (xs.map a.eval):=by
 obtain⟨q1,q2⟩:=jo hs hl;refine⟨by rw[rB hl'];simp at q1⊢;omega,fun i v x hv hx N' ι0 hN hι=>?_⟩;obtain⟨b,hb,hbv⟩:=tc hl' i v hv;exact wV (q2 i b x hb (by rw[←Array.toList_map,Array.getElem?_toList];exact hx)) hN hι hbv
theorem z5(hs:aN cx s a w ι){o:Oper}{ρ:List (Nat×Nat)}{g:FuncId}{args:List AV}(h:kE s o ρ=some (g,args))(hcl:cf cx.P g=true):
  ∃xs:Array Value,(execOp a.eval o).run cx.P w=.ok (.enter g xs) w∧q7 cx ι w ρ args xs:=by
 unfold kE at h;split at h
 case h_2=>cases h
 rename_i c hop;split at h
 case h_2=>cases h
 rename_i fo hcal;split at h
 case h_2=>cases h
 rename_i f aP l hf hl;split at h
 case h_2=>cases h
 rename_i l' hl';injection h with h;injection h with e1 e2;subst e1;subst e2
 obtain⟨ys,hrc,hc1,hc2⟩:=iR hs hop hcal hf hcl;obtain⟨p1,p2⟩:=J2 hs hl hl';refine⟨_,hrc,by simp at p1⊢;omega,fun i v x hv hx N' ι0 hN hι=>?_⟩;by_cases hi:i<l'.length
 ·rw[List.getElem?_append_left hi]at hv;rw[Array.getElem?_append_left (by rw[←p1];exact hi)]at hx;exact p2 i v x hv hx N' ι0 hN hι
 ·rw[List.getElem?_append_right (by omega)]at hv;rw[Array.getElem?_append_right (by rw[←p1];omega)]at hx;rw[←p1]at hx;exact(hc2 _ v x hv (by simpa using hx)).mono (Nat.le_refl _) (fun b _ hb=>hN b hb) (fun _ _ _=>rfl) (fun id y hy=>by cases hy)
theorem Vy(hs:aN cx s a w ι){o:Oper}{ρ:List (Nat×Nat)}{f g j id:Nat}{args:List AV}(h:xw s o ρ=some (fT f g,args))(hcl:cf cx.P f=true)(hρ:look id ρ=some j)(hg:ι id=some (.pointer (some ⟨g,0,none⟩))):
  ∃xs:Array Value,(execOp a.eval o).run cx.P w=.ok (.enter f xs) w∧q7 cx ι w ρ (.ptr j 0::args) xs:=by
 unfold xw at h;split at h
 case h_2=>cases h
 rename_i c hop;split at h
 case h_2=>cases h
 rename_i fo hcal;split at h
 case h_2=>cases h
 rename_i x l hf hl;split at h
 case h_2=>cases h
 rename_i l' hl';injection h with h;injection h with e1 e2;subst e1;subst e2
 obtain⟨p1,p2⟩:=J2 hs hl hl';have hr:=hs.ev hf;generalize hX:a.eval fo=X at hr;cases hr with
 | vv _ _ h9 =>
  refine⟨#[.pointer (some ⟨g,0,none⟩)]++c.args.map a.eval,?_,by simp at p1⊢;omega,fun i v x hv hx N' ι0 hN hι=>?_⟩
  ·unfold execOp;simp only[hop,resolve,hcal,hX,fT,Deferred.ofValue,Sem.run_bind,Sem.run_pure,Result.andThen_ok,invoke];rw[zF hcl];simp
  ·cases i with
   | zero =>
    simp only[List.getElem?_cons_zero]at hv;injection hv with hv;subst hv
    rw[Array.getElem?_append_left (by simp)]at hx;have hx':some (Value.pointer (some ⟨g,0,none⟩))=some x:=hx;injection hx' with hx';subst hx'
    exact .ptr _ _ _ _ ((hι id j hρ).trans hg)
   | succ i =>
    simp only[List.getElem?_cons_succ]at hv;rw[Array.getElem?_append_right (by simp)]at hx;exact p2 i v x hv (by simpa using hx) N' ι0 hN hι
end
class GS where
 g:Nat
class SG [GS] (w0:aE):Prop where
 pv:w0.pv 440001=some (.pointer (some ⟨GS.g,0,none⟩))
def SU:List Nat:=[440009,440001,1440001]
def eG[GS](P:Program)(f:FuncId)(args:List AV)(O:List (Nat×List AV))(ar:br)(Q:AV→AS→Prop):Prop :=
 ∀(M:Nat→Prop) (w:World) (ι0:Env) (xs:Array Value),ι0 440001=some (.pointer (some ⟨GS.g,0,none⟩))→HS M (jc w ι0 O) w ι0 ⟨[],O,[(440009,ar)],SU⟩→args.length=xs.size→(∀(i:Nat) (a:AV) (x:Value),args[i]?=some a→xs[i]?=some x→Rel (NN M ι0) w ι0 a x)→Calls P f xs w (bA M (jc w ι0 O) Q)
theorem jz[GS]{P:Program}{f:FuncId}{fn:Func}{c:Code}{args:List AV}{O:List (Nat×List AV)}{ar:br}{Q:AV→AS→Prop}(hf:P.funcs[f]?=some fn)(hb:fn.body=some c)(n:Nat)(hn:fn.ntmps=n)(hl:args.length≤n)
  (h:∀M w0 [SG w0],VE ⟨P,n,M,w0⟩ (bodyPost P fn (bA M w0 Q)) [.c c] .normal ⟨idxs 0 args,O,[(440009,ar)],SU⟩) (hO:(look 440001 O).isSome=true:=by kernel_rfl):eG P f args O ar Q:=by
 intro M w ι0 xs hg hs hlx hx;obtain⟨c0,hc0⟩:=Option.isSome_iff_exists.1 hO;haveI:SG (jc w ι0 O):=⟨by show(match look 440001 O with|some _=>ι0 440001|none=>none)=_;rw[hc0];exact hg⟩;refine calls_of_wp hf hb ?_;refine wp_mono (h M (jc w ι0 O) { tmps:=xs++Array.replicate (fn.ntmps-xs.size) undef,defers:=[] } w ι0 ?_) (fun e a w' hq=>?_)
 ·refine⟨⟨hs.below,hs.old,hs.use,hs.own,hs.inj,hs.ko,hs.kr,hs.objs,hs.arrs,hs.pin⟩,rfl,?_,fun k v hk=>?_⟩
  ·simp;omega
  ·rw[nC,if_pos (Nat.zero_le _),Nat.sub_zero]at hk;have hlt:k<xs.size:=by rw[←hlx];exact(List.getElem?_eq_some_iff.1 hk).1
   refine⟨xs[k],?_,hx k v _ hk (Array.getElem?_eq_getElem hlt)⟩;simp only[];rw[Array.getElem?_append_left hlt,Array.getElem?_eq_getElem hlt]
 ·cases e<;>exact hq
def bV(vid sid:Nat):List (Nat×Nat):=[(sid,440009),(vid,440001)]
def iY(s:AS)(vid sid:Nat):Bool :=
 fZ (bV vid sid) (b8 (bV vid sid))&&(rq SU [(vid,440001)] 440009&&((match s.u.contains (cK sid) with|true=>false|false=>true)&&((match look sid s.o with|none=>true|some _=>false) &&
  (match look vid s.r with|none=>true|some _=>false))))
section
variable{cx:Cx}{Q:Exit→Act→World→Prop}{ks:List aq}{s:AS}{all:Array Oper}{f:Func}{p:List Nat}{i:Nat}
theorem HC[GS]{a:Act}{w:World}{ι:Env}(hs:aN cx s a w ι)(vid sid:Nat){g:FuncId}{args:List AV}{V1 V2:AV}{O O1 o2:List (Nat×List AV)}{ar ar1:br}(hc:eG cx.P g args O ar (fun v s1=>v=V1∧cj s1.o O1∧look 440009 s1.r=some ar1))
  (hg:ι vid=some (.pointer (some ⟨GS.g,0,none⟩))) {o:Oper}
  (hrun:∃xs:Array Value,(execOp a.eval o).run cx.P w=.ok (.enter g xs) w∧q7 cx ι w (bV vid sid) args xs)
  (hO:eM (bV vid sid) s.o [(vid,440001)]=some O) (hr:look sid s.r=some ar) (hb2:dF (b8 (bV vid sid)) O1 [(vid,440001)]=some o2) (hv2:dA (b8 (bV vid sid)) V1=some V2)
  (hd:cm cx.n o.dst=true) (hok:iY s vid sid=true) {Kn:Act→World→Prop} {Q:Exit→Act→World→Prop} (k:∀x w' ι1,aN cx ((gz sid ar1 o2 s).put o.dst V2) (a.put o.dst x) w' (dj ι ι1 sid 440009)→Kn (a.put o.dst x) w'):o.wp cx.P a w Kn Q:=by
 simp only[iY,Bool.and_eq_true]at hok;obtain⟨k1,k2,k3,k4,k5⟩:=hok;have hnp:s.u.contains (cK sid)=false:=by
  cases hq:s.u.contains (cK sid) with
  | true=>rw[hq]at k3;cases k3
  | false=>rfl
 have hso:look sid s.o=none:=by
  cases hq:look sid s.o with
  | some _=>rw[hq]at k4;cases k4
  | none=>rfl
 have hor:∀p∈[(vid,440001)],look p.1 s.r=none:=fun p hp=>by
  rw[List.mem_singleton.1 hp];cases hq:look vid s.r with
  | some _=>rw[hq]at k5;cases k5
  | none=>rfl
 have hsv:cw (b8 (bV vid sid)) ι 440001=ι vid:=kY (fG k1 (by
  show look vid [(sid,440009),(vid,440001)]=some 440001;have:vid≠sid:=fun e=>by
   have h1:=(fG (id:=sid) (j:=440009) k1 (by simp[bV,look])).1;have hn':=k1;simp only[fZ,Bool.and_eq_true,List.all_eq_true]at hn';have h2:=(hn'.1 (vid,440001) (by simp[bV])).1;have h3:=iG k1 (qw h2);rw[e]at h3;simp[bV,look]at h3
  simp[look,this])).1
 unfold Oper.wp;obtain⟨xs,hrc,hxl,hxr⟩:=hrun;rw[hrc,Oper.upon_enter];have hN:∀b,NN (fun b=>NN cx.M ι b∧∀i,bm (cw (b8 (bV vid sid)) ι i)≠some b) (cw (b8 (bV vid sid)) ι) b→NN cx.M ι b:=fun b hb=>by
  rcases hb with hb|⟨j,hb⟩
  ·exact hb.1
  ·cases he:cw (b8 (bV vid sid)) ι j with
   | none=>rw[he]at hb;cases hb
   | some y=>obtain⟨id,_,h2⟩:=iW he;exact .inr ⟨id,by rw[h2];rw[he]at hb;exact hb⟩
 have hargs:∀(i:Nat) (a:AV) (x:Value),args[i]?=some a→xs[i]?=some x→Rel (NN (fun b=>NN cx.M ι b∧∀i,bm (cw (b8 (bV vid sid)) ι i)≠some b) (cw (b8 (bV vid sid)) ι)) w (cw (b8 (bV vid sid)) ι) a x:=fun i v x hv hx =>
  hxr i v x hv hx _ _ hN (fun id j e=>kY (fG k1 e).1)
 have hal:∀p∈[(vid,440001)],∃y,cw (b8 (bV vid sid)) ι p.2=some y:=fun p hp=>by
  rw[List.mem_singleton.1 hp];exact⟨_,hsv.trans hg⟩
 refine (hc _ w _ xs (hsv.trans hg) (hs.hs.FD rfl k1 hO hr k2) hxl hargs).mono ?_
 rintro e w' ⟨x,v,s1,ι1,rfl,⟨rfl,hO1,hr1⟩,hhs,hrx⟩
 obtain⟨g1,g2,g3⟩:=hs.hs.C1 rfl k1 hO hr hnp hso hor hal hhs hO1 hr1 hb2;have hsim:aN cx (gz sid ar1 o2 s) a w' (dj ι ι1 sid 440009):=⟨g1,hs.dfr,hs.n,fun k v hk=>by
  obtain⟨u,hu,rfl⟩:=lO hk;obtain⟨y,hy,hr⟩:=hs.tmp k u hu;exact⟨y,hy,g2 hr⟩⟩
 exact k _ _ _ (hsim.put (eN hd) (g3 hrx hv2))
theorem A9[GS]{a:Act}{w:World}{ι:Env}(hs:aN cx s a w ι)(vid sid:Nat){g:FuncId}{args:List AV}{V1:AV}{O O1:List (Nat×List AV)}{ar ar1:br}(hc:eG cx.P g args O ar (fun v s1=>v=V1∧cj s1.o O1∧look 440009 s1.r=some ar1))
  (hg:ι vid=some (.pointer (some ⟨GS.g,0,none⟩)))
  (hrun:∃xs:Array Value,(execOp a.eval { aQ f p i with guard:=none }).run cx.P w=.ok (.enter g xs) w∧q7 cx ι w (bV vid sid) args xs)
  (k:OT cx Q ks all (aK f p (i+1)) ((gz sid ar1 ((dF (b8 (bV vid sid)) O1 [(vid,440001)]).getD []) s).put (aQ f p i).dst ((dA (b8 (bV vid sid)) V1).getD .any)))
  (hO:eM (bV vid sid) s.o [(vid,440001)]=some O) (hr:look sid s.r=some ar) (hb:(dF (b8 (bV vid sid)) O1 [(vid,440001)]).isSome=true) (hv:(dA (b8 (bV vid sid)) V1).isSome=true)
  (hd:cm cx.n (aQ f p i).dst=true) (hok:iY s vid sid=true):wpList cx.P all (Kw cx.P Q ks) ({ aQ f p i with guard:=none }::aK f p (i+1)) a w:=by
 refine wpList_plain rfl fun K hK=>?_;obtain⟨o2,hb2⟩:=Option.isSome_iff_exists.1 hb;obtain⟨V2,hv2⟩:=Option.isSome_iff_exists.1 hv;rw[hb2,hv2]at k;simp only[Option.getD_some]at k;exact HC (o:={ aQ f p i with guard:=none }) hs vid sid hc hg hrun hO hr hb2 hv2 hd hok (fun x w' ι1 h=>hK _ _ (k _ _ _ h))
theorem qc[GS][SG cx.w0]{g:FuncId}{args:List AV}{V1:AV}{O O1:List (Nat×List AV)}{ar ar1:br}(hc:eG cx.P g args O ar (fun v s1=>v=V1∧cj s1.o O1∧look 440009 s1.r=some ar1))
  (k:OT cx Q ks all (aK f p (i+1)) ((gz 440009 ar1 ((dF (b8 (bV 440001 440009)) O1 [(440001,440001)]).getD []) s).put (aQ f p i).dst ((dA (b8 (bV 440001 440009)) V1).getD .any)))
  (hcl:cf cx.P g=true:=by kernel_rfl) (hl:aK f p i=aQ f p i::aK f p (i+1):=by kernel_rfl) (hg:cd all s (aQ f p i)=true:=by kernel_rfl) (h1:kE s { aQ f p i with guard:=none } (bV 440001 440009)=some (g,args):=by kernel_rfl)
  (hO:eM (bV 440001 440009) s.o [(440001,440001)]=some O:=by kernel_rfl) (hr:look 440009 s.r=some ar:=by kernel_rfl) (hb:(dF (b8 (bV 440001 440009)) O1 [(440001,440001)]).isSome=true:=by kernel_rfl) (hv:(dA (b8 (bV 440001 440009)) V1).isSome=true:=by kernel_rfl)
  (hd:cm cx.n (aQ f p i).dst=true:=by kernel_rfl) (hok:iY s 440001 440009=true:=by kernel_rfl):OT cx Q ks all (aK f p i) s:=by
 rw[hl];exact ef _ hg fun a w ι hs=>A9 hs 440001 440009 hc ((hs.hs.pin _ _ SG.pv).1) (z5 hs h1 hcl) k hO hr hb hv hd hok
theorem Ix[GS][SG cx.w0]{g:FuncId}{args:List AV}{V1:AV}{O O1:List (Nat×List AV)}{ar ar1:br}(hc:eG cx.P g (.ptr 440001 0::args) O ar (fun v s1=>v=V1∧cj s1.o O1∧look 440009 s1.r=some ar1))
  (k:OT cx Q ks all (aK f p (i+1)) ((gz 440009 ar1 ((dF (b8 (bV 440001 440009)) O1 [(440001,440001)]).getD []) s).put (aQ f p i).dst ((dA (b8 (bV 440001 440009)) V1).getD .any)))
  (hcl:cf cx.P g=true:=by kernel_rfl) (hl:aK f p i=aQ f p i::aK f p (i+1):=by kernel_rfl) (hg:cd all s (aQ f p i)=true:=by kernel_rfl) (h1:xw s { aQ f p i with guard:=none } (bV 440001 440009)=some (fT g GS.g,args):=by kernel_rfl)
  (hO:eM (bV 440001 440009) s.o [(440001,440001)]=some O:=by kernel_rfl) (hr:look 440009 s.r=some ar:=by kernel_rfl) (hb:(dF (b8 (bV 440001 440009)) O1 [(440001,440001)]).isSome=true:=by kernel_rfl) (hv:(dA (b8 (bV 440001 440009)) V1).isSome=true:=by kernel_rfl)
  (hd:cm cx.n (aQ f p i).dst=true:=by kernel_rfl) (hok:iY s 440001 440009=true:=by kernel_rfl):OT cx Q ks all (aK f p i) s:=by
 rw[hl];exact ef _ hg fun a w ι hs=>A9 hs 440001 440009 hc ((hs.hs.pin _ _ SG.pv).1) (Vy hs h1 hcl (by simp[bV,look]) ((hs.hs.pin _ _ SG.pv).1)) k hO hr hb hv hd hok
theorem vw(vid sid:Nat){g:FuncId}{args:List AV}{V1:AV}{O O1:List (Nat×List AV)}{ar ar1:br}(hc:∀ [GS],eG cx.P g args O ar (fun v s1=>v=V1∧cj s1.o O1∧look 440009 s1.r=some ar1))
  (k:OT cx Q ks all (aK f p (i+1)) ((gz sid ar1 ((dF (b8 (bV vid sid)) O1 [(vid,440001)]).getD []) s).put (aQ f p i).dst ((dA (b8 (bV vid sid)) V1).getD .any)))
  (hcl:cf cx.P g=true:=by kernel_rfl) (hl:aK f p i=aQ f p i::aK f p (i+1):=by kernel_rfl) (hg:cd all s (aQ f p i)=true:=by kernel_rfl) (h1:kE s { aQ f p i with guard:=none } (bV vid sid)=some (g,args):=by kernel_rfl)
  (hO:eM (bV vid sid) s.o [(vid,440001)]=some O:=by kernel_rfl) (hr:look sid s.r=some ar:=by kernel_rfl) (hb:(dF (b8 (bV vid sid)) O1 [(vid,440001)]).isSome=true:=by kernel_rfl) (hv:(dA (b8 (bV vid sid)) V1).isSome=true:=by kernel_rfl)
  (hd:cm cx.n (aQ f p i).dst=true:=by kernel_rfl) (hok:iY s vid sid=true:=by kernel_rfl) (hp:args.any (qd 440001)=true:=by kernel_rfl):OT cx Q ks all (aK f p i) s:=by
 rw[hl];refine ef _ hg fun a w ι hs=>?_;obtain⟨xs,q1,q2,q3⟩:=z5 hs h1 hcl;have hn:=hok;simp only[iY,Bool.and_eq_true]at hn;have hN:∀b,NN (fun b=>NN cx.M ι b∧∀i,bm (cw (b8 (bV vid sid)) ι i)≠some b) (cw (b8 (bV vid sid)) ι) b→NN cx.M ι b:=fun b hb=>by
  rcases hb with hb|⟨j,hb⟩
  ·exact hb.1
  ·cases he:cw (b8 (bV vid sid)) ι j with
   | none=>rw[he]at hb;cases hb
   | some y=>obtain⟨id,_,h2⟩:=iW he;exact .inr ⟨id,by rw[h2];rw[he]at hb;exact hb⟩
 obtain⟨v,hv',hvp⟩:=List.any_eq_true.1 hp;obtain⟨q,hq⟩:=List.mem_iff_getElem?.1 hv';have hlt:q<xs.size:=by rw[←q2];exact(List.getElem?_eq_some_iff.1 hq).1
 obtain⟨y,hy⟩:=Fl hvp (q3 q v _ hq (Array.getElem?_eq_getElem hlt) _ _ hN (fun id j e=>kY (fG hn.1 e).1));obtain⟨id,e1,e2⟩:=iW hy;have e3:id=vid:=by
  have h2:look 440001 (b8 (bV vid sid))=some vid:=rfl;rw[h2]at e1;injection e1 with e1;exact e1.symm
 subst e3;obtain⟨cs,hcs⟩:∃cs,look id s.o=some cs:=by
  unfold eM at hO;split at hO
  ·rename_i cs l h1 h2;exact⟨cs,h1⟩
  ·cases hO
 obtain⟨g0,_,_,e4,_,_⟩:=hs.hs.objs id cs hcs (by rw[e2];rfl)
 letI:GS:=⟨g0⟩
 exact A9 hs id sid hc e4 ⟨xs,q1,q2,q3⟩ k hO hr hb hv hd hok
end
def k8(d:Option Tmp)(ar1:br)(O1:List (Nat×List AV))(V1:AV)(s:AS):AS:=(gz 440009 ar1 ((dF (b8 (bV 440001 440009)) O1 [(440001,440001)]).getD []) s).put d ((dA (b8 (bV 440001 440009)) V1).getD .any)
def zR(s:AS):Bool:=match look 440001 s.o with
 | some (.ref i::_)=>Nat.beq i 440009
 | _=>false
theorem Qu[GS]{P:Program}{n:Nat}{ops:Array Oper}{s:AS}{o:Oper}{dl:Nat}{g:FuncId}{args:List AV}{V1:AV}{O O1:List (Nat×List AV)}{ar ar1:br}(hc:eG P g args O ar (fun v s1=>v=V1∧cj s1.o O1∧look 440009 s1.r=some ar1))
  (hlk:look dl s.t=some (.lk 440001 (.pointer (some ⟨GS.g,0,none⟩)))) (hno:∀(j:Nat) (o':Oper),ops[j]?=some o'→o'.dst≠some dl) (h1:kE s o (bV 440001 440009)=some (g,args)) (hcl:cf P g=true)
  (hO:eM (bV 440001 440009) s.o [(440001,440001)]=some O) (hr:look 440009 s.r=some ar) (hb:(dF (b8 (bV 440001 440009)) O1 [(440001,440001)]).isSome=true) (hv:(dA (b8 (bV 440001 440009)) V1).isSome=true)
  (hd:cm n o.dst=true) (hok:iY s 440001 440009=true) (hH:zR s=true):xL P n ops s (k8 o.dst ar1 O1 V1 s) o:=by
 refine⟨dl,_,hlk,hno,fun cx hP hn fl a w ι hs hg hop Kn Q hk=>?_⟩;subst hP;subst hn;obtain⟨o2,hb2⟩:=Option.isSome_iff_exists.1 hb;obtain⟨V2,hv2⟩:=Option.isSome_iff_exists.1 hv;have h1':kE (s.tt (bS fl s.t)) o (bV 440001 440009)=some (g,args):=by
  unfold kE at h1⊢;split at h1
  case h_2=>cases h1
  rename_i cl hcop;split at h1
  case h_2=>cases h1
  rename_i fo hcal;have e1:(s.tt (bS fl s.t)).ev fo=s.ev fo:=by
   cases fo with
   | tmp t =>
    show look t (bS _ _)=look t _;rw[dB,if_pos (hop (.tmp t) t (by simp[hcop,Op.operands,Call.operands,hcal]) rfl)]
   | const v=>rfl
   | func g=>rfl
   | global g=>rfl
  have e2:cG (s.tt (bS fl s.t)) cl.args.toList=cG s cl.args.toList:=mc (fun x hx=>by
   cases x with
   | tmp t =>
    show look t (bS _ _)=look t _;rw[dB,if_pos (hop (.tmp t) t (by simp[hcop,Op.operands,Call.operands,hcal];exact .inr (Array.mem_toList_iff.1 hx)) rfl)]
   | const v=>rfl
   | func g=>rfl
   | global g=>rfl)
  simp only[hcop,hcal,e1,e2];exact h1
 refine HC hs 440001 440009 hc hg (z5 hs h1' hcl) hO hr hb2 hv2 hd hok (fun x w' ι1 hsim=>hk _ _ _ _ (fun id hne hid=>?_) ?_ ?_ ?_ (fun t v ht hl=>?_) hsim)
 ·unfold dj;by_cases e:id=440009
  ·exfalso;unfold zR at hH;split at hH
   case h_2=>cases hH
   rename_i q r hq;obtain⟨g0,T,vs,e1,e2,e3⟩:=hs.hs.objs 440001 _ hq (by rw[hg];rfl);have hlt:0<vs.toList.length:=by rw[←e3.len];simp
   have:=e3.rel 0 _ _ rfl (List.getElem?_eq_getElem hlt);rw[Nat.eq_of_beq_eq_true hH]at this;generalize vs.toList[0]=y at this;cases this with
   | ref _ _ A n c h=>rw[e,h]at hid;cases hid
  ·rw[if_neg e];exact hid
 ·unfold k8;rw[hb2,hv2];cases o.dst<;>rfl
 ·unfold k8;rw[hb2,hv2];cases o.dst<;>rfl
 ·unfold k8;rw[hb2,hv2];cases o.dst<;>rfl
 ·unfold k8 at hl;rw[hb2,hv2]at hl;simp only[Option.getD_some]at hl;cases hdd:o.dst with
  | none =>
   rw[hdd]at hl ht;rcases ht with ht|ht
   ·show look t (cQ _ (bS _ _))=_;rw[pB,dB,if_pos ht];exact hl
   ·cases ht
  | some d =>
   rw[hdd]at hl ht;simp only[AS.put,gz,ca]at hl⊢;by_cases e:t=d
   ·rw[if_pos e]at hl⊢;exact hl
   ·rw[if_neg e]at hl⊢;rcases ht with ht|ht
    ·show look t (cQ _ (bS _ _))=_;rw[pB,dB,if_pos ht];exact hl
    ·injection ht with ht;exact(e ht).elim
section
variable{P:Program}{n:Nat}{s0:AS}{all:Array Oper}{K:Nat}{σs:List AS}{o:Oper}
theorem ER[GS](m dl:Nat){g:FuncId}{args:List AV}{V1:AV}{O O1:List (Nat×List AV)}{ar ar1:br}(hc:eG P g args O ar (fun v s1=>v=V1∧cj s1.o O1∧look 440009 s1.r=some ar1))
  (hcl:cf P g=true:=by kernel_rfl) (he:k8 o.dst ar1 O1 V1 (nth σs m)=nth σs (m+1):=by kernel_rfl) (hlk:look dl (nth σs m).t=some (.lk 440001 (.pointer (some ⟨GS.g,0,none⟩))):=by kernel_rfl) (hno:wL dl all.toList=true:=by kernel_rfl) (hgd:o.guard.isNone=true:=by kernel_rfl)
  (h1:kE (nth σs m) o (bV 440001 440009)=some (g,args):=by kernel_rfl)
  (hO:eM (bV 440001 440009) (nth σs m).o [(440001,440001)]=some O:=by kernel_rfl) (hr:look 440009 (nth σs m).r=some ar:=by kernel_rfl) (hb:(dF (b8 (bV 440001 440009)) O1 [(440001,440001)]).isSome=true:=by kernel_rfl) (hv:(dA (b8 (bV 440001 440009)) V1).isSome=true:=by kernel_rfl)
  (hd:cm n o.dst=true:=by kernel_rfl) (hok:iY (nth σs m) 440001 440009=true:=by kernel_rfl) (hH:zR (nth σs m)=true:=by kernel_rfl):dT P n s0 all K σs o (.s (m+1)):=by
 have h:=Qu (ops:=all) hc hlk (fun j o' hj=>EA hno o' (Array.mem_toList_iff.2 (Array.mem_of_getElem? hj))) h1 hcl hO hr hb hv hd hok hH;rw[he]at h;exact⟨by simpa using hgd,.inr h⟩
end
end Go.Proofs.YtocgkfoifehcbaaGreat
