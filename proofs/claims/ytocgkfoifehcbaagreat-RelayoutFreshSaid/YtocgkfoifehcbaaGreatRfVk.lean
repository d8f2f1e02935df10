/- Calls that are lent variables and one slice, with a result of which a slice is the callee's own; calls that are lent the state of layer 22. No program in sight. -/
import Derived.Test.YtocgkfoifehcbaaGreatRfVv
namespace Go.Proofs.YtocgkfoifehcbaaGreat
set_option linter.all false
open Go.RowKit
def tK(cx:Cx)(ι:Env)(w:World)(ρ:List (Nat×Nat))(args:List AV)(xs:Array Value):Prop :=
 args.length=xs.size∧∀(i:Nat) (v:AV) (x:Value),args[i]?=some v→xs[i]?=some x→∀(N':Nat→Prop) (ι0:Env),(∀b,N' b→NN cx.M ι b)→(∀id j,look id ρ=some j→ι0 j=ι id)→Rel N' w ι0 v x
def fF(f g:Nat):Value:=.func (.func f) #[.pointer (some ⟨g,0,none⟩)] #[]
def kF(s:AS)(o:Oper)(ρ:List (Nat×Nat)):Option (FuncId×List AV) :=
 match o.op with
 | .call c=>match c.callee with
  | .value fo=>match s.ev fo,cG s c.args.toList with
   | some (.fn f aP),some l=>match eo ρ l with
    | some l'=>some (f,l'++aP)
    | none=>none
   | _,_=>none
  | _=>none
 | _=>none
def Cn(s:AS)(o:Oper)(ρ:List (Nat×Nat)):Option (Value×List AV) :=
 match o.op with
 | .call c=>match c.callee with
  | .value fo=>match s.ev fo,cG s c.args.toList with
   | some (.vv x),some l=>match eo ρ l with
    | some l'=>some (x,l')
    | none=>none
   | _,_=>none
  | _=>none
 | _=>none
section
variable{cx:Cx}{s:AS}{a:Act}{w:World}{ι:Env}
theorem Kh(hs:aN cx s a w ι){l l':List AV}{xs:Array Operand}{ρ:List (Nat×Nat)}(hl:cG s xs.toList=some l)(hl':eo ρ l=some l'):tK cx ι w ρ l' (xs.map a.eval):=by
 obtain⟨q1,q2⟩:=jn hs hl;refine⟨by rw[qm hl'];simp at q1⊢;omega,fun i v x hv hx N' ι0 hN hι=>?_⟩;obtain⟨b,hb,hbv⟩:=s4 hl' i v hv;exact tT (q2 i b x hb (by rw[←Array.toList_map,Array.getElem?_toList];exact hx)) hN hι hbv
theorem BM(hs:aN cx s a w ι){o:Oper}{ρ:List (Nat×Nat)}{g:FuncId}{args:List AV}(h:kF s o ρ=some (g,args))(hcl:cf cx.P g=true):
  ∃xs:Array Value,(execOp a.eval o).run cx.P w=.ok (.enter g xs) w∧tK cx ι w ρ args xs:=by
 unfold kF at h;split at h
 case h_2=>cases h
 rename_i c hop;split at h
 case h_2=>cases h
 rename_i fo hcal;split at h
 case h_2=>cases h
 rename_i f aP l hf hl;split at h
 case h_2=>cases h
 rename_i l' hl';injection h with h;injection h with e1 e2;subst e1;subst e2
 obtain⟨ys,hrc,hc1,hc2⟩:=iA hs hop hcal hf hcl;obtain⟨p1,p2⟩:=Kh hs hl hl';refine⟨_,hrc,by simp at p1⊢;omega,fun i v x hv hx N' ι0 hN hι=>?_⟩;by_cases hi:i<l'.length
 ·rw[List.getElem?_append_left hi]at hv;rw[Array.getElem?_append_left (by rw[←p1];exact hi)]at hx;exact p2 i v x hv hx N' ι0 hN hι
 ·rw[List.getElem?_append_right (by omega)]at hv;rw[Array.getElem?_append_right (by rw[←p1];omega)]at hx;rw[←p1]at hx;exact(hc2 _ v x hv (by simpa using hx)).mono (Nat.le_refl _) (fun b _ hb=>hN b hb) (fun _ _ _=>rfl) (fun id y hy=>by cases hy)
theorem SZ(hs:aN cx s a w ι){o:Oper}{ρ:List (Nat×Nat)}{f g j id:Nat}{args:List AV}(h:Cn s o ρ=some (fF f g,args))(hcl:cf cx.P f=true)(hρ:look id ρ=some j)(hg:ι id=some (.pointer (some ⟨g,0,none⟩))):
  ∃xs:Array Value,(execOp a.eval o).run cx.P w=.ok (.enter f xs) w∧tK cx ι w ρ (.ptr j 0::args) xs:=by
 unfold Cn at h;split at h
 case h_2=>cases h
 rename_i c hop;split at h
 case h_2=>cases h
 rename_i fo hcal;split at h
 case h_2=>cases h
 rename_i x l hf hl;split at h
 case h_2=>cases h
 rename_i l' hl';injection h with h;injection h with e1 e2;subst e1;subst e2
 obtain⟨p1,p2⟩:=Kh hs hl hl';have hr:=hs.ev hf;generalize hX:a.eval fo=X at hr;cases hr with
 | vv _ _ h9 =>
  refine⟨#[.pointer (some ⟨g,0,none⟩)]++c.args.map a.eval,?_,by simp at p1⊢;omega,fun i v x hv hx N' ι0 hN hι=>?_⟩
  ·unfold execOp;simp only[hop,resolve,hcal,hX,fF,Deferred.ofValue,Sem.run_bind,Sem.run_pure,Result.andThen_ok,invoke];rw[zY hcl];simp
  ·cases i with
   | zero =>
    simp only[List.getElem?_cons_zero]at hv;injection hv with hv;subst hv
    rw[Array.getElem?_append_left (by simp)]at hx;have hx':some (Value.pointer (some ⟨g,0,none⟩))=some x:=hx;injection hx' with hx';subst hx'
    exact .ptr _ _ _ _ ((hι id j hρ).trans hg)
   | succ i =>
    simp only[List.getElem?_cons_succ]at hv;rw[Array.getElem?_append_right (by simp)]at hx;exact p2 i v x hv (by simpa using hx) N' ι0 hN hι
end
class GS where
 g:Nat
class SG [GS] (w0:aE):Prop where
 pv:w0.pv 440001=some (.pointer (some ⟨GS.g,0,none⟩))
def SU:List Nat:=[440009,440001,1440001]
def eG[GS](P:Program)(f:FuncId)(args:List AV)(O:List (Nat×List AV))(ar:br)(Q:AV→AS→Prop):Prop :=
 ∀(M:Nat→Prop) (w:World) (ι0:Env) (xs:Array Value),ι0 440001=some (.pointer (some ⟨GS.g,0,none⟩))→HS M (jD w ι0 O) w ι0 ⟨[],O,[(440009,ar)],SU⟩→args.length=xs.size→(∀(i:Nat) (a:AV) (x:Value),args[i]?=some a→xs[i]?=some x→Rel (NN M ι0) w ι0 a x)→Calls P f xs w (bA M (jD w ι0 O) Q)
theorem jC[GS]{P:Program}{f:FuncId}{fn:Func}{c:Code}{args:List AV}{O:List (Nat×List AV)}{ar:br}{Q:AV→AS→Prop}(hf:P.funcs[f]?=some fn)(hb:fn.body=some c)(n:Nat)(hn:fn.ntmps=n)(hl:args.length≤n)
  (h:∀M w0 [SG w0],VE ⟨P,n,M,w0⟩ (bodyPost P fn (bA M w0 Q)) [.c c] .normal ⟨idxs 0 args,O,[(440009,ar)],SU⟩) (hO:(look 440001 O).isSome=true:=by kernel_rfl):eG P f args O ar Q:=by
 intro M w ι0 xs hg hs hlx hx;obtain⟨c0,hc0⟩:=Option.isSome_iff_exists.1 hO;haveI:SG (jD w ι0 O):=⟨by show(match look 440001 O with|some _=>ι0 440001|none=>none)=_;rw[hc0];exact hg⟩;refine calls_of_wp hf hb ?_;refine wp_mono (h M (jD w ι0 O) { tmps:=xs++Array.replicate (fn.ntmps-xs.size) undef,defers:=[] } w ι0 ?_) (fun e a w' hq=>?_)
 ·refine⟨⟨hs.below,hs.old,hs.use,hs.own,hs.inj,hs.ko,hs.kr,hs.objs,hs.arrs,hs.pin⟩,rfl,?_,fun k v hk=>?_⟩
  ·simp;omega
  ·rw[pi,if_pos (Nat.zero_le _),Nat.sub_zero]at hk;have hlt:k<xs.size:=by rw[←hlx];exact(List.getElem?_eq_some_iff.1 hk).1
   refine⟨xs[k],?_,hx k v _ hk (Array.getElem?_eq_getElem hlt)⟩;simp only[];rw[Array.getElem?_append_left hlt,Array.getElem?_eq_getElem hlt]
 ·cases e<;>exact hq
def bV(vid sid:Nat):List (Nat×Nat):=[(sid,440009),(vid,440001)]
def je(s:AS)(vid sid:Nat):Bool :=
 f9 (bV vid sid) (b8 (bV vid sid))&&(tC SU [(vid,440001)] 440009&&((match s.u.contains (cJ sid) with|true=>false|false=>true)&&((match look sid s.o with|none=>true|some _=>false) &&
  (match look vid s.r with|none=>true|some _=>false))))
section
variable{cx:Cx}{Q:Exit→Act→World→Prop}{ks:List aq}{s:AS}{all:Array Oper}{f:Func}{p:List Nat}{i:Nat}
theorem HY[GS]{a:Act}{w:World}{ι:Env}(hs:aN cx s a w ι)(vid sid:Nat){g:FuncId}{args:List AV}{V1 V2:AV}{O O1 o2:List (Nat×List AV)}{ar ar1:br}(hc:eG cx.P g args O ar (fun v s1=>v=V1∧cn s1.o O1∧look 440009 s1.r=some ar1))
  (hg:ι vid=some (.pointer (some ⟨GS.g,0,none⟩))) {o:Oper}
  (hrun:∃xs:Array Value,(execOp a.eval o).run cx.P w=.ok (.enter g xs) w∧tK cx ι w (bV vid sid) args xs)
  (hO:eS (bV vid sid) s.o [(vid,440001)]=some O) (hr:look sid s.r=some ar) (hb2:dF (b8 (bV vid sid)) O1 [(vid,440001)]=some o2) (hv2:dE (b8 (bV vid sid)) V1=some V2)
  (hd:cm cx.n o.dst=true) (hok:je s vid sid=true) {Kn:Act→World→Prop} {Q:Exit→Act→World→Prop} (k:∀x w' ι1,aN cx ((gt sid ar1 o2 s).put o.dst V2) (a.put o.dst x) w' (dk ι ι1 sid 440009)→Kn (a.put o.dst x) w'):o.wp cx.P a w Kn Q:=by
 simp only[je,Bool.and_eq_true]at hok;obtain⟨k1,k2,k3,k4,k5⟩:=hok;have hnp:s.u.contains (cJ sid)=false:=by
  cases hq:s.u.contains (cJ sid) with
  | true=>rw[hq]at k3;cases k3
  | false=>rfl
 have hso:look sid s.o=none:=by
  cases hq:look sid s.o with
  | some _=>rw[hq]at k4;cases k4
  | none=>rfl
 have hor:∀p∈[(vid,440001)],look p.1 s.r=none:=fun p hp=>by
  rw[List.mem_singleton.1 hp];cases hq:look vid s.r with
  | some _=>rw[hq]at k5;cases k5
  | none=>rfl
 have hsv:cw (b8 (bV vid sid)) ι 440001=ι vid:=j9 (fQ k1 (by
  show look vid [(sid,440009),(vid,440001)]=some 440001;have:vid≠sid:=fun e=>by
   have h1:=(fQ (id:=sid) (j:=440009) k1 (by simp[bV,look])).1;have hn':=k1;simp only[f9,Bool.and_eq_true,List.all_eq_true]at hn';have h2:=(hn'.1 (vid,440001) (by simp[bV])).1;have h3:=iu k1 (td h2);rw[e]at h3;simp[bV,look]at h3
  simp[look,this])).1
 unfold Oper.wp;obtain⟨xs,hrc,hxl,hxr⟩:=hrun;rw[hrc,Oper.upon_enter];have hN:∀b,NN (fun b=>NN cx.M ι b∧∀i,bn (cw (b8 (bV vid sid)) ι i)≠some b) (cw (b8 (bV vid sid)) ι) b→NN cx.M ι b:=fun b hb=>by
  rcases hb with hb|⟨j,hb⟩
  ·exact hb.1
  ·cases he:cw (b8 (bV vid sid)) ι j with
   | none=>rw[he]at hb;cases hb
   | some y=>obtain⟨id,_,h2⟩:=ir he;exact .inr ⟨id,by rw[h2];rw[he]at hb;exact hb⟩
 have hargs:∀(i:Nat) (a:AV) (x:Value),args[i]?=some a→xs[i]?=some x→Rel (NN (fun b=>NN cx.M ι b∧∀i,bn (cw (b8 (bV vid sid)) ι i)≠some b) (cw (b8 (bV vid sid)) ι)) w (cw (b8 (bV vid sid)) ι) a x:=fun i v x hv hx =>
  hxr i v x hv hx _ _ hN (fun id j e=>j9 (fQ k1 e).1)
 have hal:∀p∈[(vid,440001)],∃y,cw (b8 (bV vid sid)) ι p.2=some y:=fun p hp=>by
  rw[List.mem_singleton.1 hp];exact⟨_,hsv.trans hg⟩
 refine (hc _ w _ xs (hsv.trans hg) (hs.hs.JP rfl k1 hO hr k2) hxl hargs).mono ?_
 rintro e w' ⟨x,v,s1,ι1,rfl,⟨rfl,hO1,hr1⟩,hhs,hrx⟩
 obtain⟨g1,g2,g3⟩:=hs.hs.DE rfl k1 hO hr hnp hso hor hal hhs hO1 hr1 hb2;have hsim:aN cx (gt sid ar1 o2 s) a w' (dk ι ι1 sid 440009):=⟨g1,hs.dfr,hs.n,fun k v hk=>by
  obtain⟨u,hu,rfl⟩:=mR hk;obtain⟨y,hy,hr⟩:=hs.tmp k u hu;exact⟨y,hy,g2 hr⟩⟩
 exact k _ _ _ (hsim.put (eI hd) (g3 hrx hv2))
theorem AQ[GS]{a:Act}{w:World}{ι:Env}(hs:aN cx s a w ι)(vid sid:Nat){g:FuncId}{args:List AV}{V1:AV}{O O1:List (Nat×List AV)}{ar ar1:br}(hc:eG cx.P g args O ar (fun v s1=>v=V1∧cn s1.o O1∧look 440009 s1.r=some ar1))
  (hg:ι vid=some (.pointer (some ⟨GS.g,0,none⟩)))
  (hrun:∃xs:Array Value,(execOp a.eval { aQ f p i with guard:=none }).run cx.P w=.ok (.enter g xs) w∧tK cx ι w (bV vid sid) args xs)
  (k:OT cx Q ks all (aK f p (i+1)) ((gt sid ar1 ((dF (b8 (bV vid sid)) O1 [(vid,440001)]).getD []) s).put (aQ f p i).dst ((dE (b8 (bV vid sid)) V1).getD .any)))
  (hO:eS (bV vid sid) s.o [(vid,440001)]=some O) (hr:look sid s.r=some ar) (hb:(dF (b8 (bV vid sid)) O1 [(vid,440001)]).isSome=true) (hv:(dE (b8 (bV vid sid)) V1).isSome=true)
  (hd:cm cx.n (aQ f p i).dst=true) (hok:je s vid sid=true):wpList cx.P all (Kw cx.P Q ks) ({ aQ f p i with guard:=none }::aK f p (i+1)) a w:=by
 refine wpList_plain rfl fun K hK=>?_;obtain⟨o2,hb2⟩:=Option.isSome_iff_exists.1 hb;obtain⟨V2,hv2⟩:=Option.isSome_iff_exists.1 hv;rw[hb2,hv2]at k;simp only[Option.getD_some]at k;exact HY (o:={ aQ f p i with guard:=none }) hs vid sid hc hg hrun hO hr hb2 hv2 hd hok (fun x w' ι1 h=>hK _ _ (k _ _ _ h))
theorem sI[GS][SG cx.w0]{g:FuncId}{args:List AV}{V1:AV}{O O1:List (Nat×List AV)}{ar ar1:br}(hc:eG cx.P g args O ar (fun v s1=>v=V1∧cn s1.o O1∧look 440009 s1.r=some ar1))
  (k:OT cx Q ks all (aK f p (i+1)) ((gt 440009 ar1 ((dF (b8 (bV 440001 440009)) O1 [(440001,440001)]).getD []) s).put (aQ f p i).dst ((dE (b8 (bV 440001 440009)) V1).getD .any)))
  (hcl:cf cx.P g=true:=by kernel_rfl) (hl:aK f p i=aQ f p i::aK f p (i+1):=by kernel_rfl) (hg:cd all s (aQ f p i)=true:=by kernel_rfl) (h1:kF s { aQ f p i with guard:=none } (bV 440001 440009)=some (g,args):=by kernel_rfl)
  (hO:eS (bV 440001 440009) s.o [(440001,440001)]=some O:=by kernel_rfl) (hr:look 440009 s.r=some ar:=by kernel_rfl) (hb:(dF (b8 (bV 440001 440009)) O1 [(440001,440001)]).isSome=true:=by kernel_rfl) (hv:(dE (b8 (bV 440001 440009)) V1).isSome=true:=by kernel_rfl)
  (hd:cm cx.n (aQ f p i).dst=true:=by kernel_rfl) (hok:je s 440001 440009=true:=by kernel_rfl):OT cx Q ks all (aK f p i) s:=by
 rw[hl];exact d9 _ hg fun a w ι hs=>AQ hs 440001 440009 hc ((hs.hs.pin _ _ SG.pv).1) (BM hs h1 hcl) k hO hr hb hv hd hok
theorem DJ[GS][SG cx.w0]{g:FuncId}{args:List AV}{V1:AV}{O O1:List (Nat×List AV)}{ar ar1:br}(hc:eG cx.P g (.ptr 440001 0::args) O ar (fun v s1=>v=V1∧cn s1.o O1∧look 440009 s1.r=some ar1))
  (k:OT cx Q ks all (aK f p (i+1)) ((gt 440009 ar1 ((dF (b8 (bV 440001 440009)) O1 [(440001,440001)]).getD []) s).put (aQ f p i).dst ((dE (b8 (bV 440001 440009)) V1).getD .any)))
  (hcl:cf cx.P g=true:=by kernel_rfl) (hl:aK f p i=aQ f p i::aK f p (i+1):=by kernel_rfl) (hg:cd all s (aQ f p i)=true:=by kernel_rfl) (h1:Cn s { aQ f p i with guard:=none } (bV 440001 440009)=some (fF g GS.g,args):=by kernel_rfl)
  (hO:eS (bV 440001 440009) s.o [(440001,440001)]=some O:=by kernel_rfl) (hr:look 440009 s.r=some ar:=by kernel_rfl) (hb:(dF (b8 (bV 440001 440009)) O1 [(440001,440001)]).isSome=true:=by kernel_rfl) (hv:(dE (b8 (bV 440001 440009)) V1).isSome=true:=by kernel_rfl)
  (hd:cm cx.n (aQ f p i).dst=true:=by kernel_rfl) (hok:je s 440001 440009=true:=by kernel_rfl):OT cx Q ks all (aK f p i) s:=by
 rw[hl];exact d9 _ hg fun a w ι hs=>AQ hs 440001 440009 hc ((hs.hs.pin _ _ SG.pv).1) (SZ hs h1 hcl (by simp[bV,look]) ((hs.hs.pin _ _ SG.pv).1)) k hO hr hb hv hd hok
theorem uq(vid sid:Nat){g:FuncId}{args:List AV}{V1:AV}{O O1:List (Nat×List AV)}{ar ar1:br}(hc:∀ [GS],eG cx.P g args O ar (fun v s1=>v=V1∧cn s1.o O1∧look 440009 s1.r=some ar1))
  (k:OT cx Q ks all (aK f p (i+1)) ((gt sid ar1 ((dF (b8 (bV vid sid)) O1 [(vid,440001)]).getD []) s).put (aQ f p i).dst ((dE (b8 (bV vid sid)) V1).getD .any)))
  (hcl:cf cx.P g=true:=by kernel_rfl) (hl:aK f p i=aQ f p i::aK f p (i+1):=by kernel_rfl) (hg:cd all s (aQ f p i)=true:=by kernel_rfl) (h1:kF s { aQ f p i with guard:=none } (bV vid sid)=some (g,args):=by kernel_rfl)
  (hO:eS (bV vid sid) s.o [(vid,440001)]=some O:=by kernel_rfl) (hr:look sid s.r=some ar:=by kernel_rfl) (hb:(dF (b8 (bV vid sid)) O1 [(vid,440001)]).isSome=true:=by kernel_rfl) (hv:(dE (b8 (bV vid sid)) V1).isSome=true:=by kernel_rfl)
  (hd:cm cx.n (aQ f p i).dst=true:=by kernel_rfl) (hok:je s vid sid=true:=by kernel_rfl) (hp:args.any (sk 440001)=true:=by kernel_rfl):OT cx Q ks all (aK f p i) s:=by
 rw[hl];refine d9 _ hg fun a w ι hs=>?_;obtain⟨xs,q1,q2,q3⟩:=BM hs h1 hcl;have hn:=hok;simp only[je,Bool.and_eq_true]at hn;have hN:∀b,NN (fun b=>NN cx.M ι b∧∀i,bn (cw (b8 (bV vid sid)) ι i)≠some b) (cw (b8 (bV vid sid)) ι) b→NN cx.M ι b:=fun b hb=>by
  rcases hb with hb|⟨j,hb⟩
  ·exact hb.1
  ·cases he:cw (b8 (bV vid sid)) ι j with
   | none=>rw[he]at hb;cases hb
   | some y=>obtain⟨id,_,h2⟩:=ir he;exact .inr ⟨id,by rw[h2];rw[he]at hb;exact hb⟩
 obtain⟨v,hv',hvp⟩:=List.any_eq_true.1 hp;obtain⟨q,hq⟩:=List.mem_iff_getElem?.1 hv';have hlt:q<xs.size:=by rw[←q2];exact(List.getElem?_eq_some_iff.1 hq).1
 obtain⟨y,hy⟩:=Jw hvp (q3 q v _ hq (Array.getElem?_eq_getElem hlt) _ _ hN (fun id j e=>j9 (fQ hn.1 e).1));obtain⟨id,e1,e2⟩:=ir hy;have e3:id=vid:=by
  have h2:look 440001 (b8 (bV vid sid))=some vid:=rfl;rw[h2]at e1;injection e1 with e1;exact e1.symm
 subst e3;obtain⟨cs,hcs⟩:∃cs,look id s.o=some cs:=by
  unfold eS at hO;split at hO
  ·rename_i cs l h1 h2;exact⟨cs,h1⟩
  ·cases hO
 obtain⟨g0,_,_,e4,_,_⟩:=hs.hs.objs id cs hcs (by rw[e2];rfl)
 letI:GS:=⟨g0⟩
 exact AQ hs id sid hc e4 ⟨xs,q1,q2,q3⟩ k hO hr hb hv hd hok
end
def jR(d:Option Tmp)(ar1:br)(O1:List (Nat×List AV))(V1:AV)(s:AS):AS:=(gt 440009 ar1 ((dF (b8 (bV 440001 440009)) O1 [(440001,440001)]).getD []) s).put d ((dE (b8 (bV 440001 440009)) V1).getD .any)
def zG(s:AS):Bool:=match look 440001 s.o with
 | some (.ref i::_)=>Nat.beq i 440009
 | _=>false
theorem M0[GS]{P:Program}{n:Nat}{ops:Array Oper}{s:AS}{o:Oper}{dl:Nat}{g:FuncId}{args:List AV}{V1:AV}{O O1:List (Nat×List AV)}{ar ar1:br}(hc:eG P g args O ar (fun v s1=>v=V1∧cn s1.o O1∧look 440009 s1.r=some ar1))
  (hlk:look dl s.t=some (.lk 440001 (.pointer (some ⟨GS.g,0,none⟩)))) (hno:∀(j:Nat) (o':Oper),ops[j]?=some o'→o'.dst≠some dl) (h1:kF s o (bV 440001 440009)=some (g,args)) (hcl:cf P g=true)
  (hO:eS (bV 440001 440009) s.o [(440001,440001)]=some O) (hr:look 440009 s.r=some ar) (hb:(dF (b8 (bV 440001 440009)) O1 [(440001,440001)]).isSome=true) (hv:(dE (b8 (bV 440001 440009)) V1).isSome=true)
  (hd:cm n o.dst=true) (hok:je s 440001 440009=true) (hH:zG s=true):yF P n ops s (jR o.dst ar1 O1 V1 s) o:=by
 refine⟨dl,_,hlk,hno,fun cx hP hn fl a w ι hs hg hop Kn Q hk=>?_⟩;subst hP;subst hn;obtain⟨o2,hb2⟩:=Option.isSome_iff_exists.1 hb;obtain⟨V2,hv2⟩:=Option.isSome_iff_exists.1 hv;have h1':kF (s.tt (bS fl s.t)) o (bV 440001 440009)=some (g,args):=by
  unfold kF at h1⊢;split at h1
  case h_2=>cases h1
  rename_i cl hcop;split at h1
  case h_2=>cases h1
  rename_i fo hcal;have e1:(s.tt (bS fl s.t)).ev fo=s.ev fo:=by
   cases fo with
   | tmp t =>
    show look t (bS _ _)=look t _;rw[dx,if_pos (hop (.tmp t) t (by simp[hcop,Op.operands,Call.operands,hcal]) rfl)]
   | const v=>rfl
   | func g=>rfl
   | global g=>rfl
  have e2:cG (s.tt (bS fl s.t)) cl.args.toList=cG s cl.args.toList:=mg (fun x hx=>by
   cases x with
   | tmp t =>
    show look t (bS _ _)=look t _;rw[dx,if_pos (hop (.tmp t) t (by simp[hcop,Op.operands,Call.operands,hcal];exact .inr (Array.mem_toList_iff.1 hx)) rfl)]
   | const v=>rfl
   | func g=>rfl
   | global g=>rfl)
  simp only[hcop,hcal,e1,e2];exact h1
 refine HY hs 440001 440009 hc hg (BM hs h1' hcl) hO hr hb2 hv2 hd hok (fun x w' ι1 hsim=>hk _ _ _ _ (fun id hne hid=>?_) ?_ ?_ ?_ (fun t v ht hl=>?_) hsim)
 ·unfold dk;by_cases e:id=440009
  ·exfalso;unfold zG at hH;split at hH
   case h_2=>cases hH
   rename_i q r hq;obtain⟨g0,T,vs,e1,e2,e3⟩:=hs.hs.objs 440001 _ hq (by rw[hg];rfl);have hlt:0<vs.toList.length:=by rw[←e3.len];simp
   have:=e3.rel 0 _ _ rfl (List.getElem?_eq_getElem hlt);rw[Nat.eq_of_beq_eq_true hH]at this;generalize vs.toList[0]=y at this;cases this with
   | ref _ _ A n c h=>rw[e,h]at hid;cases hid
  ·rw[if_neg e];exact hid
 ·unfold jR;rw[hb2,hv2];cases o.dst<;>rfl
 ·unfold jR;rw[hb2,hv2];cases o.dst<;>rfl
 ·unfold jR;rw[hb2,hv2];cases o.dst<;>rfl
 ·unfold jR at hl;rw[hb2,hv2]at hl;simp only[Option.getD_some]at hl;cases hdd:o.dst with
  | none =>
   rw[hdd]at hl ht;rcases ht with ht|ht
   ·show look t (cQ _ (bS _ _))=_;rw[oq,dx,if_pos ht];exact hl
   ·cases ht
  | some d =>
   rw[hdd]at hl ht;simp only[AS.put,gt,ca]at hl⊢;by_cases e:t=d
   ·rw[if_pos e]at hl⊢;exact hl
   ·rw[if_neg e]at hl⊢;rcases ht with ht|ht
    ·show look t (cQ _ (bS _ _))=_;rw[oq,dx,if_pos ht];exact hl
    ·injection ht with ht;exact(e ht).elim
section
variable{P:Program}{n:Nat}{s0:AS}{all:Array Oper}{K:Nat}{σs:List AS}{o:Oper}
theorem IP[GS](m dl:Nat){g:FuncId}{args:List AV}{V1:AV}{O O1:List (Nat×List AV)}{ar ar1:br}(hc:eG P g args O ar (fun v s1=>v=V1∧cn s1.o O1∧look 440009 s1.r=some ar1))
  (hcl:cf P g=true:=by kernel_rfl) (he:jR o.dst ar1 O1 V1 (nth σs m)=nth σs (m+1):=by kernel_rfl) (hlk:look dl (nth σs m).t=some (.lk 440001 (.pointer (some ⟨GS.g,0,none⟩))):=by kernel_rfl) (hno:ui dl all.toList=true:=by kernel_rfl) (hgd:o.guard.isNone=true:=by kernel_rfl)
  (h1:kF (nth σs m) o (bV 440001 440009)=some (g,args):=by kernel_rfl)
  (hO:eS (bV 440001 440009) (nth σs m).o [(440001,440001)]=some O:=by kernel_rfl) (hr:look 440009 (nth σs m).r=some ar:=by kernel_rfl) (hb:(dF (b8 (bV 440001 440009)) O1 [(440001,440001)]).isSome=true:=by kernel_rfl) (hv:(dE (b8 (bV 440001 440009)) V1).isSome=true:=by kernel_rfl)
  (hd:cm n o.dst=true:=by kernel_rfl) (hok:je (nth σs m) 440001 440009=true:=by kernel_rfl) (hH:zG (nth σs m)=true:=by kernel_rfl):dQ P n s0 all K σs o (.s (m+1)):=by
 have h:=M0 (ops:=all) hc hlk (fun j o' hj=>Iv hno o' (Array.mem_toList_iff.2 (Array.mem_of_getElem? hj))) h1 hcl hO hr hb hv hd hok hH;rw[he]at h;exact⟨by simpa using hgd,.inr h⟩
end
end Go.Proofs.YtocgkfoifehcbaaGreat
