/- Calls that lean on what two of Go's tables hold: utf8.ValidString. -/
import Derived.Test.YtnpmlepplfaijaaDoorInVv
import Derived.Test.YtnpmlepplfaijaaDoorProg
import Derived.Shelf.Unicode.ValidAny
namespace Go.Proofs.YtnpmlepplfaijaaDoor
set_option linter.all false
set_option maxRecDepth 100000
open Go.RowKit Go.Shelf
def uE:Go.Shelf.Ren:=⟨fun|196=>6|259=>13|n=>n,fun|9=>9|4=>4|3=>3|5=>5|12=>12|119=>59|0=>0|46=>63|139=>62|138=>61|53=>71|n=>n,fun|3=>0|4=>1|n=>n⟩
theorem wH:Lays.n196 Tryd.prog uE:={
  mixed:=by kernel_rfl,
  f196:=Tryd.func6.trans (congrArg some (by kernel_rfl)),
  f259:=Tryd.func13.trans (congrArg some (by kernel_rfl)),
  t0:=Tryd.underlying0,
  a0:=Tryd.isAgg0,
  z0:=Tryd.sizeOf0,
  v0:=Tryd.zeroValue0,
  t3:=Tryd.underlying3,
  a3:=Tryd.isAgg3,
  z3:=Tryd.sizeOf3,
  v3:=Tryd.zeroValue3,
  t4:=Tryd.underlying4,
  a4:=Tryd.isAgg4,
  z4:=Tryd.sizeOf4,
  v4:=Tryd.zeroValue4,
  t5:=Tryd.underlying5,
  a5:=Tryd.isAgg5,
  z5:=Tryd.sizeOf5,
  v5:=Tryd.zeroValue5,
  t9:=Tryd.underlying9,
  a9:=Tryd.isAgg9,
  z9:=Tryd.sizeOf9,
  v9:=Tryd.zeroValue9,
  t12:=Tryd.underlying12,
  a12:=Tryd.isAgg12,
  z12:=Tryd.sizeOf12,
  v12:=Tryd.zeroValue12,
  t46:=Tryd.underlying63,
  a46:=Tryd.isAgg63,
  z46:=Tryd.sizeOf63,
  v46:=Tryd.zeroValue63,
  t53:=Tryd.underlying71,
  a53:=Tryd.isAgg71,
  z53:=Tryd.sizeOf71,
  v53:=Tryd.zeroValue71,
  t119:=Tryd.underlying59,
  a119:=Tryd.isAgg59,
  z119:=Tryd.sizeOf59,
  t138:=Tryd.underlying61,
  a138:=Tryd.isAgg61,
  z138:=Tryd.sizeOf61,
  v138:=Tryd.zeroValue61,
  t139:=Tryd.underlying62,
  a139:=Tryd.isAgg62,
  z139:=Tryd.sizeOf62,
  v139:=Tryd.zeroValue62,
  g3:=by kernel_rfl,
  g4:=by kernel_rfl }
def Tb(w:World):Prop:=Lib.Utf8Tabs (uE.g 3) (uE.g 4) w
theorem Tb.later{w w':World}(h:Tb w)(hb:Below w.heap.size w w'):Tb w':=Utf8Tabs_below h hb
class TF (b:aC):Prop where
 t:∃W,b=gL W∧Tb W
theorem TF.at{cx:Cx}{s:AS}{a:Act}{w:World}{ι:Env}(h:TF cx.w0)(hs:aI cx s a w ι):Tb w:=by
 obtain⟨W,e,hW⟩:=h.t;have hb:=hs.hs.below;rw[e]at hb;exact hW.later hb.plain
def gi(P:Program)(f:FuncId)(args:List AV)(Q:AV→AS→Prop):Prop :=
 ∀(M:Nat→Prop) (w:World) (xs:Array Value),(∀b,M b→b<w.heap.size)→Tb w→pC M w args xs →
  Calls P f xs w fun e w'=>∃x v s ι,e=.returned x∧Q v s∧HS M (gL w) w' ι s∧Rel (NN M ι) w' ι v x
theorem Ld{P:Program}{f:FuncId}{fn:Func}{c:Code}{args:List AV}{Q:AV→AS→Prop}(hf:P.funcs[f]?=some fn)(hb:fn.body=some c)(n:Nat)(hn:fn.ntmps=n)(hl:args.length≤n)
  (h:∀M w0,TF w0→VE ⟨P,n,M,w0⟩ (bodyPost P fn (bu M w0 Q)) [.c c] .normal ⟨idxs 0 args,[],[],[]⟩):gi P f args Q:=by
 intro M w xs hM hT hx;refine calls_of_wp hf hb ?_;refine wp_mono (h M (gL w) ⟨w,rfl,hT⟩ { tmps:=xs++Array.replicate (fn.ntmps-xs.size) undef,defers:=[] } w bm ?_) (fun e a w' hq=>?_)
 ·refine⟨⟨⟨rfl,rfl,rfl,Nat.le_refl _,fun _ _ _=>rfl⟩,fun b hb=>⟨hM b hb,fun h=>h⟩,fun i y hy=>(by cases hy),fun i g hg=>(by cases hg),fun i i' g hg=>(by cases hg),fun i cs hi=>(by cases hi),fun i a hi=>(by cases hi),fun i cs hi=>(by cases hi),fun i a hi=>(by cases hi),fun i v hv=>(by cases hv)⟩,rfl,?_,fun k v hk=>?_⟩
  ·have:=hx.1;simp;omega
  ·rw[rL,if_pos (Nat.zero_le _),Nat.sub_zero]at hk;have hlt:k<xs.size:=by rw[←hx.1];exact(List.getElem?_eq_some_iff.1 hk).1
   refine⟨xs[k],?_,(hx.2 k v _ hk (Array.getElem?_eq_getElem hlt)).mono (Nat.le_refl _) (fun b _ hb=>?_) (fun _ _ _=>rfl) (fun _ _ h=>h)⟩
   ·simp only[];rw[Array.getElem?_append_left hlt,Array.getElem?_eq_getElem hlt]
   ·rcases hb with hb|⟨id,hb⟩
    ·exact hb
    ·cases hb
 ·cases e<;>exact hq
theorem Hg{cx:Cx}[hT:TF cx.w0]{Q:Exit→Act→World→Prop}{ks:List av}{s:AS}{all:Array Oper}{o:Oper}{r:List Oper}{c:Call}{fo:Operand}{f:FuncId}{aK l:List AV}{Qf:AV→AS→Prop}
  (hc:gi cx.P f (l.map eH++aK) Qf)
  (hg:o.guard=none) (ho:o.op=.call c) (hcal:c.callee=.value fo) (hf:s.ev fo=some (.fn f aK)) (hcl:cc cx.P f=true) (hd:ci cx.n o.dst=true) (hl:cw s c.args.toList=some l) (hp:cF [] l=true)
  (k:∀v s1,Qf v s1→v.ca []=true∧OT cx Q ks all r (s.put o.dst v)):OT cx Q ks all (o::r) s:=fun a w ι hs=>by
 refine wpList_plain hg fun K hK=>?_;unfold Oper.wp;obtain⟨ys,hrc,hc1,hc2⟩:=iC hs ho hcal hf hcl;rw[hrc,Oper.upon_enter];refine (hc (NN cx.M ι) w _ (fun b hb=>iv hs.hs hb) (hT.at hs) (oa hs hl hp hc1 hc2)).mono ?_
 rintro e w' ⟨x,v,s1,ι1,rfl,hq,hhs,hr⟩
 obtain⟨hpure,hk⟩:=k v s1 hq;have h3:Rel (NN cx.M ι) w' ι v x:=(hr.pure hpure ι).mono (Nat.le_refl _) (fun b _ hb=>.inl hb) (fun _ _ _=>rfl) (fun _ _ h=>h);exact hK _ _ (hk _ _ _ ((hs.later hhs.below.plain).put (eU hd) h3))
theorem Hm{cx:Cx}[hT:TF cx.w0]{Q:Exit→Act→World→Prop}{ks:List av}{s:AS}{all:Array Oper}{o:Oper}{r:List Oper}{c:Call}{fo:Operand}{f:FuncId}{aK l args:List AV}{V:AV}
  (hc:gi cx.P f args (fun v _=>v=V))
  (hg:o.guard=none) (ho:o.op=.call c) (hcal:c.callee=.value fo) (hf:s.ev fo=some (.fn f aK)) (hcl:cc cx.P f=true) (hd:ci cx.n o.dst=true) (hl:cw s c.args.toList=some l) (ha:l.map eH++aK=args) (hp:cF [] l=true)
  (hv:V.ca []=true) (k:OT cx Q ks all r (s.put o.dst V)):OT cx Q ks all (o::r) s :=
 Hg (l:=l) (ha ▸ hc) hg ho hcal hf hcl hd hl hp (fun v s1 h=>by subst h;exact⟨hv,k⟩)
section
variable{cx:Cx}[hT:TF cx.w0]{Q:Exit→Act→World→Prop}{ks:List av}{s:AS}
theorem Ao{all:Array Oper}{r:List Oper}(o:Oper)(hg:o.guard=none){f:FuncId}{args:List AV}{V:AV}(h1:dt s o=some (f,args))(hd:ci cx.n o.dst=true)(hcl:cc cx.P f=true)(hc:gi cx.P f args (fun v _=>v=V))(hv:V.ca []=true)(k:OT cx Q ks all r (s.put o.dst V)):OT cx Q ks all (o::r) s:=by
 unfold dt at h1;split at h1
 ·rename_i c hop;split at h1
  ·rename_i fo hcal;split at h1
   ·rename_i f' aK l hf hl;split at h1
    ·rename_i hu;injection h1 with h1;injection h1 with e1 e2;subst e1
     exact Hm hc hg hop hcal hf hcl hd hl e2 hu hv k
    ·cases h1
   ·cases h1
  ·cases h1
 ·cases h1
theorem FZ{all:Array Oper}{l r:List Oper}(o:Oper){f:FuncId}{args:List AV}{V:AV}(hl:l=o::r)(hg:bP all s o=true)(hc:gi cx.P f args (fun v _=>v=V))(hcl:cc cx.P f=true)(h1:dt s o=some (f,args))(hv:(ci cx.n o.dst&&V.ca [])=true)(k:OT cx Q ks all r (s.put o.dst V)):OT cx Q ks all l s:=by
 subst hl;simp only[Bool.and_eq_true]at hv;unfold bP at hg;split at hg
 ·rename_i h0;exact Ao o h0 h1 hv.1 hcl hc hv.2 k
 ·rename_i j b h0;split at hg
  ·rename_i v hv0;obtain⟨og,d,g1,g2,g3⟩:=gC hv0;have hb:v=b:=by cases v<;>cases b<;>simp at hg⊢
   subst hb;exact jJ h0 g1 g2 g3 (Ao { o with guard:=none } rfl h1 hv.1 hcl hc hv.2 k)
  ·cases hg
theorem xz{all:Array Oper}{f:Func}{p:List Nat}{i:Nat}{g:FuncId}{args:List AV}{V:AV}(hc:gi cx.P g args (fun v _=>v=V))(k:OT cx Q ks all (aL f p (i+1)) (s.put (aV f p i).dst V))(hl:aL f p i=aV f p i::aL f p (i+1):=by kernel_rfl)(hg:bP all s (aV f p i)=true:=by kernel_rfl)(hcl:cc cx.P g=true:=by kernel_rfl)
  (h1:dt s (aV f p i)=some (g,args):=by kernel_rfl) (hv:(ci cx.n (aV f p i).dst&&V.ca [])=true:=by kernel_rfl):OT cx Q ks all (aL f p i) s:=FZ _ hl hg hc hcl h1 hv k
end
theorem HN{s:ByteArray}(h:s.size≤9223372036854775807):gi Tryd.prog 6 [.str s] (fun v _=>v=.bool (Lib.validD s.data.toList)):=by
 intro M w xs hM hT hx;obtain⟨h1,h2⟩:=hx;have hl:xs.toList.length=1:=by rw[Array.length_toList];exact h1.symm
 obtain⟨x,e⟩:=List.length_eq_one_iff.1 hl;have hxs:xs = #[x]:=by apply Array.ext';simpa using e
 subst hxs;have hr:=h2 0 _ _ rfl rfl;cases hr;refine (Any.utf8_ValidString wH s w h hT).mono ?_
 rintro e w' ⟨rfl,hb⟩
 refine⟨_,_,⟨[],[],[],[]⟩,bm,rfl,rfl,?_,.bool _ _⟩;exact⟨⟨hb.os,hb.tape,hb.output,hb.size,fun k hk _=>hb.block k hk⟩,fun b hb'=>⟨hM b hb',fun h=>h⟩,fun i y hy=>(by cases hy),fun i g hg=>(by cases hg),fun i i' g hg=>(by cases hg),fun i cs hi=>(by cases hi),fun i a hi=>(by cases hi),fun i cs hi=>(by cases hi),fun i a hi=>(by cases hi),fun i v hv=>(by cases hv)⟩
theorem GC{P:Program}{f:FuncId}{as_:List AV}(h:gi P f as_ (fun v _=>v=.bool true)){W:World}(hT:Tb W){xs:List Value}(hl:as_.length=xs.length)(hx:∀(i:Nat) (a:AV) (v:Value),as_[i]?=some a→xs[i]?=some v→Rel (fun _=>False) W bm a v):
  Calls P f xs.toArray W fun e W'=>e=.returned (.bool true)∧Below W.heap.size W W':=by
 refine (h (fun _=>False) W xs.toArray (fun b hb=>hb.elim) hT ⟨by simpa using hl,fun i v y h1 h2=>hx i v y h1 (by simpa using h2)⟩).mono ?_
 rintro e w' ⟨x,v,s,ι,rfl,rfl,hs,hr⟩
 cases hr;exact⟨rfl,hs.below.plain⟩
end Go.Proofs.YtnpmlepplfaijaaDoor
