/- String of a strings.Builder that holds nothing. -/
import Derived.Test.YtocgkfoifehcbaaGreatRpZ2
namespace Go.Proofs.YtocgkfoifehcbaaGreat
set_option linter.all false
open Go.RowKit
def ami:=@Lib.run_unsafeString_none
set_option maxHeartbeats 2000000 in
set_option maxRecDepth 100000 in
theorem Z2(b:Nat)(p:Value)(w:World)(a:w.heap[b]?=some (.cells #[p,.slice none 0 0] 119 (0,0))):
  Calls Tryz.prog 71 #[.pointer (some ⟨b,0,none⟩)] w fun e w'=>e=.returned (.string ⟨#[]⟩)∧Below w.heap.size w w':=by
 have c1:w.drew.cell? ⟨b,1,none⟩=some (.slice none 0 0):=by
  have:w.drew.heap[b]?=some (.cells #[p,.slice none 0 0] 119 (0,0)):=a;rw[al0 this];rfl
 have c:(Builtin.unsafeSliceData_ #[117] 173 #[.slice none 0 0]).run Tryz.prog w.drew=.ok (.pointer none) w.drew:=rfl;have d:∀W q,(Builtin.unsafeString_ #[173,3] 9 #[.pointer q,.int .i64 0]).run Tryz.prog W=.ok (.string .empty) W:=fun W q=>ami W _ _ _ q
 go_enter anC,ans
 go_wp2
 go_region
 all_goals (go_wp2;go_ret;exact⟨rfl,Below.drew (anI _ w)⟩)
set_option maxHeartbeats 2000000 in
set_option maxRecDepth 100000 in
theorem ajY(b g:Nat)(p:Value)(a:Array Value)(w:World)(c:w.heap[b]?=some (.cells #[p,.slice (some ⟨g,0,none⟩) 0 0] 119 (0,0)))(l:w.heap[g]?=some (.cells a 5 (0,0))):
  Calls Tryz.prog 71 #[.pointer (some ⟨b,0,none⟩)] w fun e w'=>e=.returned (.string ⟨#[]⟩)∧Below w.heap.size w w':=by
 have k:∀W q,(Builtin.unsafeString_ #[173,3] 9 #[.pointer q,.int .i64 0]).run Tryz.prog W=.ok (.string .empty) W:=fun W q=>ami W _ _ _ q;have h:b<w.heap.size:=by
  rcases Nat.lt_or_ge b w.heap.size with d|d
  ·exact d
  ·simp[Array.getElem?_eq_none d]at c
 have c1:w.drew.cell? ⟨b,1,none⟩=some (.slice (some ⟨g,0,none⟩) 0 0):=by
  have:w.drew.heap[b]?=some (.cells #[p,.slice (some ⟨g,0,none⟩) 0 0] 119 (0,0)):=c;rw[al0 this];rfl
 have j:(Builtin.unsafeSliceData_ #[117] 173 #[.slice (some ⟨g,0,none⟩) 0 0]).run Tryz.prog w.drew=.ok (.pointer (some ⟨w.drew.heap.size,0,none⟩)) (w.drew.alloc (.view ⟨g,0,none⟩ 5)) :=
  Lib.run_unsafeSliceData_zero w.drew _ _ 5 (by kernel_rfl) ⟨g,0,none⟩ 0 (5,a.size) (by have f:w.drew.heap[g]?=some (.cells a 5 (0,0)):=l;simp[World.shape?,f])
 have i:(w.drew.alloc (.view ⟨g,0,none⟩ 5)).cell? ⟨b,1,none⟩=some (.slice (some ⟨g,0,none⟩) 0 0):=by
  have:(w.drew.alloc (.view ⟨g,0,none⟩ 5)).heap[b]?=_:=(Lib.alloc_old w.drew _ b h).trans c;rw[al0 this];rfl
 have m:(w.alloc (.view ⟨g,0,none⟩ 5)).drew.cell? ⟨b,1,none⟩=some (.slice (some ⟨g,0,none⟩) 0 0):=i;have c0:w.cell? ⟨b,1,none⟩=some (.slice (some ⟨g,0,none⟩) 0 0):=c1
 go_enter anC,ans
 go_wp2
 go_region
 all_goals (go_wp2;go_ret;exact⟨rfl,(Below.drew (anI _ w)).alloc (h7 _) _⟩)
set_option maxHeartbeats 2000000 in
set_option maxRecDepth 100000 in
theorem abG(b g a:Nat)(p:Value)(w:World)(c:a≠0)(d:w.heap[b]?=some (.cells #[p,.slice (some ⟨g,0,none⟩) 0 a] 119 (0,0))):
  Calls Tryz.prog 71 #[.pointer (some ⟨b,0,none⟩)] w fun e w'=>e=.returned (.string ⟨#[]⟩)∧Below w.heap.size w w':=by
 have h:∀W q,(Builtin.unsafeString_ #[173,3] 9 #[.pointer q,.int .i64 0]).run Tryz.prog W=.ok (.string .empty) W:=fun W q=>ami W _ _ _ q;have c1:w.drew.cell? ⟨b,1,none⟩=some (.slice (some ⟨g,0,none⟩) 0 a):=by
  have:w.drew.heap[b]?=some (.cells #[p,.slice (some ⟨g,0,none⟩) 0 a] 119 (0,0)):=d;rw[al0 this];rfl
 have f:(Builtin.unsafeSliceData_ #[117] 173 #[.slice (some ⟨g,0,none⟩) 0 a]).run Tryz.prog w.drew=.ok (.pointer (some ⟨g,0,none⟩)) w.drew :=
  amS _ _ _ _ _ _ c
 clear c
 go_enter anC,ans
 go_wp2
 go_region
 all_goals (go_wp2;go_ret;exact⟨rfl,Below.drew (anI _ w)⟩)
variable[FM]
section
variable{l:Cx}{Q:Exit→Act→World→Prop}{m:ck}{s:AS}{d:Array Oper}{f:Func}{p:d4}{i:Nat}
theorem agq(id P:Nat)(k:OT l Q m d (aJ f p (i+1)) (s.put (aL f p i).dst (.str ⟨#[]⟩)))(V:l.P=Tryz.prog:=by rfl)
  (hl:aJ f p i=aL f p i::aJ f p (i+1):=by kernel_rfl) (hg:cv d s (aL f p i)=true:=by kernel_rfl) (h:yF 71 s (aL f p i)=some (.ptr id 0):=by kernel_rfl)
  (q:D5 id P 119 5 s=some []:=by kernel_rfl) (hd:cQ l.n (aL f p i).dst=true:=by kernel_rfl):OT l Q m d (aJ f p i) s:=by
 rw[hl];refine eL _ hg fun a w ι u=>?_;refine v9 rfl fun K hK=>?_;have J:cN l.P 71=true:=by rw[V];kernel_rfl
 obtain⟨x,hx,M⟩:=JP u h J;cases hx with
 | ptr _ _ _ g Y =>
 unfold D5 at q;split at q
 case h_2=>cases q
 rename_i c0 j ar X ho ha;split at q
 case h_2=>cases q
 rename_i z;simp only[g6]at X z;obtain⟨⟨z,t⟩,d0⟩:=z;have z:=iO z;subst z;have t:=iO t;injection q with q
 obtain⟨⟨⟨⟨t1,t2⟩,t3⟩,t4⟩,t5⟩:=X;obtain⟨g',T,vs,o,F,S⟩:=u.hs.objs id _ ho (by rw[Y];rfl);rw[Y]at o;injection o with o;injection o with o;injection o with o;injection o with o;subst o
 have hT:T.1=119:=by
  rw[T.2 (hF t1) (anc (hF t2))];exact(iO t3).symm
 have N:vs.size=2:=by have:=S.len;simp at this;omega
 obtain⟨E,R,rfl⟩:∃E R,vs = #[E,R]:=⟨vs[0],vs[1],by apply anN (by simp[N]);intro i B G;simp at G;rcases i with _|_|i;rfl;rfl;omega⟩;have r1:=S.rel 1 _ R rfl rfl;rw[hT]at F;cases r1 with
 | ref _ _ A n c H =>
 obtain⟨v,xs,B,G,h3,h4,h5⟩:=u.hs.arrs j ar ha (by rw[H];rfl);rw[H]at B;injection B with B;subst B
 rw[q,t]at G;have H:Calls Tryz.prog 71 #[.pointer (some ⟨g,0,none⟩)] w fun e w'=>e=.returned (.string ⟨#[]⟩)∧Below w.heap.size w w':=by
  obtain⟨O,q2⟩|⟨U,Z,I,hv,a0,L,hn,W,b0,e0⟩:=G.2
  ·injection O with O q3 q4
   subst O;subst q3;subst q4;exact Z2 g E w F
  ·injection hv with v1 v2 v3
   subst v1;subst v2;subst v3;by_cases C:c=0
   ·subst C;exact ajY g U E I w F L
   ·exact abG g U c E w C F
 refine dK ?_;rw[M,iL,V];refine H.mono ?_
 rintro e w' ⟨rfl,r⟩
 have D:aI l s a w' ι:=⟨u.hs.mj r,u.dfr,u.n,fun k v hk=>by
  obtain⟨y,hy,M⟩:=u.tmp k v hk;exact⟨y,hy,M.mono r.size (fun b _ h=>h) (fun b q _=>r.block b q) (fun _ _ h=>h)⟩⟩
 exact hK _ _ (k _ _ _ (D.put (ge hd) (.str _ _)))
end
end Go.Proofs.YtocgkfoifehcbaaGreat
