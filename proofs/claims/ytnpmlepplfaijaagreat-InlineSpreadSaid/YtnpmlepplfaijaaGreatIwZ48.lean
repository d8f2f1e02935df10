/- An inline block is placed as the reference places it, plain. -/
import Derived.Test.YtnpmlepplfaijaaGreatIwZ46
import Derived.Test.YtnpmlepplfaijaaGreatIwGm
import Derived.Test.YtnpmlepplfaijaaGreatIwGop
namespace Go.Proofs.YtnpmlepplfaijaaGreat
set_option linter.all false
open Go.RowKit
noncomputable section
theorem Sf(l:cr)(w:Int):(bP l w).2=(l.Kind == 1||l.Kind == 2):=by
 unfold bP;by_cases h1:l.Kind=1<;>by_cases h2:l.Kind=2<;>simp[h1,h2]
theorem xu{b k:ai}(h:dZ b k):uR 1 b:=⟨by rw[h.kids];simp,.inr fun x hx=>by rw[h.kids]at hx;rw[List.mem_singleton.1 hx];exact h.kind⟩
theorem xz{b k:ai}(h:dZ b k):ca b=[k]:=by
 unfold ca;rw[h.kids,List.filter_cons,if_pos (by unfold hZ;rw[h.kind];rfl)];rfl
theorem Np{b k:ai}(h:dZ b k):(ca b).any dj=false:=by
 rw[xz h];unfold dj;rw[List.any_cons,h.kind];rfl
section
variable{N:Nat}{b k:ai}
theorem abU(h:dZ b k)(hN:20<N):∃x y,iq (KN (N+1)) (N+1) b=some (x,y)∧((bP (dC b.Style).Width 0).2=false→jQ (KN (N+1)) (N+1) b gP=some (x,y)):=by
 have hlen:b.Kids.length≤20:=(xu h).1;have hO:∀x,(KN (N+1)).jn (Fv.fn 102) x=some (dj x):=fun x=>Ae (KN N) N x;have hfl:(ca b).length≤20:=Nat.le_trans sL hlen;refine⟨cn (gp (ca b) 0 0).1,cn (gp (ca b) 0 0).2,?_,fun hk=>?_⟩
 ·unfold iq;rw[z7 _ _ b hlen (by omega),DJ _ _ b hlen (by omega)];have hr:((ca b).any fun k=>k.Kind == 1)=false:=by rw[xz h,List.any_cons,h.kind];rfl
  simp only[Option.bind_some,hr,Bool.not_false,if_true];rw[zg (KN (N+1)) (N+1) (ca b) b.Style hfl (by omega)];rfl
 ·unfold jQ;rw[FT];simp only[Option.bind_some];rw[iV];simp only[Option.bind_some,hk,Bool.false_eq_true,if_false];rw[B9 _ _ hO b hlen (by omega),Np h];simp only[Option.bind_some,Bool.not_false,if_true];rw[show(KN (N+1)).tn gP.Spread (ca b) b.Style=_ from zg (KN N) N (ca b) b.Style hfl (by omega)];rfl
theorem TK(h:dZ b k)(hN:20<N)(w:Int):∃v,mB (KN (N+1)) (N+1) b w gP=some v∧lp (KN (N+1)) (N+1) b w=some v:=by
 obtain⟨x,y,hc,hi⟩:=abU h hN;unfold mB lp;simp only[iV,yB,CJ,Option.bind_some,Fg];cases hw:(bP b.Style.Width w).2 with
 | true =>
  simp only[Bool.not_true,Bool.false_eq_true,if_false,pI,lS,yE,yR,Gz,Option.bind_some];exact⟨_,rfl,rfl⟩
 | false =>
  have hk:(bP (dC b.Style).Width 0).2=false:=by
   rw[Sf]at hw⊢;simp only[Bool.or_eq_false_iff,beq_eq_false_iff_ne]at hw⊢;have:(dC b.Style).Width=b.Style.Width:=by show bE _=_;unfold bE;rw[if_neg hw.2]
   rw[this];exact hw
  simp only[Bool.not_false,if_true,hi hk,hc,Option.bind_some,yd,wP,uy,wB,tW,aa6,pI,lS,yE,yR,Gz];exact⟨_,rfl,rfl⟩
theorem V8(h:dZ b k)(hN:25≤N)(z:aV):∃f,n4 (KN (N+1)) (N+1) b z gP=some f∧ky (KN (N+1)) (N+1) b z=some f∧Fd 2 f:=by
 obtain⟨f,h1,h2,h3,_⟩:=core 0 N b z false (xu h) (by omega) gP ⟨rfl,rfl⟩ (fun k hk=>hk.elim);refine⟨f,?_,?_,h3⟩
 ·unfold n4;simp only[m7,mj,Bool.false_and]at h1;rw[h1];rfl
 ·unfold ky;rw[h2];rfl
theorem Ik(h:dZ b k){M:Nat}(hM:25≤M)(w:Int){n:Nat}(hn:M+10≤n):∃v f,lp (KN n) n b w=some v∧ky (KN n) n b (ec b.Style w v)=some f∧Fd 2 f ∧
  ge M w b={ cq with Width:=jj (ec b.Style w v),Above:=aa (aa (f.H+aa (f.Before.Pos+f.Before.Neg))+aa (f.After.Pos+f.After.Neg)),Box:=[gy f w] }:=by
 obtain⟨v,s1,s2⟩:=TK (N:=M+9) h (by omega) w;obtain⟨f,f1,f2,f3⟩:=V8 (N:=M+9) h (by omega) (ec b.Style w v);refine⟨v,f,VW (xR _ _ hn) hn _ _ _ s2,ac4 (xR _ _ hn) hn _ _ _ f2,f3,?_⟩;unfold ge kE;rw[show mB (KN (M+10)) (M+10) b w gP=_ from s1];simp only[Option.bind_some,wP];rw[show n4 (KN (M+10)) (M+10) b (ec b.Style w v) gP=_ from f1];simp only[Option.bind_some,G8,wB,gk];have e1:(gy f w).H=f.H:=by unfold gy;split<;>rfl
 have e2:(gy f w).Before=f.Before:=by unfold gy;split<;>rfl
 have e3:(gy f w).After=f.After:=by unfold gy;split<;>rfl
 rw[e1,e2,e3];rfl
end
end
end Go.Proofs.YtnpmlepplfaijaaGreat
namespace Go.Proofs.YtnpmlepplfaijaaGreat
set_option linter.all false
open Go.RowKit
noncomputable section
def mJ(b:ByteArray):Bool:=b.data.toList.getLast? == some 32
end
end Go.Proofs.YtnpmlepplfaijaaGreat
namespace Go.Proofs.YtnpmlepplfaijaaGreat
set_option linter.all false
open Go.RowKit
noncomputable section
theorem Pw{x:List aw}(h:∀e∈x,fp e):(dm x).Text.size≤4*x.length:=by
 have:=vq (wj h);unfold dm;simp only[];rw[xb];have:(bJ x).length=x.length:=by unfold bJ;simp
 omega
end
end Go.Proofs.YtnpmlepplfaijaaGreat
namespace Go.Proofs.YtnpmlepplfaijaaGreat
set_option linter.all false
open Go.RowKit
noncomputable section
def ck:Nat→List aw→List (List aw)
 | 0,_=>[]
 | _+1,[]=>[]
 | m+1,e::r=>bif e.Kind == 2||e.Kind == 3 then [e]::ck m r else (e::r.take (jl e.Of e r))::ck m (r.drop (jl e.Of e r))
theorem FN(o:Int):∀(l:List aw) (a:aw),∀y∈l.take (jl o a l),y.Kind=1
 | [],_,y,h=>by simp at h
 | b::r,a,y,h=>by
  unfold jl at h;cases hc:(b.Kind == 1&&(b.Of == o&&!dn a b)) with
  | false=>rw[hc]at h;simp at h
  | true =>
   rw[hc]at h;simp only[cond_true,List.take_succ_cons]at h;rcases List.mem_cons.1 h with rfl|h
   ·simp only[Bool.and_eq_true,beq_iff_eq]at hc;exact hc.1
   ·exact FN o r b y h
def xf(c:List Int):Bool:=c.getLast? == some 32
theorem Xf{r:Int}(h:cE r):∃b,(c6 r).getLast?=some b∧((b == 32)=(r == 32)):=by
 have ne:∀n:Nat,n<256→n≠32→((UInt8.ofNat n) == 32)=false:=fun n h1 h2=>by
  rw[beq_eq_false_iff_ne];intro e;have:=congrArg UInt8.toNat e;rw[d4 h1]at this;exact h2 this
 obtain⟨c,rfl,h|h|h|h⟩:=As h
 ·rw[h.2];refine⟨UInt8.ofNat c,rfl,?_⟩;by_cases e:c=32
  ·subst e;rfl
  ·rw[ne c (by omega) e];symm;rw[beq_eq_false_iff_ne];omega
 ·rw[h.2.2];refine⟨UInt8.ofNat (128+c % 64),rfl,?_⟩;rw[ne (128+c % 64) (by omega) (by omega)];symm;rw[beq_eq_false_iff_ne];omega
 ·rw[h.2.2.2];refine⟨UInt8.ofNat (128+c % 64),rfl,?_⟩;rw[ne (128+c % 64) (by omega) (by omega)];symm;rw[beq_eq_false_iff_ne];omega
 ·rw[h.2.2];refine⟨UInt8.ofNat (128+c % 64),rfl,?_⟩;rw[ne (128+c % 64) (by omega) (by omega)];symm;rw[beq_eq_false_iff_ne];omega
theorem RH{cs:List Int}(h:∀r∈cs,cE r):((cG cs).getLast? == some 32)=xf cs:=by
 unfold xf;cases hc:cs.getLast? with
 | none =>
  have:cs=[]:=by simpa using hc
  subst this;rfl
 | some x =>
  obtain⟨ys,hys⟩:=List.getLast?_eq_some_iff.1 hc;subst hys;obtain⟨b,hb,hbe⟩:=Xf (h x (by simp));rw[xr];have:cG [x]=c6 x:=by simp[cG]
  rw[this,List.getLast?_append,hb];simpa using hbe
theorem Sk{cs:List Int}(h:∀r∈cs,cE r):mJ (dg cs)=xf cs:=by
 unfold mJ;rw[rA];exact RH h
end
end Go.Proofs.YtnpmlepplfaijaaGreat
namespace Go.Proofs.YtnpmlepplfaijaaGreat
set_option linter.all false
open Go.RowKit
noncomputable section
structure nl(e:aw):Prop where
 sft:e.Soft=true→e.Kind=1∧e.Char=32∧e.Box.Style.WhiteSpace≠2
 h32:e.Kind=1→e.Char=32→e.Soft=true∨e.Box.Style.WhiteSpace=2
theorem S2(d:Nat)(bx:List ai):∀e∈cd d bx,nl e :=
 A4 (P:=nl) (fun b num r _ hs=>⟨fun h=>(by cases h),fun _ h=>by
   have e:r=32:=h;subst e;cases hs⟩) (fun _ _=>⟨fun h=>(by cases h),fun h=>by cases h⟩) (fun _ _ hw=>⟨fun h=>(by cases h),fun _ _=>.inr hw⟩) (fun _ _ hw=>⟨fun _=>⟨rfl,rfl,hw⟩,fun _ _=>.inl rfl⟩) (fun _ _=>⟨fun h=>(by cases h),fun h=>by cases h⟩) (fun _ _=>⟨fun h=>(by cases h),fun h=>by cases h⟩) d bx (0,[]) (fun x hx=>by cases hx)
structure OB(c:Int)(E:List aw):Prop where
 le:∀x∈E,x.Of≤c
 one:∀x∈E,∀y∈E,x.Of=y.Of→x.Box=y.Box
structure kh(c:Int)(b:ai)(E:List aw):Prop where
 le:∀x∈E,x.Of≤c∨(x.Of=c+1∧x.Box=b)
 one:∀x∈E,∀y∈E,x.Of=y.Of→x.Box=y.Box
theorem OB.up{c c':Int}{E:List aw}(h:OB c E)(hc:c≤c'):OB c' E:=⟨fun x hx=>Int.le_trans (h.le x hx) hc,h.one⟩
theorem OB.open{c:Int}{E:List aw}(h:OB c E)(b:ai):kh c b E:=⟨fun x hx=>.inl (h.le x hx),h.one⟩
theorem kh.close{c:Int}{b:ai}{E:List aw}(h:kh c b E):OB (c+1) E:=⟨fun x hx=>by rcases h.le x hx with q|q<;>omega,h.one⟩
theorem kh.snoc{c:Int}{b:ai}{E:List aw}(h:kh c b E){e:aw}(h1:e.Of=c+1)(h2:e.Box=b):kh c b (E++[e]):=by
 have key:∀x∈E,x.Of=e.Of→x.Box=e.Box:=fun x hx q=>by
  rcases h.le x hx with r|r
  ·omega
  ·rw[r.2,h2]
 refine⟨fun x hx=>?_,fun x hx y hy q=>?_⟩
 ·rcases List.mem_append.1 hx with hx|hx
  ·exact h.le x hx
  ·rw[List.mem_singleton.1 hx];exact .inr ⟨h1,h2⟩
 ·rcases List.mem_append.1 hx with hx|hx<;>rcases List.mem_append.1 hy with hy|hy
  ·exact h.one x hx y hy q
  ·rw[List.mem_singleton.1 hy]at q⊢;exact key x hx q
  ·rw[List.mem_singleton.1 hx]at q⊢;exact(key y hy q.symm).symm
  ·rw[List.mem_singleton.1 hx,List.mem_singleton.1 hy]
theorem acl{c:Int}{b:ai}{E:List aw}(h:kh c b E){e:aw}(h1:e.Of=c+1)(h2:e.Box=b):kh c b (ig E e):=by
 unfold ig;cases dd e.Char with
 | false=>exact h.snoc h1 h2
 | true =>
  simp only[cond_true];cases fP e with
  | true =>
   simp only[cond_true];cases (e.Char == 10) with
   | true=>exact h.snoc h1 h2
   | false =>
    simp only[cond_false];cases (e.Char == 13) with
    | true=>exact h
    | false=>exact h.snoc h1 h2
  | false =>
   simp only[cond_false];cases hH E with
   | true=>exact h
   | false=>exact h.snoc h1 h2
theorem J6{c:Int}{b:ai}:∀(rs:List Int) {E:List aw},kh c b E→kh c b (gI b (c+1) E rs)
 | [],E,h=>h
 | r::t,E,h=>by
  unfold gI;rw[List.foldl_cons];exact J6 t (acl h rfl rfl)
theorem WK:∀(d:Nat) (L:List ai) (s:Int×List aw),0≤s.1→s.1+bL d L≤1000000→OB s.1 s.2→OB (vM d L s).1 (vM d L s).2:=by
 intro d
 induction d with
 | zero=>intro L s _ _ h;exact h
 | succ d ih =>
  intro L
  induction L with
  | nil=>intro s _ _ h;exact h
  | cons b r ihL =>
   intro s h0 h1 h;have e:bL (d+1) (b::r)=(1+b.Text.size+bL d b.Kids)+bL (d+1) r:=by simp[bL]
   rw[e]at h1;have q1:=Fh d (IU d) s b h0 (by omega);have hws:aa (s.1+1)=s.1+1:=bj (by omega) (by omega);rw[fF,List.foldl_cons,← fF];refine ihL _ (by omega) (by omega) ?_;unfold cV;rw[hws];cases gh b with
   | false=>exact h
   | true =>
    simp only[cond_true];cases (b.Kind == 2) with
    | true=>exact ih _ _ (by show 0≤s.1+1;omega) (by show s.1+1+_≤_;omega) (h.up (by show s.1≤s.1+1;omega))
    | false =>
     simp only[cond_false];cases (b.Kind == 4) with
     | true=>exact((h.open b).snoc rfl rfl).close
     | false =>
      simp only[cond_false];cases (b.Kind == 5) with
      | true=>exact((h.open b).snoc rfl rfl).close
      | false =>
       simp only[cond_false];cases (b.Kind == 3) with
       | true=>exact(J6 _ (h.open b)).close
       | false=>exact h.up (by show s.1≤s.1+1;omega)
theorem acb(d:Nat)(bx:List ai)(hc:bL d bx≤1000000):∀x∈cd d bx,∀y∈cd d bx,x.Of=y.Of→x.Box=y.Box :=
 (WK d bx (0,[]) (Int.le_refl _) (by show(0:Int)+_≤_;omega) ⟨fun x hx=>(by cases hx),fun x hx=>(by cases hx)⟩).one
theorem Fp(o:Int):∀(l:List aw) (a:aw),∀y∈l.take (jl o a l),y.Of=o
 | [],_,y,h=>by simp at h
 | b::r,a,y,h=>by
  unfold jl at h;cases hc:(b.Kind == 1&&(b.Of == o&&!dn a b)) with
  | false=>rw[hc]at h;simp at h
  | true =>
   rw[hc]at h;simp only[cond_true,List.take_succ_cons]at h;rcases List.mem_cons.1 h with rfl|h
   ·simp only[Bool.and_eq_true,beq_iff_eq]at hc;exact hc.2.1
   ·exact Fp o r b y h
theorem T8{x:List aw}(h0:x≠[])(hk:∀e∈x,e.Kind=1)(ho:∀e∈x,fp e)(h2:∀e∈x,nl e)(hb:∀e∈x,e.Box=(x.getD 0 default).Box):(mJ (dm x).Text&&(x.getD 0 default).Box.Style.WhiteSpace != 2)=eA x:=by
 have hl:0<x.length:=List.length_pos_iff.2 h0;have hm:x.getD (x.length-1) default∈x:=by rw[bV (by omega)];exact List.getElem_mem _
 have hlast:(bJ x).getLast?=some (x.getD (x.length-1) default).Char:=by
  unfold bJ;rw[List.getLast?_eq_getElem?,List.length_map,List.getElem?_map,List.getElem?_eq_getElem (by omega),bV (by omega)];rfl
 have e1:mJ (dm x).Text=((x.getD (x.length-1) default).Char == 32):=by
  show mJ (dg (bJ x))=_;rw[Sk (wj ho)];unfold xf;rw[hlast];rfl
 rw[e1,← hb _ hm];have q:=h2 _ hm;have hs:eA x=(x.getD (x.length-1) default).Soft:=rfl;rw[hs];generalize x.getD (x.length-1) default=y at *;cases hy:y.Soft with
 | true =>
  obtain⟨_,c1,c2⟩:=q.sft hy;rw[c1];simpa using c2
 | false =>
  cases hc:(y.Char == 32) with
  | false=>rfl
  | true =>
   rcases q.h32 (hk y hm) (by simpa using hc)with r|r
   ·rw[hy]at r;cases r
   ·rw[r];rfl
end
end Go.Proofs.YtnpmlepplfaijaaGreat
namespace Go.Proofs.YtnpmlepplfaijaaGreat
set_option linter.all false
open Go.RowKit
noncomputable section
theorem abu(K:Kn)(n:Nat)(x:Int)(h1 : -4611686018427387904≤x)(h2:x≤4611686018427387904):uh K n x=some (x / 2):=by
 unfold uh;by_cases h:x<0
 ·rw[if_pos (by simpa using h),bj (n:=1-x) (by omega) (by omega),Int.tdiv_eq_ediv_of_nonneg (by omega),bj (n:=(1-x) / 2) (by omega) (by omega),bj (by omega) (by omega)];congr 1;omega
 ·rw[if_neg (by simpa using h),Int.tdiv_eq_ediv_of_nonneg (by omega),bj (by omega) (by omega)]
theorem O5(K:Kn)(n:Nat)(s:aI)(h1:0≤s.LineHeight)(h2:s.LineHeight≤65536):wV K n s=some (ux s):=by
 rw[←DT K n];unfold jJ wV vd vc qx lX xC lX;simp only[Option.bind_some];have hz:0≤min (max s.FontSize 0) 1048576∧min (max s.FontSize 0) 1048576≤1048576:=by omega
 generalize min (max s.FontSize 0) 1048576=z at *;have e1:aa (z+3)=z+3:=bj (by omega) (by omega);have e2:Int.tdiv (z+3) 4=(z+3) / 4:=Int.tdiv_eq_ediv_of_nonneg (by omega);rw[e1,e2,bj (n:=(z+3) / 4) (by omega) (by omega),bj (n:=z+(z+3) / 4) (by omega) (by omega)];have hm:max s.LineHeight 0=s.LineHeight:=by omega
 rw[hm,bj (n:=s.LineHeight-(z+(z+3) / 4)) (by omega) (by omega),abu K n _ (by omega) (by omega)];rfl
theorem CG(s c:Int):∀(l:List Int) (a:Int),fj s a (l++[c])=aa (fj s a l+fu c s)
 | [],a=>rfl
 | x::t,a=>by rw[List.cons_append];unfold fj;exact CG s c t _
theorem ba_ext'{a b:ByteArray}(h:a.data.toList=b.data.toList):a=b:=by
 apply ByteArray.ext;exact Array.ext' h
theorem QG(a:List Int)(r:Int):dg a++runesBytes [r]=dg (a++[r]):=by
 apply ba_ext';rw[t6,rA,rA,xr];congr 1;unfold runesBytes;simp only[List.foldl_cons,List.foldl_nil];rw[t6];show []++c6 r=cG [r];simp[cG]
theorem OF{a b:ByteArray}(h:a.size+b.size≤100000000):tZ a b=true:=decide_eq_true (Nat.le_trans h (by decide))
theorem aat{r:Int}(h:cE r):(runesBytes [r]).size≤4:=by
 have:(runesBytes [r]).data.toList=c6 r:=by
  unfold runesBytes;simp only[List.foldl_cons,List.foldl_nil];rw[t6];rfl
 rw[←sG,this];exact(uv h).2
section
variable{K:Kn}{n:Nat}{v1:aP}{v4:aI}{v12:Int×Int}{x:List aw}
theorem U0(hT:f0 x v1.Things)(hk:∀e∈x,e.Kind=1)(ho:∀e∈x,fp e)(hl:x.length≤2000)(hn:101≤n):∀(m i:Nat),i<x.length→x.length<m+i →
  kH K n v1 v4 v12 m (i:Int) (dg ((bJ x).take i)) (fj v4.FontSize 0 ((bJ x).take i)) 0=some ⟨v1.Things,dg (bJ x),fj v4.FontSize 0 (jK x),bif eA x then fu 32 v4.FontSize else 0,v12.1,v12.2,v1.Glued,v1.Forced,[]⟩:=by
 have hlen:=Ar _ _ hT;have hcl:(bJ x).length=x.length:=by unfold bJ;simp
 have hel:∀i,i<x.length→fN (x.getD i default) (v1.Things.getD i default):=fun i hi=>by
  have h1:=xI i _ _ hT;have hi2:i<v1.Things.length:=by omega
  rw[List.drop_eq_getElem_cons hi,List.drop_eq_getElem_cons hi2]at h1;rw[bV hi,bV hi2];exact h1.1
 intro m
 induction m with
 | zero=>intro i h1 h2;omega
 | succ m ih =>
  intro i hi h2;show ms K n v1 v4 v12 (kH K n v1 v4 v12 m) i _ _ _=_;unfold ms;have hm:x.getD i default∈x:=by rw[bV hi];exact List.getElem_mem _
  have he:=hel i hi;have hch:(v1.Things.getD i default).Char=(x.getD i default).Char:=he.char (hk _ hm);have hok:=ho _ hm;have ht:(bJ x).take (i+1)=(bJ x).take i++[(x.getD i default).Char]:=by
   rw[List.take_add_one,List.getElem?_eq_getElem (by rw[hcl];exact hi),bV hi];simp[bJ]
  have hoks:∀r∈(bJ x).take i,cE r:=fun r hr=>wj ho r (List.mem_of_mem_take hr);have hsz:(dg ((bJ x).take i)).size≤4*((bJ x).take i).length:=by rw[xb];exact(vq hoks).2
  have hsz2:=aat hok.ch;have htl:((bJ x).take i).length≤2000:=by rw[List.length_take];omega
  have hw:aa ((i:Int)+1)=((i+1:Nat):Int):=by rw[bj (by omega) (by omega)];omega
  have hw1:aa ((v1.Things.length:Int)-1)=((x.length-1:Nat):Int):=by rw[bj (by omega) (by omega)];omega
  rw[if_pos (by simp;omega),bT (by omega) (by omega),aZ,Int.toNat_natCast,hch,Wf hn,Option.bind_some,OF (by omega),aZ,Option.bind_some,QG,← ht,hw1,he.soft];by_cases hlast:i+1<x.length
  ·have e:((i:Int) == ((x.length-1:Nat):Int))=false:=by simp;omega
   have fin:mi K n v1 v4 v12 (i:Int) (fj v4.FontSize 0 ((bJ x).take i)) 0 (fu (x.getD i default).Char v4.FontSize) (dg ((bJ x).take (i+1))) (kH K n v1 v4 v12 m) false=some ⟨v1.Things,dg (bJ x),fj v4.FontSize 0 (jK x),bif eA x then fu 32 v4.FontSize else 0,v12.1,v12.2,v1.Glued,v1.Forced,[]⟩:=by
    unfold mi qn;rw[if_neg (by simp),hw,← CG,← ht];exact ih (i+1) hlast (by omega)
   rw[e];split<;>exact fin
  ·have hil:i+1=x.length:=by omega
   have e:((i:Int) == ((x.length-1:Nat):Int))=true:=by simp;omega
   have hs:(x.getD i default).Soft=eA x:=by unfold eA;rw[←hil,Nat.add_sub_cancel]
   have hall:(bJ x).take (i+1)=bJ x:=List.take_of_length_le (by omega);have hdl:(bJ x).dropLast=(bJ x).take i:=by rw[List.dropLast_eq_take,hcl,← hil,Nat.add_sub_cancel]
   obtain⟨m,rfl⟩:∃m',m=m'+1:=⟨m-1,by omega⟩;have stop:∀W S,kH K n v1 v4 v12 (m+1) ((i+1:Nat):Int) (dg ((bJ x).take (i+1))) W S=some ⟨v1.Things,dg (bJ x),W,S,v12.1,v12.2,v1.Glued,v1.Forced,[]⟩:=fun W S=>by
    show ms K n v1 v4 v12 (kH K n v1 v4 v12 m) _ _ _ _=_;unfold ms;rw[if_neg (by simp;omega),hall]
   rw[e,hs];cases hso:eA x with
   | true =>
    have h32:(x.getD i default).Char=32:=hok.soft (by rw[hs];exact hso);rw[if_pos rfl];unfold mi qn;rw[if_pos rfl,hw,stop,h32];unfold jK;rw[hso,← hdl];rfl
   | false =>
    rw[if_neg (by simp)];unfold mi qn;rw[if_neg (by simp),hw,stop,← CG,← ht,hall];unfold jK;rw[hso];rfl
end
structure sZ(r:ay)(y:aP):Prop where
 things:∃t s,y.Things=t::s∧r.Node=t.Box.Node∧r.Style=t.Box.Style
 text:y.Text=r.Text
 width:y.Width=r.Width
 space:y.Space=r.Space
 above:y.Above=r.Above
 below:y.Below=r.Below
 glued:y.Glued=r.Glued
 forced:y.Forced=r.Forced
 box:y.Box=r.Box
 fd:r.Box=[]∨∃f,r.Box=[f]∧Fd 2 f
 frc:r.Forced=true→r.Text=⟨#[]⟩∧r.Width=0∧r.Space=0∧r.Box=[]
 bxt:r.Box≠[]→r.Text=⟨#[]⟩
 cut:r.Forced=false→(decide (y.Space>0)||(y.Things.getD (y.Things.length-1) default).Soft)=(mJ r.Text&&r.Style.WhiteSpace != 2)
 tl:y.Things.length≤2000
 tz:r.Text.size≤100000
theorem H3:∀(E:List aw) (T:List aM),f0 E T→∀i,i<E.length→fN (E.getD i default) (T.getD i default)
 | [],[],_,i,hi=>by simp at hi
 | [],t::s,h,i,_=>h.elim
 | e::r,[],h,i,_=>h.elim
 | e::r,t::s,h,0,_=>h.1
 | e::r,t::s,h,i+1,hi=>by
  have:=H3 r s h.2 i (by simpa using hi);simpa using this
section
variable{n:Nat}{w:Int}
theorem Nm{K:Kn}{p:Option aw}{e:aw}{r:List aw}{t:aM}{s:List aM}(hT:f0 (e::r) (t::s))(hk:∀x∈e::r,x.Kind=1)(ho:∀x∈e::r,fp x)(hl:(e::r).length≤2000)(hn:2101≤n)(hlh:0≤e.Box.Style.LineHeight∧e.Box.Style.LineHeight≤65536)(h2:∀x∈e::r,nl x)(hbx:∀x∈e::r,x.Box=e.Box):
  ∃y,eR K n (da (dz p e t,some (t::s))) w=some y∧sZ (runM (dm (e::r)) e (fw p e)) y:=by
 have he:=hT.1;have hke:=hk e (by simp);have hst:nA (e::r)=e.Box.Style:=rfl;unfold eR;have e0:(da (dz p e t,some (t::s))).Things=t::s:=rfl;have eB:(da (dz p e t,some (t::s))).Box=[]:=rfl;have eF:(da (dz p e t,some (t::s))).Forced=t.Forced:=rfl;rw[eB,eF,e0,bT (by omega) (by simp)];simp only[Option.bind_some];have ed:List.getD (t::s) (0:Int).toNat default=t:=rfl;rw[ed,he.forced,he.block,show(e.Kind == 2)=false by rw[hke];rfl,show(e.Kind == 3)=false by rw[hke];rfl,he.box,O5 K n _ hlh.1 hlh.2];have:=U0 (K:=K) (n:=n) (v1:=da (dz p e t,some (t::s))) (v4:=e.Box.Style) (v12:=ux e.Box.Style) (x:=e::r) hT hk ho hl (by omega) n 0 (by simp) (by omega);have h0:(List.take 0 (bJ (e::r)))=[]:=rfl;rw[h0]at this;refine⟨_,this,⟨⟨t,s,rfl,by rw[he.box];rfl,by rw[he.box];rfl⟩,rfl,rfl,rfl,rfl,rfl,rfl,?_,rfl,.inl rfl,fun h=>(by cases h),fun h=>absurd rfl h,fun _=>?_,?_,?_⟩⟩
 ·show t.Forced=false;rw[he.forced,hke];rfl
 ·have hc:=T8 (x:=e::r) (by simp) hk ho h2 (fun x hx=>hbx x hx);have hs:=(H3 _ _ hT ((e::r).length-1) (by simp)).soft;show(decide ((bif eA (e::r) then fu 32 e.Box.Style.FontSize else 0)>0)||((t::s).getD ((t::s).length-1) default).Soft)=(mJ (dm (e::r)).Text&&e.Box.Style.WhiteSpace != 2);rw[show(t::s).length=(e::r).length from (Ar _ _ hT).symm,hs];rw[show(mJ (dm (e::r)).Text&&e.Box.Style.WhiteSpace != 2)=eA (e::r) from hc];rw[show((e::r).getD ((e::r).length-1) default).Soft=eA (e::r) from rfl];cases eA (e::r)<;>simp
 ·have hq:=Ar _ _ hT;show(t::s).length≤2000;omega
 ·have hq:=Pw ho;show(dm (e::r)).Text.size≤100000;omega
theorem Ie{K:Kn}{p:Option aw}{e:aw}{t:aM}(he:fN e t)(hk:e.Kind=2):∃y,eR K n (da (dz p e t,some [t])) w=some y∧sZ (runM { cq with Forced:=true } e (fw p e)) y:=by
 unfold eR;have e0:(da (dz p e t,some [t])).Things=[t]:=rfl;have eB:(da (dz p e t,some [t])).Box=[]:=rfl;have eF:(da (dz p e t,some [t])).Forced=t.Forced:=rfl;have ht:t.Forced=true:=by rw[he.forced,hk];rfl
 rw[eB,eF,e0,ht,bT (by omega) (by simp)];simp only[Option.bind_some,if_true];refine⟨_,rfl,⟨⟨t,[],rfl,by rw[he.box];rfl,by rw[he.box];rfl⟩,rfl,rfl,rfl,rfl,rfl,rfl,rfl,rfl,.inl rfl,fun _=>⟨rfl,rfl,rfl,rfl⟩,fun h=>absurd rfl h,(fun h=>by cases h),(by show 1≤2000;omega),(by show(⟨#[]⟩:ByteArray).size≤100000;decide)⟩⟩
theorem Wa{p:Option aw}{e:aw}{t:aM}{k:ai}(he:fN e t)(hk:e.Kind=3)(h2:nl e)(h1:dZ e.Box k){M:Nat}(hM:25≤M)(hn:M+10≤n):∃y,eR (KN n) n (da (dz p e t,some [t])) w=some y∧sZ (runM (ge M w e.Box) e (fw p e)) y:=by
  obtain⟨v,f,s1,s2,s3,s4⟩:=Ik h1 hM w hn;unfold eR;have e0:(da (dz p e t,some [t])).Things=[t]:=rfl;have eB:(da (dz p e t,some [t])).Box=[]:=rfl;have eF:(da (dz p e t,some [t])).Forced=t.Forced:=rfl;have ht:t.Forced=false:=by rw[he.forced,hk];rfl
  have hb:t.Block=true:=by rw[he.block,hk];rfl
  rw[eB,eF,e0,ht,bT (by omega) (by simp)];simp only[Option.bind_some];have ed:List.getD [t] (0:Int).toNat default=t:=rfl;rw[ed,hb,he.box,s1];simp only[Option.bind_some,uy];rw[s2];simp only[Option.bind_some,tW,E9,gA];rw[cO (by simp) (by omega)];refine⟨_,rfl,⟨⟨t,[],rfl,by rw[he.box];rfl,by rw[he.box];rfl⟩,?_,?_,?_,?_,?_,rfl,?_,?_,?_,?_,?_,?_,(by show 1≤2000;omega),?_⟩⟩
  all_goals rw[s4]
  all_goals first
    | rfl
    | exact ht
    | (intro h;have h:(false:Bool)=true:=h;cases h)
    | exact fun _=>rfl
    | (show(⟨#[]⟩:ByteArray).size≤100000;decide)
    | (intro _
       have hsf:t.Soft=false:=by
         rw[he.soft];cases q:e.Soft with
         | false=>rfl
         | true=>have:=(h2.sft q).1;omega
       show(decide ((0:Int)>0)||t.Soft)=(false&&_);rw[hsf];rfl)
    | exact .inr ⟨_,rfl,Fc (Hw f w) s3⟩
end
end
end Go.Proofs.YtnpmlepplfaijaaGreat
namespace Go.Proofs.YtnpmlepplfaijaaGreat
set_option linter.all false
open Go.RowKit
noncomputable section
def xn:List ay→List aP→Prop
 | [],[]=>True
 | r::t,y::u=>sZ r y∧xn t u
 | _,_=>False
section
variable{n:Nat}{w:Int}
def fe(n:Nat)(w:Int)(x:RT):aP:=(eR (KN n) n (da x) w).getD default
theorem PH:∀(m:Nat) (B:List RT) (A:List aP),B.length<m→A.length+B.length≤1000000→(∀x∈B,∃y,eR (KN n) n (da x) w=some y)→kF (KN n) n w m (A.length:Int) (A++B.map da)=some (A++B.map (fe n w)):=by
 intro m
 induction m with
 | zero=>intro B A h;omega
 | succ m ih =>
  intro B A h1 h2 h3;show qY (KN n) n w (kF (KN n) n w m) _ _=_;unfold qY;cases B with
  | nil=>rw[if_neg (by simp)];rfl
  | cons x r =>
   simp only[List.length_cons]at h1 h2;obtain⟨y,hy⟩:=h3 x (by simp);have hs:fe n w x=y:=by unfold fe;rw[hy];rfl
   have hw:aa ((A.length:Int)+1)=((A.length+1:Nat):Int):=by rw[bj (by omega) (by omega)];omega
   rw[if_pos (by simp;omega),bT (by omega) (by simp;omega),aZ,Int.toNat_natCast,List.map_cons,xi,hy];simp only[Option.bind_some];rw[aZ,hw,Gg];have:=ih r (A++[y]) (by omega) (by simp;omega) (fun z hz=>h3 z (by simp[hz]));rw[List.length_append]at this;simp only[List.length_cons,List.length_nil,Nat.zero_add]at this;rw[show A++y::r.map da=A++[y]++r.map da by simp,this,List.map_cons,hs];simp
theorem aaW{M:Nat}(hM:2101≤M)(hn:M+10≤n):∀(m:Nat) (p:Option aw) (E:List aw) (T:List aM),f0 E T→E.length<m→E.length≤2000→(∀e∈E,EK e)→(∀e∈E,fp e)→(∀e∈E,0≤e.Box.Style.LineHeight∧e.Box.Style.LineHeight≤65536)→(∀e∈E,e.Kind=3→∃k,dZ e.Box k)→(∀e∈E,nl e)→(∀x∈E,∀y∈E,x.Of=y.Of→x.Box=y.Box) →
  (∀x∈eI m p E T,∃y,eR (KN n) n (da x) w=some y)∧xn (cM (ge M w) m p E) ((eI m p E T).map (fe n w)):=by
 intro m
 induction m with
 | zero=>intro p E T _ h;omega
 | succ m ih =>
  intro p E T hT h1 h2 hk ho hlh hob hk2 hob2;cases E with
  | nil =>
   cases T with
   | nil=>exact⟨(fun x hx=>by cases hx),trivial⟩
   | cons t s=>exact hT.elim
  | cons e r =>
   cases T with
   | nil=>exact hT.elim
   | cons t s =>
    simp only[List.length_cons]at h1 h2;have sub:∀(x:RT) (y:aP) (r1:ay) (X:List ay) (G:List RT),eR (KN n) n (da x) w=some y→sZ r1 y→((∀x∈G,∃y,eR (KN n) n (da x) w=some y)∧xn X (G.map (fe n w)))→(∀z∈x::G,∃y,eR (KN n) n (da z) w=some y)∧xn (r1::X) ((x::G).map (fe n w)):=fun x y r1 X G q1 q2 q3=>by
     refine⟨fun z hz=>?_,?_⟩
     ·rcases List.mem_cons.1 hz with rfl|hz
      ·exact⟨y,q1⟩
      ·exact q3.1 z hz
     ·rw[List.map_cons];refine⟨?_,q3.2⟩;unfold fe;rw[q1];exact q2
    unfold eI cM;rcases (hk e (by simp)).kind with k|k|k
    ·rw[show(e.Kind == 2)=false by rw[k];rfl,show(e.Kind == 3)=false by rw[k];rfl];simp only[cond_false];have hj:=pm e.Of r e;have hmem:∀x∈e::r.take (jl e.Of e r),x∈e::r:=fun x hx=>by
      rcases List.mem_cons.1 hx with rfl|hx
      ·simp
      ·exact List.mem_cons_of_mem _ (List.mem_of_mem_take hx)
     obtain⟨y,y1,y2⟩:=Nm (K:=KN n) (n:=n) (w:=w) (p:=p) (e:=e) (r:=r.take (jl e.Of e r)) (t:=t) (s:=s.take (jl e.Of e r)) ⟨hT.1,EE _ r s hT.2⟩ (fun x hx=>by
      rcases List.mem_cons.1 hx with rfl|hx
      ·exact k
      ·exact FN _ _ _ x hx) (fun x hx=>ho x (hmem x hx)) (by simp;omega) (by omega) (hlh e (by simp)) (fun x hx=>hk2 x (hmem x hx)) (fun x hx=>by
      refine hob2 x (hmem x hx) e (by simp) ?_;rcases List.mem_cons.1 hx with rfl|hx
      ·rfl
      ·exact Fp _ _ _ x hx)
     have hd:∀x∈r.drop (jl e.Of e r),x∈e::r:=fun x hx=>List.mem_cons_of_mem _ (List.mem_of_mem_drop hx);exact sub _ y _ _ _ y1 y2 (ih _ _ _ (xI _ r s hT.2) (by simp;omega) (by simp;omega) (fun x hx=>hk x (hd x hx)) (fun x hx=>ho x (hd x hx)) (fun x hx=>hlh x (hd x hx)) (fun x hx=>hob x (hd x hx)) (fun x hx=>hk2 x (hd x hx)) (fun x hx y hy=>hob2 x (hd x hx) y (hd y hy)))
    ·rw[show(e.Kind == 2)=true by rw[k];rfl];simp only[cond_true];obtain⟨y,y1,y2⟩:=Ie (K:=KN n) (n:=n) (w:=w) (p:=p) hT.1 k;exact sub _ y _ _ _ y1 y2 (ih _ _ _ hT.2 (by omega) (by omega) (fun x hx=>hk x (by simp[hx])) (fun x hx=>ho x (by simp[hx])) (fun x hx=>hlh x (by simp[hx])) (fun x hx=>hob x (by simp[hx])) (fun x hx=>hk2 x (by simp[hx])) (fun x hx y hy=>hob2 x (by simp[hx]) y (by simp[hy])))
    ·rw[show(e.Kind == 2)=false by rw[k];rfl,show(e.Kind == 3)=true by rw[k];rfl];simp only[cond_true,cond_false];obtain⟨b,hb⟩:=hob e (by simp) k;obtain⟨y,y1,y2⟩:=Wa (n:=n) (w:=w) (p:=p) hT.1 k (hk2 e (by simp)) hb (M:=M) (by omega) (by omega);exact sub _ y _ _ _ y1 y2 (ih _ _ _ hT.2 (by omega) (by omega) (fun x hx=>hk x (by simp[hx])) (fun x hx=>ho x (by simp[hx])) (fun x hx=>hlh x (by simp[hx])) (fun x hx=>hob x (by simp[hx])) (fun x hx=>hk2 x (by simp[hx])) (fun x hx y hy=>hob2 x (by simp[hx]) y (by simp[hy])))
theorem Yj:∀(m:Nat) (p:Option aw) (E:List aw) (T:List aM),(eI m p E T).length≤E.length:=by
 intro m
 induction m with
 | zero=>intro p E T;simp[eI]
 | succ m ih =>
  intro p E T;cases E with
  | nil=>simp[eI]
  | cons e r =>
   cases T with
   | nil=>simp[eI]
   | cons t s =>
    unfold eI;have h1:=ih (some e) r s;have h2:=ih (some (du (e::r.take (jl e.Of e r)))) (r.drop (jl e.Of e r)) (s.drop (jl e.Of e r));rw[List.length_drop]at h2;cases (e.Kind == 2)<;>cases (e.Kind == 3)<;>simp only[cond_true,cond_false,List.length_cons]<;>omega
end
end
end Go.Proofs.YtnpmlepplfaijaaGreat
namespace Go.Proofs.YtnpmlepplfaijaaGreat
set_option linter.all false
open Go.RowKit
def vR(r:aP):R4:=⟨r.Width,r.Space,r.Glued,r.Forced⟩
theorem Cu{L:List aP}{k:Nat}(h:k<L.length):(L.map vR)[k]'(by simpa using h)=vR (L.getD k default):=by
 rw[bV h];simp
section
variable{K:Kn}{n:Nat}{L:List aP}{w:Int}
theorem SL:∀(m:Nat) (i:Int),0≤i→i≤L.length→L.length<m+i.toNat→(L.length:Int)<9223372036854775807→sH K n L m i=some ((gr (L.map vR) i.toNat:Nat):Int):=by
 intro m
 induction m with
 | zero=>intro i h0 h1 h2;omega
 | succ m ih =>
  intro i h0 h1 h2 hL;show sN K n L (sH K n L m) i=_;unfold sN;by_cases hi:i<(L.length:Int)
  ·have hk:i.toNat<L.length:=by omega
   rw[if_pos (by simpa using hi),bT h0 hi,aZ];unfold qA;have hv:=Cu hk;cases hg:(L.getD i.toNat default).Glued with
   | true =>
    rw[if_pos rfl,bj (by omega) (by omega),ih (i+1) (by omega) (by omega) (by omega) hL];rw[AZ (l:=L.map vR) (i:=i.toNat) (by simpa using hk) (by rw[hv];exact hg),show(i+1).toNat=i.toNat+1 by omega]
   | false =>
    rw[if_neg (by simp)];rw[CI (l:=L.map vR) (i:=i.toNat) (by simpa using hk) (by rw[hv];exact hg)];congr 1;omega
  ·rw[if_neg (by simpa using hi)];unfold qA;rw[if_neg (by simp),KZ (by simp;omega)];congr 1;omega
theorem Qn{i:Int}(h0:0≤i)(h1:i<L.length)(hn:L.length<n)(hL:(L.length:Int)<9223372036854775807):vQ K n L i=some ((gr (L.map vR) (i.toNat+1):Nat):Int):=by
 unfold vQ;rw[bj (by omega) (by omega),SL n (i+1) (by omega) (by omega) (by omega) hL,show(i+1).toNat=i.toNat+1 by omega]
theorem Uq(hL:(L.length:Int)<9223372036854775807):∀(m:Nat) (x y i:Int),0≤i→i≤L.length→L.length<m+i.toNat→q9 K n L m x y i=some (wS x y ((L.map vR).drop i.toNat)):=by
 intro m
 induction m with
 | zero=>intro x y i h0 h1 h2;omega
 | succ m ih =>
  intro x y i h0 h1 h2;show rK K n L (q9 K n L m) x y i=_;unfold rK;by_cases hi:i<(L.length:Int)
  ·have hk:i.toNat<L.length:=by omega
   rw[if_pos (by simpa using hi),bT h0 hi];simp only[aZ,Option.bind_some];have hd:(L.map vR).drop i.toNat=vR (L.getD i.toNat default)::(L.map vR).drop (i+1).toNat:=by
    rw[List.drop_eq_getElem_cons (by simpa using hk),Cu hk,show(i+1).toNat=i.toNat+1 by omega]
   rw[hd];unfold wS;unfold ue;cases hf:(L.getD i.toNat default).Forced with
   | false =>
    rw[show(!false)=true from rfl,if_pos rfl,bj (n:=i+1) (by omega) (by omega),ih _ _ _ (by omega) (by omega) (by omega)];simp only[vR,hf,Bool.false_eq_true,if_false]
   | true =>
    rw[show(!true)=false from rfl,if_neg (by simp),bj (n:=i+1) (by omega) (by omega),ih _ _ _ (by omega) (by omega) (by omega)];simp only[vR,hf,if_true]
  ·rw[if_neg (by simpa using hi),List.drop_eq_nil_of_le (by simp;omega)];rfl
theorem IA(hn:L.length<n)(hL:(L.length:Int)<9223372036854775807):rg K n L=some (cX (L.map vR)):=by
 unfold rg;rw[Uq hL n 0 0 0 (by omega) (by omega) (by simpa using hn)];rfl
end
end Go.Proofs.YtnpmlepplfaijaaGreat
namespace Go.Proofs.YtnpmlepplfaijaaGreat
set_option linter.all false
open Go.RowKit
noncomputable section
def gK(l:List R4):Nat→Int→Nat→Int
 | 0,x,_=>x
 | m+1,x,a=>if a<l.length then gK l m (max x (cX (sl l a (gr l (a+1))))) (gr l (a+1)) else x
def ef(l:List R4)(i:Nat):Nat:=min l.length (i+((l.drop i).takeWhile fun r=>!r.f).length+1)
theorem zu(l:List R4)(i:Nat):ef l i≤l.length:=by unfold ef;omega
theorem mW{l:List R4}{i:Nat}(h:i<l.length):i<ef l i:=by unfold ef;omega
theorem wh{l:List R4}{i:Nat}(h:i<l.length)(hf:l[i].f=true):ef l i=i+1:=by
 unfold ef;rw[List.drop_eq_getElem_cons h,List.takeWhile_cons,if_neg (by simp[hf])];simp;omega
theorem wE{l:List R4}{i:Nat}(h:i+1=l.length):ef l i=i+1:=by
 have:=mW (l:=l) (i:=i) (by omega);have:=zu l i;omega
theorem wW{l:List R4}{i:Nat}(h:i+1<l.length)(hf:l[i].f=false):ef l i=ef l (i+1):=by
 unfold ef;rw[List.drop_eq_getElem_cons (show i<l.length by omega),List.takeWhile_cons,if_pos (by simp[hf])];simp;omega
def dq(l:List R4):Nat→Int→Nat→Int
 | 0,x,_=>x
 | m+1,x,a=>if a<l.length then dq l m (max x (cX (sl l a (ef l a)))) (ef l a) else x
theorem Du(l:List R4):∀(m m':Nat) (x:Int) (a:Nat),l.length<m+a→l.length<m'+a→dq l m x a=dq l m' x a:=by
 intro m
 induction m with
 | zero =>
  intro m' x a h h';cases m' with
  | zero=>rfl
  | succ m'=>unfold dq;rw[if_neg (by omega)]
 | succ m ih =>
  intro m' x a h h';cases m' with
  | zero=>unfold dq;rw[if_neg (by omega)]
  | succ m' =>
   unfold dq;split
   ·rename_i h1;have:=mW h1;exact ih m' _ _ (by omega) (by omega)
   ·rfl
section
variable{K:Kn}{n:Nat}{V4:List ay×List Int}{V5:List ay×Int×List Int}
theorem YH(hn:V5.1.length<n)(hL:(V5.1.length:Int)≤1000000)(least most:Int)(a:Nat)(C:Int→Int→Option (Int×Int)):∀(m e:Nat),1≤e→a<e→e≤V5.1.length→V5.1.length<m+e →
  rt K n V5 least most (a:Int) C m (e:Int)=C (max most (cX (sl (V5.1.map vI) a (ef (V5.1.map vI) (e-1))))) ((ef (V5.1.map vI) (e-1):Nat):Int):=by
 have fin:∀(e:Nat) (D:Int→Option (Int×Int)),a<e→e≤V5.1.length→qv K n V5 least most (a:Int) (e:Int) C D false=C (max most (cX (sl (V5.1.map vI) a e))) (e:Int):=fun e D h1 h2=>by
  unfold qv xa;have hs:List.drop a (List.take e V5.1)=sl V5.1 a e:=rfl;have hsl:=tQ V5.1 a e;rw[if_neg (by simp),show cL (a:Int) (e:Int) V5.1.length=true by simp only[cL,Bool.and_eq_true,decide_eq_true_eq];omega,aZ];simp only[Int.toNat_natCast];rw[hs,B3 (by omega) (by omega),wx];simp only[Option.bind_some];by_cases hw:cX (sl (V5.1.map vI) a e)>most
  ·rw[if_pos (by simpa using hw),show max most (cX (sl (V5.1.map vI) a e))=cX (sl (V5.1.map vI) a e) by omega]
  ·rw[if_neg (by simpa using hw),show max most (cX (sl (V5.1.map vI) a e))=most by omega]
 intro m
 induction m with
 | zero=>intro e h1 h2 h3 h4;omega
 | succ m ih =>
  intro e h1 h2 h3 h4;show rr K n V5 least most a C (rt K n V5 least most a C m) e=_;unfold rr;have hv:=qR (L:=V5.1) (k:=e-1) (by omega);have e1:aa ((e:Int)-1)=((e-1:Nat):Int):=by rw[bj (by omega) (by omega)];omega
  by_cases he:e<V5.1.length
  ·rw[if_pos (by simpa using he),e1,bT (by omega) (by omega),aZ,Int.toNat_natCast];cases hf:(V5.1.getD (e-1) default).Forced with
   | true =>
    have hee:=wh (l:=V5.1.map vI) (i:=e-1) (by simp;omega) (by rw[hv];exact hf);rw[hee,show e-1+1=e by omega,show(!true)=false from rfl];exact fin e _ h2 h3
   | false =>
    have hee:=wW (l:=V5.1.map vI) (i:=e-1) (by simp;omega) (by rw[hv];exact hf);rw[hee,show e-1+1=(e+1)-1 by omega,show(!false)=true from rfl];unfold qv;rw[if_pos rfl,show aa ((e:Int)+1)=((e+1:Nat):Int) by rw[bj (by omega) (by omega)];omega];exact ih (e+1) (by omega) (by omega) (by omega) (by omega)
  ·rw[if_neg (by simpa using he)];have hee:=wE (l:=V5.1.map vI) (i:=e-1) (by simp;omega);rw[hee,show e-1+1=e by omega];exact fin e _ h2 h3
theorem Ow(hn:V5.1.length<n)(hL:(V5.1.length:Int)≤1000000)(least:Int):∀(m a:Nat) (most:Int),a≤V5.1.length→V5.1.length<m+a→ss K n V5 least m most (a:Int)=some (least,dq (V5.1.map vI) m most a):=by
 intro m
 induction m with
 | zero=>intro a most h1 h2;omega
 | succ m ih =>
  intro a most h1 h2;show qC K n V5 least (ss K n V5 least m) most a=_;unfold qC dq;by_cases ha:a<V5.1.length
  ·rw[if_pos (by simpa using ha),if_pos (by simpa using ha),show aa ((a:Int)+1)=((a+1:Nat):Int) by rw[bj (by omega) (by omega)];omega,YH hn hL least most a _ n (a+1) (by omega) (by omega) (by omega) (by omega),Nat.add_sub_cancel];have h3:=mW (l:=V5.1.map vI) (i:=a) (by simpa using ha);have h4:=zu (V5.1.map vI) a;rw[List.length_map]at h4;exact ih _ _ h4 (by omega)
  ·rw[if_neg (by simpa using ha),if_neg (by simpa using ha)]
theorem UV(h4:V4.1.length<n)(hL4:(V4.1.length:Int)≤1000000)(hn:V5.1.length<n)(hL:(V5.1.length:Int)≤1000000):∀(m a:Nat) (least:Int),a≤V4.1.length→V4.1.length<m+a→rQ K n V4 V5 m least (a:Int)=some (gK (V4.1.map vI) m least a,dq (V5.1.map vI) n 0 0):=by
 intro m
 induction m with
 | zero=>intro a least h1 h2;omega
 | succ m ih =>
  intro a least h1 h2;show s8 K n V4 V5 (rQ K n V4 V5 m) least a=_;unfold s8 gK;by_cases ha:a<V4.1.length
  ·have hg:=rH (l:=V4.1.map vI) (i:=a+1) (by simp;omega);have hge:=jL (V4.1.map vI) (a+1);rw[List.length_map]at hg;have hs:List.drop a (List.take (gr (V4.1.map vI) (a+1)) V4.1)=sl V4.1 a (gr (V4.1.map vI) (a+1)):=rfl;have hsl:=tQ V4.1 a (gr (V4.1.map vI) (a+1));rw[if_pos (by simpa using ha),if_pos (by simpa using ha),Fj (by omega) (by omega) h4 (by omega)];simp only[Option.bind_some,Int.toNat_natCast];rw[show cL (a:Int) ((gr (V4.1.map vI) (a+1):Nat):Int) V4.1.length=true by simp only[cL,Bool.and_eq_true,decide_eq_true_eq];omega,aZ,hs,B3 (by omega) (by omega),wx];simp only[Option.bind_some];unfold vO;by_cases hw:cX (sl (V4.1.map vI) a (gr (V4.1.map vI) (a+1)))>least
   ·rw[if_pos (by simpa using hw),show max least (cX (sl (V4.1.map vI) a (gr (V4.1.map vI) (a+1))))=cX (sl (V4.1.map vI) a (gr (V4.1.map vI) (a+1))) by omega];exact ih _ _ hg (by omega)
   ·rw[if_neg (by simpa using hw),show max least (cX (sl (V4.1.map vI) a (gr (V4.1.map vI) (a+1))))=least by omega];exact ih _ _ hg (by omega)
  ·rw[if_neg (by simpa using ha),if_neg (by simpa using ha)];exact Ow hn hL least n 0 0 (by omega) (by omega)
end
section
variable{K:Kn}{n:Nat}{L:List aP}
theorem Ui(hn:L.length<n)(hL:(L.length:Int)≤1000000)(least:Int)(F:Nat)(hF:L.length<F):∀(m i a:Nat) (most:Int),i≤L.length→L.length<m+i→a≤i→(i=L.length→a=L.length) →
  jb K n least L m most (a:Int) (i:Int)=some (least,if i<L.length then dq (L.map vR) F (max most (cX (sl (L.map vR) a (ef (L.map vR) i)))) (ef (L.map vR) i) else most):=by
 intro m
 induction m with
 | zero=>intro i a most h1 h2;omega
 | succ m ih =>
  intro i a most h1 h2 h3 h4;show sJ K n least L (jb K n least L m) most a i=_;unfold sJ;by_cases hi:i<L.length
  ·have hv:=Cu hi;have e1:aa ((i:Int)+1)=((i+1:Nat):Int):=by rw[bj (by omega) (by omega)];omega
   have e2:aa ((L.length:Int)-1)=((L.length-1:Nat):Int):=by rw[bj (by omega) (by omega)];omega
   rw[if_pos (by simpa using hi),bT (by omega) (by omega),aZ,Int.toNat_natCast,e2,if_pos hi];have yes:ef (L.map vR) i=i+1→oG K n least L most (a:Int) (i:Int) (jb K n least L m) true=some (least,dq (L.map vR) F (max most (cX (sl (L.map vR) a (ef (L.map vR) i)))) (ef (L.map vR) i)):=fun he=>by
    unfold oG tP;have hs:List.take (i+1-a) (List.drop a L)=sl L a (i+1):=by unfold sl;rw[List.drop_take]
    have hsl:=tQ L a (i+1);rw[if_pos rfl,e1,show cL (a:Int) ((i+1:Nat):Int) L.length=true by simp only[cL,Bool.and_eq_true,decide_eq_true_eq];omega,aZ];simp only[Int.toNat_natCast];rw[show decide (a+(i+1-a)≤L.length)=true by simp;omega,aZ,hs,IA (by omega) (by omega),wx];simp only[Option.bind_some];rw[ih (i+1) (i+1) _ (by omega) (by omega) (by omega) (fun h=>h),he];obtain⟨F',rfl⟩:∃F',F=F'+1:=⟨F-1,by omega⟩;congr 2
    conv=>rhs;unfold dq
    rw[List.length_map];split
    ·rename_i hlt;have:=mW (l:=L.map vR) (i:=i+1) (by simpa using hlt);exact Du _ _ _ _ _ (by simp;omega) (by simp;omega)
    ·rfl
   cases hf:(L.getD i default).Forced with
   | true =>
    rw[if_pos rfl];exact yes (wh (by simpa using hi) (by rw[hv];exact hf))
   | false =>
    rw[if_neg (by simp)];by_cases hl:i+1=L.length
    ·rw[show((i:Int) == ((L.length-1:Nat):Int))=true by simp;omega];exact yes (wE (by simpa using hl))
    ·rw[show((i:Int) == ((L.length-1:Nat):Int))=false by simp;omega];unfold oG tP;rw[if_neg (by simp),e1,ih (i+1) a most (by omega) (by omega) (by omega) (fun h=>absurd h hl),if_pos (by omega),← wW (l:=L.map vR) (i:=i) (by simp;omega) (by rw[hv];exact hf)]
  ·rw[if_neg (by simpa using hi),if_neg hi]
theorem Xs(hn:L.length<n)(hL:(L.length:Int)≤1000000)(least:Int):jb K n least L n 0 0 0=some (least,dq (L.map vR) n 0 0):=by
 have:=Ui (K:=K) hn hL least n hn n 0 0 0 (by omega) (by omega) (by omega) (fun h=>by omega);rw[show jb K n least L n 0 0 0=_ from this];congr 2;obtain⟨n',rfl⟩:∃n',n=n'+1:=⟨n-1,by omega⟩
 conv=>rhs;unfold dq
 rw[List.length_map];split
 ·rename_i h;have:=mW (l:=L.map vR) (i:=0) (by simpa using h);exact Du _ _ _ _ _ (by simp;omega) (by simp;omega)
 ·rfl
theorem T6(hn:L.length<n)(hL:(L.length:Int)≤1000000):∀(m a:Nat) (least:Int),a≤L.length→L.length<m+a→kR K n L m least (a:Int)=kw K n (gK (L.map vR) m least a) n 0 L:=by
 intro m
 induction m with
 | zero=>intro a least h1 h2;omega
 | succ m ih =>
  intro a least h1 h2;show qI K n L (kR K n L m) least a=_;unfold qI gK;by_cases ha:a<L.length
  ·have hg:=rH (l:=L.map vR) (i:=a+1) (by simp;omega);have hge:=jL (L.map vR) (a+1);rw[List.length_map]at hg;have hs:List.take (gr (L.map vR) (a+1)-a) (List.drop a L)=sl L a (gr (L.map vR) (a+1)):=by unfold sl;rw[List.drop_take]
   have hsl:=tQ L a (gr (L.map vR) (a+1));rw[if_pos (by simpa using ha),if_pos (by simpa using ha),Qn (by omega) (by omega) hn (by omega)];simp only[Option.bind_some,Int.toNat_natCast];rw[show cL (a:Int) ((gr (L.map vR) (a+1):Nat):Int) L.length=true by simp only[cL,Bool.and_eq_true,decide_eq_true_eq];omega,aZ,show decide (a+(gr (L.map vR) (a+1)-a)≤L.length)=true by simp;omega,aZ,hs,IA (by omega) (by omega),wx];simp only[Option.bind_some];exact ih _ _ hg (by omega)
  ·rw[if_neg (by simpa using ha),if_neg (by simpa using ha)]
def cK(sel:ai→Int)(y:aP):aP:=bif decide (((y.Box).length:Int)>0) then { y with Width:=sel (y.Things.getD 0 default).Box } else y
theorem Sv(sel:ai→Int)(y:aP):(cK sel y).Box=y.Box∧(cK sel y).Things=y.Things:=by
 unfold cK;cases decide (((y.Box).length:Int)>0)<;>exact⟨rfl,rfl⟩
theorem Om{α:Type}(A:List α)(x y:α)(B:List α):(A++x::B).set A.length y=A++y::B:=by simp
theorem WM{W:ai→Int×Int}(hn:∀y∈L,y.Box≠[]→y.Things≠[]∧fS K n (y.Things.getD 0 default).Box=some (W (y.Things.getD 0 default).Box)):∀(m:Nat) (B:List aP) (A:List aP),(∀y∈B,y∈L)→B.length<m→A.length+B.length≤1000000→ml K n m (A.length:Int) (A++B)=kR K n (A++B.map (cK fun b=>(W b).1)) n 0 0:=by
 intro m
 induction m with
 | zero=>intro B A hB h;omega
 | succ m ih =>
  intro B A hB h1 h2;show rU K n (ml K n m) _ _=_;unfold rU;cases B with
  | nil=>rw[if_neg (by simp)];rfl
  | cons y r =>
   simp only[List.length_cons]at h1 h2;have e1:aa ((A.length:Int)+1)=((A.length+1:Nat):Int):=by rw[bj (by omega) (by omega)];omega
   have nx:∀z,rx K n (A.length:Int) (ml K n m) (A++z::r)=kR K n (A++z::r.map (cK fun b=>(W b).1)) n 0 0:=fun z=>by
    unfold rx;have:=ih r (A++[z]) (fun q hq=>hB q (by simp[hq])) (by omega) (by simp;omega);rw[List.length_append,List.length_singleton]at this;rw[e1,show A++z::r=A++[z]++r by simp,this];simp
   rw[if_pos (by simp;omega),bT (by omega) (by simp;omega),aZ,Int.toNat_natCast,xi];simp only[Option.bind_some,List.map_cons];cases hb:decide ((y.Box.length:Int)>0) with
   | false =>
    rw[if_neg (by simp),nx];have:cK (fun b=>(W b).1) y=y:=by unfold cK;rw[hb];rfl
    rw[this]
   | true =>
    have hne:y.Box≠[]:=by intro e;rw[e]at hb;simp at hb
    obtain⟨q1,q2⟩:=hn y (hB y (by simp)) hne;have hl:0<y.Things.length:=List.length_pos_iff.2 q1;rw[if_pos rfl,aZ,bT (by omega) (by omega),aZ,show(0:Int).toNat=0 from rfl,q2];simp only[Option.bind_some];rw[aZ,Om,nx];have:cK (fun b=>(W b).1) y={ y with Width:=(W (y.Things.getD 0 default).Box).1 }:=by unfold cK;rw[hb];rfl
    rw[this]
theorem abM{W:ai→Int×Int}(least:Int)(hn:∀y∈L,y.Box≠[]→y.Things≠[]∧fS K n (y.Things.getD 0 default).Box=some (W (y.Things.getD 0 default).Box)):∀(m:Nat) (B:List aP) (A:List aP),(∀y∈B,y∈L)→B.length<m→A.length+B.length≤1000000→kw K n least m (A.length:Int) (A++B)=jb K n least (A++B.map (cK fun b=>(W b).2)) n 0 0 0:=by
 intro m
 induction m with
 | zero=>intro B A hB h;omega
 | succ m ih =>
  intro B A hB h1 h2;show qH K n least (kw K n least m) _ _=_;unfold qH;cases B with
  | nil=>rw[if_neg (by simp)];rfl
  | cons y r =>
   simp only[List.length_cons]at h1 h2;have e1:aa ((A.length:Int)+1)=((A.length+1:Nat):Int):=by rw[bj (by omega) (by omega)];omega
   have nx:∀z,qN K n least (A.length:Int) (kw K n least m) (A++z::r)=jb K n least (A++z::r.map (cK fun b=>(W b).2)) n 0 0 0:=fun z=>by
    unfold qN;have:=ih r (A++[z]) (fun q hq=>hB q (by simp[hq])) (by omega) (by simp;omega);rw[List.length_append,List.length_singleton]at this;rw[e1,show A++z::r=A++[z]++r by simp,this];simp
   rw[if_pos (by simp;omega),bT (by omega) (by simp;omega),aZ,Int.toNat_natCast,xi];simp only[Option.bind_some,List.map_cons];cases hb:decide ((y.Box.length:Int)>0) with
   | false =>
    rw[if_neg (by simp),nx];have:cK (fun b=>(W b).2) y=y:=by unfold cK;rw[hb];rfl
    rw[this]
   | true =>
    have hne:y.Box≠[]:=by intro e;rw[e]at hb;simp at hb
    obtain⟨q1,q2⟩:=hn y (hB y (by simp)) hne;have hl:0<y.Things.length:=List.length_pos_iff.2 q1;rw[if_pos rfl,aZ,bT (by omega) (by omega),aZ,show(0:Int).toNat=0 from rfl,q2];simp only[Option.bind_some];rw[aZ,Om,nx];have:cK (fun b=>(W b).2) y={ y with Width:=(W (y.Things.getD 0 default).Box).2 }:=by unfold cK;rw[hb];rfl
    rw[this]
end
theorem YP(f g:ai→Int)(y:aP):cK g (cK f y)=cK g y:=by
 unfold cK;cases hb:decide ((y.Box.length:Int)>0) with
 | false=>simp only[cond_false,hb]
 | true=>simp only[cond_true,hb]
theorem Ys{K:Kn}{n:Nat}{B:List ai}{Y:List aP}{W:ai→Int×Int}(h:tK K n B 0=some Y)(hn:Y.length<n)(hL:(Y.length:Int)≤1000000)(hW:∀y∈Y,y.Box≠[]→y.Things≠[]∧fS K n (y.Things.getD 0 default).Box=some (W (y.Things.getD 0 default).Box)):
  pS K n B=some (gK ((Y.map (cK fun b=>(W b).1)).map vR) n 0 0,dq ((Y.map (cK fun b=>(W b).2)).map vR) n 0 0):=by
 unfold pS;rw[h];simp only[Option.bind_some];have h2:=WM (K:=K) (n:=n) (L:=Y) hW n Y [] (fun y h=>h) hn (by simp;omega);simp only[List.length_nil,List.nil_append]at h2;rw[show ml K n n 0 Y=_ from h2];have h3:=T6 (K:=K) (n:=n) (L:=Y.map (cK fun b=>(W b).1)) (by simpa using hn) (by simpa using hL) n 0 0 (by omega) (by simp;omega);rw[show kR K n (Y.map (cK fun b=>(W b).1)) n 0 0=_ from h3];have h5:=abM (K:=K) (n:=n) (L:=Y.map (cK fun b=>(W b).1)) (W:=W) (gK ((Y.map (cK fun b=>(W b).1)).map vR) n 0 0) (fun y hy hb=>by
  obtain⟨z,hz,rfl⟩:=List.mem_map.1 hy;obtain⟨b1,b2⟩:=Sv (fun b=>(W b).1) z;rw[b1]at hb;rw[b2];exact hW z hz hb) n (Y.map (cK fun b=>(W b).1)) [] (fun y h=>h) (by simpa using hn) (by simp;omega)
 simp only[List.length_nil,List.nil_append]at h5;have e:(Y.map (cK fun b=>(W b).1)).map (cK fun b=>(W b).2)=Y.map (cK fun b=>(W b).2):=by
  rw[List.map_map];congr 1;funext y;exact YP _ _ y
 rw[e]at h5;rw[show kw K n _ n 0 (Y.map (cK fun b=>(W b).1))=_ from h5,Xs (by simpa using hn) (by simpa using hL)]
end
end Go.Proofs.YtnpmlepplfaijaaGreat
namespace Go.Proofs.YtnpmlepplfaijaaGreat.Wd
set_option linter.all false
open Go.RowKit
def E1:cg:=⟨(Fv.fn 31),(Fv.fn 32),(Fv.fn 33),(Fv.fn 34)⟩
theorem Hr(x:Int):cn (cn x)=cn x:=by unfold cn;omega
theorem sM(x:Int):0≤cn x∧cn x≤1048576:=by unfold cn;omega
theorem Lb(l:cr)(w:Int):(bP l w).2=(l.Kind == 1||l.Kind == 2):=by
 unfold bP;by_cases h1:l.Kind=1
 ·simp[h1]
 ·by_cases h2:l.Kind=2<;>simp[h1,h2]
theorem Qw(l:cr):(bE l).Kind≠2:=by
 unfold bE;by_cases h:l.Kind=2
 ·rw[if_pos h];exact fun h=>by cases h
 ·rw[if_neg h];exact h
structure Cn(N:Nat)(b:ai)(x y:Int):Prop where
 le:x≤y
 lx:cn x=x
 ly:cn y=y
 c:iq (KN N) N b=some (x,y)
 i:jQ (KN N) N b E1=some (if (bP (dC b.Style).Width 0).2=true then (cn (bP (dC b.Style).Width 0).1,cn (bP (dC b.Style).Width 0).1) else (x,y))
theorem zo(s:aI){c:Int}(hc:c≤1048576): -7340032≤o1 s c∧o1 s c≤7340032:=by
 unfold o1;generalize dC s=t;have hm:0≤eJ t 0 c∧eJ t 0 c≤1048576:=by
  have:=kf t.MinWidth 0;unfold eJ;simp only[];split<;>split<;>omega
 have e1:=kf t.Margin.a1 0;have e2:=kf t.Margin.a3 0;have e3:=kf t.Padding.a1 0;have e4:=kf t.Padding.a3 0;have q1:=sM t.Border.a1;have q3:=sM t.Border.a3;unfold jj ec;simp only[];generalize eJ t 0 c=x at *;rw[bj (n:=x+(bP t.Margin.a1 0).1) (by omega) (by omega),bj (n:=x+(bP t.Margin.a1 0).1+(bP t.Margin.a3 0).1) (by omega) (by omega),bj (n:=x+(bP t.Margin.a1 0).1+(bP t.Margin.a3 0).1+cn t.Border.a1) (by omega) (by omega),bj (n:=x+(bP t.Margin.a1 0).1+(bP t.Margin.a3 0).1+cn t.Border.a1+cn t.Border.a3) (by omega) (by omega),bj (n:=x+(bP t.Margin.a1 0).1+(bP t.Margin.a3 0).1+cn t.Border.a1+cn t.Border.a3+max (bP t.Padding.a1 0).1 0) (by omega) (by omega),bj (by omega) (by omega)];omega
end Go.Proofs.YtnpmlepplfaijaaGreat.Wd
namespace Go.Proofs.YtnpmlepplfaijaaGreat
set_option linter.all false
open Go.RowKit
open Wd
noncomputable section
section
variable{n:Nat}{w:Int}
theorem acp{p:Option aw}{e:aw}{t:aM}{k:ai}(he:fN e t)(hk:e.Kind=3)(h2:nl e)(h1:dZ e.Box k){M:Nat}(hM:25≤M)(hn:M+10≤n):∃y,eR (KN n) n (da (dz p e t,some [t])) w=some y∧y.Things=[t]∧y.Box≠[]∧y.Space=0∧y.Glued=fw p e∧y.Forced=false:=by
 obtain⟨v,f,s1,s2,s3,s4⟩:=Ik h1 hM w hn;unfold eR;have e0:(da (dz p e t,some [t])).Things=[t]:=rfl;have eB:(da (dz p e t,some [t])).Box=[]:=rfl;have eF:(da (dz p e t,some [t])).Forced=t.Forced:=rfl;have ht:t.Forced=false:=by rw[he.forced,hk];rfl
 have hb:t.Block=true:=by rw[he.block,hk];rfl
 rw[eB,eF,e0,ht,bT (by omega) (by simp)];simp only[Option.bind_some];have ed:List.getD [t] (0:Int).toNat default=t:=rfl;rw[ed,hb,he.box,s1];simp only[Option.bind_some,uy];rw[s2];simp only[Option.bind_some,tW,E9,gA];rw[cO (by simp) (by omega)];exact⟨_,rfl,rfl,(fun h=>by cases h),rfl,rfl,rfl⟩
theorem HW{sel:ai→Int}{r:ay}{y:aP}(h:sZ r y)(hb:r.Box=[]):vR (cK sel y)=vI r:=by
 have:cK sel y=y:=by unfold cK;rw[h.box,hb];rfl
 rw[this];unfold vR vI;rw[h.width,h.space,h.glued,h.forced]
theorem GM(sel:ai→Int){M:Nat}(hM:2101≤M)(hn:M+10≤n):∀(m:Nat) (p:Option aw) (E:List aw) (T:List aM),f0 E T→E.length<m→E.length≤2000→(∀e∈E,EK e)→(∀e∈E,fp e)→(∀e∈E,0≤e.Box.Style.LineHeight∧e.Box.Style.LineHeight≤65536)→(∀e∈E,e.Kind=3→∃k,dZ e.Box k)→(∀e∈E,nl e)→(∀x∈E,∀y∈E,x.Of=y.Of→x.Box=y.Box) →
  ((eI m p E T).map (fe n w)).map (fun y=>vR (cK sel y))=(cM (fun b=>dF (sel b)) m p E).map vI∧∀y∈(eI m p E T).map (fe n w),y.Box≠[]→∃e∈E,e.Kind=3∧y.Things≠[]∧(y.Things.getD 0 default).Box=e.Box:=by
 intro m
 induction m with
 | zero=>intro p E T _ h;omega
 | succ m ih =>
  intro p E T hT h1 h2 hk ho hlh hob hk2 hob2;cases E with
  | nil =>
   cases T with
   | nil=>exact⟨rfl,fun y hy=>by cases hy⟩
   | cons t s=>exact hT.elim
  | cons e r =>
   cases T with
   | nil=>exact hT.elim
   | cons t s =>
    simp only[List.length_cons]at h1 h2;have sub:∀(x:RT) (y:aP) (r1:ay) (X:List ay) (G:List RT) (E':List aw),(∀z∈E',z∈e::r)→eR (KN n) n (da x) w=some y→vR (cK sel y)=vI r1→(y.Box≠[]→e.Kind=3∧y.Things≠[]∧(y.Things.getD 0 default).Box=e.Box)→((G.map (fe n w)).map (fun y=>vR (cK sel y))=X.map vI∧∀y∈G.map (fe n w),y.Box≠[]→∃e∈E',e.Kind=3∧y.Things≠[]∧(y.Things.getD 0 default).Box=e.Box) →
      ((x::G).map (fe n w)).map (fun y=>vR (cK sel y))=(r1::X).map vI∧∀y∈(x::G).map (fe n w),y.Box≠[]→∃z∈e::r,z.Kind=3∧y.Things≠[]∧(y.Things.getD 0 default).Box=z.Box:=fun x y r1 X G E' hE' q1 q2 q3 q4=>by
     have hs:fe n w x=y:=by unfold fe;rw[q1];rfl
     refine⟨?_,fun z hz hzb=>?_⟩
     ·rw[List.map_cons,List.map_cons,List.map_cons,hs,q2,q4.1]
     ·rw[List.map_cons]at hz;rcases List.mem_cons.1 hz with rfl|hz
      ·rw[hs]at hzb⊢;exact⟨e,by simp,q3 hzb⟩
      ·obtain⟨u,hu,hu2⟩:=q4.2 z hz hzb;exact⟨u,hE' u hu,hu2⟩
    unfold eI cM;rcases (hk e (by simp)).kind with k|k|k
    ·rw[show(e.Kind == 2)=false by rw[k];rfl,show(e.Kind == 3)=false by rw[k];rfl];simp only[cond_false];have hj:=pm e.Of r e;have hmem:∀x∈e::r.take (jl e.Of e r),x∈e::r:=fun x hx=>by
      rcases List.mem_cons.1 hx with rfl|hx
      ·simp
      ·exact List.mem_cons_of_mem _ (List.mem_of_mem_take hx)
     obtain⟨y,y1,y2⟩:=Nm (K:=KN n) (n:=n) (w:=w) (p:=p) (e:=e) (r:=r.take (jl e.Of e r)) (t:=t) (s:=s.take (jl e.Of e r)) ⟨hT.1,EE _ r s hT.2⟩ (fun x hx=>by
      rcases List.mem_cons.1 hx with rfl|hx
      ·exact k
      ·exact FN _ _ _ x hx) (fun x hx=>ho x (hmem x hx)) (by simp;omega) (by omega) (hlh e (by simp)) (fun x hx=>hk2 x (hmem x hx)) (fun x hx=>by
      refine hob2 x (hmem x hx) e (by simp) ?_;rcases List.mem_cons.1 hx with rfl|hx
      ·rfl
      ·exact Fp _ _ _ x hx)
     have hd:∀x∈r.drop (jl e.Of e r),x∈e::r:=fun x hx=>List.mem_cons_of_mem _ (List.mem_of_mem_drop hx);have hbx:(runM (dm (e::r.take (jl e.Of e r))) e (fw p e)).Box=[]:=rfl;exact sub _ y _ _ _ _ hd y1 (HW y2 hbx) (fun hb=>absurd (y2.box.trans hbx) hb) (ih _ _ _ (xI _ r s hT.2) (by simp;omega) (by simp;omega) (fun x hx=>hk x (hd x hx)) (fun x hx=>ho x (hd x hx)) (fun x hx=>hlh x (hd x hx)) (fun x hx=>hob x (hd x hx)) (fun x hx=>hk2 x (hd x hx)) (fun x hx y hy=>hob2 x (hd x hx) y (hd y hy)))
    ·rw[show(e.Kind == 2)=true by rw[k];rfl];simp only[cond_true];obtain⟨y,y1,y2⟩:=Ie (K:=KN n) (n:=n) (w:=w) (p:=p) hT.1 k;have hbx:(runM { cq with Forced:=true } e (fw p e)).Box=[]:=rfl;exact sub _ y _ _ _ _ (fun x hx=>by simp[hx]) y1 (HW y2 hbx) (fun hb=>absurd (y2.box.trans hbx) hb) (ih _ _ _ hT.2 (by omega) (by omega) (fun x hx=>hk x (by simp[hx])) (fun x hx=>ho x (by simp[hx])) (fun x hx=>hlh x (by simp[hx])) (fun x hx=>hob x (by simp[hx])) (fun x hx=>hk2 x (by simp[hx])) (fun x hx y hy=>hob2 x (by simp[hx]) y (by simp[hy])))
    ·rw[show(e.Kind == 2)=false by rw[k];rfl,show(e.Kind == 3)=true by rw[k];rfl];simp only[cond_true,cond_false];obtain⟨b,hb⟩:=hob e (by simp) k;obtain⟨y,y1,y2,y3,y4,y5,y6⟩:=acp (n:=n) (w:=w) (p:=p) hT.1 k (hk2 e (by simp)) hb (M:=M) (by omega) (by omega);have hlb:0<y.Box.length:=List.length_pos_iff.2 y3;refine sub _ y _ _ _ _ (fun x hx=>by simp[hx]) y1 ?_ (fun _=>⟨k,by rw[y2];simp,by rw[y2];exact hT.1.box⟩) (ih _ _ _ hT.2 (by omega) (by omega) (fun x hx=>hk x (by simp[hx])) (fun x hx=>ho x (by simp[hx])) (fun x hx=>hlh x (by simp[hx])) (fun x hx=>hob x (by simp[hx])) (fun x hx=>hk2 x (by simp[hx])) (fun x hx y hy=>hob2 x (by simp[hx]) y (by simp[hy])));unfold cK;rw[show decide ((y.Box.length:Int)>0)=true by simp;omega,y2];show(⟨sel t.Box,y.Space,y.Glued,y.Forced⟩:R4)=_;rw[y4,y5,y6,hT.1.box];rfl
end
theorem H6{b k:ai}{N:Nat}(h:dZ b k)(hN:20<N):iq (KN (N+1)) (N+1) b=some (cn (gp (ca b) 0 0).1,cn (gp (ca b) 0 0).2):=by
 have hlen:b.Kids.length≤20:=(xu h).1;have hfl:(ca b).length≤20:=Nat.le_trans sL hlen;have hr:((ca b).any fun k=>k.Kind == 1)=false:=by rw[xz h,List.any_cons,h.kind];rfl
 unfold iq;rw[z7 _ _ b hlen (by omega),DJ _ _ b hlen (by omega)];simp only[Option.bind_some,hr,Bool.not_false,if_true];rw[zg (KN (N+1)) (N+1) (ca b) b.Style hfl (by omega)];rfl
theorem acw{b k:ai}{N:Nat}(h:dZ b k)(hN:21<N):∃x y,Cn (N+1) b x y∧(KN (N+1)).jS b=some (x,y):=by
 have hlen:b.Kids.length≤20:=(xu h).1;have hO:∀x,(KN (N+1)).jn (Fv.fn 102) x=some (dj x):=fun x=>Ae (KN N) N x;have hfl:(ca b).length≤20:=Nat.le_trans sL hlen;refine⟨cn (gp (ca b) 0 0).1,cn (gp (ca b) 0 0).2,⟨?_,Hr _,Hr _,H6 h (by omega),?_⟩,?_⟩
 ·have:=Nc (ca b) 0 0 (fun x hx=>by rw[xz h]at hx;rw[List.mem_singleton.1 hx];have:=h.text;omega) (by omega) (by omega) (by omega);unfold cn;omega
 ·unfold jQ;rw[FT];simp only[Option.bind_some];rw[iV];simp only[Option.bind_some];split
  ·simp only[yd];rfl
  ·rw[B9 _ _ hO b hlen (by omega),Np h];simp only[Option.bind_some,Bool.not_false,if_true];rw[show(KN (N+1)).tn E1.Spread (ca b) b.Style=_ from zg (KN N) N (ca b) b.Style hfl (by omega)];rfl
 ·obtain⟨N,rfl⟩:∃M,N=M+1:=⟨N-1,by omega⟩;exact H6 h (by omega)
theorem W3(N:Nat)(b:ai)(x y:Int)(h:Cn N b x y)(hkn:(KN N).jS b=some (x,y)):∃p,wZ (KN N) N b E1=some p∧fS (KN N) N b=some p∧p.1≤p.2 ∧ -7340032≤p.1∧p.2≤7340032:=by
 obtain⟨h1,h2,h3,h4,h5⟩:=h;have ex:=sM x;have ey:=sM y;rw[h2]at ex;rw[h3]at ey;unfold wZ fS oC;rw[hkn,h5];have hF:∀c,o1 b.Style c=aa (eJ (dC b.Style) 0 c+jj (ec (dC b.Style) 0 0)):=fun c=>Tu (dC b.Style) _;simp only[Option.bind_some,FT,acK,yE,wP,wB,CJ,KV,h2,h3];have hk:(dC b.Style).Width.Kind≠2:=Qw _;by_cases hw:(dC b.Style).Width.Kind=1
 ·have e1:(bP (dC b.Style).Width 0).2=true:=by rw[Lb];simp[hw]
  have e2:(gx (dC b.Style).Width).2=true:=by unfold gx;simp[hw]
  have e3:(gx (dC b.Style).Width).1=cn (bP (dC b.Style).Width 0).1:=by unfold gx bP cn;simp only[hw,if_true];omega
  simp only[e1,e2,if_true,lA,uy,tW,yR,Option.bind_some,e3];refine⟨_,rfl,?_,Int.le_refl _,(zo b.Style (sM _).2).1,(zo b.Style (sM _).2).2⟩;rw[←hF];rfl
 ·have e1:(bP (dC b.Style).Width 0).2=false:=by rw[Lb];simp[hw,hk]
  have e2:(gx (dC b.Style).Width).2=false:=by unfold gx;simp[hw]
  simp only[e1,e2,Bool.false_eq_true,if_false,lA,uy,tW,yR,Option.bind_some];refine⟨_,rfl,?_,abN b.Style h1 ey.2,(zo b.Style (by omega)).1,(zo b.Style ey.2).2⟩;rw[←hF,← hF];rfl
def dI(N:Nat)(b:ai):Int×Int:=(fS (KN (N+1)) (N+1) b).getD (0,0)
theorem KR{b k:ai}{N:Nat}(h:dZ b k)(hN:21<N):(KN (N+2)).lJ (Fv.fn 32) b=some (dI N b)∧fS (KN (N+1)) (N+1) b=some (dI N b):=by
 obtain⟨x,y,hc,hk⟩:=acw h hN;obtain⟨p,p1,p2,_⟩:=W3 (N+1) b x y hc hk;have hw:dI N b=p:=by unfold dI;rw[p2];rfl
 rw[hw];refine⟨?_,p2⟩;show uf (KN (N+1)) (N+1) b=some p;unfold uf i7;simp only[Option.bind_some];rw[show(⟨(Fv.fn 31),(Fv.fn 32),(Fv.fn 33),(Fv.fn 34)⟩:cg)=E1 from rfl,p1];rfl
theorem O3{l:List ci}(ht:∀s∈l,s.Text.size≤60)(hlh:∀s∈l,0≤s.Style.LineHeight∧s.Style.LineHeight≤65536){d:Nat}{bx:List ai}(hb:Bx l d bx)(hD:Dp (d+1) bx)(hc:bL (d+1) bx≤2000){M:Nat}(hM:d+9100≤M)(s:aI):
  pj (KN (M+11)) (M+11) bx s gP=some (gK ((d8 (fun b=>dF (dI (M+9) b).1) (cd (d+1) bx)).map vI) (M+11) 0 0,dq ((d8 (fun b=>dF (dI (M+9) b).2) (cd (d+1) bx)).map vI) (M+11) 0 0) ∧
  pS (KN (M+11)) (M+11) bx=some (gK ((d8 (fun b=>dF (dI (M+9) b).1) (cd (d+1) bx)).map vI) (M+11) 0 0,dq ((d8 (fun b=>dF (dI (M+9) b).2) (cd (d+1) bx)).map vI) (M+11) 0 0):=by
 have hel:=zW (d+1) bx;have hek:=Mu (d+1) bx;have heo:=yc (d+1) bx;have hob:=M8 ht hb;have hk2:=S2 (d+1) bx;have hob2:=acb (d+1) bx (by omega);have hE:∀e∈cd (d+1) bx,0≤e.Box.Style.LineHeight∧e.Box.Style.LineHeight≤65536:=DM d bx (0,[]) (fun b=>0≤b.Style.LineHeight∧b.Style.LineHeight≤65536) hb (fun b R hk=>by
  obtain⟨s,hs,h1,_⟩:=hk;rw[h1];exact hlh s hs) (fun x hx=>by cases hx)
 constructor
 ·obtain⟨mo,z,c1,c2⟩:=XU (N:=M+11) (env:=gP) (W:=dI (M+9)) hD hc (by omega) (fun e he h3=>by
   obtain⟨k,hk⟩:=hob e he h3;exact(KR (N:=M+9) hk (by omega)).1)
  have l1:=CX (fun b=>dF (dI (M+9) b).1) ((cd (d+1) bx).length+1) none (cd (d+1) bx);have l2:=CX (fun b=>dF (dI (M+9) b).2) ((cd (d+1) bx).length+1) none (cd (d+1) bx);unfold pj;rw[c1];simp only[Option.bind_some];rw[c2];simp only[Option.bind_some];unfold d8 at *;generalize cM (fun b=>dF (dI (M+9) b).1) ((cd (d+1) bx).length+1) none (cd (d+1) bx)=X1 at *;generalize cM (fun b=>dF (dI (M+9) b).2) ((cd (d+1) bx).length+1) none (cd (d+1) bx)=X2 at *;exact UV (K:=KN (M+11)) (n:=M+11) (V4:=(X1,mo)) (V5:=(X2,z)) (by show X1.length<_;omega) (by show(X1.length:Int)≤_;omega) (by show X2.length<_;omega) (by show(X2.length:Int)≤_;omega) (M+11) 0 0 (by omega) (by show X1.length<_;omega)
 ·obtain⟨c,T,t1,t2⟩:=Oy (N:=M+11) hD (by omega) (by omega);have hW:∀e∈cd (d+1) bx,e.Kind=3→fS (KN (M+11)) (M+11) e.Box=some (dI (M+9) e.Box):=fun e he h3=>by
   obtain⟨k,hk⟩:=hob e he h3;exact Mm (xR _ _ (by omega)) (by omega) _ _ (KR (N:=M+9) hk (by omega)).2
  generalize cd (d+1) bx=E at *;have hlen:=t2.len;have hT:=Md E T hlen t2.el;have h5:=P8 (K:=KN (M+11)) (n:=M+11) (w:=0) t2 hek (by omega) (by omega) (M+11) 0 [] (by omega) (by omega) (fun h=>by omega) (by simp) (fun x hx=>by cases hx);rw[List.drop_zero,List.drop_zero,show cm E 0=none from rfl,PE (E.length+1) none E T [] hlen (by omega) (fun e he=>(hek e he).kind) (fun e r _=>rfl),List.nil_append]at h5;obtain⟨q1,q2⟩:=aaW (w:=0) (M:=M) (n:=M+11) (by omega) (by omega) (E.length+1) none E T hT (by omega) (by omega) hek heo hE hob hk2 hob2;have hgl:=Yj (E.length+1) none E T;have h6:=PH (n:=M+11) (w:=0) (M+11) (eI (E.length+1) none E T) [] (by omega) (by simp;omega) q1;have hY:tK (KN (M+11)) (M+11) bx 0=some ((eI (E.length+1) none E T).map (fe (M+11) 0)):=by
   unfold tK;rw[t1];simp only[Option.bind_some];rw[show kz (KN (M+11)) (M+11) 0 T (M+11) 0 []=_ from h5];exact h6
  have r1:=GM (w:=0) (n:=M+11) (fun b=>(dI (M+9) b).1) (M:=M) (by omega) (by omega) (E.length+1) none E T hT (by omega) (by omega) hek heo hE hob hk2 hob2;have r2:=GM (w:=0) (n:=M+11) (fun b=>(dI (M+9) b).2) (M:=M) (by omega) (by omega) (E.length+1) none E T hT (by omega) (by omega) hek heo hE hob hk2 hob2;rw[Ys (W:=dI (M+9)) hY (by rw[List.length_map];omega) (by rw[List.length_map];omega) (fun y hy hb=>by
   obtain⟨e,he,h3,k1,k2⟩:=r1.2 y hy hb;exact⟨k1,by rw[k2];exact hW e he h3⟩)]
  unfold d8;rw[←r1.1,← r2.1,List.map_map,List.map_map (f:=fe (M+11) 0),List.map_map,List.map_map (f:=fe (M+11) 0)];simp only[List.map_map];rfl
end
end Go.Proofs.YtnpmlepplfaijaaGreat
namespace Go.Proofs.YtnpmlepplfaijaaGreat
set_option linter.all false
open Go.RowKit
noncomputable section
def cH:List R4→Int
 | []=>0
 | r::t=>r.w+r.s+cH t
def Nn(l:List R4):Prop:=∀r∈l,0≤r.w∧0≤r.s
theorem Nn.tl{r:R4}{l:List R4}(h:Nn (r::l)):Nn l:=fun x hx=>h x (by simp[hx])
theorem uV:∀a b:List R4,cH (a++b)=cH a+cH b
 | [],b=>by simp[cH]
 | r::t,b=>by simp only[List.cons_append,cH,uV t b];omega
theorem mN:∀{l:List R4},Nn l→0≤cH l
 | [],_=>Int.le_refl _
 | r::t,h=>by have:=mN h.tl;have:=h r (by simp);simp only[cH];omega
theorem Oi:∀(l:List R4) (n:Int),Nn l→0≤n→n+cH l≤1125899906842624→lw n l=n+cH l
 | [],n,_,_,_=>by simp[lw,cH]
 | r::t,n,h,h0,h1=>by
  have:=mN h.tl;have:=h r (by simp);simp only[cH]at h1⊢;unfold lw;rw[bj (n:=r.w+r.s) (by omega) (by omega),bj (by omega) (by omega),Oi t _ h.tl (by omega) (by omega)];omega
theorem nX:∀(l:List R4) (x:Int),Nn l→0≤x→0≤de x l∧de x l≤x+cH l
 | [],x,_,h=>⟨h,by simp[de,cH]⟩
 | r::t,x,h,h0=>by
  have:=mN h.tl;have:=h r (by simp);unfold de;simp only[cH];cases r.f with
  | true=>have:=nX t x h.tl h0;simp only[if_true];omega
  | false=>have:=nX t r.s h.tl this.2;simp only[Bool.false_eq_true,if_false];omega
theorem CZ(d:Int)(hd:0≤d):∀(l:List R4) (x y:Int),x≤y+d→de x l≤de y l+d
 | [],x,y,h=>h
 | r::t,x,y,h=>by
  unfold de;cases r.f with
  | true=>exact CZ d hd t x y h
  | false=>exact CZ d hd t r.s r.s (by omega)
theorem Bn{l:List R4}(h:Nn l)(hb:cH l≤1125899906842624):cX l=cH l-de 0 l:=by
 have h1:=mN h;have h2:=nX l 0 h (Int.le_refl _);unfold cX;rw[FV,Oi l 0 h (Int.le_refl _) (by omega),bj (by omega) (by omega)];omega
theorem aaj{a b c:List R4}(h:Nn (a++b++c))(hb:cH (a++b++c)≤1125899906842624):cX b≤cX (a++b++c):=by
 have na:Nn a:=fun x hx=>h x (by simp[hx]);have nb:Nn b:=fun x hx=>h x (by simp[hx]);have nc:Nn c:=fun x hx=>h x (by simp[hx]);have ta:=mN na;have tc:=mN nc;have e:cH (a++b++c)=cH a+cH b+cH c:=by rw[uV,uV]
 rw[Bn h hb,Bn nb (by omega),e,uN,uN];have q1:=nX a 0 na (Int.le_refl _);have q2:=nX b (de 0 a) nb q1.1;have q3:=nX c (de (de 0 a) b) nc q2.1;have q4:=CZ (de 0 a) q1.1 b (de 0 a) 0 (by omega);omega
theorem Kg{α:Type}(l:List α){a b c:Nat}(h1:a≤b)(h2:b≤c):sl l a b++sl l b c=sl l a c:=by
 unfold sl;rw[List.drop_take,List.drop_take,List.drop_take];obtain⟨k,rfl⟩:∃k,b=a+k:=⟨b-a,by omega⟩;rw[←List.drop_drop,show c-a=k+(c-(a+k)) by omega,List.take_add,show a+k-a=k by omega]
theorem Bi{l:List R4}(h:Nn l)(a b:Nat):Nn (sl l a b):=fun x hx=>h x (List.mem_of_mem_take (List.mem_of_mem_drop hx))
theorem HE{l:List R4}(h:Nn l)(a b:Nat):cH (sl l a b)≤cH l:=by
 have e:cH l=cH (l.take b)+cH (l.drop b):=by rw[←uV,List.take_append_drop]
 have e2:cH (l.take b)=cH ((l.take b).take a)+cH ((l.take b).drop a):=by rw[←uV,List.take_append_drop]
 have h1:=mN (l:=l.drop b) (fun x hx=>h x (List.mem_of_mem_drop hx));have h2:=mN (l:=(l.take b).take a) (fun x hx=>h x (List.mem_of_mem_take (List.mem_of_mem_take hx)));unfold sl;omega
theorem M1{l:List R4}(h:Nn l)(hb:cH l≤1125899906842624){a b c d:Nat}(h1:a≤b)(h2:b≤c)(h3:c≤d):cX (sl l b c)≤cX (sl l a d):=by
 have e:sl l a d=sl l a b++sl l b c++sl l c d:=by rw[Kg l h1 h2,Kg l (by omega) h3]
 rw[e];refine aaj ?_ ?_
 ·rw[←e];exact Bi h a d
 ·rw[←e];have:=HE h a d;omega
def NG(l:List R4):Prop:=∀i,(h:i+1<l.length)→l[i].f=true→l[i+1].g=false
theorem V3{l:List R4}:∀(k a:Nat),l.length-a=k→∀j,a≤j→j+1<ef l a→(hj:j<l.length)→l[j].f=false:=by
 intro k
 induction k with
 | zero=>intro a hk j h1 h2 hj;omega
 | succ k ih =>
  intro a hk j h1 h2 hj;have ha:a<l.length:=by omega
  cases hf:l[a].f with
  | true=>rw[wh ha hf]at h2;omega
  | false =>
   by_cases hl:a+1=l.length
   ·rw[wE hl]at h2;omega
   ·by_cases e:j=a
    ·subst e;exact hf
    ·exact ih (a+1) (by omega) j (by omega) (by rw[←wW (by omega) hf];exact h2) hj
theorem KF{l:List R4}:∀(k a:Nat),l.length-a=k→a<l.length→(h:ef l a<l.length)→(h0:ef l a-1<l.length)→l[ef l a-1].f=true:=by
 intro k
 induction k with
 | zero=>intro a hk ha;omega
 | succ k ih =>
  intro a hk ha h h0;cases hf:l[a].f with
  | true =>
   have e:=wh ha hf;simp only[e,Nat.add_sub_cancel];exact hf
  | false =>
   by_cases hl:a+1=l.length
   ·rw[wE hl]at h;omega
   ·have e:=wW (l:=l) (i:=a) (by omega) hf;simp only[e]at h h0⊢;exact ih (a+1) (by omega) (by omega) h h0
theorem CN{l:List R4}(hg:NG l){a b:Nat}(h1:a≤b)(h2:b<ef l a):gr l (b+1)≤ef l a:=by
 have hle:=zu l a;refine Classical.byContradiction fun hn=>?_;have hgl:=rH (l:=l) (i:=b+1) (by omega);have hlt:ef l a<l.length:=by omega
 have q1:=VT (l:=l) (l.length-(b+1)) (b+1) rfl (ef l a) (by omega) (by omega) hlt;have q2:=KF (l:=l) (l.length-a) a rfl (by omega) hlt (by omega);have q3:=hg (ef l a-1) (by omega) q2;have e:ef l a-1+1=ef l a:=by omega
 simp only[e]at q3;rw[q1]at q3;cases q3
theorem vJ(l:List R4):∀(m:Nat) (x:Int) (a:Nat),x≤dq l m x a
 | 0,x,a=>Int.le_refl _
 | m+1,x,a=>by
  unfold dq;split
  ·have:=vJ l m (max x (cX (sl l a (ef l a)))) (ef l a);omega
  ·exact Int.le_refl _
theorem abq{l:List R4}(hg:NG l)(h:Nn l)(hb:cH l≤1125899906842624):∀(m:Nat) (x:Int) (a:Nat),l.length<m+a→∀b,a≤b→b<l.length→cX (sl l b (gr l (b+1)))≤dq l m x a:=by
 intro m
 induction m with
 | zero=>intro x a h1 b h2 h3;omega
 | succ m ih =>
  intro x a h1 b h2 h3;unfold dq;rw[if_pos (by omega)];have hgt:=mW (l:=l) (i:=a) (by omega);by_cases hlt:b<ef l a
  ·have q1:=CN hg h2 hlt;have q2:=jL l (b+1);have q3:=M1 h hb h2 (show b≤gr l (b+1) by omega) q1;have q4:=vJ l m (max x (cX (sl l a (ef l a)))) (ef l a);omega
  ·exact ih _ _ (by omega) b (by omega) h3
theorem Nr{l:List R4}{B:Int}(hB:∀b,b<l.length→cX (sl l b (gr l (b+1)))≤B):∀(m:Nat) (x:Int) (a:Nat),x≤B→gK l m x a≤B
 | 0,x,a,h=>h
 | m+1,x,a,h=>by
  unfold gK;split
  ·rename_i ha;have:=hB a ha;exact Nr hB m _ _ (by omega)
  ·exact h
theorem RK{l:List R4}(hg:NG l)(h:Nn l)(hb:cH l≤1125899906842624){m:Nat}(hm:l.length<m):gK l m 0 0≤dq l m 0 0 :=
 Nr (fun b hbl=>abq hg h hb m 0 0 (by omega) b (by omega) hbl) m 0 0 (vJ l m 0 0)
theorem SB{l:List R4}(hg:NG l)(h:Nn l)(hb:cH l≤1125899906842624){w:Int}{a:Nat}(ha:a<l.length)(hw:cX (sl l a (ef l a))≤w):∀(m e:Nat),l.length≤m+e→a<e→e≤ef l a→lE l w a m e=ef l a:=by
 intro m;have hle:=zu l a
 induction m with
 | zero =>
  intro e h1 h2 h3;unfold lE;omega
 | succ m ih =>
  intro e h1 h2 h3;unfold lE;by_cases he:e<ef l a
  ·have f1:=V3 (l:=l) (l.length-a) a rfl (e-1) (by omega) (by omega) (by omega);have q1:=CN hg (a:=a) (b:=e) (by omega) he;have q2:=jL l (e+1);have q3:=M1 h hb (Nat.le_refl a) (show a≤gr l (e+1) by omega) q1;rw[if_pos ⟨by omega,by rw[bV (by omega)];exact f1,by omega⟩];exact ih _ (by omega) (by omega) q1
  ·have e1:e=ef l a:=by omega
   rw[if_neg]
   ·exact e1
   ·rintro ⟨c1,c2,_⟩
    have q2:=KF (l:=l) (l.length-a) a rfl ha (by omega) (by omega);rw[bV (by omega)]at c2;simp only[e1]at c2;rw[q2]at c2;cases c2
def eV(l:List R4):Nat→Nat→Nat
 | 0,_=>0
 | m+1,a=>if a<l.length then 1+eV l m (ef l a) else 0
theorem acx(l:List R4):∀(m m' a:Nat),l.length<m+a→l.length<m'+a→eV l m a=eV l m' a:=by
 intro m
 induction m with
 | zero =>
  intro m' a h h';cases m' with
  | zero=>rfl
  | succ m'=>unfold eV;rw[if_neg (by omega)]
 | succ m ih =>
  intro m' a h h';cases m' with
  | zero=>unfold eV;rw[if_neg (by omega)]
  | succ m' =>
   unfold eV;split
   ·rename_i h1;have:=mW h1;rw[ih m' _ (by omega) (by omega)]
   ·rfl
theorem Ul{l:List R4}(hg:NG l)(h:Nn l)(hb:cH l≤1125899906842624){w:Int}:∀(m:Nat) (x:Int) (a:Nat),l.length<m+a→dq l m x a≤w→(bM l w m a).length=eV l m a:=by
 intro m
 induction m with
 | zero=>intro x a h1 h2;rfl
 | succ m ih =>
  intro x a h1 h2;unfold bM eV;unfold dq at h2;by_cases ha:a<l.length
  ·rw[if_pos ha]at h2⊢;rw[if_pos ha];have hgt:=mW ha;have q1:=vJ l m (max x (cX (sl l a (ef l a)))) (ef l a);have q2:=CN hg (Nat.le_refl a) hgt;have q3:=jL l (a+1);rw[SB hg h hb ha (by omega) l.length (gr l (a+1)) (by omega) (by omega) q2,List.length_cons,ih _ _ (by omega) h2];omega
  ·rw[if_neg ha,if_neg ha];rfl
def gd:List R4→Nat
 | []=>0
 | [_]=>0
 | r::s::t=>(if r.f then 1 else 0)+gd (s::t)
theorem GK{l:List R4}{i:Nat}(h:i+1<l.length):gd (l.drop i)=(if l[i].f then 1 else 0)+gd (l.drop (i+1)):=by
 rw[List.drop_eq_getElem_cons (show i<l.length by omega),List.drop_eq_getElem_cons h];rfl
theorem xU{l:List R4}{i:Nat}(h:l.length≤i+1):gd (l.drop i)=0:=by
 have:(l.drop i).length≤1:=by rw[List.length_drop];omega
 match hd:l.drop i,this with
 | [],_=>rfl
 | [_],_=>rfl
 | _::_::_,h=>simp at h
theorem WV{l:List R4}{m:Nat}:∀(k i:Nat),l.length-i=k→i<l.length→l.length<m+i→eV l m i=gd (l.drop i)+1:=by
 intro k
 induction k with
 | zero=>intro i hk hi;omega
 | succ k ih =>
  intro i hk hi hm;obtain⟨m,rfl⟩:∃m',m=m'+1:=⟨m-1,by omega⟩;have st:eV l (m+1) i=1+eV l m (ef l i):=by show(if i<l.length then 1+eV l m (ef l i) else 0)=_;rw[if_pos hi]
  by_cases hl:i+1=l.length
  ·rw[st,wE hl,xU (by omega)];have:eV l m (i+1)=0:=by
    cases m with
    | zero=>rfl
    | succ m=>unfold eV;rw[if_neg (by omega)]
   omega
  ·have e:=ih (i+1) (by omega) (by omega) (by omega);rw[GK (by omega)];cases hf:l[i].f with
   | true =>
    rw[st,wh hi hf,acx l m (m+1) (i+1) (by omega) (by omega),e];simp only[if_true];omega
   | false =>
    rw[st,wW (by omega) hf];have:eV l (m+1) (i+1)=1+eV l m (ef l (i+1)):=by show(if i+1<l.length then 1+eV l m (ef l (i+1)) else 0)=_;rw[if_pos (by omega)]
    rw[←this,e];simp
def Ub(x:Option Int):Prop:=∃u,x=some u∧0≤u∧u≤16
theorem Xc{c:Prop}[Decidable c]{x y:Option Int}(h1:Ub x)(h2:Ub y):Ub (if c then x else y):=by split;exact h1;exact h2
theorem Sn(r:Int):0≤fk r∧fk r≤16:=by
 have h:Ub (gv (KN 0) 0 r):=by
  unfold gv gj;simp only[dN,dA,fY,oN]
  repeat first|exact⟨_,rfl,by decide,by decide⟩|apply Xc
 obtain⟨u,h1,h2⟩:=h;unfold fk;rw[h1];exact h2
theorem HY(r s:Int):0≤fu r s∧fu r s≤2097152:=by
 have h1:=Sn r;have h2:0≤iG s∧iG s≤1048576:=by unfold iG;omega
 unfold fu;generalize fk r=u at *;generalize iG s=z at *;have h3:0≤u*z:=Int.mul_nonneg h1.1 h2.1;have h4:u*z≤16*1048576:=Int.mul_le_mul h1.2 h2.2 h2.1 (by decide);generalize u*z=p at *;rw[bj (n:=p) (by omega) (by omega),bj (n:=p+15) (by omega) (by omega),Int.tdiv_eq_ediv_of_nonneg (by omega),bj (by omega) (by omega)];omega
theorem It(s:Int):∀(l:List Int) (a:Int),0≤a→a+2097152*l.length≤1125899906842624→0≤fj s a l∧fj s a l≤a+2097152*l.length
 | [],a,h,_=>⟨h,by simp[fj]⟩
 | c::t,a,h0,h1=>by
  have hc:=HY c s;simp only[List.length_cons]at h1⊢;unfold fj;rw[bj (n:=a+fu c s) (by omega) (by omega)];have:=It s t (a+fu c s) (by omega) (by omega);omega
theorem ac9(x:List aw):(jK x).length≤x.length:=by
 unfold jK bJ;cases eA x<;>simp
theorem UA(pl:ai→ay):∀(m:Nat) (p:Option aw) (E:List aw),(∀e∈E,e.Kind≠3)→E.length≤2000→∀r∈(cM pl m p E).map vI,0≤r.w∧r.w≤4294967296∧0≤r.s∧r.s≤4294967296:=by
 intro m
 induction m with
 | zero=>intro p E _ _ r hr;simp[cM]at hr
 | succ m ih =>
  intro p E hE hl r hr;cases E with
  | nil=>simp[cM]at hr
  | cons e t =>
   simp only[List.length_cons]at hl;have h3:(e.Kind == 3)=false:=by simpa using hE e (by simp)
   unfold cM at hr;rw[h3]at hr;cases h2:(e.Kind == 2) with
   | true =>
    rw[h2]at hr;simp only[cond_true,List.map_cons]at hr;rcases List.mem_cons.1 hr with rfl|hr
    ·exact⟨Int.le_refl 0,show(0:Int)≤4294967296 by decide,Int.le_refl 0,show(0:Int)≤4294967296 by decide⟩
    ·exact ih _ _ (fun x hx=>hE x (by simp[hx])) (by omega) r hr
   | false =>
    rw[h2]at hr;simp only[cond_false,List.map_cons]at hr;rcases List.mem_cons.1 hr with rfl|hr
    ·have hj:=pm e.Of t e;have hs:=ac9 (e::t.take (jl e.Of e t));have hle:(e::t.take (jl e.Of e t)).length≤2000:=by simp;omega
     have hw:=It (nA (e::t.take (jl e.Of e t))).FontSize (jK (e::t.take (jl e.Of e t))) 0 (Int.le_refl _) (by omega);have hc:=HY 32 (nA (e::t.take (jl e.Of e t))).FontSize;refine⟨hw.1,by show fj _ 0 _≤_;omega,?_,?_⟩
     ·show 0≤(bif eA (e::t.take (jl e.Of e t)) then fu 32 _ else 0);cases eA (e::t.take (jl e.Of e t)) with
      | true=>exact hc.1
      | false=>exact Int.le_refl _
     ·show(bif eA (e::t.take (jl e.Of e t)) then fu 32 _ else 0)≤_;cases eA (e::t.take (jl e.Of e t)) with
      | true=>simp only[cond_true];omega
      | false=>simp only[cond_false];omega
    ·exact ih _ _ (fun x hx=>hE x (List.mem_cons_of_mem _ (List.mem_of_mem_drop hx))) (by simp;omega) r hr
theorem Mq(pl pl':ai→ay):∀(m:Nat) (p:Option aw) (E:List aw),(∀e∈E,e.Kind≠3)→cM pl m p E=cM pl' m p E:=by
 intro m
 induction m with
 | zero=>intro p E _;rfl
 | succ m ih =>
  intro p E hE;cases E with
  | nil=>rfl
  | cons e t =>
   have h3:(e.Kind == 3)=false:=by simpa using hE e (by simp)
   unfold cM;rw[h3,ih (some e) t (fun x hx=>hE x (by simp[hx])),ih _ (t.drop (jl e.Of e t)) (fun x hx=>hE x (List.mem_cons_of_mem _ (List.mem_of_mem_drop hx)))];rfl
def nJ:Bool→List R4→Prop
 | _,[]=>True
 | b,r::t=>(b=true→r.g=false)∧nJ r.f t
theorem nJ.yr{b:Bool}{l:List R4}(h:nJ b l):nJ false l:=by
 cases l with
 | nil=>trivial
 | cons r t=>exact⟨(fun h=>by cases h),h.2⟩
theorem nJ.at:∀{l:List R4} {b:Bool},nJ b l→NG l
 | [],b,h=>fun i hi=>by simp at hi
 | r::t,b,h=>fun i hi hf=>by
  obtain⟨h1,h2⟩:=h;cases i with
  | zero =>
   cases t with
   | nil=>simp at hi
   | cons s u=>exact h2.1 hf
  | succ i=>exact nJ.at h2 i (by simpa using hi) hf
def pF:Option aw→Bool
 | none=>false
 | some q=>q.Kind == 2
theorem acT(pl:ai→ay):∀(m:Nat) (p:Option aw) (E:List aw),(∀e∈E,e.Kind≠3)→nJ (pF p) ((cM pl m p E).map vI):=by
 intro m
 induction m with
 | zero=>intro p E _;exact trivial
 | succ m ih =>
  intro p E hE;cases E with
  | nil=>exact trivial
  | cons e t =>
   have h3:(e.Kind == 3)=false:=by simpa using hE e (by simp)
   have hgl:pF p=true→fw p e=false:=fun h=>by
    cases p with
    | none=>rfl
    | some q =>
     have hq:q.Kind=2:=by simpa[pF]using h
     show(q.Kind != 2&&!dn q e)=false;rw[hq];rfl
   unfold cM;rw[h3];cases h2:(e.Kind == 2) with
   | true =>
    simp only[cond_true,List.map_cons];have:=ih (some e) t (fun x hx=>hE x (by simp[hx]));exact⟨hgl, by
     have e1 : pF (some e)=true:=h2;rw[e1]at this;exact this⟩
   | false =>
    simp only[cond_false,List.map_cons];exact⟨hgl,(ih _ _ (fun x hx=>hE x (List.mem_cons_of_mem _ (List.mem_of_mem_drop hx)))).yr⟩
theorem LC:∀(l:List R4),(∀r∈l,0≤r.w∧r.w≤4294967296∧0≤r.s∧r.s≤4294967296)→cH l≤8589934592*l.length
 | [],_=>by simp[cH]
 | r::t,h=>by
  have:=LC t (fun x hx=>h x (by simp[hx]));have:=h r (by simp);simp only[cH,List.length_cons];omega
theorem IJ{l:List R4}(h:Nn l)(hb:cH l≤1125899906842624):∀(m:Nat) (x:Int) (a:Nat),x≤1125899906842624→dq l m x a≤1125899906842624
 | 0,x,a,hx=>hx
 | m+1,x,a,hx=>by
  unfold dq;split
  ·have h1:=HE h a (ef l a);have h2:=nX (sl l a (ef l a)) 0 (Bi h _ _) (Int.le_refl _);have h3:=Bn (Bi h a (ef l a)) (by omega);exact IJ h hb m _ _ (by omega)
  ·exact hx
theorem abH{l:List ci}{d:Nat}{bx:List ai}(hb:Bx l d bx)(hp:∀s∈l,Int.tmod s.Kind 8≠6):∀e∈cd (d+1) bx,e.Kind≠3:=by
 have hno:∀e∈cd (d+1) bx,e.Box.Kind≠5:=DM d bx (0,[]) (fun b=>b.Kind≠5) hb (fun b R hk h5=>by
  obtain⟨s,hs,_,q|q|q|q⟩:=hk
  ·rw[q.1]at h5;cases h5
  ·rw[q.1]at h5;cases h5
  ·exact hp s hs q.2.2.1
  ·rw[q.1]at h5;cases h5) (fun x hx=>by cases hx)
 have hobj:=Nu (d+1) bx (0,[]) (fun x hx=>by cases hx);exact fun e he h=>hno e he (hobj e he h)
end
end Go.Proofs.YtnpmlepplfaijaaGreat
namespace Go.Proofs.YtnpmlepplfaijaaGreat
set_option linter.all false
open Go.RowKit
set_option maxRecDepth 100000 in
theorem WA(k:Nat):vk (KN (k+40)) (k+40)=some true:=by kernel_rfl
end Go.Proofs.YtnpmlepplfaijaaGreat
namespace Go.Proofs.YtnpmlepplfaijaaGreat.QInlineSpread
set_option linter.all false
open Go.RowKit
noncomputable section
theorem Xu {K : Kn} {n : Nat} {more : Int} {V : Int × Int} {X : List ay} (hl : X.length ≤ 1000000) {R : Option Bool} (hR : ∀ c : Nat, (c : Int) = gd (X.map vI) → (if (decide (V.1 ≤ V.2)) = true then
      (ou K n X (aa ((aa (V.2+(aa more)))-1))).bind fun v25 =>
      om K n ((v25.length:Int) == (aa ((c:Int)+(min (X.length:Int) 1))))
    else
      om K n false)=R):∀(m i c:Nat),i≤X.length→X.length<m+i→c+gd ((X.map vI).drop i)=gd (X.map vI)→c≤i→qt K n more V X m (c:Int) (i:Int)=R:=by
  intro m
  induction m with
  | zero=>intro i c h1 h2;omega
  | succ m ih =>
    intro i c h1 h2 h3 h4;show sa K n more V X (qt K n more V X m) c i=_;unfold sa;by_cases hi:i<X.length
    · have hv:=qR hi;have e1:aa ((i:Int)+1)=((i+1:Nat):Int):=by rw[bj (by omega) (by omega)];omega
      have e2:aa ((c:Int)+1)=((c+1:Nat):Int):=by rw[bj (by omega) (by omega)];omega
      have e3:aa ((X.length:Int)-1)=((X.length-1:Nat):Int):=by rw[bj (by omega) (by omega)];omega
      rw[if_pos (by simpa using hi),bT (by omega) (by omega),aZ,Int.toNat_natCast,e3];have no:c+gd ((X.map vI).drop (i+1))=gd (X.map vI)→oO K n more V X (c:Int) (i:Int) (qt K n more V X m) false=R:=fun h=>by
        unfold oO qW;rw[if_neg (by simp),e1];exact ih (i+1) c (by omega) (by omega) h (by omega)
      by_cases hla:i+1<X.length
      · have hs:=GK (l:=X.map vI) (i:=i) (by simpa using hla);rw[hv]at hs;rw[hs]at h3;cases hf:(X.getD i default).Forced with
        | true =>
          have hvf:(vI (X.getD i default)).f=true:=hf;rw[hvf,if_pos rfl]at h3;rw[if_pos rfl,show decide ((i:Int)<((X.length-1:Nat):Int))=true by simp;omega];unfold oO qW;rw[if_pos rfl,e1,e2];exact ih (i+1) (c+1) (by omega) (by omega) (by omega) (by omega)
        | false =>
          have hvf:(vI (X.getD i default)).f=false:=hf;rw[hvf]at h3;rw[if_neg (by simp)];exact no (by simpa using h3)
      · have hs:=xU (l:=X.map vI) (i:=i) (by simp;omega);have hs2:=xU (l:=X.map vI) (i:=i+1) (by simp;omega);rw[show decide ((i:Int)<((X.length-1:Nat):Int))=false by simp;omega];have:=no (by omega);split<;>exact this
    · rw[if_neg (by simpa using hi)];have hs:=xU (l:=X.map vI) (i:=i) (by simp;omega);exact hR c (by omega)
theorem Pr{K:Kn}{n:Nat}{L:List ci}(hl:L.length≤1000000){R:Option Bool}(x:Int)(hR:∀y:Int,(y=x∨y=0)→(y≠0→∀s∈L,Int.tmod s.Kind 8≠6)→((tD K n L).bind fun v11 =>
  (qF K n L).bind fun v12 =>
  (i7 K n ).bind fun v13 =>
  (pj K n v11 v12 v13).bind fun v14 =>
  (pS K n v11).bind fun v15 =>
  if (v14.1 != v15.1)=true then
   px K n y v11 v14 true
  else
   px K n y v11 v14 (v14.2 != v15.2))=R):∀(m i:Nat) (y:Int),i≤L.length→L.length<m+i→(y=x∨y=0)→(y≠0→∀j,j<i→Int.tmod (L.getD j default).Kind 8≠6)→sr K n L m y (i:Int)=R:=by
 intro m
 induction m with
 | zero=>intro i y h1 h2;omega
 | succ m ih =>
  intro i y h1 h2 h3 h4;show rF K n L (sr K n L m) y i=_;unfold rF;by_cases hi:i<L.length
  ·have e1:aa ((i:Int)+1)=((i+1:Nat):Int):=by rw[bj (by omega) (by omega)];omega
   rw[if_pos (by simpa using hi),bT (by omega) (by omega)];simp only[aZ,Option.bind_some,Int.toNat_natCast];unfold ww;rw[e1];cases hk:(Int.tmod (L.getD i default).Kind 8 == 6) with
   | true =>
    rw[if_pos rfl];exact ih (i+1) 0 (by omega) (by omega) (.inr rfl) (fun h=>absurd rfl h)
   | false =>
    rw[if_neg (by simp)];refine ih (i+1) y (by omega) (by omega) h3 (fun h j hj=>?_);by_cases e:j=i
    ·subst e;simpa using hk
    ·exact h4 h j (by omega)
  ·rw[if_neg (by simpa using hi)];refine hR y h3 (fun h s hs=>?_);obtain⟨j,hj,rfl⟩:=List.getElem_of_mem hs;have:=h4 h j (by omega);rwa[bV hj]at this
theorem holds(x0:List ci)(x1:Int)(h0:cA Tryz.prog 22 ((B4 b9) x0))(h1:cA Tryz.prog 5 ((bi .u8) x1)):∃n,zS (KN n) n x0 x1=some true:=by
 obtain⟨l,hl,hm,_⟩:=h0.Nh Tryz.underlying22;simp only[B4,List.cons.injEq,AV.sl.injEq,and_true]at hl;have hlen:l.length=x0.length:=by rw[←hl,List.length_map]
 have hm':l.length≤9223372036854775807:=hm;obtain⟨k2,hk2,hw⟩:=h1.FJ Tryz.underlying5;simp only[bi,List.cons.injEq,AV.int.injEq,and_true,true_and]at hk2;subst hk2;have hx1:0≤x1∧x1≤255:=by simpa[Lit.wf,IntKind.min,IntKind.max,IntKind.signed,IntKind.bits]using hw
 refine⟨(x0.length+12000)+11,?_⟩;generalize hM:x0.length+12000=M;obtain⟨v,hv,hv2⟩:=abO (KN (M+11)) (M+11) x0 16 (by omega) (by omega);unfold zS ze;rw[show vk (KN (M+11)) (M+11)=some true from by
  have:=WA (M-29);rwa[show M-29+40=M+11 by omega]at this,hv]
 simp only[Option.bind_some,Bool.not_true,Bool.false_eq_true,if_false];cases v with
 | false=>rfl
 | true =>
  have h16:x0.length≤16:=by have:=(hv2 rfl).1;omega
  have ht:∀s∈x0,s.Text.size≤60:=fun s hs=>by have:=((hv2 rfl).2 s hs).text;omega
  have hlh:∀s∈x0,0≤s.Style.LineHeight∧s.Style.LineHeight≤65536:=fun s hs=>((hv2 rfl).2 s hs).lh;obtain⟨bx,b1,b2,b3,b4⟩:=Z1 h16 ht (N:=M+11) (by omega);have hc:bL (16+1) bx≤2000:=by have:bL (16+1) bx≤992:=b4;omega
  obtain⟨s,s1⟩:∃s,qF (KN (M+11)) (M+11) x0=some s:=by
   unfold qF;by_cases h:x0.length=0
   ·rw[if_pos (by simp[h])];exact⟨_,rfl⟩
   ·rw[if_neg (by intro e;have:=eq_of_beq e;omega),bT (by omega) (by omega),aZ];exact⟨_,rfl⟩
  simp only[Bool.not_true,Bool.false_eq_true,if_false];refine Pr (K:=KN (M+11)) (n:=M+11) (L:=x0) (by omega) x1 (fun y hy hno=>?_) (M+11) 0 x1 (by omega) (by omega) (.inl rfl) (fun _ j hj=>by omega);rw[b1,s1];simp only[Option.bind_some,i7];obtain⟨sp1,sp2⟩:=O3 ht hlh b2 b3 hc (M:=M) (by omega) s;rw[show pj (KN (M+11)) (M+11) bx s (⟨(Fv.fn 31),(Fv.fn 32),(Fv.fn 33),(Fv.fn 34)⟩:cg)=_ from sp1,sp2];simp only[Option.bind_some];have hel:=zW (16+1) bx;have hXl:∀pl,(d8 pl (cd (16+1) bx)).length≤992:=fun pl=>by
   have q1:=CX pl ((cd (16+1) bx).length+1) none (cd (16+1) bx);have q3:bL (16+1) bx≤992:=b4;unfold d8;omega
  have g1:=hXl fun b=>dF (dI (M+9) b).1;have g2:=hXl fun b=>dF (dI (M+9) b).2;generalize hV1:gK ((d8 (fun b=>dF (dI (M+9) b).1) (cd (16+1) bx)).map vI) (M+11) 0 0=least;generalize hV2:dq ((d8 (fun b=>dF (dI (M+9) b).2) (cd (16+1) bx)).map vI) (M+11) 0 0=most;rw[show(least != least)=false by simp,if_neg (by simp),show(most != most)=false by simp];unfold px;rw[if_neg (by simp)];cases hy0:(y == 0) with
  | true=>rfl
  | false =>
   have hyn:y≠0:=by simpa using hy0
   have hye:y=x1:=by rcases hy with h|h;exact h;exact absurd h hyn
   subst hye;have hno3:=abH b2 (hno hyn);rw[if_neg (by simp)];simp only[i7,Option.bind_some];have hr:=Zj ht b2 hc (M:=M) (by omega) most;rw[show qy (KN (M+11)) (M+11) bx most (⟨(Fv.fn 31),(Fv.fn 32),(Fv.fn 33),(Fv.fn 34)⟩:cg)=_ from hr];simp only[Option.bind_some];have c1:d8 (fun b=>dF (dI (M+9) b).1) (cd (16+1) bx)=d8 (ge M most) (cd (16+1) bx):=Mq _ _ _ _ _ hno3;have c2:d8 (fun b=>dF (dI (M+9) b).2) (cd (16+1) bx)=d8 (ge M most) (cd (16+1) bx):=Mq _ _ _ _ _ hno3;rw[c1]at hV1;rw[c2]at hV2;have hbd:=UA (ge M most) ((cd (16+1) bx).length+1) none (cd (16+1) bx) hno3 (by omega);have hng:=(acT (ge M most) ((cd (16+1) bx).length+1) none (cd (16+1) bx) hno3).at;have g3:=hXl (ge M most);rw[show cM (ge M most) ((cd (16+1) bx).length+1) none (cd (16+1) bx)=d8 (ge M most) (cd (16+1) bx) from rfl]at hbd hng;generalize d8 (ge M most) (cd (16+1) bx)=X at *;have hnn:Nn (X.map vI):=fun r hr=>⟨(hbd r hr).1,(hbd r hr).2.2.1⟩
   have htb:=LC (X.map vI) hbd;rw[List.length_map]at htb;have htb2:cH (X.map vI)≤1125899906842624:=by omega
   have hle:least≤most:=by
    rw[←hV1,← hV2];exact RK hng hnn htb2 (by simp;omega)
   have hm0:0≤most:=by rw[←hV2];exact vJ _ _ _ _
   have hm1:most≤1125899906842624:=by rw[←hV2];exact IJ hnn htb2 _ _ _ (by omega)
   refine Xu (K:=KN (M+11)) (n:=M+11) (by omega) (fun c hcf=>?_) (M+11) 0 0 (by omega) (by omega) (by simp) (by omega);rw[if_pos (by simpa using hle)];have ew:aa (aa (most+aa y)-1)=most+y-1:=by rw[bj (n:=y) (by omega) (by omega),bj (n:=most+y) (by omega) (by omega),bj (by omega) (by omega)]
   rw[ew,Uc (by omega) (by omega)];simp only[Option.bind_some,List.length_map];have hb:=Ul hng hnn htb2 (w:=most+y-1) (X.length+1) 0 0 (by simp) (by
    rw[←Du (X.map vI) (M+11) (X.length+1) 0 0 (by simp;omega) (by simp),hV2];omega)
   rw[hb];unfold om;by_cases hX:X.length=0
   ·have:X=[]:=List.eq_nil_of_length_eq_zero hX;subst this;simp[eV,gd]at hcf⊢;subst hcf;decide
   ·have hs:=WV (l:=X.map vI) (m:=X.length+1) (X.length-0) 0 (by simp) (by simp;omega) (by simp);rw[List.drop_zero]at hs;rw[hs,show min (X.length:Int) 1=1 by omega];have hcb:c≤1000:=by
     have:∀l:List R4,gd l≤l.length:=fun l=>by
      induction l with
      | nil=>exact Nat.le_refl _
      | cons r t ih =>
       cases t with
       | nil=>simp[gd]
       | cons s u =>
        unfold gd;simp only[List.length_cons]at ih⊢;split<;>omega
     have:=this (X.map vI);rw[List.length_map]at this;omega
    rw[bj (by omega) (by omega)];have:(((gd (X.map vI)+1:Nat):Int) == (c:Int)+1)=true:=by simp;omega
    rw[this]
end
end Go.Proofs.YtnpmlepplfaijaaGreat.QInlineSpread
