/- Calls that look at own slices and at parts of them. No program in sight. -/
import Derived.Test.YtocgkfoifehcbaaGreatReZ0
import Derived.ChangeArms
import Derived.WideShapes
import Derived.MapKept
namespace Go.Proofs.YtocgkfoifehcbaaGreat
set_option linter.all false
open Go.RowKit
abbrev ck:=List AV
abbrev dn:=List aq
abbrev em:=Nat×AV
abbrev er:=List AS
abbrev hF:=List ek
def lc:=@List.drop_eq_getElem_cons
def pt:=@List.mem_cons_of_mem
def If:=@List.drop_zero
def In:=@Bool.or_eq_true
def Io:=@Bool.not_eq_true'
def OR:=@List.map_append
def Ts:=@List.append_nil
def acr:=@Array.all_eq_true_iff_forall_mem
def aeq:=@List.any_eq_true
def ajQ:=@Array.getElem?_replicate
def akG:=@Array.getElem?_append_right
def ald:=@List.cons.injEq
def alF:=@List.mem_iff_getElem
def alI:=@Array.getElem?_eq_none_iff
def alK:=@Nat.not_lt
def alL:=@List.take_zero
def alN:=@List.mem_filter
def alR:=@Bool.false_or
def al3:=@Array.getElem?_setIfInBounds_ne
def amj:=@List.length_pos_iff
def amq:=@List.sum_cons
def amr:=@List.map_take
def amz:=@List.contains_iff_mem
def amE:=@List.filter_cons
def amF:=@Nat.le_add_right
def amI:=@List.mem_append_left
def amQ:=@List.take_succ_cons
def amZ:=@List.mem_filterMap
def am9:=@wp_region_any
def anf:=@List.sum_replicate_nat
def ang:=@List.mem_append_right
def anh:=@Nat.min_eq_left
def ani:=@Nat.beq_refl
def anp:=@and_self
def anz:=@List.map_drop
def tB:AV→Bool
 | .int _ _|.bool _|.str _=>true
 | _=>false
def AV.Bq:AV→Bool
 | .tup l=>l.all tB
 | v=>tB v
theorem Bv{N N'}{w w'}{ι ι'}{v}{x}(a:tB v=true)(h:Rel N w ι v x):Rel N' w' ι' v x:=by
 cases h<;>first|(cases a;done)|constructor
theorem TA{N N'}{w w'}{ι ι'}{v}{x}(a:v.Bq=true)(h:Rel N w ι v x):Rel N' w' ι' v x:=by
 cases h with
 | tup _ cs vs b c=>exact .tup _ cs vs b fun i x v e d=>Bv (ne.1 a x (by grind)) (c i x v e d)
 | _=>first|(cases a;done)|constructor
def K4(r:List (Nat×bW)):AV→Option AV
 | .ref i=>match look i r,Nat.ble (i+1) TG with|some ar,true=>some (.sl ar.l)|_,_=>none
 | v=>match v.di [] with|true=>some v|false=>none
def tk(r:List (Nat×bW)):ck→Option ck
 | []=>some []
 | v::q=>match K4 r v,tk r q with|some x,some l=>some (x::l)|_,_=>none
theorem NQ{r:List (Nat×bW)}:∀{l m:ck},tk r l=some m→m.length=l.length
 | [],m,h=>by injection h with h;subst h;rfl
 | v::q,m,h=>by
  unfold tk at h;split at h
  ·rename_i x l' b a;injection h with h;subst h;simp[NQ a]
  ·cases h
theorem PC{r:List (Nat×bW)}:∀{l m:ck},tk r l=some m→∀(i:Nat) (a:AV),m[i]?=some a→∃b,l[i]?=some b∧K4 r b=some a
 | [],m,h,i,a,c=>by injection h with h;subst h;simp at c
 | v::q,m,h,i,a,c=>by
  unfold tk at h;split at h
  ·rename_i x l' d e;injection h with h;subst h
   cases i with
   | zero=>exact⟨v,rfl,by simpa using c ▸ d⟩
   | succ i=>simpa using PC e i a (by simpa using c)
  ·cases h
def Oo(r:List (Nat×bW)):AV→Option AV
 | .agg cs=>match tk r cs with|some l=>some (.agg l)|none=>none
 | _=>none
def Ab(s:AS):AV→Option AV
 | .ref i=>match look i s.r,Nat.ble (i+1) TG with|some ar,true=>some (.sl ar.l)|_,_=>none
 | .sref i sz off m=>match look i s.r,Nat.ble (i+1) TG with|some ar,true=>(match Nat.beq ar.sz sz with|true=>some (.sl (List.take m (List.drop off ar.l)))|false=>none)|_,_=>none
 | v=>match v.di [] with|true=>some (gH v)|false=>Oo s.r v
def mU(s:AS):ck→Option ck
 | []=>some []
 | v::r=>match Ab s v,mU s r with|some x,some l=>some (x::l)|_,_=>none
def me(s:AS):ck→Prop
 | []=>True
 | .sref i _ off m::r=>(match look i s.r with|some ar=>off+m≤ar.l.length|none=>True)∧me s r
 | _::r=>me s r
theorem TL{s}:∀{l},me s l→∀(k i sz off m:Nat) ar,l[k]?=some (.sref i sz off m)→look i s.r=some ar→off+m≤ar.l.length
 | [],_,k,i,sz,off,m,ar,h,_=>by grind
 | v::r,h,0,i,sz,off,m,ar,b,a=>by
  grind[me]
 | v::r,h,k+1,i,sz,off,m,ar,b,a=>by
  refine TL (l:=r) ?_ k i sz off m ar (by grind) a;cases v<;>first|exact h|exact h.2
def CK(s:AS):ck→hF
 | []=>[]
 | .sref i _ off m::r=>(off+m,match look i s.r with|some ar=>ar.l.length|none=>off+m)::CK s r
 | _::r=>CK s r
def P1:hF→Prop
 | []=>True
 | p::r=>p.1≤p.2∧P1 r
theorem af2{s}{q}:∀{l},CK s l=q→P1 q→me s l:=by
  intro l
  induction l generalizing q with
  | nil=>intro _ _;trivial
  | cons v r b =>
    intro h a;cases v<;>first
      | exact b h a
      | (unfold CK at h
         subst h;refine⟨?_,b rfl a.2⟩;have:=a.1
         grind)
theorem Pb{s}:∀{l m},mU s l=some m→m.length=l.length
 | [],m,h=>by injection h with h;grind
 | v::r,m,h=>by
  unfold mU at h;split at h
  ·rename_i x l' b a;injection h with h;subst h;simp[Pb a]
  grind
theorem Vx{s:AS}:∀{l m:ck},mU s l=some m→∀(i:Nat) (a:AV),m[i]?=some a→∃b,l[i]?=some b∧Ab s b=some a
 | [],m,h,i,a,c=>by injection h with h;subst h;simp at c
 | v::r,m,h,i,a,c=>by
  unfold mU at h;split at h
  ·injection h with h;subst h
   cases i with
   | zero=>grind
   | succ i=>simp_all[Vx]
  grind
def ri(s:AS)(o:Oper):Option (FuncId×ck×ck) :=
 match o.op with
 | .call c=>match c.callee with
  | .value a=>match s.ev a,dr s c.args.toList with
   | some (.fn f aV),some l=>match mU s l with
    | some l'=>some (f,l'++aV,l)
    | none=>none
   | _,_=>none
  | _=>none
 | _=>none
section
variable{d:Cx}{s:AS}
theorem ad6{o:Oper}{g:FuncId}{E l:ck}{Q':AV→AS→Prop}(hc:ba d.P g E Q')(f0:cG d.P g=true)(p:ri s o=some (g,E,l))(s0:me s l){a:Act}{w:World}{ι:Env}(J:aX d s a w ι){K:Act→World→Prop}{R:Exit→Act→World→Prop}
  (hK:∀x v s1 Y w',Q' v s1→HS (fun _=>False) (nn w) w' Y s1→Rel (NN (fun _=>False) Y) w' Y v x→K (a.put o.dst x) w'):({ o with guard:=none }:Oper).wp d.P a w K R:=by
 unfold ri at p;split at p
 case h_2=>cases p
 rename_i c m0;split at p
 case h_2=>cases p
 rename_i fo L;split at p
 case h_2=>cases p
 rename_i f' aV l0 hf i0;split at p
 case h_2=>cases p
 rename_i l' O;injection p with p;injection p with e1 p;injection p with e2 e3;subst e1;subst e2;subst e3
 obtain⟨q1,q2⟩:=lq J i0;unfold Oper.wp;obtain⟨ys,p0,A0,e0⟩:=ln (o:={ o with guard:=none }) J m0 L hf f0;rw[p0,af6];have Q:=Pb O;have D:l'.length=(c.args.map a.eval).size:=by rw[Q,q1];simp
 refine (hc (fun _=>False) w _ (fun b Z=>Z.elim) ⟨by simp at D⊢;omega,fun i v y r X=>?_⟩).mono ?_
 ·by_cases hi:i<l'.length
  ·rw[Dz hi]at r;rw[By (by rw[←D];exact hi)]at X;obtain⟨b,Z,f⟩:=Vx O i v r;have t0:(c.args.toList.map a.eval)[i]?=some y:=by rw[←afK,alG]at X;exact X
   have I:=q2 i b y Z t0;unfold Ab at f;split at f
   ·rename_i id;split at f
    ·rename_i ar q z;injection f with f;subst f
     cases I with
     | ref _ _ A n c h=>exact(J.hs.rk (iF z) q A n c h bG).mono (jf _) (fun _ _ h=>h.elim) (fun _ _ _=>rfl) (fun _ _ h=>h)
    ·cases f
   ·rename_i id sz off m;split at f
    ·rename_i ar q z;split at f
     ·rename_i H;have H:=mo H;injection f with f;subst f
      subst H;have F:=TL s0 i id _ off m ar Z q;have u:(List.take m (List.drop off ar.l)).length=m:=by rw[IN,agk];omega
      cases I with
      | sref _ _ _ _ _ n c c' A B h hB =>
       by_cases hm:m=0
       ·subst hm;simp only[alL];exact .sl0 _ _ _
       rcases hB with hB|⟨g,rfl,rfl,k0,_⟩
       ·omega
       have r0:=(J.hs.rk (iF z) q _ n c h bG).mono (N':=NN (fun _=>False) bG) (jf _) (fun _ _ h=>by rcases h with h|⟨_,h⟩;exact h.elim;cases h) (fun _ _ _=>rfl) (fun _ _ h=>h);have G:Rel (fun _=>False) w bG (.sl ar.l) (.slice (some ⟨g,0,none⟩) n c):=r0.mono (jf _) (fun _ _ h=>h.elim) (fun _ _ _=>rfl) (fun _ _ h=>h);generalize S:ar.l=C at G F u⊢;obtain⟨v1,T0,k1,k2,k3,_⟩:=J.hs.arrs id ar q (by rw[h];rfl);rw[h]at k1;injection k1 with k1;subst k1
       have S0:n=C.length:=by
        obtain⟨r,h0⟩|⟨_,_,_,r,_⟩:=k2.2
        ·cases r
        ·injection r with _ r _;rw[←S];exact r
       cases G with
       | sl0=>simp at F;omega
       | sl _ _ b o c0 v0 w0 hz a0 hn p d0 o0 x0 =>
        have V:v0=ar.sz:=by
         have h4:=hz C[0] (n3 (by omega));have h5:=k3 C[0] (by rw[S];exact n3 (by omega));omega
        subst V;have e:List.drop off (List.take (off+m) C)=List.take m (List.drop off C):=by
         rw[List.drop_take];congr 1;omega
        have P:(List.drop off (List.take (off+m) C)).length=m:=by rw[e];exact u
        have N:∀j,(List.drop off (List.take (off+m) C))[j]?=if off+j<off+m then C[off+j]? else none:=fun j=>by
         rw[acN,yk]
        rw[←e];have U:Rel (NN (fun _=>False) bG) w bG (.sl (List.drop off (List.take (off+m) C))) (.slice (some ⟨g,0+off*ar.sz,none⟩) (List.drop off (List.take (off+m) C)).length c'):=by
         refine .sl _ _ _ _ _ ar.sz (fun j i=>w0 (off+j) i) (fun e t=>hz e (oR (v9 t))) a0 (fun h=>by rcases h with h|⟨_,h⟩;exact h.elim;cases h) (fun j i=>p _ _) (fun j e t i x W=>?_) (fun j e t i x W=>?_) (by rw[P];exact k0)
         ·rw[N]at t;split at t
          ·have:=d0 (off+j) e t i x W;rw[show 0+off*ar.sz+j*ar.sz+i=0+(off+j)*ar.sz+i by rw[aix];omega];exact this
          ·cases t
         ·rw[N]at t;split at t
          ·exact(o0 (off+j) e t i x W).mono (jf _) (fun _ _ h=>by rcases h with h|⟨_,h⟩;exact h.elim;cases h) (fun _ _ _=>rfl) (fun _ _ h=>h)
          ·cases t
        rw[P,DO]at U;exact U.mono (jf _) (fun _ _ h=>h.elim) (fun _ _ _=>rfl) (fun _ _ h=>h)
     ·cases f
    ·cases f
   ·split at f
    ·rename_i hp;injection f with f;subst f
     exact y9 ((I.pure hp bG).mono (jf _) (fun _ _ h=>h.elim) (fun _ _ _=>rfl) (fun _ _ h=>h))
    ·unfold Oo at f;split at f
     case h_2=>cases f
     rename_i cs;split at f
     case h_2=>cases f
     rename_i y0 M;injection f with f;subst f
     cases I with
     | agg _ _ vs hl p q0 =>
      refine .agg _ _ _ ((NQ M).trans hl) p (fun i' x v W r=>?_);obtain⟨b',b0,k⟩:=PC M i' x W;have T:=q0 i' b' v b0 r;unfold K4 at k;split at k
      ·split at k
       ·rename_i ar q z;injection k with k;subst k
        cases T with
        | ref _ _ A n c h=>exact(J.hs.rk (iF z) q A n c h bG).mono (jf _) (fun _ _ h=>h.elim) (fun _ _ _=>rfl) (fun _ _ h=>h)
       ·cases k
      ·split at k
       ·rename_i hp;injection k with k;subst k
        exact(T.pure hp bG).mono (jf _) (fun _ _ h=>h.elim) (fun _ _ _=>rfl) (fun _ _ h=>h)
       ·cases k
  ·rw[AT (by omega)]at r;rw[akG (by rw[←D];omega)]at X;rw[D]at r;exact(e0 _ v y r (by simpa using X)).mono (jf _) (fun _ _ h=>h.elim) (fun _ _ _=>rfl) (fun _ _ h=>h)
 ·rintro e w' ⟨x,v,s1,Y,rfl,hq,g0,I⟩
  exact hK x v s1 Y w' hq g0 I
end
theorem Xn s t v:Ab (s.tt t) v=Ab s v:=by rfl
theorem V6 s t:∀l:ck,mU (s.tt t) l=mU s l
 | []=>rfl
 | v::r=>by unfold mU;rw[Xn,V6 s t r]
theorem HP s t:∀l:ck,me s l→me (s.tt t) l
 | [],h=>h
 | v::r,h=>by
  cases v<;>first|exact HP s t r h|exact⟨h.1,HP s t r h.2⟩
inductive Tag where
 | s (m:Nat)
 | v (lo n:Nat)
 | c (lo n:Nat)
 | a (lo n:Nat)
 | off (lo n:Nat)
 | o (lo n:Nat)
def Tag.fm:Tag→Bool
 | .s _=>false
 | _=>true
def Tag.dU:Tag→Nat×Nat
 | .s m=>(m,0)
 | .v lo n|.c lo n|.a lo n|.off lo n|.o lo n=>(lo,n)
def Tag.TT:Tag→Bool
 | .a _ _|.o _ _=>true
 | _=>false
theorem Tag.abl{t:Tag}(h:t.TT=true):t.fm=true:=by cases t<;>first|rfl|cases h
def cV(o:Oper):d7:=(o.after.toList.filter (Region.binds .any)).map (·.on)
theorem px{o}{j}:j∈cV o↔∃e∈o.after,Region.binds .any e=true∧e.on=j:=by
 grind[cV]
def sK:Tag→Nat→Bool
 | .s m,k=>m == k
 | _,_=>false
def lQ(ops:Array Oper)(a:List Tag)(m:Nat):Nat→Nat→Bool
 | 0,j=>match a[j]? with|some b=>sK b m|none=>false
 | k+1,j=>(match a[j]? with|some b=>sK b m|none=>false)||(match ops[j]? with|some c=>(cV c).any (lQ ops a m k)|none=>false)
structure Stat(ops:Array Oper)(tags:List Tag)(K:Nat):Prop where
 len:tags.length≤ops.size
 lex:∀(i:Nat) (o:Oper) (tg:Tag),ops[i]?=some o→tags[i]?=some tg→∀j∈cV o,j<i
 dst:∀(i:Nat) (o:Oper) (tg:Tag),ops[i]?=some o→tags[i]?=some tg→tg.fm=true→∃(d:Nat),o.dst=some d∧∀(j:Nat) (oj:Oper),ops[j]?=some oj→j≠i→oj.dst≠some d
 xX:∀(i:Nat) (o:Oper) (tg:Tag) (t:Nat),ops[i]?=some o→tags[i]?=some tg→t∈o.looksAt ops→∀(j:Nat) (oj:Oper) (tj:Tag),ops[j]?=some oj→tags[j]?=some tj→tj.fm=true→oj.dst=some t→j∈cV o
 chain:∀(i:Nat) (o:Oper) (m:Nat),ops[i]?=some o→tags[i]?=some (Tag.s m)→1≤m∧m≤K∧(2≤m→∃j∈cV o,tags[j]?=some (Tag.s (m-1)))∧∀(j:Nat),tags[j]?=some (Tag.s m)→j=i
 last:K=0∨∃(i:Nat),tags[i]?=some (Tag.s K)
 lo:∀(i:Nat) (o:Oper) (tg:Tag),ops[i]?=some o→tags[i]?=some tg→tg.fm=true→tg.dU.1=0∨∃k,∃j∈cV o,lQ ops tags tg.dU.1 k j=true
 hi:∀(i:Nat) (tg:Tag),tags[i]?=some tg→tg.fm=true→K<tg.dU.1+tg.dU.2∨∃(j:Nat) (oj:Oper),ops[j]?=some oj∧tags[j]?=some (Tag.s (tg.dU.1+tg.dU.2))∧i∈cV oj
def nO(ops:Array Oper)(a:List Tag)(K i:Nat)(o:Oper)(b:Tag):Bool :=
 (cV o).all (fun j=>decide (j<i)) &&
 (!b.fm||(match o.dst with|some d=>(List.range ops.size).all fun j=>j == i||(match ops[j]? with|some e=>e.dst != some d|none=>true)|none=>false)) &&
 ((o.looksAt ops).all fun t=>(List.range ops.size).all fun j=>match ops[j]?,a[j]? with
  | some e,some c=>!c.fm||e.dst != some t||(cV o).contains j
  | _,_=>true) &&
 (match b with
  | .s m=>decide (1≤m)&&decide (m≤K)&&(decide (m<2)||(cV o).any fun j=>match a[j]? with|some c=>sK c (m-1)|none=>false) &&
   (List.range ops.size).all fun j=>j == i||(match a[j]? with|some c=>!sK c m|none=>true)
  | _=>true) &&
 (!b.fm||b.dU.1 == 0||((cV o).any (lQ ops a b.dU.1 0)||(cV o).any (lQ ops a b.dU.1 4))) &&
 (!b.fm||decide (K<b.dU.1+b.dU.2)||(List.range ops.size).any fun j=>match ops[j]?,a[j]? with
  | some e,some c=>sK c (b.dU.1+b.dU.2)&&(cV e).contains i
  | _,_=>false)
def un(ops:Array Oper)(a:List Tag)(K m:Nat):Bool :=
 (a.length == m&&Nat.ble m ops.size)&&(List.range m).all fun i=>match ops[i]?,a[i]? with|some o,some b=>nO ops a K i o b|_,_=>false
def yT(ops:Array Oper)(a:List Tag)(K:Nat):Bool:=un ops a K ops.size
def mA(tags:List Tag)(K:Nat):Bool:=K == 0||tags.any (sK · K)
theorem AX{t}{m}(h:sK t m=true):t=.s m:=by
 cases t<;>simp[sK]at h
 grind
theorem zh{ops:Array Oper}{a:List Tag}{K m:Nat}(h:un ops a K m=true)(s:mA a K=true):Stat ops a K∧a.length=m∧m≤ops.size:=by
 unfold un at h;simp only[h8,alJ,ne,acS]at h;obtain⟨⟨H,A⟩,h⟩:=h;have A:=iF A;refine⟨?_,H,A⟩;have g:∀i o k,ops[i]?=some o→a[i]?=some k→nO ops a K i o k=true:=fun i o k p f=>by
  have u:i<m:=by rw[←H];exact(io.1 f).1
  have:=h i u;simpa only[p,f]using this
 have w:∀i k,a[i]?=some k→∃o,ops[i]?=some o:=fun i k f=>by
  have u:i<ops.size:=by have:=(io.1 f).1;omega
  exact⟨_,iO u⟩
 have I:∀j k,a[j]?=some k→j<ops.size:=fun j k f=>by have:=(io.1 f).1;omega
 refine⟨by omega,fun i o k p f j q=>?_,fun i o k p f v=>?_,fun i o k t p f D j E F l c C y=>?_,fun i o m p f=>?_,?_,fun i o k p f v=>?_,fun i k f v=>?_⟩
 ·have e:=g i o k p f;unfold nO at e;simp only[h8]at e;have:=e.1.1.1.1.1;have:=ne.1 this j q;simpa using this
 ·have e:=g i o k p f;unfold nO at e;simp only[h8]at e;have:=e.1.1.1.1.2;simp only[v,Do,alR]at this;cases y:o.dst with
  | none=>rw[y]at this;cases this
  | some d =>
   rw[y]at this;refine⟨d,rfl,fun j E l B=>?_⟩;have q:j<ops.size:=(ob.1 l).1;have b:=ne.1 this j (acS.2 q);simp only[l,In,alJ,bne_iff_ne]at b;rcases b with b|b
   ·exact(B b).elim
   ·exact b
 ·have e:=g i o k p f;unfold nO at e;simp only[h8]at e;have b:=e.1.1.1.2;have z:=ne.1 b t D;have r:=ne.1 z j (acS.2 (I j F c));simp only[l,c,C,y,Do,alR,In]at r;rcases r with r|r
  ·simp at r
  ·simpa using r
 ·have e:=g i o _ p f;unfold nO at e;simp only[h8]at e;have b:=e.1.1.2;simp only[h8,qv,In]at b;obtain⟨⟨⟨z,r⟩,x⟩,L⟩:=b;refine⟨z,r,fun J=>?_,fun j c=>?_⟩
  ·rcases x with x|x
   ·omega
   ·obtain⟨j,q,n⟩:=aeq.1 x;cases c:a[j]? with
    | none=>rw[c]at n;cases n
    | some F=>rw[c]at n;exact⟨j,q,by rw[c,AX n]⟩
  ·have G:=ne.1 L j (acS.2 (I j _ c));rw[c]at G;simpa[sK]using G
 ·unfold mA at s;simp only[In,alJ]at s;rcases s with s|s
  ·exact .inl s
  ·obtain⟨t,f,n⟩:=aeq.1 s;obtain⟨i,u,rfl⟩:=alF.1 f;exact .inr ⟨i,by rw[iN u,AX n]⟩
 ·have e:=g i o k p f;unfold nO at e;simp only[h8]at e;have b:=e.1.2;simp only[v,Do,alR,In,alJ]at b;rcases b with b|b|b
  ·exact .inl b
  ·obtain⟨j,q,n⟩:=aeq.1 b;exact .inr ⟨_,j,q,n⟩
  ·obtain⟨j,q,n⟩:=aeq.1 b;exact .inr ⟨_,j,q,n⟩
 ·obtain⟨o,p⟩:=w i k f;have e:=g i o k p f;unfold nO at e;simp only[h8]at e;have b:=e.2;simp only[v,Do,alR,In,qv]at b;rcases b with b|b
  ·exact .inl b
  ·obtain⟨j,q,n⟩:=aeq.1 b;cases l:ops[j]? with
   | none=>simp[l]at n
   | some E =>
    cases c:a[j]? with
    | none=>simp[l,c]at n
    | some F =>
     simp only[l,c,h8]at n;exact .inr ⟨j,E,l,by rw[c,AX n.1],by simpa using n.2⟩
theorem ab0{ops}{a}{K}(h:yT ops a K=true)(b:mA a K=true):Stat ops a K:=(zh h b).1
theorem ad3{ops}{a}{K}(h:yT ops a K=true)(b:mA a K=true):a.length=ops.size:=(zh h b).2.1
def ia(a:Array Oper)(s:AS)(c:Bool):Option (Nat×Bool)→Prop
 | none=>c=true
 | some (j,b)=>match a[j]? with
  | some e=>match e.dst with
   | some d=>look d s.t=some (.bool (if c=true then b else !b))∨(c=false∧look d s.t=some (.tup []))
   | none=>False
  | none=>False
def Gj(P:Program)(n:Nat)(s:AS)(o:Oper):Prop :=
 match o.op with
 | .call c=>match c.callee with
  | .value a=>∃f aV l V d,s.ev a=some (.fn f aV)∧dr s c.args.toList=some l∧o.dst=some d∧look d s.t=some V∧d<n∧ep [] l=true∧V.di []=true∧cG P f=true∧ba P f (l.map gH++aV) (fun v _=>v=V)
  | _=>False
 | _=>False
def GH(P:Program)(n:Nat)(s:AS)(o:Oper):Prop :=
 ∃f a l V d,ri s o=some (f,a,l)∧me s l∧o.dst=some d∧look d s.t=some V∧d<n∧V.Bq=true∧cG P f=true∧ba P f a (fun v _=>v=V)
def GU(P:Program)(n:Nat)(ops:Array Oper)(s:AS)(o:Oper):Prop :=
 ∃d c a x b,o.dst=some d∧bZ P n s o=some (s.put (some d) (.vv x))∧look d s.t=some (.ref a)∧c≠d∧look c s.t=some (.lk a x)∧look a s.r=some b∧∀(j:Nat) e,ops[j]?=some e→e.dst≠some c
def S6(P:Program)(n:Nat)(ops:Array Oper)(s:AS)(o:Oper):Prop:=Gj P n s o∨(GH P n s o∨GU P n ops s o)
def yD(P:Program)(n:Nat)(s:AS)(o:Oper)(d:Nat):Prop :=
 match o.op with
 | .call c=>match c.callee with
  | .value a=>∃f aV l V id ar,id<TG∧s.ev a=some (.fn f aV)∧dr s c.args.toList=some l∧ep [] l=true∧cG P f=true∧ba P f (l.map gH++aV) (fun v g=>v=V∧look id g.r=some ar) ∧
   (∀N w ι x,Rel N w ι V x→∃y,ι id=some y)∧look d s.t=some (V.gl id d)∧look d s.r=some ar∧look d s.o=none∧has s.u d=true
  | _=>False
 | .buildSlice T b parts=>b=0∧parts = #[]∧∃e sz,P.underlying T=some (.slice e)∧cB P e=some sz∧look d s.t=some (.ref d)∧look d s.r=some ⟨e,sz,[]⟩∧look d s.o=none∧has s.u d=true
 | .makeSlice T x y=>∃kd kd' m e sz bytes zc,s.ev x=some (.int kd m)∧s.ev y=some (.int kd' m)∧je P T=some (e,sz,bytes)∧ft P e=some zc∧fG m bytes=true∧look d s.t=some (.ref d)∧look d s.r=some ⟨e,sz,List.replicate m.toNat (zc.map ji)⟩∧look d s.o=none∧has s.u d=true
 | _=>False
def CD(P:Program)(n:Nat)(ops:Array Oper)(s s':AS)(o:Oper):Prop :=
 n≤440000∧∃e f v0,look e s.t=some (.lk f v0)∧(∀(j:Nat) (g:Oper),ops[j]?=some g→g.dst≠some e) ∧
  ∀(c:Cx),c.P=P→c.n=n→∀(fl:Nat→Bool) (a:Act) (w:World) (ι:Env),aX c (s.tt (cy fl s.t)) a w ι→ι f=some v0→(∀x t,x∈o.op.operands.toList→x=.tmp t→fl t=true) →
   ∀(Kn:Act→World→Prop) (Q:Exit→Act→World→Prop),(∀d w' ι' b,(∀id,id≠440009→some id≠o.dst→ι id=none→ι' id=none)→b.o=s'.o→b.r=s'.r→b.u=s'.u →
    (∀t v,fl t=true∨some t=o.dst→look t s'.t=some v→look t b.t=some v)→aX c b d w' ι'→Kn d w')→o.wp P a w Kn Q
def agm(ops:Array Oper)(a:List Tag)(m t:Nat):Prop:=∃(i:Nat) (o:Oper) (b:Tag),ops[i]?=some o∧a[i]?=some b∧b.fm=true∧o.dst=some t∧m≤b.dU.1
structure lW(P:Program)(n:Nat)(s0:AS)(ops:Array Oper)(tags:List Tag)(K:Nat)(σ:Nat→AS):Prop where
 s:∀(i:Nat) (o:Oper) (m:Nat),ops[i]?=some o→tags[i]?=some (Tag.s (m+1))→ia ops (σ m) true o.guard∧(bZ P n (σ m) o=some (σ (m+1))∨∃s',CD P n ops (σ m) s' o∧s'.o=(σ (m+1)).o∧s'.r=(σ (m+1)).r∧s'.u=(σ (m+1)).u∧∀t v,look t (σ (m+1)).t=some v→look t s'.t=some v∨agm ops tags (m+1) t)
 v:∀(i:Nat) (o:Oper) (lo:Nat) (k:Nat),ops[i]?=some o→tags[i]?=some (Tag.v lo k)→∀(j:Nat),lo≤j→j<lo+k→ia ops (σ j) true o.guard∧bZ P n (σ j) o=some (σ j)
 c:∀(i:Nat) (o:Oper) (lo:Nat) (k:Nat),ops[i]?=some o→tags[i]?=some (Tag.c lo k)→∀(j:Nat),lo≤j→j<lo+k→ia ops (σ j) true o.guard∧S6 P n ops (σ j) o
 a:∀(i:Nat) (o:Oper) (lo:Nat) (k:Nat),ops[i]?=some o→tags[i]?=some (Tag.a lo k)→∃(T:TypeId) (d:Nat) (cs:ck),o.guard=none∧o.op=.alloc T∧o.dst=some d∧d<min n 450000∧has s0.u d=false∧ft P T=some cs ∧
  ∀(j:Nat),lo≤j→j<lo+k→look d (σ j).o=some cs∧look d (σ j).r=none∧look d (σ j).t=some (.ptr d 0)∧has (σ j).u d=true
 off:∀(i:Nat) (o:Oper) (lo:Nat) (k:Nat),ops[i]?=some o→tags[i]?=some (Tag.off lo k)→(∀(j:Nat),lo≤j→j<lo+k→ia ops (σ j) false o.guard∧o.guard≠none)∧∀(d:Nat) (j:Nat),o.dst=some d→j≤K→look d (σ j).t=none∨(look d (σ j).t=some (.tup [])∧d<n)
 o:∀(i:Nat) (o:Oper) (lo:Nat) (k:Nat),ops[i]?=some o→tags[i]?=some (Tag.o lo k)→∃(d:Nat),o.dst=some d∧d<n∧has s0.u d=false∧∀(j:Nat),lo≤j→j<lo+k→ia ops (σ j) true o.guard∧yD P n (σ j) o d
 i1:∀(id:Nat) (a:bW),look id (σ 0).r=some a→look id s0.r=some a∨has s0.u id=false
 i6:∀(id:Nat) (a:bW),look id (σ 0).r=some a→has (σ 0).u id=true∨look id s0.r=some a
 i2:∀(id:Nat) (cs:ck),look id (σ 0).o=some cs→look id s0.o=some cs∨has s0.u id=false
 i3:∀(id:Nat),s0.u.contains id=true→(σ 0).u.contains id=true
 i4:∀(id:Nat) (cs:ck),look id (σ 0).o=some cs→has (σ 0).u id=true∨look id s0.o=some cs
 i5:∀(t:Nat) (v:AV),look t (σ 0).t=some v→(∃(i:Nat) (o:Oper) (tg:Tag),ops[i]?=some o∧tags[i]?=some tg∧tg.fm=true∧o.dst=some t)∨look t s0.t=some v
theorem HS.Wf{M:Nat→Prop}{Q:aC}{w:World}{ι:Env}{s:AS}(h:HS M Q w ι s){d:Nat}(O:ι d=none)(J:has s.u d=true)(ho:look d s.o=none){e:TypeId}{sz n:Nat}{l:List ck}{vs:eb}(B:look d s.r=some ⟨e,sz,l⟩)(E:l.length=n)(hm:n≤maxLen)(A:vs.length=n*sz)(hz:∀c∈l,c.length=sz)(h1:∀v∈vs,v.oneCell'=true)
  (hc:∀(j:Nat) (c:ck),l[j]?=some c→∀(i:Nat) (x:AV),c[i]?=some x→∃v,vs[j*sz+i]?=some v∧Rel (NN M ι) w bG x v) :
  HS M Q (w.alloc (.cells vs.toArray e)) (ext ι d (.slice (some ⟨w.heap.size,0,none⟩) n n)) s:=by
 have C:Q.w.heap.size≤w.heap.size:=h.below.size;have G:∀b,b<w.heap.size→¬ NN M ι b→(w.alloc (.cells vs.toArray e)).heap[b]?=w.heap[b]?:=fun b T _=>u5 _ _ _ T;have I:∀b,b<w.heap.size→NN M (ext ι d (.slice (some ⟨w.heap.size,0,none⟩) n n)) b→NN M ι b:=fun b T u=>by
  rcases gx u with u|u
  ·exact u
  ·injection u with u;simp only[]at u;omega
 have L:=fp O (.slice (some ⟨w.heap.size,0,none⟩) n n);refine⟨h.below.alloc C _,h.old,fun i y U=>?_,fun i g m=>?_,fun i F g m f=>?_,h.ko,h.kr,fun i cs q t=>?_,fun i a q t=>?_,fun i y t=>⟨L i y (h.pin i y t).1,(h.pin i y t).2⟩⟩
 ·by_cases o:i=d
  ·subst o;exact J
  ·rw[bT _ _ o]at U;exact h.use i y U
 ·by_cases o:i=d
  ·subst o;rw[cN]at m;injection m with m;simp only[]at m;subst m;exact⟨.inl C,by simp⟩
  ·rw[bT _ _ o]at m;exact⟨(h.own i g m).1,by have:=(h.own i g m).2;simp;omega⟩
 ·by_cases o:i=d
  ·by_cases p:F=d
   ·omega
   ·subst o;rw[cN]at m;rw[bT _ _ p]at f;injection m with m;simp only[]at m
    have:=(h.own F g f).2;omega
  ·by_cases p:F=d
   ·subst p;rw[cN]at f;rw[bT _ _ o]at m;injection f with f;simp only[]at f
    have:=(h.own i g m).2;omega
   ·rw[bT _ _ o]at m;rw[bT _ _ p]at f;exact h.inj i F g m f
 ·have o:i≠d:=by rintro rfl;rw[ho]at q;cases q
  rw[bT _ _ o]at t;obtain⟨D,T',P,R,W,X⟩:=h.objs i cs q t;have N:=(h.own i D (by rw[R];rfl)).2;exact⟨D,T',P,(bT _ _ o).trans R,(u5 _ _ _ N).trans W,X.mono (by simp) I G L⟩
 ·by_cases o:i=d
  ·subst o;rw[B]at q;injection q with q;subst q
   refine⟨_,vs,cN _ _ _,⟨by simp[A,E],.inr ⟨w.heap.size,n,vs.toArray,by simp[E],tl _,am1 w _,by simp[E],hm,by simpa using A,by simp[E,← A]⟩⟩,hz,h1,fun j c K k x z=>?_⟩;obtain⟨v,hv,B⟩:=hc j c K k x z;exact⟨v,hv,.inl (B.mono (by simp) I G (fun _ _ h=>h))⟩
  ·rw[bT _ _ o]at t;obtain⟨v,xs,S,Y,Z,g4,g5⟩:=h.arrs i a q t;refine⟨v,xs,(bT _ _ o).trans S,f8 Y (fun D f=>u5 _ _ _ (h.own i D (by rw[S];exact f)).2),Z,g4,fun j V K k c z=>?_⟩;obtain⟨x,hx,B⟩:=g5 j V K k c z;exact⟨x,hx,B.mono (by simp) I G (fun r H=>L _ _ H) (fun r H=>u5 _ _ _ (h.kq H)) (fun h=>h)⟩
theorem HS.aiw{M:Nat→Prop}{N:aC}{w:World}{ι:Env}{s:AS}(h:HS M N w ι s){d:Nat}(Y:ι d=none)(H:has s.u d=true)(K:look d s.r=none){T:TypeId}(U:tyName d T){cs:ck}{vs:eb}(W:look d s.o=some cs)(V:Cells (NN M ι) w ι cs vs):
  HS M N (w.alloc (.cells vs.toArray T)) (ext ι d (.pointer (some ⟨w.heap.size,0,none⟩))) s:=by
 have q:N.w.heap.size≤w.heap.size:=h.below.size;have B:∀b,b<w.heap.size→¬ NN M ι b→(w.alloc (.cells vs.toArray T)).heap[b]?=w.heap[b]?:=fun b O _=>u5 _ _ _ O;have G:∀b,b<w.heap.size→NN M (ext ι d (.pointer (some ⟨w.heap.size,0,none⟩))) b→NN M ι b:=fun b O o=>by
  rcases gx o with o|o
  ·exact o
  ·injection o with o;simp only[]at o;omega
 have z:=fp Y (.pointer (some ⟨w.heap.size,0,none⟩));refine⟨h.below.alloc q _,h.old,fun i y P=>?_,fun i g l=>?_,fun i A g l f=>?_,h.ko,h.kr,fun i C m n=>?_,fun i a m n=>?_,fun i y n=>⟨z i y (h.pin i y n).1,(h.pin i y n).2⟩⟩
 ·by_cases e:i=d
  ·subst e;exact H
  ·rw[bT _ _ e]at P;exact h.use i y P
 ·by_cases e:i=d
  ·subst e;rw[cN]at l;injection l with l;simp only[]at l;subst l;exact⟨.inl q,by simp⟩
  ·rw[bT _ _ e]at l;exact⟨(h.own i g l).1,by have:=(h.own i g l).2;simp;omega⟩
 ·by_cases e:i=d
  ·by_cases t:A=d
   ·omega
   ·subst e;rw[cN]at l;rw[bT _ _ t]at f;injection l with l;simp only[]at l
    have:=(h.own A g f).2;omega
  ·by_cases t:A=d
   ·subst t;rw[cN]at f;rw[bT _ _ e]at l;injection f with f;simp only[]at f
    have:=(h.own i g l).2;omega
   ·rw[bT _ _ e]at l;rw[bT _ _ t]at f;exact h.inj i A g l f
 ·by_cases e:i=d
  ·subst e;rw[W]at m;injection m with m;subst m
   exact⟨w.heap.size,⟨T,U⟩,vs.toArray,cN _ _ _,am1 w _,by simpa using V.mono (by simp) G B z⟩
  ·rw[bT _ _ e]at n;obtain⟨u,T',L,p,E,F⟩:=h.objs i C m n;have J:=(h.own i u (by rw[p];rfl)).2;exact⟨u,T',L,(bT _ _ e).trans p,(u5 _ _ _ J).trans E,F.mono (by simp) G B z⟩
 ·by_cases e:i=d
  ·subst e;rw[K]at m;cases m
  ·rw[bT _ _ e]at n;obtain⟨v,xs,p,E,F,R,S⟩:=h.arrs i a m n;refine⟨v,xs,(bT _ _ e).trans p,f8 E (fun u f=>u5 _ _ _ (h.own i u (by rw[p];exact f)).2),F,R,fun j Q X k c I=>?_⟩;obtain⟨x,Z,K⟩:=S j Q X k c I;exact⟨x,Z,K.mono (by simp) G B (fun r D=>z _ _ D) (fun r D=>u5 _ _ _ (h.kq D)) (fun h=>h)⟩
theorem HS.of_eq{M:Nat→Prop}{g:aC}{w:World}{ι:Env}{s s':AS}(h:HS M g w ι s)(m:s.o=s'.o)(n:s.r=s'.r)(o:s.u=s'.u):HS M g w ι s':=by
 obtain⟨i,j,d,k,l,b,c,e,f,a⟩:=h;rw[m]at b e;rw[n]at c f;rw[o]at d b c a;exact⟨i,j,d,k,l,b,c,e,f,a⟩
structure c8(cx:Cx)(ops:Array Oper)(tags:List Tag)(K:Nat)(σ:Nat→AS)(listed:Array Bool)(a:Act) w k ι:Prop where
 sz:listed.size=ops.size
 cl:∀(i:Nat) o,ops[i]?=some o→listed[i]?=some true→∀j∈cV o,listed[j]?=some true
 kK:k≤K
 wr:∀(i:Nat) m,tags[i]?=some (Tag.s m)→(listed[i]?=some true↔m≤k)
 hs:HS cx.M cx.w0 w ι (σ k)
 al:∀(i:Nat) o tg (d:Nat),ops[i]?=some o→tags[i]?=some tg→tg.TT=true→o.dst=some d→listed[i]?≠some true→ι d=none
 dfr:a.defers=[]
 n:a.tmps.size=cx.n
 tmp:∀t v,look t (σ k).t=some v→(∀(i:Nat) o tg,ops[i]?=some o→tags[i]?=some tg→tg.fm=true→o.dst=some t→listed[i]?=some true)→∃x,a.tmps[t]?=some x∧Rel (NN cx.M ι) w ι v x
section
variable{f:Cx}{ops:Array Oper}{c:List Tag}{K:Nat}{σ:Nat→AS}{listed:Array Bool}{a:Act}{w:World}{k:Nat}{ι:Env}{g:AS}
theorem dM{i j}(a:i<listed.size):(listed.setIfInBounds i true)[j]?=some true↔j=i∨listed[j]?=some true:=by
 grind
theorem c8.uA(y:Stat ops c K)(h:c8 f ops c K σ listed a w k ι){i:Nat}{o:Oper}{d:Tag}(D:ops[i]?=some o)(x:c[i]?=some d)(v:d.fm=true)(s:listed[i]?≠some true)(n:∀j∈cV o,listed[j]?=some true):
  d.dU.1≤k∧k<d.dU.1+d.dU.2:=by
 constructor
 ·rcases y.lo i o d D x v with B|⟨q,j,p,b⟩
  ·omega
  ·have key:∀(q j:Nat),lQ ops c d.dU.1 q j=true→listed[j]?=some true→d.dU.1≤k:=by
    have m:∀j:Nat,(match c[j]? with|some A=>sK A d.dU.1|none=>false)=true→listed[j]?=some true→d.dU.1≤k:=fun j b l=>by
     cases g:c[j]? with
     | none=>rw[g]at b;cases b
     | some A=>rw[g]at b;exact(h.wr j _ (by rw[g,AX b])).1 l
    intro q
    induction q with
    | zero=>intro j b l;unfold lQ at b;exact m j b l
    | succ q F =>
     intro j b l;unfold lQ at b;rw[In]at b;rcases b with b|b
     ·exact m j b l
     ·cases e:ops[j]? with
      | none=>rw[e]at b;cases b
      | some t =>
       rw[e]at b;obtain⟨z,E,b⟩:=aeq.1 b;exact F z b (h.cl j t e l z E)
   exact key q j b (n j p)
 ·rcases y.hi i d x v with B|⟨j,t,e,b,C⟩
  ·have:=h.kK;omega
  ·have u:¬ (d.dU.1+d.dU.2≤k):=fun r=>by
    have p:=(h.wr j _ b).2 r;exact s (h.cl j t e p i C)
   omega
theorem c8.low(y:Stat ops c K)(h:c8 f ops c K σ listed a w k ι){i:Nat}{o:Oper}{e:Tag}(n:ops[i]?=some o)(t:c[i]?=some e)(s:e.fm=true)(d:listed[i]?=some true):e.dU.1≤k:=by
 rcases y.lo i o e n t s with A|⟨q,j,r,b⟩
 ·omega
 ·have m:∀j:Nat,(match c[j]? with|some p=>sK p e.dU.1|none=>false)=true→listed[j]?=some true→e.dU.1≤k:=fun j b d=>by
   cases l:c[j]? with
   | none=>rw[l]at b;cases b
   | some p=>rw[l]at b;exact(h.wr j _ (by rw[l,AX b])).1 d
  have key:∀(q j:Nat),lQ ops c e.dU.1 q j=true→listed[j]?=some true→e.dU.1≤k:=by
   intro q
   induction q with
   | zero=>intro j b d;unfold lQ at b;exact m j b d
   | succ q v =>
    intro j b d;unfold lQ at b;rw[In]at b;rcases b with b|b
    ·exact m j b d
    ·cases g:ops[j]? with
     | none=>rw[g]at b;cases b
     | some x =>
      rw[g]at b;obtain⟨z,u,b⟩:=aeq.1 b;exact v z b (h.cl j x g d z u)
  exact key q j b (h.cl i o n d j r)
def Wv(ops:Array Oper)(c:List Tag)(listed:Array Bool)(t:Nat):Prop:=∀(i:Nat) o a,ops[i]?=some o→c[i]?=some a→a.fm=true→o.dst=some t→listed[i]?=some true
open Classical in
noncomputable def eY(ops:Array Oper)(c:List Tag)(listed:Array Bool):Nat→Bool:=fun t=>decide (Wv ops c listed t)
theorem ky{t:Nat}:eY ops c listed t=true↔Wv ops c listed t:=by
 unfold eY;exact @decide_eq_true_iff _ (Classical.propDecidable _)
theorem c8.VA(h:c8 f ops c K σ listed a w k ι):aX f ((σ k).tt (cy (eY ops c listed) (σ k).t)) a w ι :=
 ⟨h.hs.of_eq rfl rfl rfl,h.dfr,h.n,fun t v e=>by
  have b:look t (cy (eY ops c listed) (σ k).t)=some v:=e;rw[fe]at b;split at b
  ·rename_i d;exact h.tmp t v b (ky.1 d)
  ·cases b⟩
theorem c8.xX(s:Stat ops c K)(h:c8 f ops c K σ listed a w k ι){i:Nat}{o:Oper}{l:Tag}(n:ops[i]?=some o)(e:c[i]?=some l)(b:∀j∈cV o,listed[j]?=some true){t:Nat}(q:t∈o.looksAt ops):eY ops c listed t=true :=
 ky.2 fun j r u d g p m=>b j (s.xX i o l t n e q j r u d g p m)
theorem aaS{o:Oper}{x:Operand}{t:Nat}(a:x∈o.op.operands.toList)(e:x=.tmp t):t∈o.looksAt ops:=by
 subst e;unfold Oper.looksAt;exact amI _ (amZ.2 ⟨_,a,rfl⟩)
theorem c8.wanted(y:Stat ops c K)(h:c8 f ops c K σ listed a w k ι){i:Nat}{o:Oper}{z:Tag}(v:ops[i]?=some o)(n:c[i]?=some z)(l:∀j∈cV o,listed[j]?=some true){t:Bool}(e:ia ops (σ k) t o.guard):Region.wanted o (yielded ops a.tmps)=t:=by
 unfold ia at e;split at e
 ·rename_i m;simp[Region.wanted,m,e]
 ·rename_i j b m;split at e
  ·rename_i A g;split at e
   ·rename_i d p;have u:d∈o.looksAt ops:=by
     unfold Oper.looksAt;refine ang _ ?_;simp[m,g,p]
    rcases e with e|⟨q,e⟩
    ·obtain⟨x,s,r⟩:=h.tmp d _ e (ky.1 (h.xX y v n l u));cases r;cases t<;>cases b<;>simp[Region.wanted,m,yielded,g,p,s]
    ·obtain⟨x,s,r⟩:=h.tmp d _ e (ky.1 (h.xX y v n l u));cases r;subst q;cases b<;>simp[Region.wanted,m,yielded,g,p,s]
   ·cases e
  ·cases e
theorem c8.step(st:Stat ops c K)(h:c8 f ops c K σ listed a w k ι){i:Nat}{o:Oper}{Q:Tag}(C:ops[i]?=some o)(U:c[i]?=some Q)(T:Q.fm=true)(F:∀j∈cV o,listed[j]?=some true){d:Nat}(S:o.dst=some d)
  {w':World} {ι':Env} {x:Value} (O:HS f.M f.w0 w' ι' (σ k)) (I:∀id,id≠d→ι id=none→ι' id=none) (Z:∀v,look d (σ k).t=some v→Rel (NN f.M ι') w' ι' v x) (E:(look d (σ k).t).isSome=true→d<f.n)
  (Y:∀t v y,t≠d→look t (σ k).t=some v→Rel (NN f.M ι) w ι v y→Rel (NN f.M ι') w' ι' v y):c8 f ops c K σ (listed.setIfInBounds i true) (a.put (some d) x) w' k ι':=by
 have u:i<listed.size:=by rw[h.sz];exact(ob.1 C).1
 obtain⟨D,n,r⟩:=st.dst i o Q C U T;rw[S]at n;injection n with n;subst n
 refine⟨by simp[h.sz],fun j s b q V z=>?_,h.kK,fun j m l=>?_,O,fun j s R D b q J g A=>?_,h.dfr,by simp[Act.put,h.n],fun t v p L=>?_⟩
 ·rw[dM u]at q⊢;rcases q with rfl|q
  ·rw[C]at b;injection b with b;subst b
   exact .inr (F V z)
  ·exact .inr (h.cl j s b q V z)
 ·rw[dM u];constructor
  ·rintro (rfl|q)
   ·rw[U]at l;injection l with l;subst l;cases T
   ·exact(h.wr j m l).1 q
  ·intro H;exact .inr ((h.wr j m l).2 H)
 ·have G:j≠i:=by rintro rfl;exact A ((dM u).2 (.inl rfl))
  have B:listed[j]?≠some true:=fun X=>A ((dM u).2 (.inr X));refine I D ?_ (h.al j s R D b q J g B)
  rintro rfl
  exact r j s b G g
 ·by_cases e:t=d
  ·subst e;exact⟨x,by have:=E (by rw[p];rfl);simp[Act.put,h.n,this],Z v p⟩
  ·obtain⟨y,hy,N⟩:=h.tmp t v p (fun j s tj b P M g=>by
    have:=L j s tj b P M g;rw[dM u]at this;rcases this with rfl|this
    ·rw[C]at b;injection b with b;subst b
     rw[S]at g;injection g with g;exact(e g.symm).elim
    ·exact this)
   exact⟨y,by simp only[Act.put];rw[al3 (fun W=>e W.symm)];exact hy,Y t v y e p N⟩
end
section
variable{u:Cx}{ops:Array Oper}{p:List Tag}{K:Nat}{σ:Nat→AS}{listed:Array Bool}{a:Act}{w:World}{k:Nat}{ι:Env}{B:AS}
theorem kZ{i:Nat}(h:i∈Region.ready .any ops listed):listed[i]?≠some true∧∃o,ops[i]?=some o∧∀j∈cV o,listed[j]?=some true:=by
 unfold Region.ready at h;simp only[alN,acS,h8,Io]at h;obtain⟨n,d,c⟩:=h;have g:=iO (xs:=ops) n;rw[g]at c;simp only[MO,IF,acr,In,Io]at c;refine⟨fun m=>?_,_,g,fun j p=>?_⟩
 ·rw[ti,m]at d;cases d
 ·obtain⟨e,l,k,rfl⟩:=px.1 p;rcases c e l with a|a
  ·rw[k]at a;cases a
  ·rw[ti]at a;cases f:listed[e.on]? with
   | none=>rw[f]at a;cases a
   | some b=>rw[f]at a;simp only[IF]at a;rw[a]
theorem akq(q:Stat ops p K)(a:p.length=ops.size)(n:listed.size=ops.size)(h:Region.ready .any ops listed=[]):∀i,i<ops.size→listed[i]?=some true:=by
 intro i
 induction i using Nat.strongRecOn with
 | _ i o =>
  intro c;have k:=iO (xs:=ops) c;cases g:listed[i]? with
  | none=>rw[alI]at g;omega
  | some b =>
   cases b with
   | true=>rfl
   | false =>
    exfalso;have j:i∈Region.ready .any ops listed:=by
     unfold Region.ready;simp only[alN,acS,h8,Io];refine⟨c,by rw[ti,g];rfl,?_⟩;rw[k];simp only[MO,IF,acr,In,Io];intro e l;by_cases f:Region.binds .any e=true
     ·right;have m:e.on∈cV ops[i]:=px.2 ⟨e,l,f,rfl⟩;have d:=q.lex i _ _ k (iN (by rw[a];exact c)) e.on m;rw[ti,o e.on d (by omega)];rfl
     ·left;simpa using f
    rw[h]at j;cases j
def iT(listed:Array Bool):Nat:=(listed.toList.filter (fun b=>!b)).length
theorem uF{i:Nat}(h:listed[i]?=some false):iT (listed.setIfInBounds i true)+1=iT listed:=by
 have a:i<listed.size:=(ob.1 h).1;have d:listed.toList[i]'(by simpa using a)=false:=by have:=(ob.1 h).2;simpa using this
 unfold iT;rw[amW];have key:∀(l:List Bool) (i:Nat) (a:i<l.length),l[i]=false→((l.set i true).filter (fun b=>!b)).length+1=(l.filter (fun b=>!b)).length:=by
  intro l
  induction l with
  | nil=>intro i a _;simp at a
  | cons b r e =>
   intro i a c;cases i with
   | zero=>simp at c;subst c;simp
   | succ i =>
    simp only[List.set_cons_succ,amE];have:=e i (by simpa using a) (by simpa using c);split<;>(try simp only[la])<;>omega
 exact key _ i (by simpa using a) d
theorem uU(h:iT listed=0)(i:Nat)(c:i<listed.size):listed[i]?=some true:=by
 unfold iT at h;have d:=nx h;rw[iO c];congr 1;cases a:listed[i] with
 | true=>rfl
 | false =>
  exfalso;have:listed[i]∈listed.toList.filter (fun b=>!b):=alN.2 ⟨by simp,by simp[a]⟩;rw[d]at this;cases this
theorem c8.one{Q':Exit→Act→World→Prop}{Y:Act→World→Prop}(st:Stat ops p K)(dy:lW u.P u.n B ops p K σ)(h:c8 u ops p K σ listed a w k ι){i:Nat}(t0:i<p.length)(hi:i∈Region.ready .any ops listed)
  (hK:∀a' w' k' ι',c8 u ops p K σ (listed.setIfInBounds i true) a' w' k' ι'→Y a' w'):wpOp u.P ops Q' i Y a w:=by
 obtain⟨l0,o,I,H⟩:=kZ hi;have x2:i<ops.size:=(ob.1 I).1;have D:=iN (l:=p) (i:=i) t0;generalize p[i]'t0=tg at D;have M:=h.VA;have U:∀x t,x∈o.op.operands.toList→x=.tmp t→eY ops p listed t=true:=fun x t hx e=>h.xX st I D H (aaS hx e);unfold wpOp;simp only[I]
 -- what an operation of the list 'aop' does
 have y0:∀{s':AS},bZ u.P u.n (σ k) o=some s'→∃ι',(∀id,some id≠o.dst→ι id=none→ι' id=none)∧∃s2,s2.o=s'.o∧s2.r=s'.r∧s2.u=s'.u∧(∀t v,eY ops p listed t=true∨some t=o.dst→look t s'.t=some v→look t s2.t=some v) ∧
   ∃a' w',aX u s2 a' w' ι'∧(∀R:Act→World→Prop,R a' w'→o.wp u.P a w R Q'):=by
  intro s' T0;obtain⟨s2,f1,f2,f3,f4,f5⟩:=aee (ok:=eY ops p listed) T0 U;obtain⟨ι',g1,g2⟩:=N4 M f1;refine⟨ι',g1,s2,f2,f3,f4,f5,?_⟩;obtain⟨x,w',hr,F⟩|⟨w',hr,F⟩:=g2
  ·exact⟨_,_,F,fun R hR=>by unfold Oper.wp;rw[hr];exact hR⟩
  ·exact⟨_,_,F,fun R hR=>by unfold Oper.wp;rw[hr];exact hR⟩
 have m2:∀{m},tg=.s m→∀j m',p[j]?=some (.s m')→j≠i→m'≠m:=fun e j m' X k2 e'=>by
  subst e;subst e';exact k2 ((st.chain i o _ I D).2.2.2 j X)
 have G:i<listed.size:=by rw[h.sz];exact x2
 cases tg with
 | s m =>
  obtain⟨l3,z2,x1,c0⟩:=st.chain i o m I D;have A2:m=k+1:=by
   have h1:¬ m≤k:=fun A0=>l0 ((h.wr i m D).2 A0);have h2:m≤k+1:=by
    by_cases p2:2≤m
    ·obtain⟨j,X,hs⟩:=x1 p2;have:=(h.wr j _ hs).1 (H j X);omega
    ·omega
   omega
  subst A2;obtain⟨hg,W⟩:=dy.s i o k I D;have hw:Region.wanted o (yielded ops a.tmps)=true:=h.wanted st I D H hg;rw[kc hw];have S1:∀a' w' ι' s2,(∀id,(u.n≤440000→id≠440009)→some id≠o.dst→ι id=none→ι' id=none)→s2.o=(σ (k+1)).o→s2.r=(σ (k+1)).r→s2.u=(σ (k+1)).u →
    (∀t v,eY ops p listed t=true∨some t=o.dst→look t (σ (k+1)).t=some v→look t s2.t=some v)→aX u s2 a' w' ι'→c8 u ops p K σ (listed.setIfInBounds i true) a' w' (k+1) ι':=fun a' w' ι' s2 g1 e1 e2 e3 e4 F=>by
   refine⟨by simp[h.sz],fun j oj r X j' k0=>?_,z2,fun j m' S=>?_,F.hs.of_eq e1 e2 e3,fun j oj i1 d' r X x0 E a0=>?_,F.dfr,F.n,fun t v hv k1=>?_⟩
   ·rw[dM G]at X⊢;rcases X with rfl|X
    ·rw[I]at r;injection r with r;subst r;exact .inr (H j' k0)
    ·exact .inr (h.cl j oj r X j' k0)
   ·rw[dM G];by_cases e:j=i
    ·subst e;rw[D]at S;injection S with S;injection S with S;subst S;simp
    ·have:=h.wr j m' S;have k2:=m2 rfl j m' S e;constructor
     ·rintro (h1|h1)
      ·exact(e h1).elim
      ·have:=this.1 h1;omega
     ·intro A0;exact .inr (this.2 (by omega))
   ·have j1:j≠i:=by rintro rfl;exact a0 ((dM G).2 (.inl rfl))
    have m0:listed[j]?≠some true:=fun Q=>a0 ((dM G).2 (.inr Q));refine g1 d' (fun h9 e=>?_) (fun e=>?_) (h.al j oj i1 d' r X x0 E m0)
    ·cases i1<;>first|(cases x0;done)|skip
     ·obtain⟨_,d0,_,_,_,c3,c4,_⟩:=dy.a j oj _ _ r X;rw[E]at c3;injection c3 with c3;have e9:d'=440009:=e;omega
     ·obtain⟨d0,c3,c4,_⟩:=dy.o j oj _ _ r X;rw[E]at c3;injection c3 with c3;have e9:d'=440009:=e;omega
    obtain⟨d2,p1,i3⟩:=st.dst j oj _ r X (Tag.abl x0);rw[E]at p1;injection p1 with p1;subst p1
    exact i3 i o I (fun e'=>j1 e'.symm) e.symm
   ·refine F.tmp t v (e4 t v (.inl (ky.2 fun j oj tj r e0 S0 E=>?_)) hv);have:=k1 j oj tj r e0 S0 E;rw[dM G]at this;rcases this with rfl|this
    ·rw[D]at e0;injection e0 with e0;subst e0;cases S0
    ·exact this
  rcases W with W|⟨s',⟨q0,dl,iv,v0,q1,q2,q3⟩,b1,b2,b3,b4⟩
  ·obtain⟨ι',g1,s2,e1,e2,e3,e4,a',w',F,m1⟩:=y0 W;exact .inl (m1 _ (hK a' w' (k+1) ι' (S1 a' w' ι' s2 (fun id _=>g1 id) e1 e2 e3 e4 F)))
  ·have l1:eY ops p listed dl=true:=ky.2 fun j oj tj r _ _ E=>(q2 j oj r E).elim;obtain⟨y,_,hr⟩:=M.tmp dl (.lk iv v0) (by show look dl (cy _ _)=_;rw[fe,kc l1];exact q1);cases hr with
   | lk _ _ _ _ hv _ =>
    exact .inl (q3 u rfl rfl _ a w ι M hv U _ Q' (fun a' w' ι' s2 g1 e1 e2 e3 e4 F=>hK a' w' (k+1) ι' (S1 a' w' ι' s2 (fun id h9=>g1 id (h9 q0)) (e1.trans b1) (e2.trans b2) (e3.trans b3) (fun t v ht C=>by
     rcases b4 t v C with C|⟨i0,o0,n2,c1,c2,c3,c4,c5⟩
     ·exact e4 t v ht C
     ·rcases ht with ht|ht
      ·have:=h.low st c1 c2 c3 (ky.1 ht i0 o0 n2 c1 c2 c3 c4);omega
      ·obtain⟨d0,o1,g3⟩:=st.dst i0 o0 n2 c1 c2 c3;rw[c4]at o1;injection o1 with o1;subst o1
       by_cases e:i=i0
       ·subst e;rw[D]at c2;injection c2 with c2;subst c2;cases c3
       ·exact(g3 i o I e ht.symm).elim) F)))
 | v lo n =>
  obtain⟨s1,f0⟩:=h.uA st I D rfl l0 H;obtain⟨hg,W⟩:=dy.v i o lo n I D k s1 f0;have hw:=h.wanted st I D H hg;rw[kc hw];obtain⟨d,hd,c0⟩:=st.dst i o _ I D rfl;obtain⟨ι',g1,s2,e1,e2,e3,e4,a',w',F,m1⟩:=y0 W;refine .inl (m1 _ (hK a' w' k ι' ?_));refine⟨by simp[h.sz],fun j oj r X j' k0=>?_,h.kK,fun j m' S=>?_,F.hs.of_eq e1 e2 e3,fun j oj i1 d' r X x0 E a0=>?_,F.dfr,F.n,fun t v hv k1=>?_⟩
  ·rw[dM G]at X⊢;rcases X with rfl|X
   ·rw[I]at r;injection r with r;subst r;exact .inr (H j' k0)
   ·exact .inr (h.cl j oj r X j' k0)
  ·rw[dM G];have e:j≠i:=by rintro rfl;rw[D]at S;cases S
   have:=h.wr j m' S;constructor
   ·rintro (h1|h1)
    ·exact(e h1).elim
    ·exact this.1 h1
   ·intro A0;exact .inr (this.2 A0)
  ·have j1:j≠i:=by rintro rfl;exact a0 ((dM G).2 (.inl rfl))
   have m0:listed[j]?≠some true:=fun Q=>a0 ((dM G).2 (.inr Q));refine g1 d' (fun e=>?_) (h.al j oj i1 d' r X x0 E m0);rw[hd]at e;injection e with e;subst e
   exact c0 j oj r j1 E
  ·refine F.tmp t v (e4 t v ?_ hv);by_cases e:t=d
   ·right;rw[hd,e]
   ·left;refine ky.2 fun j oj tj r e0 S0 E=>?_;have:=k1 j oj tj r e0 S0 E;rw[dM G]at this;rcases this with rfl|this
    ·rw[I]at r;injection r with r;subst r
     rw[hd]at E;injection E with E;exact(e E.symm).elim
    ·exact this
 | c lo n =>
  obtain⟨s1,f0⟩:=h.uA st I D rfl l0 H;obtain⟨hg,W⟩:=dy.c i o lo n I D k s1 f0;have hw:=h.wanted st I D H hg;rw[kc hw];rcases W with W|W|W
  case inr.inr =>
   obtain⟨d,dl,L1,x,b,hd,W,w0,u2,y2,D2,B2⟩:=W;obtain⟨d',n1,c0⟩:=st.dst i o _ I D rfl;rw[hd]at n1;injection n1 with n1;subst n1
   obtain⟨ι',g1,s2,e1,e2,e3,e4,a',w',F,m1⟩:=y0 W;have l1:eY ops p listed dl=true:=ky.2 fun j oj tj r _ _ E=>(B2 j oj r E).elim;have hx:ι' L1=some x:=by
    obtain⟨y,_,hr⟩:=F.tmp dl (.lk L1 x) (e4 dl _ (.inl l1) (by simp only[AS.put,cr];rw[kb u2];exact y2));cases hr with
    | lk _ _ _ _ h _=>exact h
   refine .inl (m1 _ (hK a' w' k ι' ?_));refine⟨by simp[h.sz],fun j oj r X j' k0=>?_,h.kK,fun j m' S=>?_,F.hs.of_eq e1 e2 e3,fun j oj i1 d' r X x0 E a0=>?_,F.dfr,F.n,fun t v hv k1=>?_⟩
   ·rw[dM G]at X⊢;rcases X with rfl|X
    ·rw[I]at r;injection r with r;subst r;exact .inr (H j' k0)
    ·exact .inr (h.cl j oj r X j' k0)
   ·rw[dM G];have e:j≠i:=by rintro rfl;rw[D]at S;cases S
    have:=h.wr j m' S;constructor
    ·rintro (h1|h1)
     ·exact(e h1).elim
     ·exact this.1 h1
    ·intro A0;exact .inr (this.2 A0)
   ·have j1:j≠i:=by rintro rfl;exact a0 ((dM G).2 (.inl rfl))
    have m0:listed[j]?≠some true:=fun Q=>a0 ((dM G).2 (.inr Q));refine g1 d' (fun e=>?_) (h.al j oj i1 d' r X x0 E m0);rw[hd]at e;injection e with e;subst e
    exact c0 j oj r j1 E
   ·by_cases e:t=d
    ·subst e;rw[w0]at hv;injection hv with hv;subst hv
     obtain⟨y,hy,hr⟩:=F.tmp t (.vv x) (e4 t _ (.inr hd.symm) (by simp[AS.put,cr]));refine⟨y,hy,?_⟩;cases hr;obtain⟨v,xs,q1,q2,_⟩:=F.hs.arrs L1 b (by rw[e2];exact D2) (by rw[hx];rfl);rw[hx]at q1;injection q1 with q1;subst q1
     obtain⟨A',m,c,rfl⟩:∃A m c,x=.slice A m c:=by
      rcases q2.2 with⟨hv,_⟩|⟨_,_,_,hv,_⟩<;>exact⟨_,_,_,hv⟩
     exact .ref _ _ _ _ _ hx
    ·refine F.tmp t v (e4 t v (.inl ?_) (by simp only[AS.put,cr];rw[kb e];exact hv));refine ky.2 fun j oj tj r e0 S0 E=>?_;have:=k1 j oj tj r e0 S0 E;rw[dM G]at this;rcases this with rfl|this
     ·rw[I]at r;injection r with r;subst r
      rw[hd]at E;injection E with E;exact(e E.symm).elim
     ·exact this
  case inr.inl =>
   obtain⟨f,O1,l,V,d,h1,L2,a3,a4,a5,a7,a8,a9⟩:=W;have o2:ri ((σ k).tt (cy (eY ops p listed) (σ k).t)) o=some (f,O1,l):=by
    unfold ri at h1⊢;split at h1
    case h_2=>cases h1
    rename_i cl L;split at h1
    case h_2=>cases h1
    rename_i fo O;have e1:((σ k).tt (cy (eY ops p listed) (σ k).t)).ev fo=(σ k).ev fo:=by
     cases fo with
     | tmp t =>
      show look t (cy _ _)=look t _;rw[fe,kc (U (.tmp t) t (by simp[L,Op.operands,Call.operands,O]) rfl)]
     | const v=>rfl
     | func g=>rfl
     | global g=>rfl
    have e2:dr ((σ k).tt (cy (eY ops p listed) (σ k).t)) cl.args.toList=dr (σ k) cl.args.toList:=pK (fun x hx=>by
     cases x with
     | tmp t =>
      show look t (cy _ _)=look t _;rw[fe,kc (U (.tmp t) t (by simp[L,Op.operands,Call.operands,O];exact .inr (z3.1 hx)) rfl)]
     | const v=>rfl
     | func g=>rfl
     | global g=>rfl)
    simp only[L,O,e1,e2,V6];exact h1
   left;have r2:=ad6 (R:=Q') a9 a8 o2 (HP _ _ l L2) M (K:=Y) (fun x v s1 ι1 w' hv b0 hr=>by
    subst hv;rw[a3];refine hK _ _ k ι (h.step st I D rfl H a3 (h.hs.nF b0.below.plain) (fun _ _ h=>h) (fun v' C=>?_) (fun _=>a5) (fun t v' y _ _ Z=>Z.mono b0.below.plain.size (fun b _ hb=>hb) (fun b w0 _=>b0.below.plain.block b w0) (fun _ _ h=>h)));rw[a4]at C;injection C with C;subst C;exact TA a7 hr)
   exact r2
  case inl =>
  unfold Gj at W;split at W
  ·rename_i cl L;split at W
   ·rename_i fo O;obtain⟨f,aV,l,V,d,a1,a2,a3,a4,a5,a6,a7,a8,a9⟩:=W;have v1:((σ k).tt (cy (eY ops p listed) (σ k).t)).ev fo=some (.fn f aV):=by
     cases fo with
     | tmp t =>
      show look t (cy _ _)=_;rw[fe,kc (U (.tmp t) t (by simp[L,Op.operands,Call.operands,O]) rfl)];exact a1
     | const v=>exact a1
     | func g=>exact a1
     | global g=>exact a1
    have hl:dr ((σ k).tt (cy (eY ops p listed) (σ k).t)) cl.args.toList=some l:=by
     rw[pK];exact a2;intro x hx;cases x with
     | tmp t =>
      show look t (cy _ _)=look t _;rw[fe,kc (U (.tmp t) t (by simp[L,Op.operands,Call.operands,O];exact .inr (z3.1 hx)) rfl)]
     | const v=>rfl
     | func g=>rfl
     | global g=>rfl
    left;unfold Oper.wp;obtain⟨ys,y1,t1,u1⟩:=ln M L O v1 a8;rw[y1,af6];refine (a9 (NN u.M ι) w _ (fun b hb=>lN M.hs hb) (zU M hl a6 t1 u1)).mono ?_
    rintro e w' ⟨x,v,s3,ι1,rfl,rfl,b0,hr⟩
    have h3:Rel (NN u.M ι) w' ι v x:=(hr.pure a7 ι).mono (jf _) (fun b _ hb=>.inl hb) (fun _ _ _=>rfl) (fun _ _ h=>h);rw[a3];refine hK _ _ k ι (h.step st I D rfl H a3 (h.hs.nF b0.below.plain) (fun _ _ h=>h) (fun v' C=>?_) (fun _=>a5) (fun t v' y _ _ Z=>Z.mono b0.below.plain.size (fun b _ hb=>hb) (fun b w0 _=>b0.below.plain.block b w0) (fun _ _ h=>h)));rw[a4]at C;injection C with C;subst C;exact h3
   ·exact W.elim
  ·exact W.elim
 | a lo n =>
  obtain⟨s1,f0⟩:=h.uA st I D rfl l0 H;obtain⟨T,d,cs,i2,L,hd,v2,w2,hz,g0⟩:=dy.a i o lo n I D;obtain⟨b1,b2,b3,b4⟩:=g0 k s1 f0;have hw:Region.wanted o (yielded ops a.tmps)=true:=by simp[Region.wanted,i2]
  rw[kc hw];have J:=h.al i o _ d I D rfl hd l0;unfold ft at hz;cases t0:u.P.info? T with
  | none=>simp[t0]at hz
  | some it =>
   cases z1:it.zero with
   | none=>simp[t0,z1]at hz
   | some zv =>
    simp only[t0,h7,z1]at hz;have hc:=mE (NN u.M ι) w ι hz;left;have p0:(execOp a.eval o).run u.P w=.ok (.value (.pointer (some ⟨w.heap.size,0,none⟩))) (w.alloc (.cells zv.cells T)):=by
     unfold execOp;simp[L,Instr.alloc,zeroValue,typeInfo,t0,z1,newVar,newRow]
    unfold Oper.wp;rw[p0];show Y _ _;rw[hd];have T0:=h.hs.aiw (d:=d) J b4 b2 (T:=T) (fun q=>by omega) b1 hc;simp only[ain]at T0;refine hK _ _ k _ (h.step st I D rfl H hd T0 (fun id s0 hn=>(bT _ _ s0).trans hn) (fun v' C=>?_) (fun _=>u7 v2 (Nat.min_le_left _ _)) (fun t v' y _ _ Z=>Z.mono (by simp) (fun b hb Q=>?_) (fun b hb _=>u5 _ _ _ hb) (fp J _)))
    ·rw[b3]at C;injection C with C;subst C;exact .ptr _ _ _ _ (cN _ _ _)
    ·rcases gx Q with Q|Q
     ·exact Q
     ·injection Q with Q;simp only[]at Q;omega
 | o lo n =>
  obtain⟨s1,f0⟩:=h.uA st I D rfl l0 H;obtain⟨d,a3,a5,w2,g0⟩:=dy.o i o lo n I D;obtain⟨hg,W⟩:=g0 k s1 f0;have hw:=h.wanted st I D H hg;rw[kc hw];have J:=h.al i o _ d I D rfl a3 l0;unfold yD at W;split at W
  ·rename_i cl L;split at W
   ·rename_i fo O;obtain⟨f,aV,l,V,id,ar,j2,a1,a2,a6,a8,a9,l2,hT,hR,hO,hU⟩:=W;have v1:((σ k).tt (cy (eY ops p listed) (σ k).t)).ev fo=some (.fn f aV):=by
     cases fo with
     | tmp t =>
      show look t (cy _ _)=_;rw[fe,kc (U (.tmp t) t (by simp[L,Op.operands,Call.operands,O]) rfl)];exact a1
     | const v=>exact a1
     | func g=>exact a1
     | global g=>exact a1
    have hl:dr ((σ k).tt (cy (eY ops p listed) (σ k).t)) cl.args.toList=some l:=by
     rw[pK];exact a2;intro x hx;cases x with
     | tmp t =>
      show look t (cy _ _)=look t _;rw[fe,kc (U (.tmp t) t (by simp[L,Op.operands,Call.operands,O];exact .inr (z3.1 hx)) rfl)]
     | const v=>rfl
     | func g=>rfl
     | global g=>rfl
    left;unfold Oper.wp;obtain⟨ys,y1,t1,u1⟩:=ln M L O v1 a8;rw[y1,af6];refine (a9 (NN u.M ι) w _ (fun b hb=>lN M.hs hb) (zU M hl a6 t1 u1)).mono ?_
    rintro e w' ⟨x,v,s3,ι1,rfl,⟨rfl,w1⟩,b0,hr⟩
    obtain⟨y,hy⟩:=l2 _ _ _ _ hr;obtain⟨d1,t2⟩:=h.hs.ajR b0 j2 hy w1 J hU hO hR;have h3:Rel (NN u.M (ext ι d y)) w' (ext ι d y) (v.gl id d) x:=hr.gl t2 (fun z hz=>by rw[hy]at hz;injection hz with hz;subst hz;exact cN _ _ _);rw[a3];refine hK _ _ k _ (h.step st I D rfl H a3 d1 (fun m3 s0 hn=>(bT _ _ s0).trans hn) (fun v' C=>?_) (fun _=>a5) (fun t v' y' _ _ Z=>Z.mono b0.below.plain.size (fun b hb Q=>?_) (fun b w0 _=>b0.below.plain.block b w0) (fp J _)))
    ·rw[hT]at C;injection C with C;subst C;exact h3
    ·rcases gx Q with Q|Q
     ·exact Q
     ·rcases (b0.own id b (by rw[hy];exact Q)).1 with h9|h9;exact absurd hb (alK.2 h9);exact h9.elim
   ·exact W.elim
  ·rename_i T n' parts L;obtain⟨rfl,rfl,e,sz,d3,hz,hT,hR,hO,hU⟩:=W;left;have T0:(sizeOf e).run u.P w=.ok sz w:=by
    cases hi:u.P.info? e with
    | none=>simp[cB,hi]at hz
    | some it =>
     have : it.size=sz:=by simpa[cB, hi]using hz
     simp[sizeOf,typeInfo,hi,this]
   have p0:(execOp a.eval o).run u.P w=.ok (.value (.slice (some ⟨w.heap.size,0,none⟩) 0 0)) (w.alloc (.cells #[] e)):=by
    unfold execOp;have r0:Array.range 0 = #[]:=rfl;simp[L,Instr.buildSlice,n5 d3,T0,Instr.fill,newRow,r0]
   unfold Oper.wp;rw[p0];show Y _ _;rw[a3];have d1:=h.hs.Wf (vs:=[]) J hU hO hR rfl (tl _) (by simp) (fun c hc=>(by cases hc)) (fun v hv=>(by cases hv)) (fun j c X=>by simp at X);simp only[u3]at d1;refine hK _ _ k _ (h.step st I D rfl H a3 d1 (fun id s0 hn=>(bT _ _ s0).trans hn) (fun v' C=>?_) (fun _=>a5) (fun t v' y _ _ Z=>Z.mono (by simp) (fun b hb Q=>?_) (fun b hb _=>u5 _ _ _ hb) (fp J _)))
   ·rw[hT]at C;injection C with C;subst C;exact .ref _ _ _ _ _ (cN _ _ _)
   ·rcases gx Q with Q|Q
    ·exact Q
    ·injection Q with Q;simp only[]at Q;omega
  ·rename_i T x y L;obtain⟨kd,kd',m,e,sz,bytes,zc,hx,hy,S2,hz,hb,hT,hR,hO,hU⟩:=W;have j3:((σ k).tt (cy (eY ops p listed) (σ k).t)).ev x=some (.int kd m):=by
    cases x with
    | tmp t=>show look t (cy _ _)=_;rw[fe,kc (U (.tmp t) t (by simp[L,Op.operands]) rfl)];exact hx
    | const v=>exact hx
    | func g=>exact hx
    | global g=>exact hx
   have k3:((σ k).tt (cy (eY ops p listed) (σ k).t)).ev y=some (.int kd' m):=by
    cases y with
    | tmp t=>show look t (cy _ _)=_;rw[fe,kc (U (.tmp t) t (by simp[L,Op.operands]) rfl)];exact hy
    | const v=>exact hy
    | func g=>exact hy
    | global g=>exact hy
   left;obtain⟨vs,p0,q1,q2,q3,q4,q5⟩:=RI (P:=u.P) (N:=NN u.M ι) w S2 hz hb kd kd';unfold Oper.wp execOp;simp only[L,th,l6 M j3,l6 M k3,p0,u4,RX];show Y _ _;rw[a3];have d1:=h.hs.Wf (vs:=vs) J hU hO hR (by simp) q1 q2 q3 q4 q5;refine hK _ _ k _ (h.step st I D rfl H a3 d1 (fun id s0 hn=>(bT _ _ s0).trans hn) (fun v' C=>?_) (fun _=>a5) (fun t v' y _ _ Z=>Z.mono (by simp) (fun b hb Q=>?_) (fun b hb _=>u5 _ _ _ hb) (fp J _)))
   ·rw[hT]at C;injection C with C;subst C;exact .ref _ _ _ _ _ (cN _ _ _)
   ·rcases gx Q with Q|Q
    ·exact Q
    ·injection Q with Q;simp only[]at Q;omega
  ·exact W.elim
 | off lo n =>
  obtain⟨s1,f0⟩:=h.uA st I D rfl l0 H;obtain⟨g0,r1⟩:=dy.off i o lo n I D;obtain⟨hg,i2⟩:=g0 k s1 f0;have hw:=h.wanted st I D H hg;rw[kb (by rw[hw];simp)];obtain⟨d,hd,c0⟩:=st.dst i o _ I D rfl;rw[hd];refine hK _ _ k ι (h.step st I D rfl H hd h.hs (fun _ _ h=>h) (fun v' C=>?_) (fun hs=>?_) (fun t v' y _ _ Z=>Z))
  ·rcases r1 d k hd h.kK with h0|⟨h0,_⟩
   ·rw[h0]at C;cases C
   ·rw[h0]at C;injection C with C;subst C
    exact .tup _ _ [] rfl (fun i x v hx _=>by simp at hx)
  ·rcases r1 d k hd h.kK with h0|⟨_,h0⟩
   ·rw[h0]at hs;cases hs
   ·exact h0
theorem c8.any{l:Exit→Act→World→Prop}(x:Stat ops p K)(d:p.length=ops.size)(A:lW u.P u.n B ops p K σ)(C:∀a w ι,aX u (σ K) a w ι→l .normal a w):
  ∀(b:Nat) (listed:Array Bool) (a:Act) (w:World) (k:Nat) (ι:Env),iT listed=b→c8 u ops p K σ listed a w k ι→wpAny u.P .any ops l b listed a w:=by
 have g:∀(listed:Array Bool) (a:Act) (w:World) (k:Nat) (ι:Env),c8 u ops p K σ listed a w k ι→(∀i,i<ops.size→listed[i]?=some true)→l .normal a w:=by
  intro listed a w k ι h c;have F:k=K:=by
   have:=h.kK;rcases x.last with L|⟨i,f⟩
   ·omega
   ·have m:i<ops.size:=by rw[←d];exact(io.1 f).1
    have:=(h.wr i K f).1 (c i m);omega
  subst F;exact C a w ι ⟨h.hs,h.dfr,h.n,fun t v H=>h.tmp t v H (fun i o N j _ _ _=>c i (ob.1 j).1)⟩
 intro b
 induction b with
 | zero =>
  intro listed a w k ι y h;have c:∀i,i<ops.size→listed[i]?=some true:=fun i f=>uU y i (by rw[h.sz];exact f);refine⟨?_,g listed a w k ι h c⟩;cases s:Region.ready .any ops listed with
  | nil=>rfl
  | cons i r =>
   exfalso;obtain⟨e,o,j,_⟩:=kZ (ops:=ops) (listed:=listed) (i:=i) (by rw[s];simp);exact e (c i (ob.1 j).1)
 | succ b I =>
  intro listed a w k ι y h;refine⟨fun s=>g listed a w k ι h (akq x d h.sz s),fun i f=>?_⟩;obtain⟨_,M,q,_⟩:=kZ f;refine h.one x A (by rw[d];exact(ob.1 q).1) f (fun z w' J ι' G=>I _ z w' J ι' ?_ G);obtain⟨e,o,j,_⟩:=kZ f;have n:i<listed.size:=by rw[h.sz];exact(ob.1 j).1
  have E:listed[i]?=some false:=by
   rw[iO n]at e⊢;cases D:listed[i] with
   | true=>rw[D]at e;exact(e rfl).elim
   | false=>rfl
  have:=uF E;omega
theorem c8.start(H:Stat ops p K)(f:lW u.P u.n B ops p K σ){a:Act}{w:World}{ι:Env}(x:aX u B a w ι):c8 u ops p K σ (Array.replicate ops.size false) a { w with drawn:=w.drawn+1 } 0 ι:=by
 have C:Below w.heap.size w { w with drawn:=w.drawn+1 }:=⟨rfl,rfl,rfl,jf _,fun _ _=>rfl⟩;have q:=x.nF C;refine⟨by simp,fun i o s l=>?_,tl _,fun i m r=>?_,?_,fun i o G d s A E z _=>?_,q.dfr,q.n,fun t v M F=>?_⟩
 ·rw[ajQ]at l;split at l<;>cases l
 ·constructor
  ·intro l;rw[ajQ]at l;split at l<;>cases l
  ·intro J;have D:i<ops.size:=by have:=(io.1 r).1;have:=H.len;omega
   have:=(H.chain i _ m (iO D) r).1;omega
 ·have c:=q.hs;have n:∀id,has B.u id=true→has (σ 0).u id=true:=fun id h=>(aau h).elim (fun h=>fD (f.i3 id h)) (fun h=>by unfold has;rw[alM h,Bool.or_true]);refine⟨c.below,c.old,fun i y N=>n i (c.use i y N),c.own,c.inj,fun i cs k=>(f.i4 i cs k).elim (fun h=>h) (fun h=>n i (c.ko i cs h)),fun i a k=>?_,fun i cs k e=>?_,fun i a k e=>?_,fun i y e=>⟨(c.pin i y e).1,f.i3 _ (c.pin i y e).2⟩⟩
  ·exact(f.i6 i a k).elim (fun h=>h) (fun h=>n i (c.kr i a h))
  ·rcases f.i2 i cs k with g|g
   ·exact c.objs i cs g e
   ·have:=c.free g;rw[this]at e;cases e
  ·rcases f.i1 i a k with g|g
   ·exact c.arrs i a g e
   ·have:=c.free g;rw[this]at e;cases e
 ·cases G with
  | a lo m =>
   obtain⟨T,I,cs,_,_,b,_,j,_⟩:=f.a i o lo m s A;rw[z]at b;injection b with b;subst b
   exact q.hs.free j
  | o lo m =>
   obtain⟨I,b,_,j,_⟩:=f.o i o lo m s A;rw[z]at b;injection b with b;subst b
   exact q.hs.free j
  | _=>cases E
 ·rcases f.i5 t v M with⟨i,o,G,s,A,L,z⟩|g
  ·have:=F i o G s A L z;rw[ajQ]at this;split at this<;>cases this
  ·exact q.tmp t v g
theorem ag2{Q:Exit→Act→World→Prop}{e:dn}{id:Nat}(σ:Nat→AS)(p:List Tag)(K:Nat)(g:u.P.follows .mixedOrders=true)(f:Stat ops p K)(b:p.length=ops.size)(d:lW u.P u.n B ops p K σ)
  (h:VE u Q e .normal (σ K)):VE u Q (.c (.region id ops true)::e) .normal B:=fun a w ι c=>by
 refine am9 g (c8.any f b d (fun a w ι i=>h a w ι i) ops.size _ a _ 0 ι (by simp[iT]) (c8.start f d c))
end
def eE(lo:Nat):Nat→(Nat→Prop)→Prop
 | 0,_=>True
 | n+1,p=>p lo∧eE (lo+1) n p
theorem qp{p:Nat→Prop}:∀{n lo:Nat},eE lo n p→∀j,lo≤j→j<lo+n→p j
 | 0,lo,_,j,a,b=>by omega
 | n+1,lo,h,j,a,b=>by
  by_cases e:j=lo
  ·subst e;exact h.1
  ·exact qp h.2 j (by omega) (by omega)
def nth:er→Nat→AS
 | [],_=>⟨[],[],[],[]⟩
 | s::_,0=>s
 | _::r,n+1=>nth r n
def gq{α:Type}:List (Nat×α)→List (Nat×α)→List (Nat×α)
 | [],l=>l
 | (k,v)::r,l=>gq r (bm k v l)
theorem rz{α:Type}:∀(m l:List (Nat×α)) (k:Nat) (v:α),look k (gq m l)=some v→(∃p∈m,p.1=k)∨look k l=some v
 | [],l,k,v,h=>.inr h
 | (j,x)::r,l,k,v,h=>by
  rcases rz r _ k v h with⟨p,b,e⟩|a
  ·exact .inl ⟨p,pt _ b,e⟩
  ·rw[cr]at a;by_cases e:k=j
   ·exact .inl ⟨(j,x),u6,e.symm⟩
   ·rw[kb e]at a;exact .inr a
def A4(P:Program)(n:Nat)(s:AS)(o:Oper):Prop :=
 match o.op with
 | .call c=>match c.callee with
  | .value a=>match s.ev a,dr s c.args.toList,o.dst with
   | some (.fn f aV),some l,some d=>match look d s.t with
    | some V=>d<n∧ep [] l=true∧V.di []=true∧cG P f=true∧ba P f (l.map gH++aV) (fun v _=>v=V)
    | none=>False
   | _,_,_=>False
  | _=>False
 | _=>False
theorem afZ{P:Program}{n:Nat}{ops:Array Oper}{s:AS}{o:Oper}(h:A4 P n s o∨(GH P n s o∨GU P n ops s o)):S6 P n ops s o:=by
 rcases h with h|h
 case inr=>exact .inr h
 left;unfold A4 at h;unfold Gj;split at h
 ·split at h
  ·split at h
   ·rename_i f aV l d a b c;split at h
    ·rename_i V e;exact⟨f,aV,l,V,d,a,b,c,e,h.1,h.2.1,h.2.2.1,h.2.2.2.1,h.2.2.2.2⟩
    ·cases h
   ·cases h
  ·cases h
 ·cases h
def FT(P:Program)(n:Nat)(a:AS)(o:Oper)(p:Nat→ck→Prop):Prop :=
 match o.op with
 | .alloc T=>match o.dst,ft P T with
  | some d,some cs=>d<min n 450000∧has a.u d=false∧p d cs
  | _,_=>False
 | _=>False
def HO(n:Nat)(o:Oper)(s:AS):Prop:=match o.dst with|some d=>look d s.t=none∨(look d s.t=some (.tup [])∧d<n)|none=>True
def AH:List Oper→List Tag→Nat→Nat→Bool
 | o::r,g::a,m,t=>((match o.dst with|some d=>Nat.beq d t|none=>false)&&(g.fm&&Nat.ble m g.dU.1))||AH r a m t
 | _,_,_,_=>false
theorem TW:∀{l:List Oper} {b:List Tag} {m t:Nat},AH l b m t=true→∃(i:Nat) (o:Oper) (g:Tag),l[i]?=some o∧b[i]?=some g∧g.fm=true∧o.dst=some t∧m≤g.dU.1
 | [],_,m,t,h=>by cases h
 | _::_,[],m,t,h=>by cases h
 | o::r,g::b,m,t,h=>by
  unfold AH at h;rw[In]at h;rcases h with h|h
  ·rw[h8,h8]at h;obtain⟨a,c,e⟩:=h;refine⟨0,o,g,rfl,rfl,c,?_,iF e⟩;split at a
   ·rename_i d j;rw[j,mo a]
   ·cases a
  ·obtain⟨i,k,f,a,c,e⟩:=TW h;exact⟨i+1,k,f,by simpa using a,by simpa using c,e⟩
def eN(P:Program)(n:Nat)(c:AS)(b:Array Oper)(e:List Tag)(K:Nat)(a:er)(o:Oper):Tag→Prop
 | .s 0=>False
 | .s (m+1)=>ia b (nth a m) true o.guard∧(bZ P n (nth a m) o=some (nth a (m+1))∨(CD P n b (nth a m) (nth a (m+1)) o∨∃s' L,CD P n b (nth a m) s' o∧s'.tt (gq L s'.t)=nth a (m+1)∧(L.all fun p=>AH b.toList e (m+1) p.1)=true))
 | .v lo k=>eE lo k fun j=>ia b (nth a j) true o.guard∧bZ P n (nth a j) o=some (nth a j)
 | .c lo k=>eE lo k fun j=>ia b (nth a j) true o.guard∧(A4 P n (nth a j) o∨(GH P n (nth a j) o∨GU P n b (nth a j) o))
 | .a lo k=>o.guard=none∧FT P n c o fun d cs=>eE lo k fun j=>look d (nth a j).o=some cs∧look d (nth a j).r=none∧look d (nth a j).t=some (.ptr d 0)∧has (nth a j).u d=true
 | .o lo k=>∃d,o.dst=some d∧d<n∧has c.u d=false∧eE lo k fun j=>ia b (nth a j) true o.guard∧yD P n (nth a j) o d
 | .off lo k=>o.guard≠none∧(eE lo k fun j=>ia b (nth a j) false o.guard)∧eE 0 (K+1) fun j=>HO n o (nth a j)
def ff(P:Program)(n:Nat)(b:AS)(a:Array Oper)(c:List Tag)(K:Nat)(d:er):List Oper→List Tag→Prop
 | o::r,t::ts=>eN P n b a c K d o t∧ff P n b a c K d r ts
 | _,_=>True
theorem TM{P:Program}{n:Nat}{d:AS}{a:Array Oper}{e:List Tag}{K:Nat}{f:er}:∀{l:List Oper} {ts:List Tag},ff P n d a e K f l ts→∀(i:Nat) (o:Oper) (t:Tag),l[i]?=some o→ts[i]?=some t→eN P n d a e K f o t
 | [],_,_,i,o,t,h,_=>by simp at h
 | _::_,[],_,i,o,t,_,h=>by simp at h
 | g::r,j::ts,h,0,o,t,b,c=>by simp at b c;subst b;subst c;exact h.1
 | g::r,j::ts,h,i+1,o,t,b,c=>TM h.2 i o t (by simpa using b) (by simpa using c)
def gA(s:AS)(b:List em)(a:List (Nat×ck))(rl:List (Nat×bW)):AS:={ t:=gq b s.t,o:=gq a s.o,r:=gq rl s.r,u:=rl.map (·.1)++(a.map (·.1)++s.u) }
def fresh{α:Type}(u:d7):List (Nat×α)→Prop
 | []=>True
 | (k,_)::r=>has u k=false∧fresh u r
theorem JU{α:Type}{u:d7}:∀{l:List (Nat×α)},fresh u l→∀p∈l,has u p.1=false
 | [],_,p,a=>by cases a
 | (k,x)::r,h,p,a=>by
  rcases qk.1 a with rfl|a
  ·exact h.1
  ·exact JU h.2 p a
set_option linter.all false
open Go.ChangeShapes Go.WideShapes Go.ChangeAt Go.RowKit
inductive cS (P:Program):TypeId→ck→Prop
 | bool t b (h:P.underlying t=some .bool):cS P t [.bool b]
 | int t k n (h:P.underlying t=some (.int k)) (hw:(Lit.int k n).wf=true):cS P t [.int k n]
 | str t s (h:P.underlying t=some .string) (hs:s.size≤maxLen):cS P t [.str s]
 | sl t e l (h:P.underlying t=some (.slice e)) (hl:l.length≤maxLen) (hz:∀c∈l,c.length=P.cellsOf e) (hc:∀c∈l,cS P e c):cS P t [.sl l]
 | struct t fs (parts:List ck) (h:P.underlying t=some (.struct fs)) (hl:parts.length=fs.size)
   (hp:∀(i:Nat) (f:Field) (c:ck),fs[i]?=some f→parts[i]?=some c→cS P f.type c):cS P t parts.flatten
 | array t e n (parts:List ck) (h:P.underlying t=some (.array n e)) (hl:parts.length=n)
   (hp:∀(c:ck),c∈parts→cS P e c):cS P t parts.flatten
def sh(P:Program)(ts:List TypeId)(t:TypeId):Bool :=
 match P.underlying t with
 | some .bool|some (.int _)|some .string=>true
 | some (.slice e)=>ts.contains e&&!(P.cellsOf e == 0)
 | some (.struct a)=>(a.toList.map fun f=>P.cellsOf f.type).sum == P.cellsOf t &&
   (List.range a.size).all fun i=>match a[i]? with|some f=>ts.contains f.type&&f.offset == ((a.toList.take i).map fun f=>P.cellsOf f.type).sum|none=>false
 | some (.array n e)=>ts.contains e&&P.cellsOf t == n*P.cellsOf e
 | _=>false
def MF(P:Program)(ts:List TypeId):Bool:=ts.all fun t=>sh P ts t
theorem Bb{α:Type}{p:Nat→α→Prop}:∀n,(∀i,i<n→∃a,p i a)→∃l:List α,l.length=n∧∀i a,l[i]?=some a→p i a
 | 0,_=>⟨[],rfl,fun i a h=>by grind⟩
 | n+1,h=>by
  obtain⟨l,c,d⟩:=Bb (p:=p) n (fun i g=>h i (by omega));obtain⟨a,e⟩:=h n (by omega);refine⟨l++[a],by grind,fun i b f=>?_⟩
  grind
theorem Cells.append{N:Nat→Prop}{w:World}{ι:Env}{a b:ck}{x y:eb}(h:Cells N w ι a x)(g:Cells N w ι b y):Cells N w ι (a++b) (x++y):=by
 refine⟨by simp[h.len,g.len],fun v d=>?_,fun i c v e d=>?_⟩
 ·rcases ls.1 d with d|d
  ·exact h.one v d
  ·exact g.one v d
 ·by_cases f:i<a.length
  ·rw[Dz f]at e;rw[Dz (by rw[←h.len];grind)]at d;exact h.rel i c v e d
  ·rw[AT (by omega)]at e;rw[AT (by rw[←h.len];omega),← h.len]at d;exact g.rel _ c v e d
theorem Jg{N:Nat→Prop}{w:World}{ι:Env}:∀(a:d7) (parts:List ck) (cs:eb) (off:Nat),parts.length=a.length→off+a.sum≤cs.length →
  (∀(i:Nat) (c:ck) (n:Nat),parts[i]?=some c→a[i]?=some n→Cells N w ι c ((cs.drop (off+(a.take i).sum)).take n))→Cells N w ι parts.flatten ((cs.drop off).take a.sum)
 | [],parts,cs,off,b,_,_=>by
  have:parts=[]:=nx (by simpa using b);subst this;simp only[List.flatten_nil,List.sum_nil,alL];exact⟨rfl,fun v l=>(by cases l),fun i c v d _=>by simp at d⟩
 | n::a,[],cs,off,b,_,_=>by simp at b
 | n::a,p::parts,cs,off,b,k,h=>by
  have f:=h 0 p n rfl rfl;simp only[alL,List.sum_nil,alS]at f;simp only[amq]at k⊢;have g:=Jg a parts cs (off+n) (by simpa using b) (by omega) (fun i c m d j=>by
   have:=h (i+1) c m (by simpa using d) (by simpa using j);simp only[amQ,amq]at this;rw[show off+n+(a.take i).sum=off+(n+(a.take i).sum) by omega];exact this)
  have e:(cs.drop off).take (n+a.sum)=(cs.drop off).take n++(cs.drop (off+n)).take a.sum:=by
   rw[List.take_add,al0]
  rw[e,List.flatten_cons];exact f.append g
def ik:Nat→Prop:=fun _=>False
section
variable{H:Type}{enc:TypeId×Value→H}{P:Program}{w:World}{base:Nat}{d:Nat→Bool}{g:Bool}{ts:List TypeId}
theorem aev(r0:MF P ts=true):∀(B:Nat) (t:TypeId) (cs:eb) (x:DataW H×List MemPlace),ts.contains t=true→DataW.trod enc P w base d g B t cs=some x→∃as,cS P t as∧Cells ik w bG as cs:=by
 intro B
 induction B with
 | zero=>intro t cs x _ h;simp[DataW.trod]at h
 | succ B ih =>
  intro t cs x ht h;have R:sh P ts t=true:=ne.1 r0 t (by simpa using ht);unfold sh at R;have O:∀{a:AV} {v:Value},Rel ik w bG a v→v.oneCell'=true→Cells ik w bG [a] [v]:=fun hr ho =>
   ⟨rfl,fun u q=>by simp at q;subst q;exact ho,fun i c u p q=>by
    cases i with
    | zero=>simp at p q;subst p;subst q;exact hr
    | succ i=>simp at p⟩
  split at R
  ·rename_i q;obtain⟨b,rfl,_⟩:=DataW.trod_bool q h;exact⟨_,.bool t b q,O (.bool _ _) rfl⟩
  ·rename_i k q;obtain⟨n,rfl,_,hw⟩:=DataW.trod_int q h;exact⟨_,.int t k n q hw,O (.int _ _ _) rfl⟩
  ·rename_i q;obtain⟨s,rfl,_,hs⟩:=DataW.trod_string q h;exact⟨_,.str t s q hs,O (.str _ _) rfl⟩
  ·rename_i e q;simp only[h8,Io,beq_eq_false_iff_ne,ne_eq]at R;obtain⟨R,q0⟩:=R;obtain⟨rfl,_⟩|⟨a,Z,i0,k0,w0,n,C,rfl,_,hb,A0,t0,x0,A,_⟩:=DataW.trod_slice q h
   ·exact⟨_,.sl t e [] q (by simp[maxLen]) (fun c p=>by cases p) (fun c p=>by cases p),O (.sl0 _ _ _) rfl⟩
   ·injection C with C;subst C
    have z:∀i,i<Z→∃as,(cS P e as∧as.length=P.cellsOf e)∧∃vs,w.cells? base (a.add (i*P.cellsOf e)) (P.cellsOf e)=some vs∧Cells ik w bG as vs:=fun i r=>by
     have G:=A i r;rw[iN (by omega)]at G;cases p:w.cells? base (a.add (i*P.cellsOf e)) (P.cellsOf e) with
     | none=>rw[p]at G;cases G
     | some vs =>
      rw[p]at G;obtain⟨as,S,T⟩:=ih e vs _ R G;exact⟨as,⟨S,by rw[T.len];exact(World.cells?_some p).2.1⟩,vs,rfl,T⟩
    obtain⟨l,b0,J⟩:=Bb Z z;refine⟨[.sl l],.sl t e l q (by omega) (fun c p=>?_) (fun c p=>?_),O ?_ rfl⟩
    ·obtain⟨i,r,rfl⟩:=alF.1 p;exact(J i _ (iN r)).1.2
    ·obtain⟨i,r,rfl⟩:=alF.1 p;exact(J i _ (iN r)).1.1
    ·by_cases h0:l=[]
     ·subst h0;have:Z=0:=by simpa using b0.symm
      subst this;exact .sl0 _ _ _
     ·by_cases hz:P.cellsOf e=0
      ·exact(q0 hz).elim
      ·have d0:0<l.length:=amj.2 h0;have y:∀j as,l[j]?=some as→∀i c,as[i]?=some c→∃v,w.cell? ((a.add (j*P.cellsOf e)).add i)=some v∧v.oneCell'=true∧Rel ik w bG c v:=fun j as hj i c p=>by
        obtain⟨⟨_,I⟩,vs,s0,a0⟩:=J j as hj;obtain⟨_,T,g3⟩:=World.cells?_some s0;have r:i<P.cellsOf e:=by rw[←I];exact(io.1 p).1
        have hv:=iN (l:=vs) (i:=i) (by omega);exact⟨_,(g3 i r).trans hv,a0.one _ (n3 _),a0.rel i c _ p hv⟩
       obtain⟨F,X⟩:∃F,l[0]?=some F:=⟨_,iN d0⟩;have y0:=(J 0 F X).1.2;obtain⟨c0,m0⟩:∃c0,F[0]?=some c0:=⟨_,iN (by omega)⟩;obtain⟨v0,V,_,_⟩:=y 0 F X 0 c0 m0;have M:a.spot=none:=by
        have ea:(a.add (0*P.cellsOf e)).add 0=a:=by simp[Addr.add]
        rw[ea]at V;cases hs:a.spot with
        | none=>rfl
        | some s =>
         unfold World.cell? at V;split at V
         ·rw[hs]at V;simp at V
         ·cases V
       obtain⟨b,o,s⟩:=a;simp only at M;subst M;have l0:b<w.heap.size:=by
        have ea:((⟨b,o,none⟩:Addr).add (0*P.cellsOf e)).add 0=⟨b,o,none⟩:=by simp[Addr.add]
        rw[ea]at V;exact block_lt_of_cell V
       have f0:=Rel.sl (N:=ik) (w:=w) bG l b o i0 (P.cellsOf e) (fun j i=>match w.cell? ⟨b,o+j*P.cellsOf e+i,none⟩ with|some v=>(if v.oneCell'=true then v else .bool true)|none=>.bool true)
        (fun c p=>by
         obtain⟨i,r,rfl⟩:=alF.1 p;exact(J i _ (iN r)).1.2) l0 (fun h=>h)
        (fun j i=>by split<;>(try split)<;>first|assumption|rfl)
        (fun j as hj i c p=>by
         obtain⟨v,S,T,_⟩:=y j as hj i c p;rw[ajg,ajg]at S;simp only[S,T,w3])
        (fun j as hj i c p=>by
         obtain⟨v,S,T,g3⟩:=y j as hj i c p;rw[ajg,ajg]at S;simp only[S,T,w3];exact g3) (by omega)
       rw[b0]at f0;exact f0
  ·rename_i Q q;simp only[h8,alJ,ne,acS]at R;obtain⟨g0,W⟩:=R;obtain⟨xs,n,C,_,hl,I,A⟩:=DataW.trod_struct q h;injection C with C;subst C
   have z:∀i,i<Q.size→∃as,∀f,Q[i]?=some f→cS P f.type as∧Cells ik w bG as ((cs.drop f.offset).take (P.cellsOf f.type)):=fun i r=>by
    have D:=iO (xs:=Q) r;have G:=A i _ D;rw[iN (by omega)]at G;have Y:=W i r;rw[D]at Y;simp only[h8]at Y;obtain⟨as,S,T⟩:=ih _ _ _ Y.1 G;exact⟨as,fun f U=>by rw[D]at U;injection U with U;subst U;exact⟨S,T⟩⟩
   obtain⟨parts,E,L⟩:=Bb Q.size z;refine⟨parts.flatten,.struct t Q parts q E (fun i f c C p=>(L i c p f C).1),?_⟩;have:=Jg (N:=ik) (w:=w) (ι:=bG) (Q.toList.map fun f=>P.cellsOf f.type) parts cs 0 (by simp[E]) (by omega) (fun i c m p K=>by
    rw[An]at K;have r:i<Q.size:=by rw[←E];exact(io.1 p).1
    have D:=iO (xs:=Q) r;have p0:Q.toList[i]?=some Q[i]:=by simp
    rw[p0]at K;simp only[MO,sj]at K;subst K;have Y:=W i r;rw[D]at Y;simp only[h8,alJ]at Y;have:=(L i c p _ D).2;rw[Y.2]at this;rw[DO,← amr];exact this)
   rw[If,g0,IT (by omega)]at this;exact this
  ·rename_i n e q;simp only[h8,alJ]at R;obtain⟨he,o0⟩:=R;obtain⟨xs,m,C,_,hl,I,A⟩:=DataW.trod_array q h;injection C with C;subst C
   have z:∀i,i<n→∃as,cS P e as∧Cells ik w bG as ((cs.drop (i*P.cellsOf e)).take (P.cellsOf e)):=fun i r=>by
    have G:=A i r;rw[iN (by omega)]at G;exact ih _ _ _ he G
   obtain⟨parts,E,L⟩:=Bb n z;refine⟨parts.flatten,.array t e n parts q E (fun c p=>?_),?_⟩
   ·obtain⟨i,r,rfl⟩:=alF.1 p;exact(L i _ (iN r)).1
   ·have:=Jg (N:=ik) (w:=w) (ι:=bG) (List.replicate n (P.cellsOf e)) parts cs 0 (by simp[E]) (by simp;omega) (fun i c m p K=>by
     rw[al4]at K;split at K
     ·injection K with K;subst K
      rename_i r;have:=(L i c p).2;rw[DO,List.take_replicate,anh (by omega),anf];exact this
     ·cases K)
    rw[If,anf,← o0,IT (by omega)]at this;exact this
  grind
end
theorem X0{N:Nat→Prop}{w:World}{as:ck}{v:Value}(h:Cells N w bG as v.cells.toList):(∃cs,v=.agg cs)∨∃a,as=[a]∧Rel N w bG a v:=by
 cases v with
 | agg cs=>grind
 | _ =>
  right
  match as,h.len with
  | [a],_=>exact⟨a,rfl,h.rel 0 a _ rfl rfl⟩
section
variable{P:Program}
theorem cS.gen{t}{cs}(h:cS P t cs):match P.underlying t with
  | some .bool=>∃b,cs=[.bool b]
  | some (.int k)=>∃n,cs=[.int k n]∧(Lit.int k n).wf=true
  | some .string=>∃s:ByteArray,cs=[.str s]∧s.size≤maxLen
  | some (.slice e)=>∃l,cs=[.sl l]∧l.length≤maxLen∧(∀c∈l,c.length=P.cellsOf e)∧∀c∈l,cS P e c
  | some (.struct a)=>∃parts:List ck,cs=parts.flatten∧parts.length=a.size∧∀(i:Nat) f c,a[i]?=some f→parts[i]?=some c→cS P f.type c
  | some (.array n e)=>∃parts:List ck,cs=parts.flatten∧parts.length=n∧∀c∈parts,cS P e c
  | _=>False:=by
 cases h with
 | bool _ b h=>grind
 | int _ k n h o=>grind
 | str _ s h m=>grind
 | sl _ e l h d p j=>grind
 | struct _ a parts h d g=>grind
 | array _ e n parts h d g=>grind
theorem cS.int_inv{t}{k}{cs}(a:P.underlying t=some (.int k))(h:cS P t cs):∃n,cs=[.int k n]∧(Lit.int k n).wf=true:=by have:=h.gen;grind
theorem cS.bool_inv{t}{cs}(a:P.underlying t=some .bool)(h:cS P t cs):∃b,cs=[.bool b]:=by have:=h.gen;grind
theorem cS.str_inv{t}{cs}(a:P.underlying t=some .string)(h:cS P t cs):∃s:ByteArray,cs=[.str s]∧s.size≤maxLen:=by have:=h.gen;grind
theorem cS.sl_inv{t e}{cs}(a:P.underlying t=some (.slice e))(h:cS P t cs):∃l,cs=[.sl l]∧l.length≤maxLen∧(∀c∈l,c.length=P.cellsOf e)∧∀c∈l,cS P e c:=by have:=h.gen;grind
inductive KA where
 | int (k:IntKind)
 | str
 | bool
def KA.fits:KA→AV→Prop
 | .int k,a=>∃n,a=.int k n∧(Lit.int k n).wf=true
 | .str,a=>∃s:ByteArray,a=.str s∧s.size≤maxLen
 | .bool,a=>∃b,a=.bool b
def nE:List KA→ck→Prop
 | [],[]=>True
 | k::b,a::as=>k.fits a∧nE b as
 | _,_=>False
theorem nE.append:∀{a b} {x y},nE a x→nE b y→nE (a++b) (x++y)
 | [],_,[],_,_,h=>h
 | [],_,_::_,_,h,_=>h.elim
 | _::_,_,[],_,h,_=>h.elim
 | k::c,_,a::as,_,h,g=>⟨h.1,nE.append h.2 g⟩
def uo(P:Program):Nat→TypeId→Option (List KA)
 | 0,_=>none
 | d+1,t=>match P.underlying t with
  | some .bool=>some [.bool]
  | some (.int k)=>some [.int k]
  | some .string=>some [.str]
  | some (.struct a)=>(a.toList.mapM fun f=>uo P d f.type).map List.flatten
  | some (.array n e)=>(uo P d e).map fun l=>(List.replicate n l).flatten
  | _=>none
theorem Ff:∀{a:List (List KA)} {parts:List ck},parts.length=a.length→(∀(i:Nat) b c,a[i]?=some b→parts[i]?=some c→nE b c)→nE a.flatten parts.flatten
 | [],[],_,_=>trivial
 | [],_::_,h,_=>by grind
 | _::_,[],h,_=>by grind
 | b::a,c::parts,h,g=>by
  exact(g 0 b c rfl rfl).append (Ff (by grind) (fun i ks' d e f=>g (i+1) ks' d (by grind) (by grind)))
theorem cS.flat:∀{d:Nat} {t:TypeId} {cs:ck} {r:List KA},cS P t cs→uo P d t=some r→nE r cs
 | 0,_,_,_,_,h=>by cases h
 | d+1,t,cs,r,h,a=>by
  have g:=h.gen;unfold uo at a;split at a
  ·rename_i j;rw[j]at g;obtain⟨b,rfl⟩:=g;injection a with a;subst a;exact⟨⟨b,rfl⟩,trivial⟩
  ·rename_i k j;rw[j]at g;obtain⟨n,rfl,C⟩:=g;injection a with a;subst a;exact⟨⟨n,rfl,C⟩,trivial⟩
  ·rename_i j;rw[j]at g;obtain⟨s,rfl,B⟩:=g;injection a with a;subst a;exact⟨⟨s,rfl,B⟩,trivial⟩
  ·rename_i p j;rw[j]at g;obtain⟨parts,rfl,v,y⟩:=g;cases o:p.toList.mapM (fun f=>uo P d f.type) with
   | none=>rw[o]at a;cases a
   | some D =>
    rw[o]at a;injection a with a;subst a
    have q:=mapM_some_length o;refine Ff (by rw[v,q];simp) (fun i r c m u=>?_);have A:i<p.size:=by rw[←v];exact(io.1 u).1
    have w:=iO (xs:=p) A;have x:p.toList[i]?=some p[i]:=by simp
    have z:=mapM_some_get o i p[i] x;rw[m]at z;exact(y i _ c w u).flat z
  ·rename_i n e j;rw[j]at g;obtain⟨parts,rfl,v,y⟩:=g;cases o:uo P d e with
   | none=>rw[o]at a;cases a
   | some l =>
    rw[o]at a;injection a with a;subst a
    refine Ff (by simp[v]) (fun i r c m u=>?_);rw[al4]at m;split at m
    ·injection m with m;subst m
     exact(y c (lp u)).flat o
    ·cases m
  ·cases a
end
end Go.Proofs.YtocgkfoifehcbaaGreat
namespace Go.Proofs.YtocgkfoifehcbaaGreat
set_option linter.all false
open Go.RowKit
def rB:Code→d7→Code
 | c,[]=>c
 | .seq a _,0::p=>rB a p
 | .seq _ b,_::p=>rB b p
 | .cond _ a _,0::p=>rB a p
 | .cond _ _ b,_::p=>rB b p
 | .block _ c,_::p=>rB c p
 | .loop c,_::p=>rB c p
 | c,_::_=>c
def cat(f:Func)(p:d7):Code:=match f.body with|some c=>rB c p|none=>.skip
def opsOf:Code→Array Oper
 | .region _ ops _=>ops
 | _ => #[]
def dh(f:Func)(p:d7):Array Oper:=opsOf (cat f p)
def aY(f:Func)(p:d7)(k:Nat):Oper:=((dh f p).toList.drop k).headD default
def aW(f:Func)(p:d7)(k:Nat):List Oper:=(dh f p).toList.drop k
def vr(a:Array Oper)(s:AS)(j:Nat):Option Bool :=
 match a.toList[j]? with
 | some b=>match b.dst with
  | some d=>match look d s.t with
   | some (.bool v)=>some v
   | _=>none
  | none=>none
 | none=>none
def yq(n:Nat)(s:AS)(o:Oper):Option AS:=match cH n o.dst with|true=>some (s.put o.dst (.tup []))|false=>none
def EH(a:Array Oper)(s:AS)(j:Nat):Bool :=
 match a.toList[j]? with
 | some b=>match b.dst with
  | some d=>match look d s.t with
   | some (.tup [])=>true
   | _=>false
  | none=>false
 | none=>false
theorem Mi{a}{s}{j}(h:EH a s j=true):∃b d,a.toList[j]?=some b∧b.dst=some d∧look d s.t=some (.tup []):=by
 grind[EH]
def mu(P:Program)(n:Nat)(a:Array Oper)(s:AS)(o:Oper):Option AS :=
 match o.guard with
 | none=>bZ P n s o
 | some (j,b)=>match vr a s j with
  | some true=>match b with|true=>bZ P n s { o with guard:=none }|false=>yq n s o
  | some false=>match b with|false=>bZ P n s { o with guard:=none }|true=>yq n s o
  | none=>match EH a s j with|true=>yq n s o|false=>none
def nN(P:Program)(n:Nat)(a:Array Oper):Nat→List Oper→AS→Option (List Oper×AS)
 | 0,l,s=>some (l,s)
 | _+1,[],s=>some ([],s)
 | k+1,o::r,s=>match mu P n a s o with
  | some s'=>nN P n a k r s'
  | none=>none
theorem o8{a}{s}{j}{v}(h:vr a s j=some v):∃b d,a.toList[j]?=some b∧b.dst=some d∧look d s.t=some (.bool v):=by
 grind[vr]
section
variable{B:Cx}{Q:Exit→Act→World→Prop}{C:dn}{s:AS}
theorem IX{c:Array Oper}{o m:Oper}{r:List Oper}{s':AS}{j d:Nat}{b:Bool}{v:AV}(q:o.guard=some (j,b))(t:c.toList[j]?=some m)(p:m.dst=some d)(y:look d s.t=some v)(h:v=.bool (!b)∨v=.tup [])(e:yq B.n s o=some s')(k:OT B Q C c r s'):OT B Q C c (o::r) s:=fun a w ι n=>by
 obtain⟨x,l,u⟩:=n.tmp d _ y;have g:c[j]?=some m:=by simpa using t
 have z:¬ Region.wanted o (yielded c a.tmps)=true:=by
  rcases h with rfl|rfl<;>cases u<;>cases b<;>simp[Region.wanted,q,yielded,g,p,l]
 unfold wpList;rw[kb z];unfold yq at e;split at e
 ·rename_i f;injection e with e;subst e
  exact k _ _ _ (n.put (gj f) (.tup _ _ [] rfl (fun i x v l _=>by simp at l)))
 ·cases e
theorem Uu{a:Array Oper}{o:Oper}{r:List Oper}{s':AS}(h:mu B.P B.n a s o=some s')(k:OT B Q C a r s'):OT B Q C a (o::r) s:=by
 unfold mu at h;split at h
 ·rename_i c;exact I3 c h k
 ·rename_i j b c;split at h
  ·rename_i i;obtain⟨l,d,e,f,g⟩:=o8 i;cases b with
   | true=>exact uV c e f g (I3 rfl h k)
   | false=>exact IX c e f g (.inl rfl) h k
  ·rename_i i;obtain⟨l,d,e,f,g⟩:=o8 i
   grind[uV,I3,IX]
  grind[Mi,IX]
theorem vS{a}:∀k l s {l'} {s'},nN B.P B.n a k l s=some (l',s')→OT B Q C a l' s'→OT B Q C a l s
 | 0,l,s,l',s',h,b=>by grind[nN]
 | k+1,[],s,l',s',h,b=>by grind[nN]
 | k+1,o::r,s,l',s',h,b=>by
  unfold nN at h;split at h
  ·rename_i d c;exact Uu c (vS k r d h b)
  grind
theorem adS{a}{l r}{s'} o(b:l=o::r)(h:mu B.P B.n a s o=some s')(k:OT B Q C a r s'):OT B Q C a l s:=b ▸ Uu h k
end
theorem alr{P}{n}{a}{s s'}{o}(b:o.guard=none)(h:bZ P n s o=some s'):mu P n a s o=some s':=by
 grind[mu]
theorem aa1{P}{n}{a}{s s'}{o}{j}{b}(c:o.guard=some (j,b))(d:vr a s j=some b)(h:bZ P n s { o with guard:=none }=some s'):mu P n a s o=some s':=by
 grind[mu]
def cz(a:Array Oper)(s:AS)(o:Oper):Bool:=match o.guard with
 | none=>true
 | some (j,b)=>match vr a s j with
  | some v=>(match v,b with|true,true=>true|false,false=>true|_,_=>false)
  | none=>false
theorem acX{P}{n}{a}{s s'}{o}(c:cz a s o=true)(h:bZ P n s o=some s'):mu P n a s o=some s':=by
 unfold cz at c;split at c
 ·grind[alr]
 ·rename_i j b d;split at c
  ·refine aa1 d (b:=b) ?_ h
   grind
  grind
def Fz(P:Program)(n:Nat):dn→Exit→AS→Option (dn×Exit×AS)
 | .c .skip::C,.normal,s=>some (C,.normal,s)
 | .c (.seq x y)::C,.normal,s=>some (.c x :: .c y::C,.normal,s)
 | .c (.block id c)::C,.normal,s=>some (.c c :: .b id::C,.normal,s)
 | .b _::C,.normal,s=>some (C,.normal,s)
 | .c (.exit id)::C,.normal,s=>some (C,.exit id,s)
 | .c .ret::C,.normal,s=>some (C,.ret,s)
 | .c (.cond c x y)::C,.normal,s=>match s.ev c with
  | some (.bool true)=>some (.c x::C,.normal,s)
  | some (.bool false)=>some (.c y::C,.normal,s)
  | _=>none
 | .c (.region _ ops false)::C,.normal,s=>match nN P n ops 10000 ops.toList s with
  | some ([],s')=>some (C,.normal,s')
  | _=>none
 | .c _::C,.exit id,s=>some (C,.exit id,s)
 | .l _::C,.exit id,s=>some (C,.exit id,s)
 | .b a::C,.exit id,s=>match Nat.beq id a with
  | true=>some (C,.normal,s)
  | false=>some (C,.exit id,s)
 | .c _::C,.ret,s=>some (C,.ret,s)
 | .l _::C,.ret,s=>some (C,.ret,s)
 | .b _::C,.ret,s=>some (C,.ret,s)
 | _,_,_=>none
def qr(P:Program)(n:Nat):Nat→dn→Exit→AS→Option (dn×Exit×AS)
 | 0,C,e,s=>some (C,e,s)
 | k+1,C,e,s=>match Fz P n C e s with
  | some (ks',a,s')=>qr P n k ks' a s'
  | none=>none
theorem aeo{B:Cx}{Q:Exit→Act→World→Prop}{C:dn}{e:Exit}{s:AS}{ks':dn}{d:Exit}{s':AS}(h:Fz B.P B.n C e s=some (ks',d,s'))(a:VE B Q ks' d s'):VE B Q C e s:=by
 unfold Fz at h;split at h
 case h_7 =>
  split at h
  ·rename_i c;simp only[sj,wl]at h;obtain⟨rfl,rfl,rfl⟩:=h;exact af7 c a
  ·rename_i c;simp only[sj,wl]at h;obtain⟨rfl,rfl,rfl⟩:=h;exact ahs c a
  ·cases h
 case h_8 =>
  split at h
  ·rename_i f;simp only[sj,wl]at h;obtain⟨rfl,rfl,rfl⟩:=h;exact QD (vS _ _ _ f (SI a))
  ·cases h
 case h_11 =>
  split at h
  ·rename_i b;have:=mo b;simp only[sj,wl]at h;obtain⟨rfl,rfl,rfl⟩:=h;subst this;exact akp a
  ·rename_i b;simp only[sj,wl]at h;obtain⟨rfl,rfl,rfl⟩:=h;exact YJ (fun e=>by subst e;rw[ani]at b;cases b) a
 all_goals (first|(simp only[sj,wl]at h;obtain⟨rfl,rfl,rfl⟩:=h;first|exact ZS a|exact aeS a|exact ajF a|exact YK a|exact Xh a|exact acJ a|grind|exact aiE a|grind|exact acv a|exact alB a)|grind)
theorem KG{B}{Q}:∀k C e s {ks'} {a} {s'},qr B.P B.n k C e s=some (ks',a,s')→VE B Q ks' a s'→VE B Q C e s:=by
 intro k
 induction k with
 | zero =>
  grind[qr]
 | succ k b =>
  grind[qr,aeo]
def lF{α}(l:List (Nat×α)):d7→Option (List (Nat×α))
 | []=>some []
 | k::r=>match look k l,lF l r with|some v,some m=>some ((k,v)::m)|_,_=>none
def DX(u:d7):List em→Bool
 | []=>true
 | (_,v)::r=>v.di u&&DX u r
def DQ(u:d7):List (Nat×ck)→Bool
 | []=>true
 | (k,v)::r=>ep u v&&u.contains k&&DQ u r
def Ev(u:d7):List (Nat×bW)→Bool
 | []=>true
 | (k,_)::r=>u.contains k&&Ev u r
def pins:d7→d7
 | []=>[]
 | k::r=>match Nat.ble 1000000 k with
  | true=>k::(k-1000000)::pins r
  | false=>pins r
theorem MH:∀{u:d7} {id:Nat},u.contains (dk id)=true→(pins u).contains (dk id)=true∧(pins u).contains id=true
 | [],_,h=>by cases h
 | k::r,id,h=>by
  simp only[List.contains_cons,In,alJ]at h;unfold pins;rcases h with h|h
  ·subst h;have:Nat.ble 1000000 (dk id)=true:=by unfold dk;simp
   rw[this];simp[dk]
  ·have a:=MH h
   grind
def vn:List em→d7
 | []=>[]
 | (_,.sit id _ _ _)::r=>id::vn r
 | _::r=>vn r
def AS.pick(s:AS)(ts a rs:d7):Option AS :=
 match lF s.t ts,lF s.o a,lF s.r rs with
 | some t,some o,some r=>if (DX (a++rs++(vn t++pins s.u)) t&&DQ (a++rs++(vn t++pins s.u)) o&&Ev (a++rs++(vn t++pins s.u)) r)=true then some ⟨t,o,r,a++rs++(vn t++pins s.u)⟩ else none
 | _,_,_=>none
theorem T6{u}{l}:∀{C} {m},lF l C=some m→DX u m=true→DS u l m
 | [],m,h,_=>by injection h with h;subst h;trivial
 | k::r,m,h,a=>by
  unfold lF at h;split at h
  ·rename_i v d b c;injection h with h;subst h
   simp only[DX,h8]at a;exact⟨b,a.1,T6 c a.2⟩
  grind
theorem QR{u}{l}:∀{C} {m},lF l C=some m→DQ u m=true→D7 u l m
 | [],m,h,_=>by injection h with h;subst h;trivial
 | k::r,m,h,a=>by
  unfold lF at h;split at h
  ·rename_i v d b c;injection h with h;subst h
   simp only[DQ,h8]at a;exact⟨b,a.1.1,a.1.2,QR c a.2⟩
  grind
theorem Pq{u}{l}:∀{C} {m},lF l C=some m→Ev u m=true→Eo u l m
 | [],m,h,_=>by injection h with h;subst h;trivial
 | k::r,m,h,a=>by
  unfold lF at h;split at h
  ·rename_i v d b c;injection h with h;subst h
   simp only[Ev,h8]at a;exact⟨b,a.1,Pq c a.2⟩
  grind
theorem Nt{s s'}{ts f rs}(h:s.pick ts f rs=some s'):Sub s' s:=by
 unfold AS.pick at h;split at h
 ·rename_i t o r b c d;split at h
  ·rename_i a;injection h with h;subst h
   simp only[h8]at a;refine⟨T6 b a.1.1,QR c a.1.2,Pq d a.2,fun id e=>?_⟩
   grind[MH]
  grind
 grind
section
variable{B:Cx}{Q:Exit→Act→World→Prop}{C:dn}{s:AS}
def Ed(P:Program)(n k:Nat)(ts c rs:d7)(C:dn)(e:Exit)(s:AS):Option (dn×Exit×AS) :=
 match qr P n k C e s with
 | some (ks',b,s')=>match s'.pick ts c rs with|some a=>some (ks',b,a)|none=>none
 | none=>none
theorem PW{e a}{ks'}{s'} k ts f rs(h:Ed B.P B.n k ts f rs C e s=some (ks',a,s'))(d:VE B Q ks' a s'):VE B Q C e s:=by
 unfold Ed at h;split at h
 ·rename_i i g j b;split at h
  ·rename_i l c;simp only[sj]at h;obtain⟨rfl,rfl,rfl⟩:=h;exact KG _ _ _ _ b (Nw _ (Nt c) d)
  grind
 grind
theorem aX.UX{a:Act}{w:World}{ι:Env}(h:aX B s a w ι){k}{v v'}(d:look k s.t=some v)(c:v=v'):aX B { s with t:=bm k v' s.t } a w ι:=by
 subst c;refine⟨⟨h.hs.below,h.hs.old,h.hs.use,h.hs.own,h.hs.inj,h.hs.ko,h.hs.kr,h.hs.objs,h.hs.arrs,h.hs.pin⟩,h.dfr,h.n,fun j y b=>?_⟩;simp only[cr]at b;by_cases e:j=k
 ·subst e;rw[kc rfl]at b;injection b with b;subst b;exact h.tmp j v d
 ·rw[kb e]at b;exact h.tmp j y b
theorem ahy{e} k{v v'}{b}(g:look k s.t=some v)(c:v=v')(f:bm k v' s.t=b)(h:VE B Q C e { s with t:=b }):VE B Q C e s:=fun a w ι d=>h a w ι (f ▸ d.UX g c)
theorem GR{b}{l} k{v v'}{c}(g:look k s.t=some v)(d:v=v')(f:bm k v' s.t=c)(h:OT B Q C b l { s with t:=c }):OT B Q C b l s:=fun a w ι e=>h a w ι (f ▸ e.UX g d)
theorem akb{e}{s'}(a:s=s')(h:VE B Q C e s'):VE B Q C e s:=a ▸ h
def LP(B:Cx)(Q:Exit→Act→World→Prop)(C:dn)(c:Code)(m:Nat)(s:AS):Prop:=∀a w ι,aX B s a w ι→Code.rounds B.P c (Kw B.P Q C) m a w
abbrev kl(B:Cx)(Q:Exit→Act→World→Prop)(C:dn)(c:Code)(m:Nat):aq:=.l (Code.rounds B.P c (Kw B.P Q C) m)
theorem ox{c b} m(d:b=.loop c)(h:LP B Q C c m s):VE B Q (.c b::C) .normal s:=by
 subst d;exact fun a w ι e=>wp_loop_rounds m (h a w ι e)
theorem bp{c}{m}(h:VE B Q (.c c::kl B Q C c m::C) .normal s):LP B Q C c (m+1) s:=fun a w ι b=>h a w ι b
theorem bu{c}{m}(h:LP B Q C c m s):VE B Q (kl B Q C c m::C) .normal s:=fun a w ι b=>h a w ι b
end
theorem am{α:Type}{c}{x y:Option α}{r}(h:(if c=true then x else y)=some r):(c=true∧x=some r)∨(c=false∧y=some r):=by
 grind
def aE{α:Type}(c:Bool)(x:Option α):Option α:=match c with|true=>x|false=>none
theorem aD{α}{c}{x:Option α}{r}(h:aE c x=some r):c=true∧x=some r:=by
 cases c
 ·cases h
 ·exact⟨rfl,h⟩
theorem aw{α β:Type}{x}{k:α→Option β}{r}(h:x.bind k=some r):∃y,x=some y∧k y=some r:=by
 cases x with
 | none=>grind
 | some y=>grind
def aa(n:Int):Int:=IntKind.wrap .i64 n
theorem E7{α β:Type}(f:α→β)(L:List α) d{j}(h:j<L.length):(L.map f)[j]?=some (f (L.getD j d)):=by
 grind
def aN(i:Int)(n:Nat):Bool:=decide (0≤i)&&decide (i<n)
theorem bE{i}{n}(h:aN i n=true):0≤i∧i.toNat<n:=by
 grind[aN]
section
variable{P:Program}{n:Nat}{s:AS}{o:Oper}{α:Type}[Inhabited α]
theorem W7(enc b:α→ck)(L:List α)(i:Int)(T:TypeId)(x y:Operand)(d:Nat){sz:Nat}{e:TypeId}{kd:IntKind}(f:o.op=.indexAddr T x y)(g:o.dst=some d)(p:Nat.ble (d+1) n=true)(r:s.ev x=some (.sl (L.map enc)))(t:s.ev y=some (.int kd i))
  (k:mK P T=none) (q:gk P T=some (e,sz)) (l:aN i L.length=true) (u:∀a,(enc a).length=sz) (m:∀a,enc a=b a):bZ P n s o=some (s.put (some d) (.cptr (b (L.getD i.toNat default)))):=by
 obtain⟨h,j⟩:=bE l;have c:d<n:=iF p;unfold bZ;rw[kc (by rw[g];simpa[cH]using c)];simp only[f,r,t,qL,sX,kc h,k,q,E7 enc L default j,g,kc (u _)];rw[m]
theorem Xa enc(L:List α) T x(d:Nat){e}(c:o.op=.call ⟨.builtin .len,#[x],#[T]⟩)(f:o.dst=some d)(b:Nat.ble (d+1) n=true)(h:s.ev x=some (.sl (L.map enc)))
  (g:gk P T=some e):bZ P n s o=some (s.put (some d) (.int .i64 L.length)):=by
 have a:d<n:=iF b
 grind[bZ,cH,m5,vE]
theorem acn(enc:α→ck)(L:List α)(T:TypeId)(x:Operand)(d:Nat){id sz:Nat}{e:TypeId×Nat}{et:TypeId}(c:o.op=.call ⟨.builtin .len,#[x],#[T]⟩)(f:o.dst=some d)(b:Nat.ble (d+1) n=true)(i:s.ev x=some (.ref id))(g:look id s.r=some ⟨et,sz,L.map enc⟩)
  (h:gk P T=some e):bZ P n s o=some (s.put (some d) (.int .i64 L.length)):=by
 have a:d<n:=iF b;unfold bZ
 grind[cH,m5,vE]
theorem aiy(enc:α→ck)(L:List α)(i:Int)(T:TypeId)(x y:Operand)(d:Nat){id sz:Nat}{e et:TypeId}{kd:IntKind}(b:o.op=.indexAddr T x y)(c:o.dst=some d)(k:Nat.ble (d+1) n=true)(p:s.ev x=some (.ref id))(q:s.ev y=some (.int kd i))
  (l:look id s.r=some ⟨et,sz,L.map enc⟩) (h:mK P T=none) (m:gk P T=some (e,sz)) (j:aN i L.length=true):bZ P n s o=some (s.put (some d) (.eptr id sz i.toNat 0)):=by
 obtain⟨f,g⟩:=bE j;have a:d<n:=iF k;unfold bZ;rw[kc (by rw[c];simpa[cH]using a)];simp only[b,p,q,qL,sX,kc f,h,m,l,c,nw,g,anp,w3]
theorem WW(enc b:α→ck)(L:List α)(T:TypeId)(x:Operand)(d:Nat){id sz j off:Nat}{et:TypeId}{v:AV}(f:id<TG)(e:o.op=.load T x)(g:o.dst=some d)(l:Nat.ble (d+1) n=true)(p:s.ev x=some (.eptr id sz j off))
  (m:look id s.r=some ⟨et,sz,L.map enc⟩) (k:j<L.length) (i:∀a,enc a=b a) (h:iP P T ((b (L.getD j default)).drop off)=some v):bZ P n s o=some (s.put (some d) v):=by
 have c:d<n:=iF l;rw[←i]at h;unfold bZ;rw[kc (by rw[g];simpa[cH]using c)];simp only[f,e,p,nB,AS.mem,m,w3,E7 enc L default k,g,h]
theorem ahS(enc b:α→ck)(L:List α)(new:α)(T:TypeId)(x y:Operand){id sz j off:Nat}{et:TypeId}{v:AV}{d:ck}(e:o.op=.store T x y)(g:o.dst=none)(q:s.ev x=some (.eptr id sz j off))(t:s.ev y=some v)
  (l:look id s.r=some ⟨et,sz,L.map enc⟩) (i:j<L.length) (p:kj v=some d) (u:cB P T=some d.length) (h:∀a,enc a=b a) (k:Nat.ble (off+d.length) (b (L.getD j default)).length=true) (m:ep [] d=true) (f:jo off d (b (L.getD j default))=b new) :
  bZ P n s o=some { s with r:=bm id ⟨et,sz,(L.set j new).map enc⟩ s.r }:=by
 have c:=iF k;rw[←h]at c f;rw[←h]at f;unfold bZ;rw[kc (by rw[g];rfl)];simp only[e,g,q,t,rD,l,p,E7 enc L default i,u,c,m,anp,w3,f,List.map_set]
def fits(n bytes:Nat):Bool:=decide (n≤maxLen)&&decide (n*bytes≤140737488355328)
theorem aj9{n b}(h:fits n b=true):n≤maxLen∧n*b≤140737488355328:=by grind[fits]
theorem Uh(enc:α→ck)(M:List α){sz}(b:∀a,(enc a).length=sz):(M.map enc).all (fun e=>e.length == sz)=true:=by
 grind
theorem X3(enc:α→ck)(L M:List α)(T:TypeId)(x y:Operand)(d:Nat){id sz bytes:Nat}{et:TypeId}{new:List ck}{i:List em}{h:List (Nat×ck)}(f:o.op=.call ⟨.builtin .append,#[x,y],#[T,T]⟩)(g:o.dst=some d)(q:Nat.ble (d+1) n=true)
  (z:s.ev x=some (.ref id)) (A:s.ev y=some (.sl new)) (b:new=M.map enc) (v:look id s.r=some ⟨et,sz,L.map enc⟩) (w:je P T=some (et,sz,bytes)) (B:∀a,(enc a).length=sz) (p:fits (L.length+M.length) bytes=true) (e:s.u.contains (dk id)=false)
  (l:dC id s.t=i) (m:fc id s.o=h):bZ P n s o=some { t:=bm d (.ref id) i,o:=h,r:=bm id ⟨et,sz,(L++M).map enc⟩ s.r,u:=s.u }:=by
 have c:d<n:=iF q;obtain⟨j,k⟩:=aj9 p;subst b;unfold bZ;rw[kc (by rw[g];simpa[cH]using c)];simp only[f,g,z,A,w3,zy,w,oE,Uh enc M B,v,e,nw,j,k,anp,l,m,OR]
theorem afJ T T' x y(d:Nat){k}{a b}(f:o.op=.binOp .quo T x y T')(h:o.dst=some d)(e:Nat.ble (d+1) n=true)(i:s.ev x=some (.int k a))(j:s.ev y=some (.int k b))(g:(b != 0)=true):bZ P n s o=some (s.put (some d) (.int k (k.wrap (a.tdiv b)))):=by
 have c:d<n:=iF e
 grind[bZ,cH,vk]
theorem alC(T T':TypeId)(x y:Operand)(d:Nat){k:IntKind}{a b:Int}(f:o.op=.binOp .rem T x y T')(g:o.dst=some d)(i:Nat.ble (d+1) n=true)(j:s.ev x=some (.int k a))(l:s.ev y=some (.int k b))(h:(b != 0)=true):bZ P n s o=some (s.put (some d) (.int k (a.tmod b))):=by
 have e:d<n:=iF i;have c:¬ b=0:=by simpa using h
 unfold bZ;rw[kc (by rw[g];simpa[cH]using e)];simp only[f,j,l,vk,c,anp,w3,g,not_false_eq_true]
theorem ail(T T':TypeId)(x y:Operand)(d:Nat){a b:ByteArray}(f:o.op=.binOp .add T x y T')(h:o.dst=some d)(e:Nat.ble (d+1) n=true)(i:s.ev x=some (.str a))(j:s.ev y=some (.str b))(g:tL a b=true):bZ P n s o=some (s.put (some d) (.str (a++b))):=by
 have c:d<n:=iF e;unfold bZ
 grind[cH,vk,kD,JT]
def cD(a b:Int)(n:Nat):Bool:=decide (0≤a)&&(decide (a≤b)&&decide (b≤n))
theorem jp(enc:α→ck)(L:List α)(a b:Int)(T:TypeId)(x:Operand)(lo l:Option Operand)(d:Nat){e:TypeId}{sz:Nat}(i:o.op=.slice T x lo l none)(j:o.dst=some d)(p:Nat.ble (d+1) n=true)(r:s.ev x=some (.sl (L.map enc)))
  (q:P.underlying T=some (.slice e)) (t:cB P e=some sz) (f:∀c,(enc c).length=sz) (m:∀k,k=L.length→kO s k lo l=some (a,b)) (g:cD a b L.length=true):bZ P n s o=some (s.put (some d) (.sl ((List.drop a.toNat (List.take b.toNat L)).map enc))):=by
 have h:d<n:=iF p;simp only[cD,h8,qv]at g;unfold bZ;rw[kc (by rw[j];simpa[cH]using h)];simp only[i,kD,r,q,t,Uh enc L f,w3,jT,nw,m L.length rfl,g.1,g.2.1,g.2.2,anp,j];rw[anz,amr]
end
theorem Ll{P:Program}{n:Nat}{s:AS}{o:Oper}{α:Type}(enc:α→ck)(L:List α)(a b:Int)(T:TypeId)(x:Operand)(lo i:Option Operand)(d:Nat){id e sz:Nat}{et:TypeId}(g:o.op=.slice T x lo i none)(h:o.dst=some d)(l:Nat.ble (d+1) n=true)(q:s.ev x=some (.ref id))
  (m:look id s.r=some ⟨et,sz,L.map enc⟩) (p:P.underlying T=some (.slice e)) (r:cB P e=some sz) (j:∀k,k=L.length→kO s k lo i=some (a,b)) (c:cD a b L.length=true):bZ P n s o=some (s.put (some d) (.sref id sz a.toNat (b.toNat-a.toNat))):=by
 have f:d<n:=iF l;simp only[cD,h8,qv]at c;unfold bZ;rw[kc (by rw[h];simpa[cH]using f)];simp only[g,kD,q,p,r,m,w3,jT,nw,j L.length rfl,c.1,c.2.1,c.2.2,anp,h]
theorem iQ{α:Type}{L:List α}{i j}{x}(h:j<L.length):j<(L.set i x).length:=by grind
section
variable{B:Cx}{Q:Exit→Act→World→Prop}{C:dn}{s:AS}
theorem ae8{e} k{b a}(c:b=a)(d:look k s.t=some (.bool b))(h:VE B Q C e { s with t:=bm k (.bool a) s.t }):VE B Q C e s :=by grind[ahy]
theorem XT{a}{l} k{b c}(d:b=c)(e:look k s.t=some (.bool b))(h:OT B Q C a l { s with t:=bm k (.bool c) s.t }):OT B Q C a l s :=by grind[GR]
theorem aX.pzo{a:Act}{w:World}{ι:Env}(h:aX B s a w ι){k}{cs}(f:look k s.o=some cs):aX B { s with o:=bm k (cs.map ji) s.o } a w ι:=by
 refine⟨⟨h.hs.below,h.hs.old,h.hs.use,h.hs.own,h.hs.inj,fun i c b=>?_,h.hs.kr,fun i c b d=>?_,h.hs.arrs,h.hs.pin⟩,h.dfr,h.n,h.tmp⟩
 ·simp only[cr]at b;by_cases e:i=k
  ·subst e;exact h.hs.ko i cs f
  ·rw[kb e]at b;exact h.hs.ko i c b
 ·simp only[cr]at b;by_cases e:i=k
  ·subst e;rw[kc rfl]at b;injection b with b;subst b
   obtain⟨g,T,vs,j,l,m⟩:=h.hs.objs i cs f d;exact⟨g,T,vs,j,l,m.pz⟩
  ·rw[kb e]at b;exact h.hs.objs i c b d
theorem YG{e} k{cs}(c:look k s.o=some cs)(h:VE B Q C e { s with o:=bm k (cs.map ji) s.o }):VE B Q C e s:=fun a w ι b=>h a w ι (b.pzo c)
def eA(s:AS)(o:Oper):Option (FuncId×ck) :=
 match o.op with
 | .call c=>match c.callee with
  | .value a=>match s.ev a,dr s c.args.toList with
   | some (.fn f aV),some l=>match ep [] l with
    | true=>some (f,l.map gH++aV)
    | false=>none
   | _,_=>none
  | _=>none
 | _=>none
theorem VI{b}{r} o(h:o.guard=none){f}{a}{V}(d:eA s o=some (f,a))(g:cH B.n o.dst=true)(c:cG B.P f=true)(e:ba B.P f a (fun v _=>v=V))(i:V.di []=true)(k:OT B Q C b r (s.put o.dst V)):OT B Q C b (o::r) s:=by
 grind[eA,aiI]
theorem Sg{c:Array Oper}{l r:List Oper}(o:Oper){f:FuncId}{a:ck}{V:AV}(x:l=o::r)(h:cz c s o=true)(p:ba B.P f a (fun v _=>v=V))(e:cG B.P f=true)(n:eA s o=some (f,a))(g:(cH B.n o.dst&&V.di [])=true)(k:OT B Q C c r (s.put o.dst V)):OT B Q C c l s:=by
 subst x;simp only[h8]at g;unfold cz at h;split at h
 ·rename_i i;exact VI o i n g.1 e p g.2 k
 ·rename_i j b i;split at h
  ·rename_i v m;obtain⟨y,d,q,t,u⟩:=o8 m;have w:v=b:=by cases v<;>cases b<;>simp at h⊢
   subst w;exact uV i q t u (VI { o with guard:=none } rfl n g.1 e p g.2 k)
  grind
end
section
variable{B:Cx}{Q:Exit→Act→World→Prop}{C:dn}{s:AS}
theorem MB{q:Array Oper}{r:List Oper}(o:Oper)(hg:o.guard=none){f:FuncId}{h:ck}{V:AV}(id d:Nat){ar:bW}(i:eA s o=some (f,h))(hd:cH B.n o.dst=true)(J:cG B.P f=true)
  (hc:ba B.P f h (fun v W=>v=V∧look id W.r=some ar)) (a0:V.di []=false) (T:has s.u d=false) (A:∀(N:Nat→Prop) w ι x,Rel N w ι V x→∃y,ι id=some y)
  (k:OT B Q C q r (({ s with r:=bm d ar s.r,u:=d::s.u }:AS).put o.dst (V.gl id d))) (R:Nat.ble (id+1) TG=true):OT B Q C q (o::r) s:=by
 unfold eA at i;split at i
 ·rename_i c M;split at i
  ·rename_i fo t;split at i
   ·rename_i f' aV l hf hl;split at i
    ·rename_i hu;injection i with i;injection i with X Y;subst X;subst Y
     intro a w ι p;refine abL hg fun K hK=>?_;unfold Oper.wp;obtain⟨ys,O,H,I⟩:=ln p M t hf J;rw[O,af6];refine (hc (NN B.M ι) w _ (fun b j=>lN p.hs j) (zU p hl hu H I)).mono ?_
     rintro e w' ⟨x,v,W,ι1,rfl,⟨rfl,m⟩,g,U⟩
     obtain⟨y,S⟩:=A _ _ _ _ U;obtain⟨P,G⟩:=p.hs.import g (iF R) S m T;have L:=p.hs.free T;have Z:Rel (NN B.M (ext ι d y)) w' (ext ι d y) (v.gl id d) x:=U.gl G (fun z E=>by rw[S]at E;injection E with E;subst E;exact cN _ _ _);have D:aX B { s with r:=bm d ar s.r,u:=d::s.u } a w' (ext ι d y) :=
      p.world P rfl g.below.plain.size (fun b n j=>by
       rcases gx j with j|j
       ·exact j
       ·rcases (g.own id b (by rw[S];exact j)).1 with F|F;exact absurd n (alK.2 F);exact F.elim) (fun b n _=>g.below.plain.block b n) (fp L y)
     exact hK _ _ (k _ _ _ (D.put (gj hd) Z))
    grind
   grind
  grind
 grind
theorem fa id:∀N w ι x,Rel N w ι (.ref id) x→∃y,ι id=some y:=by
 intro N w ι x h;cases h with|ref _ _ A n c h=>grind
theorem C7{id}{i:Nat}{cs}(b:cs[i]?=some (.ref id)):∀N w ι x,Rel N w ι (.tup cs) x→∃y,ι id=some y:=by
 intro N w ι x h;cases h with
 | tup _ _ vs d c =>
  have a:i<vs.length:=by grind
  exact fa id N w ι _ (c i _ _ b (iN a))
theorem aa8{g:Array Oper}{l r:List Oper}(o:Oper)(id a:Nat){f:FuncId}{c:ck}{V V':AV}{ar:bW}(I:l=o::r)(i:cz g s o=true)(z:ba B.P f c (fun v K=>v=V∧look id K.r=some ar))(h:cG B.P f=true)
  (e:∀(N:Nat→Prop) w ι x,Rel N w ι V x→∃y,ι id=some y) (t:eA s o=some (f,c)) (A:cH B.n o.dst=true) (m:V.di []=false) (D:has s.u a=false) (J:V.gl id a=V')
  (k:OT B Q C g r (({ s with r:=bm a ar s.r,u:=a::s.u }:AS).put o.dst V')) (n:Nat.ble (id+1) TG=true:=by kernel_rfl):OT B Q C g l s:=by
 subst I;subst J;unfold cz at i;split at i
 ·rename_i p;exact MB o p id a t A h z m D e k n
 ·rename_i j b p;split at i
  ·rename_i v q;obtain⟨L,d,E,F,G⟩:=o8 q;have H:v=b:=by cases v<;>cases b<;>simp at i⊢
   subst H;exact uV p E F G (MB { o with guard:=none } rfl id a t A h z m D e k n)
  ·cases i
end
theorem ba.cE{P}{f}{a}{V V'}{id}{ar}(q:ba P f a (fun v s=>v=V∧look id s.r=some ar))(r:V.cE id ar.l=V')(d:Nat.ble (id+1) TG=true:=by kernel_rfl):ba P f a (fun v _=>v=V'):=fun M w xs m o =>
 (q M w xs m o).mono fun _ _ ⟨x,v,s,ι,j,⟨k,g⟩,h,l⟩=>by
  subst k;subst r;refine⟨x,v.cE id ar.l,s.cE id ar.l,fR ι id,j,rfl,h.cE (iF d) g rfl,?_⟩;exact l.cE (fun b p=>kL b p) (fun i e=>fJ _ e) (fun A n c e=>h.rk (iF d) g A n c e _)
open Classical in
section
variable{B:Cx}{Q:Exit→Act→World→Prop}{C:dn}{s:AS}
def Ai:BinOp→Bool
 | .eql|.neq=>true
 | _=>false
def uX:BinOp→Bool
 | .neq=>true
 | _=>false
theorem MS{f:Array Oper}{l r:List Oper}(o:Oper)(op:BinOp)(T T':TypeId)(x y:Operand)(d:Nat)(L:List ck){e:TypeId}(hl:l=o::r)(i:cz f s o=true)(g:o.op=.binOp op T x y T')(E:o.dst=some d)(hn:Nat.ble (d+1) B.n=true)
  (hx:s.ev x=some (.sl L)) (hy:s.ev y=some .nils) (u:((Ai op&&(match B.P.underlying T with|some (.slice _)=>true|_=>false))=true)) (ka:L=[]→OT B Q C f r (s.put (some d) (.bool (!uX op)))) (Y:OT B Q C f r (s.put (some d) (.bool (uX op)))):OT B Q C f l s:=by
 subst hl;have J:d<B.n:=iF hn;have key:∀(o:Oper),o.guard=none→o.op=.binOp op T x y T'→o.dst=some d→OT B Q C f (o::r) s:=by
  intro o i g E a w ι M;refine abL i fun K I=>?_;unfold Oper.wp;simp only[h8]at u;obtain⟨p,u⟩:=u;split at u
  case h_2=>cases u
  rename_i et N;have z:=M.ev hx;have D:=M.ev hy;have P:a.eval y=.slice none 0 0:=by cases h':a.eval y<;>rw[h']at D<;>cases D;rfl
  have run:∀(A:Option Addr) (n c:Nat),a.eval x=.slice A n c→(execOp a.eval o).run B.P w=.ok (.value (.bool (if A.isNone=true then !uX op else uX op))) w:=by
   intro A n c hA;have R:∀{q:BinOp},q=.eql∨q=.neq→(eqGuard q T x y (.slice A n c) (.slice none 0 0)).run B.P w=.ok () w:=by
    intro q hq;rcases hq with rfl|rfl<;>simp[eqGuard]
   have S:(Op.equalIn 10000 T (.slice A n c) (.slice none 0 0)).run B.P w=.ok A.isNone w:=by
    unfold Op.equalIn;rw[th,n5 N w];cases A<;>rfl
   unfold execOp;rw[g];simp only[hA,P,th];cases op<;>simp[Ai]at p
   ·have G:binOp .eql T (.slice A n c) (.slice none 0 0)=(do pure (.bool (← Op.equalIn 10000 T (.slice A n c) (.slice none 0 0)))):=rfl;rw[R (.inl rfl),G];simp only[u4,th,S,RX,uX];cases A<;>rfl
   ·have G:binOp .neq T (.slice A n c) (.slice none 0 0)=(do pure (.bool (!(← Op.equalIn 10000 T (.slice A n c) (.slice none 0 0))))):=rfl;rw[R (.inr rfl),G];simp only[u4,th,S,RX,uX];cases A<;>rfl
  have h:∀b,OT B Q C f r (s.put (some d) (.bool b))→(execOp a.eval o).run B.P w=.ok (.value (.bool b)) w→wpList B.P f (Kw B.P Q C) r (a.put o.dst (.bool b)) w:=fun b m _=>by
   rw[E];exact m _ _ _ (M.put (fun k m=>by injection m with m;subst m;exact J) (.bool _ _))
  generalize U:a.eval x=X at z;cases z with
  | sl0 _ A c =>
   have F:=run A 0 c U;rw[F];cases A with
   | none=>exact I _ _ (h _ (by simpa using ka rfl) F)
   | some _=>exact I _ _ (h _ (by simpa using Y) F)
  | sl _ _ b o c sz a0 hz V hN h1 hc F W =>
   have t:=run _ _ _ U;rw[t];exact I _ _ (h _ (by simpa using Y) t)
 unfold cz at i;split at i
 ·rename_i H;exact key o H g E
 ·rename_i j b H;split at i
  ·rename_i v O;obtain⟨og,d',Z,g2,g3⟩:=o8 O;have V:v=b:=by cases v<;>cases b<;>simp at i⊢
   subst V;exact uV H Z g2 g3 (key { o with guard:=none } rfl g E)
  ·cases i
end
def ak(k:IntKind)(x:Int):ck:=[.int k x]
def ahW(x:Bool):ck:=[.bool x]
def akg(x:ByteArray):ck:=[.str x]
def t6{α:Type}(f:α→ck)(x:List α):ck:=[.sl (x.map f)]
structure V1(α:Type) where
 a0:α
structure V2(α:Type) where
 a0:α
 a1:α
structure V4(α:Type) where
 a0:α
 a1:α
 a2:α
 a3:α
instance{α:Type}[Inhabited α]:Inhabited (V2 α):=⟨⟨default,default⟩⟩
instance{α:Type}[Inhabited α]:Inhabited (V4 α):=⟨⟨default,default,default,default⟩⟩
def jN{α:Type}(f:α→ck)(x:V2 α):ck:=f x.a0++f x.a1
def k8{α:Type}(f:α→ck)(x:V4 α):ck:=f x.a0++(f x.a1++(f x.a2++f x.a3))
def vD:List Oper→List Tag→Nat→Bool
 | o::r,t::ts,k=>(t.fm&&(match o.dst with|some d=>Nat.beq d k|none=>false))||vD r ts k
 | _,_,_=>false
theorem Ob:∀{l:List Oper} {ts:List Tag} {k:Nat},vD l ts k=true→∃(i:Nat) (o:Oper) (e:Tag),l[i]?=some o∧ts[i]?=some e∧e.fm=true∧o.dst=some k
 | [],_,_,h=>by simp[vD]at h
 | _::_,[],_,h=>by simp[vD]at h
 | o::r,t::ts,k,h=>by
  simp only[vD,In,h8]at h;rcases h with⟨j,f⟩|h
  ·cases g:o.dst with
   | none=>grind
   | some d =>
    rw[g]at f;have:=mo f;subst this;exact⟨0,o,t,rfl,rfl,j,g⟩
  ·obtain⟨i,m,e,a,b,c,d⟩:=Ob h;exact⟨i+1,m,e,by grind,by grind,c,d⟩
def ly(l:List Oper)(ts:List Tag):List em→Bool
 | []=>true
 | p::r=>vD l ts p.1&&ly l ts r
theorem GA{l}{ts}:∀{b},ly l ts b=true→∀p∈b,∃(i:Nat) (o:Oper) (c:Tag),l[i]?=some o∧ts[i]?=some c∧c.fm=true∧o.dst=some p.1
 | [],_,p,a=>by grind
 | q::r,h,p,a=>by
  simp only[ly,h8]at h;rcases qk.1 a with rfl|a
  ·grind[Ob]
  ·exact GA h.2 p a
def iK{α:Type}(u:d7):List (Nat×α)→Bool
 | []=>true
 | (k,_)::r=>!has u k&&iK u r
theorem Lt{α}{u}:∀{l:List (Nat×α)},iK u l=true→fresh u l
 | [],_=>trivial
 | (k,x)::r,h=>by
  simp only[iK,h8,Io]at h;exact⟨h.1,Lt h.2⟩
theorem xf{P:Program}{n:Nat}{ops:Array Oper}{l:AS}(b:List Tag)(K:Nat)(O:List em)(y:List (Nat×ck))(rl:List (Nat×bW))(F:er)
  (E:ly ops.toList b O=true) (M:iK l.u y=true) (D:iK l.u rl=true) (r:nth F 0=gA l O y rl) (X:ff P n l ops b K F ops.toList b):lW P n l ops b K (nth F):=by
 have Z:=Lt M;have J:=Lt D;have B:∀(i:Nat) (o:Oper) (t:Tag),ops[i]?=some o→b[i]?=some t→eN P n l ops b K F o t:=fun i o t s u=>TM X i o t (by simpa using s) u;refine⟨fun i o m s u=>?_,fun i o lo k s u j c f=>qp (B i o _ s u) j c f,fun i o lo k s u j c f=>?_,fun i o lo k s u=>?_,fun i o lo k s u=>?_,fun i o lo k s u=>?_,fun id a q=>?_,fun id a q=>?_,fun id cs q=>?_,fun id q=>?_,fun id cs q=>?_,fun t v Q=>?_⟩
 ·obtain⟨G,C|C|⟨s',L,C,g,z⟩⟩:=B i o _ s u
  ·exact⟨G,.inl C⟩
  ·exact⟨G,.inr ⟨_,C,rfl,rfl,rfl,fun t v h=>.inl h⟩⟩
  ·refine⟨G,.inr ⟨s',C,by rw[←g];rfl,by rw[←g];rfl,by rw[←g];rfl,fun t v h=>?_⟩⟩;rw[←g]at h;rcases rz L s'.t t v h with⟨p,x,e⟩|h
   ·obtain⟨i0,o0,R,q1,q2,q3,q4,q5⟩:=TW (ne.1 z p x);exact .inr ⟨i0,o0,R,by simpa using q1,q2,q3,e ▸ q4,q5⟩
   ·exact .inl h
 ·have:=qp (B i o _ s u) j c f;exact⟨this.1,afZ this.2⟩
 ·have g:=B i o _ s u;obtain⟨z,w⟩:=g;unfold FT at w;split at w
  ·rename_i T N;split at w
   ·rename_i d cs I hz;exact⟨T,d,cs,z,N,I,w.1,w.2.1,hz,fun j c f=>qp w.2.2 j c f⟩
   ·cases w
  ·cases w
 ·obtain⟨z,w,H⟩:=B i o _ s u;refine⟨fun j c f=>⟨qp w j c f,z⟩,fun d j I hj=>?_⟩;have:=qp H j (tl _) (by omega);unfold HO at this;rw[I]at this;exact this
 ·obtain⟨d,z,w,H,Y⟩:=B i o _ s u;exact⟨d,z,w,H,fun j c f=>qp Y j c f⟩
 ·rw[r]at q;rcases rz rl l.r id a q with⟨p,x,rfl⟩|g
  ·exact .inr (JU J p x)
  ·exact .inl g
 ·rw[r]at q⊢;show has (rl.map (·.1)++(y.map (·.1)++l.u)) id=true∨_;have A:look id (gq rl l.r)=some a:=q;rcases rz rl l.r id a A with⟨p,x,rfl⟩|g
  ·refine .inl (fD ?_);simp only[amz,ls,Dk];exact .inl ⟨p,x,rfl⟩
  ·exact .inr g
 ·rw[r]at q;rcases rz y l.o id cs q with⟨p,x,rfl⟩|g
  ·exact .inr (JU Z p x)
  ·exact .inl g
 ·rw[r];show(rl.map (·.1)++(y.map (·.1)++l.u)).contains id=true;simp only[amz,ls]at q⊢;exact .inr (.inr q)
 ·rw[r]at q⊢;show has (rl.map (·.1)++(y.map (·.1)++l.u)) id=true∨_;have A:look id (gq y l.o)=some cs:=q;rcases rz y l.o id cs A with⟨p,x,rfl⟩|g
  ·refine .inl (fD ?_);simp only[amz,ls,Dk];exact .inr (.inl ⟨p,x,rfl⟩)
  ·exact .inr g
 ·rw[r]at Q;rcases rz O l.t t v Q with⟨p,x,rfl⟩|g
  ·obtain⟨i,o,tg,S,U,V,W⟩:=GA E p x;exact .inl ⟨i,o,tg,by simpa using S,U,V,W⟩
  ·exact .inr g
theorem alg{b}{Q}{o}{id}{c}{ops}{f sK} a K l i rl g
  (q:c=.region id ops true) (s:b.P.follows .mixedOrders=true) (n:yT ops a K=true) (m:mA a K=true) (e:ly ops.toList a l=true) (k:iK f.u i=true) (d:iK f.u rl=true)
  (j:nth g 0=gA f l i rl) (p:ff b.P b.n f ops a K g ops.toList a) (r:nth g K=sK) (h:VE b Q o .normal sK):VE b Q (.c c::o) .normal f:=by
 subst q;have t:=ab0 n m;exact ag2 (nth g) a K s t (ad3 n m) (xf a K l i rl g e k d j p) (r ▸ h)
theorem akP{e}{Q}{l}{id}{c}{ops}{b} a K i d rl k
  (n:c=.region id ops true) (p:e.P.follows .mixedOrders=true) (q:yT ops a K=true) (o:mA a K=true) (g:ly ops.toList a i=true) (j:iK b.u d=true) (f:iK b.u rl=true)
  (m:ff e.P e.n b ops a K (gA b i d rl::k) ops.toList a) (h:VE e Q l .normal (nth (gA b i d rl::k) K)):VE e Q (.c c::l) .normal b :=
 alg a K i d rl (gA b i d rl::k) n p q o g j f rfl m rfl h
section
variable{P:Program}{n:Nat}{i:AS}{a:Array Oper}{u:List Tag}{K:Nat}{g:er}
theorem ac6{l r}{o}{t}{ts}(c:l=o::r)(h:eN P n i a u K g o t)(b:ff P n i a u K g r ts):ff P n i a u K g l (t::ts):=by
 subst c;exact⟨h,b⟩
theorem aiF{l}(b:l=[]):ff P n i a u K g l []:=by subst b;trivial
theorem fI{lo}{p}:eE lo 0 p:=trivial
theorem db{lo k}{p}(h:p lo)(a:eE (lo+1) k p):eE lo (k+1) p:=⟨h,a⟩
theorem pQ{s}{o}(h:cz a s o=true):ia a s true o.guard:=by
 grind[cz,ia,o8]
def BT(a:Array Oper)(s:AS)(o:Oper):Bool:=match o.guard with
 | none=>false
 | some (j,b)=>match vr a s j with
  | some v=>(match v,b with|true,false=>true|false,true=>true|_,_=>false)
  | none=>EH a s j
theorem ahu{s}{o}(h:BT a s o=true):ia a s false o.guard∧o.guard≠none:=by
 grind[BT,ia,o8,Mi]
theorem VZ{o:Oper}{m:Nat}(b:o.guard.isNone=true)(h:bZ P n (nth g m) o=some (nth g (m+1))):eN P n i a u K g o (.s (m+1)):=⟨by rw[show o.guard=none by simpa using b];rfl,.inl h⟩
theorem fi{o}{lo k}(h:eE lo k fun j=>cz a (nth g j) o=true∧bZ P n (nth g j) o=some (nth g j)):eN P n i a u K g o (.v lo k):=by
 revert lo
 induction k with
 | zero=>intro lo _;trivial
 | succ k b=>intro lo h;exact⟨⟨pQ h.1.1,h.1.2⟩,b h.2⟩
theorem k_c{o:Oper}{lo k:Nat}{f:FuncId}{e:ck}(V:AV)(x:ba P f e (fun v _=>v=V))(p:cG P f=true)(C:V.di []=true)(d:Nat)(y:o.dst=some d)(q:Nat.ble (d+1) n=true)
  (h:eE lo k fun j=>cz a (nth g j) o=true∧eA (nth g j) o=some (f,e)∧look d (nth g j).t=some V):eN P n i a u K g o (.c lo k):=by
 show eE lo k _;revert lo
 induction k with
 | zero=>intro lo _;trivial
 | succ k D =>
  intro lo h;refine⟨⟨pQ h.1.1,.inl ?_⟩,D h.2⟩;obtain⟨_,b,w⟩:=h.1;unfold eA at b;unfold A4;split at b
  ·rename_i c r;split at b
   ·rename_i F m;split at b
    ·rename_i E aV l z A;split at b
     ·rename_i B;injection b with b;injection b with s t;subst s
      simp only[r,m,z,A,y,w];exact⟨iF q,B,C,p,t ▸ x⟩
     ·cases b
    ·cases b
   ·cases b
  ·cases b
theorem k_a{o:Oper}{lo k} T(d:Nat) cs(m:o.guard.isNone=true)(c:o.op=.alloc T)(e:o.dst=some d)(b:Nat.ble (d+1) (min n 450000)=true)(l:ft P T=some cs)(f:has i.u d=false)
  (h:eE lo k fun j=>look d (nth g j).o=some cs∧look d (nth g j).r=none∧look d (nth g j).t=some (.ptr d 0)∧has (nth g j).u d=true):eN P n i a u K g o (.a lo k):=by
 refine⟨by simp_all,?_⟩;unfold FT;rw[c];simp only[e,l];exact⟨iF b,f,h⟩
theorem Ao{p q}(a:∀j,p j→q j):∀{k lo},eE lo k p→eE lo k q
 | 0,_,_=>trivial
 | _+1,_,h=>⟨a _ h.1,Ao a h.2⟩
theorem k_o{o:Oper}{lo k:Nat}{f:FuncId}{e:ck}(V:AV){id:Nat}{ar:bW}(d:Nat)(t:Nat.ble (id+1) TG=true)(E:ba P f e (fun v I=>v=V∧look id I.r=some ar))(q:cG P f=true)(p:∀(N:Nat→Prop) w ι x,Rel N w ι V x→∃y,ι id=some y)
  (F:o.dst=some d) (r:Nat.ble (d+1) n=true) (z:has i.u d=false)
  (h:eE lo k fun j=>cz a (nth g j) o=true∧eA (nth g j) o=some (f,e)∧look d (nth g j).t=some (V.gl id d)∧look d (nth g j).r=some ar∧look d (nth g j).o=none∧has (nth g j).u d=true):eN P n i a u K g o (.o lo k):=by
 refine⟨d,F,iF r,z,Ao (fun j A=>⟨pQ A.1,?_⟩) h⟩;obtain⟨_,b,D⟩:=A;unfold eA at b;unfold yD;split at b
 ·rename_i c s;split at b
  ·rename_i L m;split at b
   ·rename_i J aV l G H;split at b
    ·rename_i z;injection b with b;injection b with B C;subst B
     simp only[s,m];exact⟨_,aV,l,V,id,ar,iF t,G,H,z,q,C ▸ E,p,D⟩
    ·cases b
   ·cases b
  ·cases b
 ·cases b
theorem WY{o:Oper}{lo k:Nat}(m:o.guard.isSome=true)(h:eE lo k fun j=>BT a (nth g j) o=true)(f:eE 0 (K+1) fun j=>(match o.dst with|some d=>(match look d (nth g j).t with|none=>true|some (.tup [])=>Nat.ble (d+1) n|_=>false)|none=>true)=true):eN P n i a u K g o (.off lo k):=by
 refine⟨fun e=>(by grind),Ao (fun j b=>(ahu b).1) h,Ao (fun j b=>?_) f⟩;unfold HO;cases l:o.dst with
 | none=>grind
 | some d =>
  rw[l]at b;simp only[]at b⊢;split at b
  ·grind
  ·rename_i c;exact .inr ⟨c,iF b⟩
  grind
theorem de{s}{o}{s'}(h:bZ P n s o=some s')(a:s'=s):bZ P n s o=some s:=by grind
theorem acb{s}{o}(d:Nat){e b}(a:e=b)(h:bZ P n s o=some (s.put (some d) (.bool e)))(c:s.put (some d) (.bool b)=s):bZ P n s o=some s:=by grind
end
theorem HS.yG{M:Nat→Prop}{R:aC}{w:World}{ι:Env}{s:AS}(h:HS M R w ι s){d:Nat}(U:has s.u d=false){e:TypeId}{sz n:Nat}{l:List ck}{vs:eb}(F:l.length=n)(hm:n≤maxLen)(z:vs.length=n*sz)(hz:∀c∈l,c.length=sz)(E:∀v∈vs,v.oneCell'=true)
  (hc:∀(j:Nat) (c:ck),l[j]?=some c→∀(i:Nat) (x:AV),c[i]?=some x→∃v,vs[j*sz+i]?=some v∧Rel (NN M ι) w bG x v) :
  HS M R (w.alloc (.cells vs.toArray e)) (ext ι d (.slice (some ⟨w.heap.size,0,none⟩) n n)) { s with r:=bm d ⟨e,sz,l⟩ s.r,u:=d::s.u }:=by
 have O:=h.free U;have A:R.w.heap.size≤w.heap.size:=h.below.size;have H:∀b,b<w.heap.size→¬ NN M ι b→(w.alloc (.cells vs.toArray e)).heap[b]?=w.heap[b]?:=fun b T _=>u5 _ _ _ T;have J:∀b,b<w.heap.size→NN M (ext ι d (.slice (some ⟨w.heap.size,0,none⟩) n n)) b→NN M ι b:=fun b T q=>by
  rcases gx q with q|q
  ·exact q
  ·injection q with q;simp only[]at q;omega
 have L:=fp O (.slice (some ⟨w.heap.size,0,none⟩) n n);refine⟨h.below.alloc A _,h.old,fun i y V=>?_,fun i g m=>?_,fun i G g m f=>?_,fun i cs o=>eh (h.ko i cs o),fun i a o=>?_,fun i cs o p=>?_,fun i a o p=>?_,fun i y p=>⟨L i y (h.pin i y p).1,qj (h.pin i y p).2⟩⟩
 ·by_cases e:i=d
  ·subst e;exact ju _ _
  ·rw[bT _ _ e]at V;exact eh (h.use i y V)
 ·by_cases e:i=d
  ·subst e;rw[cN]at m;injection m with m;simp only[]at m;subst m;exact⟨.inl A,by simp⟩
  ·rw[bT _ _ e]at m;exact⟨(h.own i g m).1,by have:=(h.own i g m).2;simp;omega⟩
 ·by_cases e:i=d
  ·by_cases B:G=d
   ·omega
   ·subst e;rw[cN]at m;rw[bT _ _ B]at f;injection m with m;simp only[]at m
    have:=(h.own G g f).2;omega
  ·by_cases B:G=d
   ·subst B;rw[cN]at f;rw[bT _ _ e]at m;injection f with f;simp only[]at f
    have:=(h.own i g m).2;omega
   ·rw[bT _ _ e]at m;rw[bT _ _ B]at f;exact h.inj i G g m f
 ·simp only[cr]at o;by_cases e:i=d
  ·subst e;exact ju _ _
  ·rw[kb e]at o;exact eh (h.kr i a o)
 ·have e:i≠d:=by rintro rfl;have:=h.ko i cs o;rw[U]at this;cases this
  rw[bT _ _ e]at p;obtain⟨D,T',Q,E,h2,h3⟩:=h.objs i cs o p;have N:=(h.own i D (by rw[E];rfl)).2;exact⟨D,T',Q,(bT _ _ e).trans E,(u5 _ _ _ N).trans h2,h3.mono (by simp) J H L⟩
 ·simp only[cr]at o;by_cases C:i=d
  ·subst C;rw[kc rfl]at o;injection o with o;subst o
   refine⟨_,vs,cN _ _ _,⟨by simp[z,F],.inr ⟨w.heap.size,n,vs.toArray,by simp[F],tl _,am1 w _,by simp[F],hm,by simpa using z,by simp[F,← z]⟩⟩,hz,E,fun j c K k x t=>?_⟩;obtain⟨v,hv,P⟩:=hc j c K k x t;exact⟨v,hv,.inl (P.mono (by simp) J H (fun _ _ h=>h))⟩
  ·rw[kb C]at o;rw[bT _ _ C]at p;obtain⟨v,xs,S,X,Y,Z,g5⟩:=h.arrs i a o p;refine⟨v,xs,(bT _ _ C).trans S,f8 X (fun D f=>u5 _ _ _ (h.own i D (by rw[S];exact f)).2),Y,Z,fun j W K k c t=>?_⟩;obtain⟨x,hx,P⟩:=g5 j W K k c t;exact⟨x,hx,P.mono (by simp) J H (fun r I=>L _ _ I) (fun r I=>u5 _ _ _ (h.kq I)) (fun h=>h)⟩
theorem aX.yG{f:Cx}{s:AS}{a:Act}{w:World}{ι:Env}(h:aX f s a w ι){d:Nat}(B:d<f.n)(q:has s.u d=false){e:TypeId}{sz n:Nat}{l:List ck}{vs:eb}(D:l.length=n)(C:n≤maxLen)(m:vs.length=n*sz)(F:∀c∈l,c.length=sz)(y:∀v∈vs,v.oneCell'=true)
  (A:∀(j:Nat) (c:ck),l[j]?=some c→∀(i:Nat) (x:AV),c[i]?=some x→∃v,vs[j*sz+i]?=some v∧Rel (NN f.M ι) w bG x v) :
  aX f { t:=bm d (.ref d) s.t,o:=s.o,r:=bm d ⟨e,sz,l⟩ s.r,u:=d::s.u } (a.put (some d) (.slice (some ⟨w.heap.size,0,none⟩) n n)) (w.alloc (.cells vs.toArray e)) (ext ι d (.slice (some ⟨w.heap.size,0,none⟩) n n)):=by
 have E:=h.hs.yG q D C m F y A (e:=e);have z:aX f { s with r:=bm d ⟨e,sz,l⟩ s.r,u:=d::s.u } a (w.alloc (.cells vs.toArray e)) (ext ι d (.slice (some ⟨w.heap.size,0,none⟩) n n)) :=
  h.world E rfl (by simp) (fun b p g=>by
   rcases gx g with g|g
   ·grind
   ·injection g with g;grind) (fun b p _=>u5 _ _ _ p) (fp (h.hs.free q) _)
 exact z.put (d:=some d) (fun k G=>by grind) (.ref _ _ _ _ _ (cN _ _ _))
section
variable{b:Cx}{Q:Exit→Act→World→Prop}{f:dn}{s:AS}
theorem fk{a}{r} o(c:cz a s o=true)(h:OT b Q f a ({ o with guard:=none }::r) s):OT b Q f a (o::r) s:=by
 unfold cz at c;split at c
 ·have:{ o with guard:=none }=o:=by cases o;grind
  grind
 grind[o8,uV]
theorem Yb{g:Array Oper}{l r:List Oper}(o:Oper)(T:TypeId)(d:Nat){e:TypeId}{sz:Nat}(D:l=o::r)(B:cz g s o=true)(m:o.op=.buildSlice T 0 #[])(A:o.dst=some d)(E:Nat.ble (d+1) b.n=true)(G:b.P.underlying T=some (.slice e))(x:cB b.P e=some sz)(H:has s.u d=false)
  (k:OT b Q f g r { t:=bm d (.ref d) s.t,o:=s.o,r:=bm d ⟨e,sz,[]⟩ s.r,u:=d::s.u }):OT b Q f g l s:=by
 subst D;refine fk o B fun a w ι F=>?_;refine abL rfl fun K y=>?_;have q:=F.yG (iF E) H (e:=e) (sz:=sz) (n:=0) (l:=[]) (vs:=[]) rfl (tl _) (by simp) (fun c z=>by cases z) (fun v I=>by cases I) (fun j c C=>by simp at C);have p:(sizeOf e).run b.P w=.ok sz w:=by
  cases i:b.P.info? e with
  | none=>simp[cB,i]at x
  | some J =>
   have : J.size=sz:=by simpa[cB, i]using x
   simp[sizeOf,typeInfo,i,this]
 unfold Oper.wp execOp;have h:(Instr.buildSlice T 0 #[]).run b.P w=.ok (.slice (some ⟨w.heap.size,0,none⟩) 0 0) (w.alloc (.cells #[] e)):=by
  simp[Instr.buildSlice,n5 G,p,Instr.fill,newRow,PV]
 simp only[m,th];simp only[amO,anb,zt,h,u4,RX];rw[A];exact y _ _ (k _ _ _ q)
theorem aek{α:Type}(enc:α→ck)(W:α){C:Array Oper}{l r:List Oper}(o:Oper)(T:TypeId)(x y:Operand)(d:Nat){e:TypeId}{sz:Nat}{zc:ck}{bytes:Nat}{n:Int}{kd kd':IntKind}(hl:l=o::r)(hg:cz C s o=true)(O:o.op=.makeSlice T x y)(hd:o.dst=some d)(hn:Nat.ble (d+1) b.n=true)
  (I:s.ev x=some (.int kd n)) (hy:s.ev y=some (.int kd' n)) (m:je b.P T=some (e,sz,bytes)) (hz:ft b.P e=some zc) (he:zc.map ji=enc W) (hu:has s.u d=false) (Y:fG n bytes=true)
  (k:OT b Q f C r { t:=bm d (.ref d) s.t,o:=s.o,r:=bm d ⟨e,sz,List.map enc (List.replicate n.toNat W)⟩ s.r,u:=d::s.u }):OT b Q f C l s:=by
 subst hl;refine fk o hg fun a w ι R=>?_;refine abL rfl fun K hK=>?_;simp only[fG,h8,qv]at Y;obtain⟨b0,b1,b2⟩:=Y;unfold je at m;split at m
 case h_2=>cases m
 rename_i X U;split at m
 case h_2=>cases m
 rename_i h H;split at m
 case h_2=>cases m
 rename_i z J;split at m
 case isFalse=>cases m
 rename_i A;injection m with m;injection m with h1 m;injection m with h2 h3
 subst h1;subst h2;subst h3;have V:mQ z.cells.toList=some zc:=by simpa[ft,H,J]using hz
 have g:=(mE (NN b.M ι) w bG V);have P:=g.pz;have G:=R1 w T X h z U H J kd kd' n b0 b1 b2 A.2;have p:zc.length=h.size:=by rw[g.len,← A.1];simp
 have B:∀q,q<n.toNat*h.size→((Array.range (n.toNat*h.size)).map (z.cells[· % z.cells.size]!)).toList[q]?=z.cells.toList[q % h.size]?:=fun q D=>by
  have hm:q % h.size<z.cells.size:=by rw[A.1];exact Nat.mod_lt _ A.2
  simp[D,A.1];rw[getElem!_pos z.cells (q % h.size) hm,iO hm]
 have S:=R.yG (iF hn) hu (e:=X) (sz:=h.size) (n:=n.toNat) (l:=List.map enc (List.replicate n.toNat W)) (vs:=((Array.range (n.toNat*h.size)).map (z.cells[· % z.cells.size]!)).toList) (by simp) (by unfold maxLen;omega) (by simp)
  (fun c Z=>by
   simp only[List.map_replicate,List.mem_replicate]at Z;rw[Z.2,← he,nw,p])
  (fun v L=>by
   obtain⟨q,D⟩:=amc L;have N:q<n.toNat*h.size:=by have:=(io.1 D).1;simpa using this
   rw[B q N]at D;exact g.one v (lp D))
  (fun j c E i x I=>by
   simp only[List.map_replicate,al4]at E;split at E
   ·rename_i M;injection E with E;subst E
    rw[←he]at I;have hi:i<h.size:=by have:=(io.1 I).1;rw[nw,p]at this;exact this
    have D:j*h.size+i<n.toNat*h.size:=by
     have:(j+1)*h.size≤n.toNat*h.size:=Qf _ M;rw[aix,alY]at this;omega
    have F:(j*h.size+i) % h.size=i:=by rw[amn,Nat.mul_add_mod,amD hi]
    rw[B _ D,F];have L:=iN (l:=z.cells.toList) (i:=i) (by rw[←g.len,p];exact hi);exact⟨_,L,P.rel i x _ I L⟩
   ·cases E)
 unfold Oper.wp execOp;simp only[O,th,l6 R I,l6 R hy,G,u4,RX];rw[hd];have:=k _ _ _ S;simp only[ain]at this;exact hK _ _ this
end
mutual
def AV.mv(id a:Nat):AV→AV
 | .ref i=>if i=id then .ref a else .ref i
 | .ptr i o=>if i=id then .any else .ptr i o
 | .pp i g o=>if i=id then .any else .pp i g o
 | .sit i g s p=>if i=id then .any else .sit i g s p
 | .adr g o=>.adr g o
 | .eptr i sz j o=>if i=id then .any else .eptr i sz j o
 | .sref i sz o m=>if i=id then .any else .sref i sz o m
 | .agg cs=>.agg (k9 id a cs)
 | .tup cs=>.tup (k9 id a cs)
 | .int k n=>.int k n
 | .bool b=>.bool b
 | .str s=>.str s
 | .nils=>.nils
 | .sl l=>.sl l
 | .nilm=>.nilm
 | .mref _ _=>.any
 | .omp m=>.omp m
 | .osl e sz l=>.osl e sz l
 | .vv x=>.vv x
 | .lk i x=>if i=id then .any else .lk i x
 | .fn f c=>.fn f c
 | .fno f c=>.fno f (k9 id a c)
 | .nilf=>.nilf
 | .nilp=>.nilp
 | .cptr cs=>.cptr cs
 | .any=>.any
def k9(id a:Nat):ck→ck
 | []=>[]
 | c::r=>c.mv id a::k9 id a r
end
def pZ(id a:Nat):List em→List em
 | []=>[]
 | (k,v)::r=>(k,v.mv id a)::pZ id a r
def rx(id a:Nat):List (Nat×ck)→List (Nat×ck)
 | []=>[]
 | (k,v)::r=>(k,k9 id a v)::rx id a r
theorem zO{id a}:∀{l} {i:Nat} {x},(k9 id a l)[i]?=some x→∃y,l[i]?=some y∧x=y.mv id a
 | [],i,x,h=>by grind[k9]
 | c::r,0,x,h=>by grind[k9]
 | c::r,i+1,x,h=>by simp only[amp]at h⊢;exact zO h
theorem zC{id a}:∀l,(k9 id a l).length=l.length
 | []=>rfl
 | c::r=>by simp[k9,zC r]
theorem U7{id a}:∀{l} {k} {v},look k (pZ id a l)=some v→∃u,look k l=some u∧v=u.mv id a
 | [],k,v,h=>by cases h
 | (j,x)::r,k,v,h=>by
  simp only[pZ,look]at h⊢;split at h
  ·grind
  ·rename_i e;rw[kb e];exact U7 h
theorem G8{id a}:∀{l} {k} {v},look k (rx id a l)=some v→∃u,look k l=some u∧v=k9 id a u
 | [],k,v,h=>by cases h
 | (j,x)::r,k,v,h=>by
  simp only[rx,look]at h⊢;split at h
  ·grind
  ·rename_i e;rw[kb e];exact G8 h
def jQ(ι:Env)(id a:Nat):Env:=fun i=>if i=a then ι id else if i=id then none else ι i
theorem Rel.mv{N N':Nat→Prop}{w:World}{ι:Env}{v:AV}{x:Value}(h:Rel N w ι v x){id H:Nat}{ι':Env}(J:∀b,N' b→N b)(I:∀y,ι id=some y→ι' H=some y)(a:∀i y,i≠id→ι i=some y→ι' i=some y):Rel N' w ι' (v.mv id H) x:=by
 have L:∀{e:Env} {v:AV} {x:Value},Rel N w e v x→Rel N' w e v x:=fun h=>h.mono (jf _) (fun b _ p=>J b p) (fun _ _ _=>rfl) (fun _ _ h=>h)
 induction h with
 | int ι k n=>exact .int _ _ _
 | bool ι b=>exact .bool _ _
 | str ι s=>exact .str _ _
 | nils ι=>exact .nils _
 | nilm ι=>simp only[AV.mv];exact .nilm _
 | mref ι i q r v h a=>simp only[AV.mv];exact .any _ _ rfl
 | sl0 ι A c=>exact .sl0 _ _ _
 | sl ι l b o c sz u U p G C K d E z=>simp only[AV.mv];exact .sl _ l b o c sz u U p (fun h=>G (J b h)) C K (fun j e R i x t=>L (d j e R i x t)) E
 | fn ι f aV O F d z=>exact .fn _ f aV O F (fun i c y I a=>L (d i c y I a))
 | fno ι f aV O F d z =>
  refine .fno _ _ _ O (by rw[zC];exact F) (fun i x v t M=>?_);obtain⟨y,T,rfl⟩:=zO t;exact z i y v T M I a
 | nilf ι=>exact .nilf _
 | nilp ι=>exact .nilp _
 | any ι x h=>exact .any _ _ h
 | ptr ι i off g h =>
  simp only[AV.mv];split
  ·exact .any _ _ rfl
  ·rename_i e;exact .ptr _ _ _ _ (a _ _ e h)
 | adr ι g off=>simp only[AV.mv];exact .adr _ _ _
 | vv ι x h=>simp only[AV.mv];exact .vv _ _ h
 | lk ι i v x h D =>
  simp only[AV.mv];split
  ·exact .any _ _ D
  ·rename_i e;exact .lk _ _ _ _ (a _ _ e h) D
 | pp ι i g off h =>
  simp only[AV.mv];split
  ·exact .any _ _ rfl
  ·rename_i e;exact .pp _ _ _ _ (a _ _ e h)
 | sit ι i g s V h S G p =>
  simp only[AV.mv];split
  ·exact .any _ _ rfl
  ·rename_i e;exact .sit _ _ _ _ _ (a _ _ e h) S (fun h=>G (J g h)) p
 | eptr ι i sz j off g n c h =>
  simp only[AV.mv];split
  ·exact .any _ _ rfl
  ·rename_i e;exact .eptr _ _ _ _ _ _ n c (a _ _ e h)
 | sref ι i sz off m n c P A B h Q =>
  simp only[AV.mv];split
  ·exact .any _ _ rfl
  ·rename_i e;exact .sref _ _ _ _ _ n c P A B (a _ _ e h) Q
 | cptr ι cs b o u p G C K d z=>simp only[AV.mv];exact .cptr _ cs b o u p (fun h=>G (J b h)) C K (fun i x t=>L (d i x t))
 | ref ι i A n c h =>
  simp only[AV.mv];split
  ·rename_i e;subst e;exact .ref _ _ _ _ _ (I _ h)
  ·rename_i e;exact .ref _ _ _ _ _ (a _ _ e h)
 | agg ι cs vs F C d z =>
  refine .agg _ _ _ (by grind[zC]) C (fun i x v t M=>?_)
  grind[zO]
 | tup ι cs vs F d z =>
  refine .tup _ _ _ (by grind[zC]) (fun i x v t M=>?_)
  grind[zO]
theorem aX.mvG{I:Cx}{s:AS}{a:Act}{w:World}{ι:Env}(h:aX I s a w ι){id d:Nat}{ar:bW}(O:look id s.r=some ar)(P:TG≤id→∀e∈ar.l,∀c∈e,c.NY=true)(S:has s.u d=false)(W:s.u.contains (dk id)=false):
  aX I ⟨pZ id d s.t,rx id d s.o,bm d ar (era id s.r),d::s.u⟩ a w (jQ ι id d):=by
 have V:=h.hs.free S;have U:d≠id:=fun e=>by have:=h.hs.kr id ar O;rw[←e,S]at this;cases this
 have M:jQ ι id d d=ι id:=by simp[jQ]
 have F:∀i,i≠id→i≠d→jQ ι id d i=ι i:=fun i a b=>by simp[jQ,a,b]
 have N:jQ ι id d id=none:=by simp[jQ,Ne.symm U]
 have Y:∀y,ι id=some y→jQ ι id d d=some y:=fun y n=>by rw[M];exact n
 have J:∀i y,i≠id→ι i=some y→jQ ι id d i=some y:=fun i y f n=>by
  have:i≠d:=fun e=>by subst e;rw[V]at n;cases n
  rw[F i f this];exact n
 have z:∀i g,bw (jQ ι id d i)=some g→∃j,bw (ι j)=some g∧(i=d∧j=id∨i≠d∧i≠id∧j=i):=fun i g p=>by
  by_cases l:i=d
  ·subst l;rw[M]at p;exact⟨id,p,.inl ⟨rfl,rfl⟩⟩
  ·by_cases o:i=id
   ·subst o;rw[N]at p;cases p
   ·rw[F i o l]at p;exact⟨i,p,.inr ⟨l,o,rfl⟩⟩
 have t:∀b,NN I.M (jQ ι id d) b→NN I.M ι b:=fun b G=>by
  rcases G with G|⟨i,G⟩
  ·exact .inl G
  ·obtain⟨j,q,_⟩:=z i b G;exact .inr ⟨j,q⟩
 refine⟨⟨h.hs.below,h.hs.old,fun i y n=>?_,fun i g p=>?_,fun i i' g p Q=>?_,fun i cs f=>?_,fun i a f=>?_,fun i cs f m=>?_,fun i a f m=>?_,fun i y m=>(by
  have e:i≠id:=fun e=>by subst e;rw[h.hs.np W]at m;cases m
  exact⟨J i y e (h.hs.pin i y m).1,qj (h.hs.pin i y m).2⟩)⟩,h.dfr,h.n,fun k v D=>?_⟩
 ·by_cases l:i=d
  ·subst l;exact ju _ _
  ·by_cases o:i=id
   ·subst o;rw[N]at n;cases n
   ·rw[F i o l]at n;exact eh (h.hs.use i y n)
 ·obtain⟨j,q,_⟩:=z i g p;exact h.hs.own j g q
 ·obtain⟨j,q,c1⟩:=z i g p;obtain⟨j',R,A⟩:=z i' g Q;have:=h.hs.inj j j' g q R;rcases c1 with⟨q1,q2⟩|⟨q1,q2,q3⟩<;>rcases A with⟨r1,r2⟩|⟨r1,r2,r3⟩<;>omega
 ·obtain⟨u,E,rfl⟩:=G8 f;exact eh (h.hs.ko i u E)
 ·simp only[cr]at f;by_cases l:i=d
  ·subst l;exact ju _ _
  ·rw[kb l,zn]at f;split at f
   ·cases f
   ·exact eh (h.hs.kr i a f)
 ·obtain⟨u,E,rfl⟩:=G8 f;by_cases l:i=d
  ·subst l;have:=h.hs.ko i u E;rw[S]at this;cases this
  ·by_cases o:i=id
   ·subst o;rw[N]at m;cases m
   ·rw[F i o l]at m⊢;obtain⟨g,T,vs,c1,A,B⟩:=h.hs.objs i u E m;refine⟨g,T,vs,c1,A,by rw[zC];exact B.len,B.one,fun j x v C hv=>?_⟩;obtain⟨y,n,rfl⟩:=zO C;exact(B.rel j y v n hv).mv t Y J
 ·simp only[cr]at f;by_cases l:i=d
  ·subst l;rw[kc rfl]at f;injection f with f;subst f
   rw[M]at m⊢;obtain⟨v,xs,c1,A,B,K,L⟩:=h.hs.arrs id ar O m;refine⟨v,xs,c1,A,B,K,fun j e q k c D=>?_⟩;obtain⟨x,C,H⟩:=L j e q k c D;exact⟨x,C,.inl ((H.ac3 (fun Z=>P Z e (lp q) c (lp D))).mono (jf _) (fun b _ z=>t b z) (fun _ _ _=>rfl) (fun _ _ h=>h))⟩
  ·rw[kb l,zn]at f;split at f
   ·cases f
   ·rename_i o;rw[F i o l]at m⊢;obtain⟨v,xs,c1,A,B,K,L⟩:=h.hs.arrs i a f m;refine⟨v,xs,c1,A,B,K,fun j e q k c D=>?_⟩;obtain⟨x,C,H⟩:=L j e q k c D;exact⟨x,C,H.mono (jf _) (fun b _ z=>t b z) (fun _ _ _=>rfl) (fun r X=>J _ _ (h.hs.Au O X) X) (fun _ _=>rfl) (fun h=>h)⟩
 ·obtain⟨u,E,rfl⟩:=U7 D;obtain⟨x,C,H⟩:=h.tmp k u E;exact⟨x,C,H.mv t Y J⟩
theorem aX.mv{d}{s}{a}{w}{ι}(h:aX d s a w ι){id b}{ar}(g:id<TG)(e:look id s.r=some ar)(f:has s.u b=false)(c:s.u.contains (dk id)=false):
  aX d ⟨pZ id b s.t,rx id b s.o,bm b ar (era id s.r),b::s.u⟩ a w (jQ ι id b) :=
 h.mvG e (fun h=>by omega) f c
theorem aad{f}{Q}{g}{s}{e} id b{ar}(d:id<TG)(i:look id s.r=some ar)(j:has s.u b=false)(c:s.u.contains (dk id)=false)(h:VE f Q g e ⟨pZ id b s.t,rx id b s.o,bm b ar (era id s.r),b::s.u⟩):VE f Q g e s:=fun a w ι k=>h a w _ (k.mv d i j c)
theorem Ex{id}{i:Nat}{cs}(b:cs[i]?=some (.ref id)):∀N w ι x,Rel N w ι (.agg cs) x→∃y,ι id=some y:=by
 intro N w ι x h;cases h with
 | agg _ _ vs d _ c =>
  have a:i<vs.length:=by grind
  exact fa id N w ι _ (c i _ _ b (iN a))
set_option linter.all false
open Go.ChangeShapes Go.WideShapes Go.ChangeAt Go.RowKit
def qd(P:Program)(t:TypeId):Bool:=match P.underlying t with
 | some (.struct _)|some (.array _ _)=>true
 | _=>false
def pE(P:Program)(t:TypeId)(a:AV):Prop:=if qd P t=true then ∃cs,a=.agg cs∧cS P t cs else cS P t [a]
def Fa(P:Program):List TypeId→ck→Prop
 | [],[]=>True
 | t::ts,a::as=>pE P t a∧Fa P ts as
 | _,_=>False
section
variable{H:Type}{enc:TypeId×Value→H}{P:Program}{w:World}{ts:List TypeId}{base:Nat}
theorem aaq{t:TypeId}(c:sh P ts t=true)(b:qd P t=false){cs:Array Value}(h:Value.okWide P w .any base t (.agg cs)):False:=by
 unfold sh at c;unfold qd at b;cases a:P.underlying t with
 | none=>grind
 | some d =>
  rw[a]at c b;cases d<;>simp at c b
  ·have:=okWide_bool a h;grind
  ·have:=okWide_int a h;grind
  ·have:=okWide_string a h;grind
  ·have:=okWide_slice a h;grind
theorem Wo(g:MF P ts=true):∀(ps:List TypeId) (vs:eb) (u:List (DataW H)) (q:List MemPlace),(∀t∈ps,ts.contains t=true)→DataW.TrodAll enc P w 0 (fun _=>true) true ps vs u q →
  (∀(j:Nat) t v,ps[j]?=some t→vs[j]?=some v→Value.okWide P w .any base t v) →
  ∃as,Fa P ps as∧as.length=vs.length∧∀(i:Nat) (a:AV) (v:Value),as[i]?=some a→vs[i]?=some v→Rel ik w bG a v
 | [],[],[],_,_,_,_=>⟨[],trivial,rfl,fun i a v h _=>by simp at h⟩
 | [],_::_,_,_,_,h,_=>h.elim
 | [],[],_::_,_,_,h,_=>h.elim
 | _::_,[],_,_,_,h,_=>h.elim
 | _::_,_::_,[],_,_,h,_=>h.elim
 | t::ps,v::vs,d::u,q,C,h,o=>by
  obtain⟨p,Q,D,M,rfl⟩:=h;obtain⟨as,x,y,J⟩:=Wo g ps vs u Q (fun R O=>C R (pt _ O)) M (fun j t v x y=>o (j+1) t v (by simpa using x) (by simpa using y));obtain⟨n,L⟩:=D;obtain⟨cs,I,s⟩:=aev g n t _ _ (C t u6) L;have r:=o 0 t v rfl rfl;have F:sh P ts t=true:=by
   have:=ne.1 g t (by have:=C t u6;simpa using this);exact this
  have m:∀a,pE P t a→Rel ik w bG a v→∃as,Fa P (t::ps) as∧as.length=(v::vs).length∧∀(i:Nat) (a:AV) (v':Value),as[i]?=some a→(v::vs)[i]?=some v'→Rel ik w bG a v':=fun a K E=>by
   refine⟨a::as,⟨K,x⟩,by simp[y],fun i b v' z k=>?_⟩;cases i with
   | zero=>simp at z k;subst z;subst k;exact E
   | succ i=>exact J i b v' (by simpa using z) (by simpa using k)
  by_cases c:qd P t=true
  ·have:∃cs,v=.agg cs:=by
    unfold Value.okWide at r;unfold qd at c;split at r
    ·obtain⟨cs,e,_⟩:=r;exact⟨cs,e⟩
    ·obtain⟨cs,e,_⟩:=r;exact⟨cs,e⟩
    ·rename_i A B;split at c
     ·rename_i f G;exact(A f G).elim
     ·rename_i a b G;exact(B a b G).elim
     ·cases c
   obtain⟨l,rfl⟩:=this;refine m (.agg cs) (by unfold pE;rw[kc c];exact⟨cs,rfl,I⟩) ?_;have:=Rel.agg (N:=ik) (w:=w) bG cs l.toList s.len s.one s.rel;simpa using this
  ·obtain⟨l,rfl⟩|⟨a,rfl,E⟩:=X0 s
   ·exact(aaq F (by simpa using c) r).elim
   ·exact m a (by unfold pE;rw[kb c];exact I) E
end
theorem Ve{H}{enc:TypeId×Value→H}{P}{w}{b}{sp}{c}:∀ps vs a q,DataW.TrodAll enc P w b sp c ps vs a q→a.length=ps.length
 | [],[],[],_,_=>rfl
 | [],_::_,_,_,h=>h.elim
 | [],[],_::_,_,h=>h.elim
 | _::_,[],_,_,h=>h.elim
 | _::_,_::_,[],_,h=>h.elim
 | t::ps,v::vs,d::a,q,h=>by
  obtain⟨p,g,e,f,rfl⟩:=h;simp[Ve ps vs a g f]
theorem ahb{P:Program}{f:FuncId}{as:ck}(h:ba P f as (fun v _=>v=.bool true)){W:World}{xs:eb}(n:as.length=xs.length)(l:∀(i:Nat) (a:AV) (v:Value),as[i]?=some a→xs[i]?=some v→Rel ik W bG a v):
  Calls P f xs.toArray W fun e c=>e=.returned (.bool true)∧Below W.heap.size W c:=by
 refine (h ik W xs.toArray (fun b g=>g.elim) ⟨by grind,fun i v y d m=>l i v y d (by grind)⟩).mono ?_
 rintro e w' ⟨x,v,s,ι,rfl,rfl,k,j⟩
 cases j;exact⟨rfl,k.below.plain⟩
theorem cO{α:Type}{l:List α}{n}(h:l.length=n+1):∃a r,l=a::r∧r.length=n:=by
 cases l with
 | nil=>grind
 | cons a r=>grind
theorem Vi{α:Type}{p:ck→α→Prop}:∀{l:List ck},(∀c∈l,∃x,p c x)→∃L:List α,l.length=L.length∧∀(j:Nat) c x,l[j]?=some c→L[j]?=some x→p c x
 | [],_=>⟨[],rfl,fun j c x h _=>by grind⟩
 | c::r,h=>by
  obtain⟨x,g⟩:=h c u6;obtain⟨L,e,f⟩:=Vi (l:=r) (fun c a=>h c (by grind));refine⟨x::L,by grind,fun j d i a b=>?_⟩
  grind
theorem Qz{α:Type}{e:α→ck}{l}(h:∀c∈l,∃x,c=e x):∃L:List α,l=L.map e:=by
 obtain⟨L,a,b⟩:=Vi h;refine⟨L,al1 fun j=>?_⟩
 grind
section
variable{H:Type}{enc:TypeId×Value→H}{P:Program}
theorem TI(i:laidOutB P=true){W f}(g:Below W.heap.size W f):∀ts vs c ps,
  (∀t∈ts,P.readableRec t=true∧t<P.types.size)→(∀x∈ps,x.block<W.heap.size)→DataW.TrodAll enc P W 0 (fun _=>true) true ts vs c ps →
  DataW.TrodAll enc P f 0 (fun b=>decide (b<W.heap.size)) true ts vs c ps
 | [],[],[],ps,_,_,h=>h
 | [],_::_,_,_,_,_,h=>h.elim
 | [],[],_::_,_,_,_,h=>h.elim
 | _::_,[],_,_,_,_,h=>h.elim
 | _::_,_::_,[],_,_,_,h=>h.elim
 | t::ts,v::vs,d::c,ps,e,a,h=>by
  obtain⟨p,q,j,k,rfl⟩:=h;refine⟨p,q,?_,TI i g ts vs c q (fun m n=>e m (by grind)) (fun x l=>a x (by grind)) k,rfl⟩;exact Below.trod i (e t u6).1 (e t u6).2 j g (fun x l=>a x (by grind))
theorem akC{f:Func}{s:ChangeSpec}{b fresh d:Bool}{W m:World}{c:Array Value}{e:List (DataW H)}{a:List MemPlace}{tb:TypeId}
  (r:laidOutB P=true) (i:s.vars=[]) (k:f.resultTypes = #[tb]) (l:P.underlying tb=some .bool) (j:(s.fn H e).results=[.lit (.bool true)]) (g:(s.fn H e).args=e) (w:(s.fn H e).vars=[])
  (v:∀t∈f.params.toList,P.readableRec t=true∧t<P.types.size)
  (n:DataW.Whole enc P f.params.toList s.vars b W c.toList e [] a) (q:DataW.TrodAll enc P W 0 (fun _=>true) true f.params.toList c.toList e a) (o:Below W.heap.size W m) :
  s.post enc P f b fresh d false W c (.bool true) m:=by
 refine⟨e,[],a,[],a,[],n,?_,?_,?_,o.frame _,fun h=>by grind⟩
 ·rw[Ts,j,k];exact trodAll_mk1 (shut_bool l true)
 ·rw[Ts,g];exact TI r o _ _ _ _ v (fun p u=>n.lt p u) q
 ·rw[Ts,w,i];rfl
end
end Go.Proofs.YtocgkfoifehcbaaGreat
namespace Go.Proofs.YtocgkfoifehcbaaGreat
set_option linter.all false
open Go.RowKit
def keys{α:Type}:List (Nat×α)→d7
 | []=>[]
 | (k,_)::r=>k::keys r
def gE(P:Program)(n k:Nat)(a:dn)(e:Exit)(s:AS):AS:=match qr P n k a e s with
 | some (_,_,s')=>s'
 | none=>s
def gJ(P:Program)(n k:Nat)(b:dn)(e:Exit)(s:AS):Option (dn×Exit):=match qr P n k b e s with
 | some (ks',a,_)=>some (ks',a)
 | none=>none
def Vm(s:AS)(ts a rs:d7):AS:=match s.pick ts a rs with|some s'=>s'|none=>s
def Tr(s:AS)(ts a rs:d7):Bool:=match s.pick ts a rs with|some _=>true|none=>false
def uW(P:Program)(n:Nat)(a:Array Oper)(k:Nat)(l:List Oper)(s:AS):AS:=match nN P n a k l s with
 | some (_,s')=>s'
 | none=>s
def ta(P:Program)(n:Nat)(a:Array Oper)(k:Nat)(l:List Oper)(s:AS):Option (List Oper):=match nN P n a k l s with
 | some (l',_)=>some l'
 | none=>none
def Fr(s:AS):List (AS→AS)→er
 | []=>[]
 | g::r=>g s::Fr (g s) r
def Sk(k:Nat)(b:Bool)(s:AS):AS:={ s with t:=bm k (.bool b) s.t }
def coS(a:Nat)(ar:bW)(s:AS):AS:={ s with r:=bm a ar s.r,u:=a::s.u }
def n9(c:AS)(b:List em)(a:List (Nat×ck))(rl:List (Nat×bW))(d:List (AS→AS)):er:=gA c b a rl::Fr (gA c b a rl) d
def Ii(c:AS)(b:List em)(a:List (Nat×ck))(rl:List (Nat×bW))(d:List (AS→AS))(K:Nat):AS:=nth (n9 c b a rl d) K
def Hq(f:Func)(p:d7):Bool:=match cat f p with|.region _ _ false=>true|_=>false
section
variable{a:Cx}{Q:Exit→Act→World→Prop}{d ks':dn}{e t:Exit}{s s':AS}{f:Func}{p:d7}{c:Array Oper}{i:Nat}
theorem ag k(b:VE a Q ks' t s')(h:Ed a.P a.n k (keys s'.t) (keys s'.o) (keys s'.r) d e s=some (ks',t,s'):=by kernel_rfl):VE a Q d e s:=PW k _ _ _ h b
theorem bC k s'(b:VE a Q ks' .normal s')(h:Ed a.P a.n k (keys s'.t) (keys s'.o) (keys s'.r) d e s=some (ks',.normal,s'):=by kernel_rfl):VE a Q d e s:=PW k _ _ _ h b
theorem cd k(b:VE a Q ks' .normal (gE a.P a.n k d e s))(h:gJ a.P a.n k d e s=some (ks',.normal):=by kernel_rfl):VE a Q d e s:=by
 grind[gJ,KG,gE]
theorem aL k(b:VE a Q [] .ret (gE a.P a.n k d e s))(h:gJ a.P a.n k d e s=some ([],.ret):=by kernel_rfl):VE a Q d e s:=by
 grind[gJ,KG,gE]
theorem bJ ts f rs(b:VE a Q d e (Vm s ts f rs))(h:Tr s ts f rs=true:=by kernel_rfl):VE a Q d e s:=by
 unfold Tr at h;split at h
 ·rename_i g c;unfold Vm at b;rw[c]at b;exact Nw _ (Nt c) b
 grind
theorem ai(n:Nat)(g:OT a Q d (dh f p) (aW f p n) (uW a.P a.n (dh f p) n (aW f p 0) s))(h:Hq f p=true:=by kernel_rfl)(e:ta a.P a.n (dh f p) n (aW f p 0) s=some (aW f p n):=by kernel_rfl):VE a Q (.c (cat f p)::d) .normal s:=by
 have i:aW f p 0=(dh f p).toList:=by simp[aW]
 cases c:cat f p with
 | region id ops b =>
  cases b with
  | true=>unfold Hq at h;rw[c]at h;cases h
  | false =>
   have j:dh f p=ops:=by unfold dh;rw[c];rfl
   grind[ta,uW,QD,vS]
 | _=>grind[Hq]
theorem aP j k(e:OT a Q d c (aW f p j) (uW a.P a.n c k (aW f p i) s))(b:ta a.P a.n c k (aW f p i) s=some (aW f p j):=by kernel_rfl):OT a Q d c (aW f p i) s:=by
 grind[ta,uW,vS]
theorem ac(e:VE a Q d .normal (uW a.P a.n c 10000 (aW f p i) s))(b:ta a.P a.n c 10000 (aW f p i) s=some []:=by kernel_rfl):OT a Q d c (aW f p i) s:=by
 grind[ta,uW,vS,SI]
theorem au(h:bZ a.P a.n s (aY f p i)=some s')(k:OT a Q d c (aW f p (i+1)) s')(e:aW f p i=aY f p i::aW f p (i+1):=by kernel_rfl)(b:cz c s (aY f p i)=true:=by kernel_rfl):OT a Q d c (aW f p i) s:=adS _ e (acX b h) k
theorem ah k{b c}(f:b=c)(h:VE a Q d e (Sk k c s))(g:look k s.t=some (.bool b):=by kernel_rfl):VE a Q d e s:=ae8 k f g h
theorem aG{l} k{b e}(f:b=e)(h:OT a Q d c l (Sk k e s))(g:look k s.t=some (.bool b):=by kernel_rfl):OT a Q d c l s:=XT k f g h
theorem aS{g}{b}{V}(j:ba a.P g b (fun v _=>v=V))(k:OT a Q d c (aW f p (i+1)) (s.put (aY f p i).dst V))(m:aW f p i=aY f p i::aW f p (i+1):=by kernel_rfl)(l:cz c s (aY f p i)=true:=by kernel_rfl)(e:cG a.P g=true:=by kernel_rfl)
  (h:eA s (aY f p i)=some (g,b):=by kernel_rfl) (n:(cH a.n (aY f p i).dst&&V.di [])=true:=by kernel_rfl):OT a Q d c (aW f p i) s :=by grind[Sg]
theorem lS{g}{b}{V}(h:cG a.P g=true∧ba a.P g b (fun v _=>v=V))(k:OT a Q d c (aW f p (i+1)) (s.put (aY f p i).dst V))(l:aW f p i=aY f p i::aW f p (i+1):=by kernel_rfl)(j:cz c s (aY f p i)=true:=by kernel_rfl)
  (e:eA s (aY f p i)=some (g,b):=by kernel_rfl) (m:(cH a.n (aY f p i).dst&&V.di [])=true:=by kernel_rfl):OT a Q d c (aW f p i) s :=by grind[Sg]
theorem eZ b{id}{g}{e}{V}{ar}(o:ba a.P g e (fun v z=>v=V∧look id z.r=some ar))(h:∀(N:Nat→Prop) w ι x,Rel N w ι V x→∃y,ι id=some y)
  (k:OT a Q d c (aW f p (i+1)) ((coS b ar s).put (aY f p i).dst (V.gl id b))) (t:aW f p i=aY f p i::aW f p (i+1):=by kernel_rfl) (r:cz c s (aY f p i)=true:=by kernel_rfl) (j:cG a.P g=true:=by kernel_rfl)
  (n:eA s (aY f p i)=some (g,e):=by kernel_rfl) (q:cH a.n (aY f p i).dst=true:=by kernel_rfl) (l:V.di []=false:=by kernel_rfl) (u:has s.u b=false:=by kernel_rfl) (m:Nat.ble (id+1) TG=true:=by kernel_rfl):OT a Q d c (aW f p i) s:=aa8 _ id b t r o j h n q l u rfl k m
theorem cc{f}{p}{q} m(h:LP a Q d (cat f q) m s)(b:cat f p=.loop (cat f q):=by kernel_rfl):VE a Q (.c (cat f p)::d) .normal s:=ox m b h
def Cu(P:Program)(n:Nat)(c:Array Oper)(a:er)(o:Oper):Nat→Nat→List (Bool×Option AS)
 | _,0=>[]
 | lo,k+1=>(cz c (nth a lo) o,bZ P n (nth a lo) o)::Cu P n c a o (lo+1) k
def C8(a:er):Nat→Nat→List (Bool×Option AS)
 | _,0=>[]
 | lo,k+1=>(true,some (nth a lo))::C8 a (lo+1) k
def vd(P:Program)(n:Nat)(c:Array Oper)(a:er):List Oper→List Tag→List (List (Bool×Option AS))
 | o::r,.v lo k::ts=>Cu P n c a o lo k::vd P n c a r ts
 | _,_=>[]
def qG(a:er):List Tag→List (List (Bool×Option AS))
 | []=>[]
 | .v lo k::ts=>C8 a lo k::qG a ts
 | _::ts=>[]::qG a ts
end
section
variable{P:Program}{n:Nat}{c:AS}{a:Array Oper}{d:List Tag}{K:Nat}{b:er}{f:Func}{p:d7}{i:Nat}
theorem Mb{o}:∀{k lo},Cu P n a b o lo k=C8 b lo k→eE lo k fun j=>cz a (nth b j) o=true∧bZ P n (nth b j) o=some (nth b j)
 | 0,_,_=>trivial
 | k+1,lo,h=>by
  simp only[Cu,C8,ald,wl]at h;exact⟨h.1,Mb h.2⟩
theorem QQ:∀{ts:List Tag} {l:List Oper} {e},vd P n a b l ts=qG b ts→ff P n c a d K b (l.drop ts.length) e→ff P n c a d K b l (ts++e)
 | [],l,e,_,h=>by grind
 | t::ts,[],e,h,_=>by cases t<;>simp[vd,qG]at h
 | t::ts,o::r,e,h,f=>by
  cases t with
  | v lo k =>
   simp only[vd,qG,ald]at h;exact⟨fi (Mb h.1),QQ h.2 (by grind)⟩
  | _=>grind[vd,qG]
theorem av ts{e}(g:ff P n c a d K b (aW f p (i+ts.length)) e)(h:vd P n a b (aW f p i) ts=qG b ts:=by kernel_rfl):ff P n c a d K b (aW f p i) (ts++e):=by
 refine QQ h ?_
 simp_all[aW]
theorem aj{t}{ts}(h:eN P n c a d K b (aY f p i) t)(e:ff P n c a d K b (aW f p (i+1)) ts)(g:aW f p i=aY f p i::aW f p (i+1):=by kernel_rfl):ff P n c a d K b (aW f p i) (t::ts):=ac6 g h e
theorem bS(e:aW f p i=[]:=by kernel_rfl):ff P n c a d K b (aW f p i) []:=aiF e
def ci(P:Program)(n:Nat)(f:Func)(p:d7)(i:Nat)(s:AS):AS:=match bZ P n s (aY f p i) with|some s'=>s'|none=>s
def kz(f:Func)(p:d7):Bool:=match cat f p with|.region _ _ true=>true|_=>false
end
theorem yF{P:Program}{n:Nat}{b:AS}{a:Array Oper}{c:List Tag}{K:Nat}{d:er}{l:List Oper}:ff P n b a c K d l []:=by cases l<;>trivial
theorem bQ{g:Cx}{Q:Exit→Act→World→Prop}{r:dn}{f:Func}{p:d7}{d:AS}{a:List Tag}(K:Nat)(k:List em)(e:List (Nat×ck))(rl:List (Nat×bW))(o:List (AS→AS))
  (l:ff g.P g.n d (dh f p) a K (n9 d k e rl o) (aW f p 0) a) (h:VE g Q r .normal (Ii d k e rl o K))
  (m:kz f p=true:=by kernel_rfl) (u:g.P.follows .mixedOrders=true:=by kernel_rfl) (q:yT (dh f p) a K=true:=by kernel_rfl) (t:mA a K=true:=by kernel_rfl) (c:ly (aW f p 0) a k=true:=by kernel_rfl) (n:iK d.u e=true:=by kernel_rfl) (j:iK d.u rl=true:=by kernel_rfl):VE g Q (.c (cat f p)::r) .normal d:=by
 have s:aW f p 0=(dh f p).toList:=by simp[aW]
 cases i:cat f p with
 | region id ops b =>
  cases b with
  | false=>unfold kz at m;rw[i]at m;cases m
  | true =>
   have v:dh f p=ops:=by unfold dh;rw[i];rfl
   rw[s]at l c;rw[v]at l c q;exact akP (id:=id) a K k e rl (Fr (gA d k e rl) o) rfl u q t c n j l h
 | _=>grind[kz]
def eC(id:Nat)(ar:bW)(s:AS):AS:={ s with r:=bm id ar s.r }
def f9(d id:Nat)(ar:bW)(s:AS):AS:={ t:=bm d (.ref id) (dC id s.t),o:=fc id s.o,r:=bm id ar s.r,u:=s.u }
def Gq(d:Nat)(ar:bW)(s:AS):AS:={ t:=bm d (.ref d) s.t,o:=s.o,r:=bm d ar s.r,u:=d::s.u }
def aiT(k d:Nat)(ar:bW)(s:AS):AS:=⟨bm k (.ref d) s.t,s.o,bm d ar s.r,d::s.u⟩
section
variable{P:Program}{n:Nat}{s:AS}{o:Oper}{α:Type}[Inhabited α]
def kx(n:Nat)(o:Oper):Bool:=match o.dst with|some d=>Nat.ble (d+1) n|none=>false
theorem lJ(h:kx n o=true):∃d,o.dst=some d∧Nat.ble (d+1) n=true:=by
 grind[kx]
def Tl(P:Program)(n:Nat)(s:AS)(o:Oper):Option (List ck×Int×Nat):=match kx n o,o.op with
 | true,.indexAddr T x y=>match s.ev x,s.ev y,mK P T,gk P T with
  | some (.sl l),some (.int _ i),none,some (_,sz)=>some (l,i,sz)
  | _,_,_,_=>none
 | _,_=>none
theorem bD(enc b:α→ck){L:List α}{i:Int}{sz:Nat}(l:aN i L.length=true)(q:∀a,(enc a).length=sz)(m:∀a,enc a=b a)(h:Tl P n s o=some (L.map enc,i,sz):=by kernel_rfl):bZ P n s o=some (s.put o.dst (.cptr (b (L.getD i.toNat default)))):=by
 unfold Tl at h;split at h
 case h_2=>cases h
 rename_i T x y c e;obtain⟨d,c,p⟩:=lJ c;split at h
 case h_2=>cases h
 rename_i f g j k;simp only[sj]at h;obtain⟨rfl,rfl,rfl⟩:=h;rw[c];exact W7 enc b L _ T x y d e c p f g j k l q m
def IS(P:Program)(n:Nat)(s:AS)(o:Oper):Option (Nat×Nat×Int×List ck):=match kx n o,o.op with
 | true,.indexAddr T x y=>match s.ev x,s.ev y,mK P T,gk P T with
  | some (.ref id),some (.int _ i),none,some (_,sz)=>match look id s.r with
   | some ⟨_,a,l⟩=>match Nat.beq sz a with
    | true=>some (id,sz,i,l)
    | false=>none
   | none=>none
  | _,_,_,_=>none
 | _,_=>none
theorem cp(id sz:Nat)(enc:α→ck){L:List α}{i:Int}(l:aN i L.length=true)(h:IS P n s o=some (id,sz,i,L.map enc):=by kernel_rfl):bZ P n s o=some (s.put o.dst (.eptr id sz i.toNat 0)):=by
 unfold IS at h;split at h
 case h_2=>cases h
 rename_i T x y a c;obtain⟨d,a,m⟩:=lJ a;split at h
 case h_2=>cases h
 rename_i e f g j;split at h
 case h_2=>cases h
 rename_i k;split at h
 case h_2=>cases h
 rename_i b;have b:=mo b;simp only[sj,wl]at h;obtain⟨rfl,rfl,rfl,rfl⟩:=h;subst b;rw[a];exact aiy enc L _ T x y d c a m e f k g j l
def VX(n:Nat)(s:AS)(o:Oper):Option (TypeId×Nat×Nat×List ck):=match kx n o,o.op with
 | true,.load T x=>match s.ev x with
  | some (.eptr id sz j off)=>match look id s.r with
   | some ⟨_,a,l⟩=>match Nat.beq sz a&&Nat.ble (id+1) TG with
    | true=>some (T,j,off,l)
    | false=>none
   | none=>none
  | _=>none
 | _,_=>none
def afQ:Option AV→AV
 | some v=>v
 | none=>.any
def Yh:Option AV→Bool
 | some _=>true
 | none=>false
theorem bK(T:TypeId)(off:Nat)(enc b:α→ck){L:List α}{j:Nat}(q:j<L.length)(p:∀a,enc a=b a)(h:VX n s o=some (T,j,off,L.map enc):=by kernel_rfl)(k:Yh (iP P T ((b (L.getD j default)).drop off))=true:=by kernel_rfl):
  bZ P n s o=some (s.put o.dst (afQ (iP P T ((b (L.getD j default)).drop off)))):=by
 unfold VX at h;split at h
 case h_2=>cases h
 rename_i T' x e f;obtain⟨d,e,r⟩:=lJ e;split at h
 case h_2=>cases h
 rename_i l;split at h
 case h_2=>cases h
 rename_i m;split at h
 case h_2=>cases h
 rename_i c;rw[h8]at c;have g:=iF c.2;have c:=mo c.1;simp only[sj,wl]at h;obtain⟨rfl,rfl,rfl,rfl⟩:=h;subst c;cases i:iP P T' ((b (L.getD _ default)).drop _) with
 | none=>rw[i]at k;cases k
 | some v =>
  rw[e];exact WW enc b L T' x d g f e r l m q p i
def VF(P:Program)(s:AS)(o:Oper):Option (Nat×TypeId×Nat×Nat×Nat×List ck):=match o.dst,o.op with
 | none,.store T x y=>match s.ev x,s.ev y with
  | some (.eptr id sz j off),some v=>match look id s.r,kj v,cB P T with
   | some ⟨et,a,l⟩,some b,some k=>match Nat.beq sz a&&Nat.beq k b.length with
    | true=>some (id,et,sz,j,off,l)
    | false=>none
   | _,_,_=>none
  | _,_=>none
 | _,_=>none
def zQ(s:AS)(o:Oper):ck:=match o.op with
 | .store _ _ y=>match s.ev y with
  | some v=>match kj v with|some a=>a|none=>[]
  | none=>[]
 | _=>[]
theorem dF(id:Nat)(et:TypeId)(sz off:Nat)(enc b:α→ck){L:List α}{j:Nat}(new:α)(w:j<L.length)(u:∀a,enc a=b a)(h:VF P s o=some (id,et,sz,j,off,L.map enc):=by kernel_rfl)
  (d:(Nat.ble (off+(zQ s o).length) (b (L.getD j default)).length&&ep [] (zQ s o))=true:=by kernel_rfl) (g:jo off (zQ s o) (b (L.getD j default))=b new:=by kernel_rfl) :
  bZ P n s o=some (eC id ⟨et,sz,(L.set j new).map enc⟩ s):=by
 unfold VF at h;split at h
 case h_2=>cases h
 rename_i T x y t c;split at h
 case h_2=>cases h
 rename_i v l f;split at h
 case h_2=>cases h
 rename_i A k m i z;split at h
 case h_2=>cases h
 rename_i e;simp only[h8]at e;have p:=mo e.1;have q:=mo e.2;simp only[sj,wl]at h;obtain⟨rfl,rfl,rfl,rfl,rfl,rfl⟩:=h;subst p;subst q;have r:zQ s o=A:=by unfold zQ;simp only[c,f,i]
 rw[r]at d g;simp only[h8]at d;exact ahS enc b L new T x y c t l f m w i z u d.1 d.2 g
def U6(P:Program)(n:Nat)(s:AS)(o:Oper):Option (Nat×Nat×Nat×Nat×Int):=match kx n o,o.op with
 | true,.indexAddr T x y=>match s.ev x,s.ev y,mK P T,gk P T with
  | some (.sref id sz off m),some (.int _ i),none,some (_,a)=>match Nat.beq sz a with
   | true=>some (id,sz,off,m,i)
   | false=>none
  | _,_,_,_=>none
 | _,_=>none
theorem ag0(id sz:Nat){off m:Nat}{i:Int}(q:aN i m=true)(h:U6 P n s o=some (id,sz,off,m,i):=by kernel_rfl):bZ P n s o=some (s.put o.dst (.eptr id sz (off+i.toNat) 0)):=by
 unfold U6 at h;split at h
 case h_2=>cases h
 rename_i T x y a e;obtain⟨d,a,r⟩:=lJ a;have c:d<n:=iF r;split at h
 case h_2=>cases h
 rename_i j k l p;split at h
 case h_2=>cases h
 rename_i b;have b:=mo b;simp only[sj,wl]at h;obtain⟨rfl,rfl,rfl,rfl,rfl⟩:=h;subst b;obtain⟨f,g⟩:=bE q;rw[a];unfold bZ;rw[kc (by rw[a];simpa[cH]using c)];simp only[e,qL,j,k,sX,f,w3,l,p,g,anp,a]
def Ww(P:Program)(n:Nat)(s:AS)(o:Oper):Option Nat:=match kx n o,o.op with
 | true,.call ⟨.builtin .len,⟨[x]⟩,⟨[T]⟩⟩=>match s.ev x,gk P T with
  | some (.sref _ _ _ m),some _=>some m
  | _,_=>none
 | _,_=>none
theorem ajW{m:Nat}(h:Ww P n s o=some m:=by kernel_rfl):bZ P n s o=some (s.put o.dst (.int .i64 m)):=by
 unfold Ww at h;split at h
 case h_2=>cases h
 rename_i x T a c;obtain⟨d,a,g⟩:=lJ a;have b:d<n:=iF g;split at h
 case h_2=>cases h
 rename_i e f;injection h with h;subst h
 rw[a];unfold bZ;rw[kc (by rw[a];simpa[cH]using b)];simp only[c,m5,dr,e,vE,f,a]
def TV(P:Program)(n:Nat)(s:AS)(o:Oper):Option (List ck):=match kx n o,o.op with
 | true,.call ⟨.builtin .len,⟨[x]⟩,⟨[T]⟩⟩=>match s.ev x,gk P T with
  | some (.sl l),some _=>some l
  | some (.ref id),some _=>match look id s.r with
   | some ⟨_,_,l⟩=>some l
   | none=>none
  | _,_=>none
 | _,_=>none
theorem bz enc(L:List α)(h:TV P n s o=some (L.map enc):=by kernel_rfl):bZ P n s o=some (s.put o.dst (.int .i64 L.length)):=by
 grind[TV,lJ,Xa,acn]
def SL(P:Program)(n:Nat)(s:AS)(o:Oper):Option (Nat×Nat×TypeId×Nat×Nat×List ck×List ck):=match o.dst,o.op with
 | some d,.call ⟨.builtin .append,⟨[x,y]⟩,⟨[T,T']⟩⟩=>match Nat.beq T T'&&Nat.ble (d+1) n,s.ev x,s.ev y,je P T with
  | true,some (.ref id),some (.sl new),some (et,sz,bytes)=>match look id s.r with
   | some ⟨a,b,l⟩=>match (Nat.beq et a&&Nat.beq sz b)&&!s.u.contains (dk id) with
    | true=>some (d,id,et,sz,bytes,new,l)
    | false=>none
   | none=>none
  | _,_,_,_=>none
 | _,_=>none
theorem cA(d id:Nat)(et:TypeId)(sz:Nat)(enc:α→ck){L M:List α}{bytes:Nat}{new:List ck}(b:new=M.map enc)(v:∀a,(enc a).length=sz)(u:fits (L.length+M.length) bytes=true)(h:SL P n s o=some (d,id,et,sz,bytes,new,L.map enc):=by kernel_rfl):
  bZ P n s o=some (f9 d id ⟨et,sz,(L++M).map enc⟩ s):=by
 unfold SL at h;split at h
 case h_2=>cases h
 rename_i w x y T T' t g;split at h
 case h_2=>cases h
 rename_i f i j k;simp only[h8]at f;have r:=mo f.1;split at h
 case h_2=>cases h
 rename_i l;split at h
 case h_2=>cases h
 rename_i c;simp only[h8,Io]at c;have m:=mo c.1.1;have p:=mo c.1.2;have q:=c.2;simp only[sj,wl]at h;obtain⟨rfl,rfl,rfl,rfl,rfl,rfl,rfl⟩:=h;have e:T=T':=r;subst e;subst m;subst p;exact X3 enc L M T x y _ g t f.2 i j b l k v u q rfl rfl
def N8(P:Program)(n:Nat)(s:AS)(o:Oper)(new:List ck):Option AS:=match kx n o with
 | true=>some (s.put o.dst (.sl new))
 | false=>none
theorem gz enc(M:List α){new}(a:new=M.map enc)(h:bZ P n s o=N8 P n s o new:=by kernel_rfl)(b:kx n o=true:=by kernel_rfl):bZ P n s o=some (s.put o.dst (.sl (M.map enc))):=by
 grind[N8]
def s7(n:Nat)(s:AS)(o:Oper):Option (BinOp×AV×AV):=match kx n o,o.op with
 | true,.binOp op _ x y _=>match s.ev x,s.ev y with
  | some u,some v=>some (op,u,v)
  | _,_=>none
 | _,_=>none
theorem aao k a{b}(c:(b != 0)=true)(h:s7 n s o=some (.quo,.int k a,.int k b):=by kernel_rfl):bZ P n s o=some (s.put o.dst (.int k (k.wrap (a.tdiv b)))):=by
 grind[s7,lJ,afJ]
theorem IA k a{b}(c:(b != 0)=true)(h:s7 n s o=some (.rem,.int k a,.int k b):=by kernel_rfl):bZ P n s o=some (s.put o.dst (.int k (a.tmod b))):=by
 grind[s7,lJ,alC]
theorem ael{a b}(c:tL a b=true)(h:s7 n s o=some (.add,.str a,.str b):=by kernel_rfl):bZ P n s o=some (s.put o.dst (.str (a++b))):=by
 grind[s7,lJ,ail]
end
section
variable{a:Cx}{Q:AV→AS→Prop}{s:AS}{b:Func}
theorem bA{V}(h:gP a.P s b.results.toList=some [V]:=by kernel_rfl):VE a (bodyPost a.P b (bR a.M a.w0 (fun v _=>v=V))) [] .ret s:=qg rfl h rfl
theorem jj{l}(h:gP a.P s b.results.toList=some l:=by kernel_rfl)(c:qV l=.tup l:=by kernel_rfl):VE a (bodyPost a.P b (bR a.M a.w0 (fun v _=>v=.tup l))) [] .ret s:=qg rfl h c
theorem eO{V}{id}{ar}(h:gP a.P s b.results.toList=some [V]:=by kernel_rfl)(c:look id s.r=some ar:=by kernel_rfl):VE a (bodyPost a.P b (bR a.M a.w0 (fun v s=>v=V∧look id s.r=some ar))) [] .ret s:=qg rfl h ⟨rfl,c⟩
theorem qD{l}{id}{ar}(h:gP a.P s b.results.toList=some l:=by kernel_rfl)(c:look id s.r=some ar:=by kernel_rfl)(d:qV l=.tup l:=by kernel_rfl):VE a (bodyPost a.P b (bR a.M a.w0 (fun v s=>v=.tup l∧look id s.r=some ar))) [] .ret s :=by grind[qg]
end
def CA(id:Nat)(s:AS):AS:=match look id s.r with|some ar=>s.cE id ar.l|none=>s
def tI(id:Nat)(s:AS):Bool:=match look id s.r with|some _=>!s.u.contains (dk id)&&Nat.ble (id+1) TG|none=>false
theorem vF{b}{id}(h:(!b&&Nat.ble (id+1) TG)=true):b=false∧id<TG:=by
 rw[h8]at h;exact⟨by grind,iF h.2⟩
def Mv(id a:Nat)(s:AS):AS:=match look id s.r with|some ar=>⟨pZ id a s.t,rx id a s.o,bm a ar (era id s.r),a::s.u⟩|none=>s
def VH(k:Nat)(s:AS):AS:=match look k s.o with|some cs=>{ s with o:=bm k (cs.map ji) s.o }|none=>s
def CV(d i n:Nat)(et:TypeId)(sz:Nat)(s:AS):AS:=match look i s.o with|some cs=>⟨s.t,bm i (cs.set n (.ref d)) s.o,bm d ⟨et,sz,[]⟩ s.r,d::s.u⟩|none=>s
def Cg(i n:Nat)(s:AS):Bool:=match look i s.o with|some cs=>(match cs[n]? with|some .nils=>true|_=>false)|none=>false
section
variable{c:Cx}{Q:Exit→Act→World→Prop}{g:dn}{e:Exit}{s:AS}{b:Array Oper}{l:List Oper}
theorem gG id(h:VE c Q g e (CA id s))(b:tI id s=true:=by kernel_rfl):VE c Q g e s:=by
 unfold tI at b;unfold CA at h;split at b
 ·rename_i ar a;rw[a]at h;exact ahB id (vF b).2 a (vF b).1 h
 grind
theorem mz id(h:OT c Q g b l (CA id s))(d:tI id s=true:=by kernel_rfl):OT c Q g b l s:=by
 unfold tI at d;unfold CA at h;split at d
 ·rename_i ar a;rw[a]at h;exact ajj id (vF d).2 a (vF d).1 h
 grind
theorem qN id a(h:VE c Q g e (Mv id a s))(d:tI id s=true:=by kernel_rfl)(f:has s.u a=false:=by kernel_rfl):VE c Q g e s:=by
 unfold tI at d;unfold Mv at h;split at d
 ·rename_i ar b;rw[b]at h;exact aad id a (vF d).2 b f (vF d).1 h
 grind
theorem mP k(h:VE c Q g e (VH k s)):VE c Q g e s:=by
 grind[VH,YG]
theorem BU{b:Array Oper}{f:Func}{p:d7}{i:Nat}(T:TypeId)(d:Nat){e:TypeId}{sz:Nat}(k:OT c Q g b (aW f p (i+1)) (Gq d ⟨e,sz,[]⟩ s))(l:aW f p i=aY f p i::aW f p (i+1):=by kernel_rfl)(j:cz b s (aY f p i)=true:=by kernel_rfl)(a:(aY f p i).op=.buildSlice T 0 #[]:=by kernel_rfl)(h:(aY f p i).dst=some d:=by kernel_rfl)(m:Nat.ble (d+1) c.n=true:=by kernel_rfl)
  (n:c.P.underlying T=some (.slice e):=by kernel_rfl) (q:cB c.P e=some sz:=by kernel_rfl) (o:has s.u d=false:=by kernel_rfl):OT c Q g b (aW f p i) s:=Yb _ T d l j a h m n q o k
theorem WB{b:Array Oper}{f:Func}{p:d7}{i:Nat}(T:TypeId)(h:Nat)(parts:Array (Nat×Operand))(d:Nat){e:TypeId}{sz:Nat}{l:List ck}(k:OT c Q g b (aW f p (i+1)) (Gq d ⟨e,sz,l⟩ s))(hl:aW f p i=aY f p i::aW f p (i+1):=by kernel_rfl)(hg:cz b s (aY f p i)=true:=by kernel_rfl)
  (J:(aY f p i).op=.buildSlice T h parts:=by kernel_rfl) (hd:(aY f p i).dst=some d:=by kernel_rfl) (hn:Nat.ble (d+1) c.n=true:=by kernel_rfl) (j:o9 c.P s T h parts.toList=some (.sl l):=by kernel_rfl) (x:gk c.P T=some (e,sz):=by kernel_rfl) (hu:has s.u d=false:=by kernel_rfl):OT c Q g b (aW f p i) s:=by
 rw[hl];refine fk _ hg fun a w ι R=>?_;refine abL rfl fun K hK=>?_;unfold o9 at j;split at j
 case h_2=>cases j
 rename_i e1 A ps q L;split at j
 case h_2=>cases j
 rename_i l' H;split at j
 case isFalse=>cases j
 rename_i u;obtain⟨c1,U,c3,N⟩:=u;injection j with j;injection j with j;subst j
 rw[x]at q;injection q with q;injection q with h1 h2;subst h1;subst h2
 obtain⟨q1,q2⟩:=Ck R L;unfold gk at x;split at x
 case h_2=>cases x
 rename_i E M;cases o:c.P.info? E with
 | none=>simp[cB,o]at x
 | some t =>
  simp only[cB,o,MO,sj,wl]at x;obtain⟨rfl,r⟩:=x;have m:t.size=A+1:=r;clear r;unfold ft at N;cases D:t.zero with
  | none=>simp[o,D]at N
  | some z =>
   have I:(parts.map fun (y:Nat×Operand)=>(y.1,a.eval y.2)).toList=parts.toList.map fun y=>(y.1,a.eval y.2):=alG;obtain⟨B,S,F,V,W,X,Y,Z,f7⟩:=KX (zs:=(Array.range (h*t.size)).map (z.cells[· % z.cells.size]!)) q1 q2 H (by simp[c1,m]);rw[←I]at F;have hy:B.toList=S:=by
    rw[V,c1];simp[m]
   have G:Instr.fill (fun i=>some (i*t.size,t.size)) ((Array.range (h*t.size)).map (z.cells[· % z.cells.size]!)) (parts.map fun (y:Nat×Operand)=>(y.1,a.eval y.2)).toList=some B:=by rw[m];rw[m]at F;exact F
   have O:0<h*t.size:=Nat.mul_pos U (by omega);have C:=run_buildSlice (P:=c.P) w T E h (parts.map fun (y:Nat×Operand)=>(y.1,a.eval y.2)) B t z M o D (by rw[m];omega) (by omega) G;have hm:h*1≤h*(A+1):=Nat.mul_le_mul_left _ (by omega);have v:=R.yG (iF hn) hu (e:=E) (sz:=A+1) (n:=h) (l:=l') (vs:=S) (by rw[X,c1]) (by unfold maxLen;omega) (by rw[W,c1]) Y Z f7;unfold Oper.wp execOp;simp only[J,th,C,u4,RX];rw[hd];rw[←hy]at v;simp only[ain]at v;exact hK _ _ (k _ _ _ v)
theorem o5{α:Type}(enc:α→ck)(h:α){b:Array Oper}{f:Func}{p:d7}{i:Nat}(T:TypeId)(x y:Operand)(d:Nat){e:TypeId}{sz:Nat}{zc:ck}{bytes:Nat}{n:Int}{kd kd':IntKind}(j:fG n bytes=true)(k:OT c Q g b (aW f p (i+1)) (Gq d ⟨e,sz,List.map enc (List.replicate n.toNat h)⟩ s))
  (q:aW f p i=aY f p i::aW f p (i+1):=by kernel_rfl) (o:cz b s (aY f p i)=true:=by kernel_rfl) (a:(aY f p i).op=.makeSlice T x y:=by kernel_rfl) (l:(aY f p i).dst=some d:=by kernel_rfl) (r:Nat.ble (d+1) c.n=true:=by kernel_rfl) (v:s.ev x=some (.int kd n):=by kernel_rfl) (w:s.ev y=some (.int kd' n):=by kernel_rfl)
  (t:je c.P T=some (e,sz,bytes):=by kernel_rfl) (z:ft c.P e=some zc:=by kernel_rfl) (m:zc.map ji=enc h:=by kernel_rfl) (u:has s.u d=false:=by kernel_rfl):OT c Q g b (aW f p i) s:=aek enc h _ T x y d q o a l r v w t z m u j k
theorem fb d k et sz(h:VE c Q g e (aiT k d ⟨et,sz,[]⟩ s))(a:has s.u d=false:=by kernel_rfl)(b:look k s.t=some .nils:=by kernel_rfl):VE c Q g e s:=Zq d k et sz a b h
theorem ze d i n et sz(h:VE c Q g e (CV d i n et sz s))(a:has s.u d=false:=by kernel_rfl)(b:Cg i n s=true:=by kernel_rfl):VE c Q g e s:=by
 grind[Cg,CV,aig]
end
section
variable{P:Program}{n:Nat}{c:AS}{b:Array Oper}{g:List Tag}{K:Nat}{a:er}{o:Oper}
theorem dm{m}{s'}(h:bZ P n (nth a m) o=some s')(d:s'=nth a (m+1):=by kernel_rfl)(e:o.guard.isNone=true:=by kernel_rfl):eN P n c b g K a o (.s (m+1)) :=by grind[VZ]
theorem cg m(h:bZ P n (nth a m) o=some (nth a (m+1)):=by kernel_rfl)(d:o.guard.isNone=true:=by kernel_rfl):eN P n c b g K a o (.s (m+1)):=VZ d h
theorem Cn{lo}{s'}(h:bZ P n (nth a lo) o=some s')(d:s'=nth a lo:=by kernel_rfl)(e:cz b (nth a lo) o=true:=by kernel_rfl):eN P n c b g K a o (.v lo 1) :=by grind[fi,db,de,fI]
def Ch(b:Array Oper)(a:er)(o:Oper)(d:Nat):Nat→Nat→List (Bool×Option (FuncId×ck)×Option AV)
 | _,0=>[]
 | lo,k+1=>(cz b (nth a lo) o,eA (nth a lo) o,look d (nth a lo).t)::Ch b a o d (lo+1) k
def EW(x:Bool×Option (FuncId×ck)×Option AV):Nat→List (Bool×Option (FuncId×ck)×Option AV)
 | 0=>[]
 | k+1=>x::EW x k
theorem Pn{d}{f}{c}{V}:∀{k lo},Ch b a o d lo k=EW (true,some (f,c),some V) k→eE lo k fun j=>cz b (nth a j) o=true∧eA (nth a j) o=some (f,c)∧look d (nth a j).t=some V
 | 0,_,_=>trivial
 | k+1,lo,h=>by
  simp only[Ch,EW,ald,wl]at h;exact⟨⟨h.1.1,h.1.2.1,h.1.2.2⟩,Pn h.2⟩
theorem cj(lo k d:Nat){f}{e}{V}(l:ba P f e (fun v _=>v=V))(i:cG P f=true:=by kernel_rfl)(p:V.di []=true:=by kernel_rfl)(m:o.dst=some d:=by kernel_rfl)(j:Nat.ble (d+1) n=true:=by kernel_rfl)
  (h:Ch b a o d lo k=EW (true,some (f,e),some V) k:=by kernel_rfl):eN P n c b g K a o (.c lo k) :=by grind[k_c,Pn]
def I5(b:Array Oper)(a:er)(o:Oper)(d:Nat):Nat→Nat→List (Bool×Option AV)
 | _,0=>[]
 | lo,k+1=>(cz b (nth a lo) o,look d (nth a lo).t)::I5 b a o d (lo+1) k
def Ga(q:Bool×Option AV):Nat→List (Bool×Option AV)
 | 0=>[]
 | k+1=>q::Ga q k
theorem e_x(lo d:Nat){f}{e l}{V}(p:ba P f e (fun v _=>v=V))(m:ri (nth a lo) o=some (f,e,l))(k:me (nth a lo) l)(i:cG P f=true:=by kernel_rfl)(r:V.Bq=true:=by kernel_rfl)(q:o.dst=some d:=by kernel_rfl)(j:Nat.ble (d+1) n=true:=by kernel_rfl)
  (h:I5 b a o d lo 1=Ga (true,some V) 1:=by kernel_rfl):eN P n c b g K a o (.c lo 1):=by
 simp only[I5,Ga,ald,wl]at h;exact⟨⟨pQ h.1.1,.inr (.inl ⟨f,e,l,V,d,m,k,q,h.1.2,iF j,r,i,p⟩)⟩,trivial⟩
def BW(a:er)(d:Nat):Nat→Nat→List (Option ck×Bool×Option AV×Bool)
 | _,0=>[]
 | lo,k+1=>(look d (nth a lo).o,(look d (nth a lo).r).isNone,look d (nth a lo).t,has (nth a lo).u d)::BW a d (lo+1) k
def EU(x:Option ck×Bool×Option AV×Bool):Nat→List (Option ck×Bool×Option AV×Bool)
 | 0=>[]
 | k+1=>x::EU x k
theorem Qe{d}{cs}:∀{k lo},BW a d lo k=EU (some cs,true,some (.ptr d 0),true) k→eE lo k fun j=>look d (nth a j).o=some cs∧look d (nth a j).r=none∧look d (nth a j).t=some (.ptr d 0)∧has (nth a j).u d=true
 | 0,_,_=>trivial
 | k+1,lo,h=>by
  simp only[BW,EU,ald,wl]at h;exact⟨⟨h.1.1,by simp_all,h.1.2.2.1,h.1.2.2.2⟩,Qe h.2⟩
theorem qy(lo k T d:Nat) cs(j:o.guard.isNone=true:=by kernel_rfl)(f:o.op=.alloc T:=by kernel_rfl)(i:o.dst=some d:=by kernel_rfl)(e:Nat.ble (d+1) (min n 450000)=true:=by kernel_rfl)(m:ft P T=some cs:=by kernel_rfl)(l:has c.u d=false:=by kernel_rfl)
  (h:BW a d lo k=EU (some cs,true,some (.ptr d 0),true) k:=by kernel_rfl):eN P n c b g K a o (.a lo k) :=by grind[k_a,Qe]
def D8(b:Array Oper)(a:er)(o:Oper)(d:Nat):Nat→Nat→List (Bool×Option AV×Option bW×Bool×Bool)
 | _,0=>[]
 | lo,k+1=>(cz b (nth a lo) o,look d (nth a lo).t,look d (nth a lo).r,(look d (nth a lo).o).isNone,has (nth a lo).u d)::D8 b a o d (lo+1) k
def CH(x:Bool×Option AV×Option bW×Bool×Bool):Nat→List (Bool×Option AV×Option bW×Bool×Bool)
 | 0=>[]
 | k+1=>x::CH x k
theorem Td{d}{ar}:∀{k lo},D8 b a o d lo k=CH (true,some (.ref d),some ar,true,true) k→eE lo k fun j=>cz b (nth a j) o=true∧look d (nth a j).t=some (.ref d)∧look d (nth a j).r=some ar∧look d (nth a j).o=none∧has (nth a j).u d=true
 | 0,_,_=>trivial
 | k+1,lo,h=>by
  simp only[D8,CH,ald,wl]at h;exact⟨⟨h.1.1,h.1.2.1,h.1.2.2.1,by simp_all,h.1.2.2.2.2⟩,Td h.2⟩
theorem XF(lo k T d e sz:Nat)(m:o.op=.buildSlice T 0 #[]:=by kernel_rfl)(i:o.dst=some d:=by kernel_rfl)(f:Nat.ble (d+1) n=true:=by kernel_rfl)(p:has c.u d=false:=by kernel_rfl)(q:P.underlying T=some (.slice e):=by kernel_rfl)(r:cB P e=some sz:=by kernel_rfl)
  (h:D8 b a o d lo k=CH (true,some (.ref d),some ⟨e,sz,[]⟩,true,true) k:=by kernel_rfl):eN P n c b g K a o (.o lo k):=by
 refine⟨d,i,iF f,p,Ao (fun j l=>⟨pQ l.1,?_⟩) (Td h)⟩
 grind[yD]
def EG(b:Array Oper)(a:er)(o:Oper)(d:Nat):Nat→Nat→List (Bool×Option (FuncId×ck)×Option AV×Option bW×Bool×Bool)
 | _,0=>[]
 | lo,k+1=>(cz b (nth a lo) o,eA (nth a lo) o,look d (nth a lo).t,look d (nth a lo).r,(look d (nth a lo).o).isNone,has (nth a lo).u d)::EG b a o d (lo+1) k
def EA(x:Bool×Option (FuncId×ck)×Option AV×Option bW×Bool×Bool):Nat→List (Bool×Option (FuncId×ck)×Option AV×Option bW×Bool×Bool)
 | 0=>[]
 | k+1=>x::EA x k
theorem Nj{d}{f}{c}{V}{ar}:∀{k lo},EG b a o d lo k=EA (true,some (f,c),some V,some ar,true,true) k→eE lo k fun j=>cz b (nth a j) o=true∧eA (nth a j) o=some (f,c)∧look d (nth a j).t=some V∧look d (nth a j).r=some ar∧look d (nth a j).o=none∧has (nth a j).u d=true
 | 0,_,_=>trivial
 | k+1,lo,h=>by
  simp only[EG,EA,ald,wl]at h;exact⟨⟨h.1.1,h.1.2.1,h.1.2.2.1,h.1.2.2.2.1,by simp_all,h.1.2.2.2.2.2⟩,Nj h.2⟩
theorem Ks(lo k d:Nat){f}{e}{V}{id}{ar}(p:ba P f e (fun v s=>v=V∧look id s.r=some ar))(i:∀(N:Nat→Prop) w ι x,Rel N w ι V x→∃y,ι id=some y)(j:cG P f=true:=by kernel_rfl)
  (q:o.dst=some d:=by kernel_rfl) (l:Nat.ble (d+1) n=true:=by kernel_rfl) (r:has c.u d=false:=by kernel_rfl) (m:Nat.ble (id+1) TG=true:=by kernel_rfl) (h:EG b a o d lo k=EA (true,some (f,e),some (V.gl id d),some ar,true,true) k:=by kernel_rfl):eN P n c b g K a o (.o lo k):=k_o V d m p j i q l r (Nj h)
end
def bd(p:Nat×Nat):ck:=[.adr p.1 p.2]
def abu(k id g off:Nat)(s:AS):AS:={ s with t:=bm k (.pp id g off) s.t }
def j9(k:Nat)(v:AV)(s:AS):AS:={ s with t:=bm k v s.t }
theorem aX.jw{c:Cx}{s:AS}{a:Act}{w:World}{ι:Env}(h:aX c s a w ι){k}{v}(i:∀x,a.tmps[k]?=some x→Rel (NN c.M ι) w ι v x)(f:∃u,look k s.t=some u):aX c (j9 k v s) a w ι:=by
 refine⟨⟨h.hs.below,h.hs.old,h.hs.use,h.hs.own,h.hs.inj,h.hs.ko,h.hs.kr,h.hs.objs,h.hs.arrs,h.hs.pin⟩,h.dfr,h.n,fun j y d=>?_⟩;have b:look j (bm k v s.t)=some y:=d;rw[cr]at b;split at b
 ·rename_i e;subst e;obtain⟨u,g⟩:=f;obtain⟨x,l,_⟩:=h.tmp j u g
  grind
 ·exact h.tmp j y b
section
variable{b:Cx}{Q:Exit→Act→World→Prop}{d:dn}{e:Exit}{s:AS}{c:Array Oper}{l:List Oper}
theorem Rb k id off(h:∀g:Nat,VE b Q d e (abu k id g off s))(f:look k s.t=some (.ptr id off):=by kernel_rfl):VE b Q d e s:=fun a w ι i=>by
 obtain⟨x,m,l⟩:=i.tmp k _ f;cases l with
 | ptr _ _ _ g j=>exact h g a w ι (i.jw (v:=.pp id g off) (fun y c=>by rw[m]at c;injection c with c;subst c;exact .pp _ _ _ _ j) ⟨_,f⟩)
theorem afO{a}{w}{ι}(e:aX b s a w ι){j k id g off o}(f:look j s.t=some (.adr g off))(i:look k s.t=some (.pp id g o)):aX b (j9 j (.ptr id off) s) a w ι:=by
 obtain⟨x,m,l⟩:=e.tmp j _ f;obtain⟨y,n,d⟩:=e.tmp k _ i;refine e.jw (fun z c=>?_) ⟨_,f⟩;rw[m]at c;injection c with c;subst c
 cases l with
 | adr _ _ _ =>
  cases d with
  | pp _ _ _ _ h=>exact .ptr _ _ _ _ h
theorem da j k id g off o(h:OT b Q d c l (j9 j (.ptr id off) s))(e:look j s.t=some (.adr g off):=by kernel_rfl)(f:look k s.t=some (.pp id g o):=by kernel_rfl):OT b Q d c l s:=fun a w ι i=>h a w ι (afO i e f)
end
def mN(w:World)(id0:Nat)(v0:Value):aC:=⟨w,fun g=>bw (some v0)=some g,fun i=>if i=id0 then some v0 else none⟩
def vw(P:Program)(f:FuncId)(d:ck)(id0:Nat)(ar:bW)(Q:AV→AS→Prop):Prop :=
 ∀M w xs v0 g,(∀b,M b→b<w.heap.size∧bw (some v0)≠some b)→w.ownsRow 0 ar.e ar.sz v0 ar.l.length g→(∀e∈ar.l,e.length=ar.sz)→(∀x∈g,x.oneCell'=true) →
  (∀j e,ar.l[j]?=some e→∀i c,e[i]?=some c→∃x,g[j*ar.sz+i]?=some x∧Rel (NN M (ext bG id0 v0)) w bG c x) →
  d.length=xs.size→(∀(i:Nat) a x,d[i]?=some a→xs[i]?=some x→Rel (NN M (ext bG id0 v0)) w (ext bG id0 v0) a x)→Calls P f xs w (bR M (mN w id0 v0) Q)
theorem Lu{w:World}{e}{sz n}{v}{k}(h:w.ownsRow 0 e sz v n k){g}(a:bw (some v)=some g):g<w.heap.size:=by
 obtain⟨b,_⟩|⟨f,c,d,b,_,j,_⟩:=h.2
 ·rw[b]at a;cases a
 ·rw[b]at a;have i:some f=some g:=a
  grind
theorem DD{P:Program}{f:FuncId}{t:Func}{c:Code}{l:ck}{id0:Nat}{ar:bW}{Q:AV→AS→Prop}(O:P.funcs[f]?=some t)(B:t.body=some c)(n:Nat)(X:t.ntmps=n)(W:l.length≤n)
  (h:∀M I,VE ⟨P,n,M,I⟩ (bodyPost P t (bR M I Q)) [.c c] .normal ⟨idxs 0 l,[],[(id0,ar)],[id0,dk id0]⟩):vw P f l id0 ar Q:=by
 intro M w xs v0 V L q z A C F G;refine amP O B ?_;have H:∀i y,ext bG id0 v0 i=some y→i=id0∧y=v0:=fun i y r=>by
  by_cases e:i=id0
  ·subst e;rw[cN]at r;injection r with r;exact⟨rfl,r.symm⟩
  ·rw[bT _ _ e]at r;cases r
 have o:∀i g,bw (ext bG id0 v0 i)=some g→i=id0∧bw (some v0)=some g:=fun i g p=>by
  cases u:ext bG id0 v0 i with
  | none=>rw[u]at p;cases p
  | some y=>obtain⟨J,K⟩:=H i y u;rw[u,K]at p;exact⟨J,p⟩
 refine anF (h M (mN w id0 v0) { tmps:=xs++Array.replicate (t.ntmps-xs.size) undef,defers:=[] } w (ext bG id0 v0) ?_) (fun e a w' R=>?_)
 ·refine⟨⟨⟨rfl,rfl,rfl,jf _,fun _ _ _=>rfl⟩,fun b B=>L b B,fun i y r=>?_,fun i g p=>⟨.inr (o i g p).2,Lu q (o i g p).2⟩,fun i U g p D=>(o i g p).1.trans (o U g D).1.symm,fun i cs d=>(by cases d),fun i a d=>?_,fun i cs d=>(by cases d),fun i a d Y=>?_,fun i v T=>?_⟩,rfl,?_,fun k v E=>?_⟩
  ·rw[(H i y r).1];exact fD (by simp)
  ·simp only[look]at d;split at d
   ·rename_i e;subst e;exact fD (by simp)
   ·cases d
  ·simp only[look]at d;split at d
   ·rename_i e;subst e;injection d with d;subst d
    exact⟨v0,V,cN _ _ _,q,z,A,fun j e u k c N=>by obtain⟨x,G,S⟩:=C j e u k c N;exact⟨x,G,.inl S⟩⟩
   ·cases d
  ·have m:(if i=id0 then some v0 else none)=some v:=T;split at m
   ·rename_i e;subst e;injection m with m;subst m
    exact⟨cN _ _ _,by simp⟩
   ·cases m
  ·simp;omega
  ·rw[pc,kc (tl _),alH]at E;have s:k<xs.size:=by rw[←F];exact(io.1 E).1
   refine⟨xs[k],?_,G k v _ E (iO s)⟩;simp only[];rw[By s,iO s]
 ·cases e<;>exact R
theorem HS.back{M:Nat→Prop}{V:aC}{w w':World}{ι G:Env}{s U:AS}(h:HS M V w ι s){id id0:Nat}{ar m:bW}{v0:Value}(a0:id0<TG)(J:look id s.r=some ar)(p:ι id=some v0)
  (q:HS (fun b=>NN M ι b∧bw (some v0)≠some b) (mN w id0 v0) w' G U) (K:look id0 U.r=some m):HS M V w' ι (eC id m s)∧(∀b,NN M ι b→NN (fun b=>NN M ι b∧bw (some v0)≠some b) G b)∧(∀b,b<w.heap.size→¬ NN M ι b→w'.heap[b]?=w.heap[b]?)∧w.heap.size≤w'.heap.size:=by
 have u:G id0=some v0:=(q.pin id0 v0 (by simp[mN])).1;have C:∀b,NN M ι b→NN (fun b=>NN M ι b∧bw (some v0)≠some b) G b:=fun b n=>by
  by_cases e:bw (some v0)=some b
  ·exact .inr ⟨id0,by rw[u];exact e⟩
  ·exact .inl ⟨n,e⟩
 have o:w.heap.size≤w'.heap.size:=q.below.size;have B:∀b,b<w.heap.size→bw (some v0)≠some b→w'.heap[b]?=w.heap[b]?:=fun b t n=>q.below.block b t n;have f:∀b,b<w.heap.size→¬ NN M ι b→w'.heap[b]?=w.heap[b]?:=fun b t n=>B b t (fun e=>n (.inr ⟨id,by rw[p];exact e⟩));refine⟨⟨?_,h.old,h.use,fun i g D=>⟨(h.own i g D).1,u7 (h.own i g D).2 o⟩,h.inj,h.ko,fun i a E=>?_,fun i cs E O=>?_,fun i a E O=>?_,h.pin⟩,C,f,o⟩
 ·refine h.below.trans ⟨q.below.os,q.below.tape,q.below.output,o,fun k z hG=>B k (u7 z h.below.size) (fun e=>?_)⟩;rcases (h.own id k (by rw[p];exact e)).1 with I|I
  ·exact absurd z (alK.2 I)
  ·exact hG I
 ·have d:look i (bm id m s.r)=some a:=E;rw[cr]at d;split at d
  ·rename_i e;subst e;exact h.kr i ar J
  ·exact h.kr i a d
 ·obtain⟨g,T,vs,y,X,Y⟩:=h.objs i cs E O;have N:bw (some v0)≠some g:=fun e=>by
   have:=h.inj i id g (by rw[y];rfl) (by rw[p];exact e);subst this;rw[y]at p;injection p with p;subst p
   obtain⟨v,xs,l,F,_⟩:=h.arrs i ar J (by rw[y];rfl);rw[y]at l;injection l with l;subst l
   rcases F.2 with⟨A,_⟩|⟨_,_,_,A,_⟩<;>cases A
  exact⟨g,T,vs,y,(B g (h.own i g (by rw[y];rfl)).2 N).trans X,Y.mono o (fun b _ n=>n) f (fun _ _ h=>h)⟩
 ·have d:look i (bm id m s.r)=some a:=E;rw[cr]at d;split at d
  ·rename_i e;subst e;injection d with d;subst d
   obtain⟨v,xs,l,F,A,R,S⟩:=q.arrs id0 m K (by rw[u];rfl);rw[u]at l;injection l with l;subst l
   refine⟨v0,xs,p,F,A,R,fun j e L k c z=>?_⟩;obtain⟨x,Q,P⟩:=S j e L k c z;exact⟨x,Q,.inl ((P.flat (by omega)).mono (jf _) (fun b _ n=>C b n) (fun _ _ _=>rfl) (fun _ _ h=>h))⟩
  ·rename_i e;obtain⟨v,xs,l,F,A,R,S⟩:=h.arrs i a d O;refine⟨v,xs,l,f8 F (fun g D=>B g (h.own i g (by rw[l];exact D)).2 (fun W=>e (h.inj i id g (by rw[l];exact D) (by rw[p];exact W)))),A,R,fun j Z L k c z=>?_⟩;obtain⟨x,Q,P⟩:=S j Z L k c z;exact⟨x,Q,P.mono o (fun b _ n=>n) f (fun _ h=>h) (fun r H=>B r (h.kq H) (fun e=>by
    have:=h.inj _ id r (by rw[H];rfl) (by rw[p];exact e);exact h.Au J H this)) (fun h=>h)⟩
def EM(id id0:Nat):AV→Option AV
 | .ref i=>match Nat.beq i id with|true=>some (.ref id0)|false=>none
 | v=>match v.di [] with|true=>some (gH v)|false=>none
def ue(id id0:Nat):ck→Option ck
 | []=>some []
 | v::r=>match EM id id0 v,ue id id0 r with|some x,some l=>some (x::l)|_,_=>none
def UJ(s:AS)(o:Oper)(id id0:Nat):Option (FuncId×ck) :=
 match o.op with
 | .call c=>match c.callee with
  | .value a=>match s.ev a,dr s c.args.toList with
   | some (.fn f []),some l=>match ue id id0 l with
    | some l'=>some (f,l')
    | none=>none
   | _,_=>none
  | _=>none
 | _=>none
theorem Uz{id id0}:∀{l l'},ue id id0 l=some l'→l'.length=l.length
 | [],_,h=>by injection h with h;grind
 | v::r,l',h=>by
  unfold ue at h;split at h
  ·rename_i b a;injection h with h;subst h;simp[Uz a]
  grind
theorem JB{id id0}:∀{l l'},ue id id0 l=some l'→∀(i:Nat) a,l'[i]?=some a→∃b,l[i]?=some b∧EM id id0 b=some a
 | [],_,h,i,a,c=>by injection h with h;grind
 | v::r,l',h,i,a,c=>by
  unfold ue at h;split at h
  ·rename_i e d;injection h with h;subst h
   cases i with
   | zero=>grind
   | succ i=>exact JB d i a c
  grind
theorem uh{b}{s}{c}{R}(h:VE b (bodyPost b.P c R) [] .ret s):VE b (bodyPost b.P c R) [] .normal s:=fun a w ι d=>h a w ι d
def yY(id0:Nat):ck→Bool
 | []=>false
 | .ref i::r=>Nat.beq i id0||yY id0 r
 | _::r=>yY id0 r
theorem GI{id0}:∀{l},yY id0 l=true→∃i:Nat,l[i]?=some (.ref id0)
 | [],h=>by cases h
 | v::r,h=>by
  unfold yY at h;split at h
  ·grind
  ·rename_i i e a;injection a with d b;subst d;subst b
   simp only[In]at h;rcases h with h|h
   ·have:=mo h;subst this;exact⟨0,rfl⟩
   ·obtain⟨j,c⟩:=GI h;exact⟨j+1,c⟩
  ·rename_i a;injection a with d b;subst b
   obtain⟨j,c⟩:=GI h;exact⟨j+1,c⟩
theorem Tf{id id0}{b a}(h:EM id id0 b=some a):(b=.ref id∧a=.ref id0)∨(b.di []=true∧a=gH b):=by
 unfold EM at h;split at h
 ·split at h
  ·simp_all
  grind
 grind
theorem akQ{b}{id0}(h:gH b=.ref id0)(a:b.di []=true):False:=by
 cases b<;>first|grind|(simp[AV.di]at a;done)|(cases h)
theorem bU{α β:Type}{x}{f:α→Option β}{r}(h:(some x).bind f=some r):∃v,x=v∧f v=some r :=by grind
section
variable{d:Cx}{Q:Exit→Act→World→Prop}{q:dn}{s:AS}{m:Array Oper}{f:Func}{p:d7}{i:Nat}
theorem sV(id id0:Nat){g:FuncId}{u:ck}{V:AV}{ar D:bW}(S:vw d.P g u id0 ar (fun v s1=>v=V∧look id0 s1.r=some D))(k:OT d Q q m (aW f p (i+1)) ((eC id D s).put (aY f p i).dst V))
  (hl:aW f p i=aY f p i::aW f p (i+1):=by kernel_rfl) (hg:cz m s (aY f p i)=true:=by kernel_rfl) (U:cG d.P g=true:=by kernel_rfl) (t:UJ s (aY f p i) id id0=some (g,u):=by kernel_rfl)
  (ha:look id s.r=some ar:=by kernel_rfl) (W:(cH d.n (aY f p i).dst&&V.di [])=true:=by kernel_rfl) (M:yY id0 u=true:=by kernel_rfl) (z:(Nat.ble (id+1) TG&&Nat.ble (id0+1) TG)=true:=by kernel_rfl):OT d Q q m (aW f p i) s:=by
 rw[hl];refine fk _ hg fun a w ι I=>?_;refine abL rfl fun K hK=>?_;simp only[h8]at W;unfold UJ at t;split at t
 case h_2=>cases t
 rename_i c Z;split at t
 case h_2=>cases t
 rename_i fo J;split at t
 case h_2=>cases t
 rename_i f' l hf Y;split at t
 case h_2=>cases t
 rename_i l' F;injection t with t;injection t with e1 e2;subst e1;subst e2
 obtain⟨q1,q2⟩:=lq I Y;have B:∀(i:Nat) (b:AV),l[i]?=some b→∃y,(c.args.map a.eval)[i]?=some y∧Rel (NN d.M ι) w ι b y:=fun i b r=>by
  have e0:i<l.length:=(io.1 r).1;have L:i<(c.args.toList.map a.eval).length:=by have d0:=q1;simp only[nw]at d0⊢;omega
  have H:=iN L;exact⟨_,by rw[←afK,alG];exact H,q2 i b _ r H⟩
 obtain⟨j,hj⟩:=GI M;obtain⟨b,r,E⟩:=JB F j _ hj;obtain⟨v0,O⟩:∃v0,ι id=some v0:=by
  obtain⟨rfl,_⟩|⟨hp,hz⟩:=Tf E
  ·obtain⟨y,_,C⟩:=B j _ r;cases C with
   | ref _ _ A n c h=>exact⟨_,h⟩
  ·exact(akQ hz.symm hp).elim
 obtain⟨v1,xs,P,r2,r3,r4,r5⟩:=I.hs.arrs id ar ha (by rw[O];rfl);rw[O]at P;injection P with P;subst P
 have hN:∀b,NN (fun b=>NN d.M ι b∧bw (some v0)≠some b) (ext bG id0 v0) b→NN d.M ι b:=fun b r=>by
  rcases r with r|⟨i,r⟩
  ·exact r.1
  ·by_cases e:i=id0
   ·subst e;rw[cN]at r;exact .inr ⟨id,by rw[O];exact r⟩
   ·rw[bT _ _ e]at r;cases r
 unfold Oper.wp;obtain⟨ys,a0,T,_⟩:=ln (o:={ aY f p i with guard:=none }) I Z J hf U;have c0:ys=[]:=nx (by simpa using T.symm);subst c0;have b0:c.args.map a.eval++([]:eb).toArray=c.args.map a.eval:=by simp
 rw[a0,af6,b0];refine (S (fun b=>NN d.M ι b∧bw (some v0)≠some b) w _ v0 xs (fun b r=>⟨lN I.hs r.1,r.2⟩) r2 r3 r4 (fun j e he i c S=>?_) ?_ (fun i a' x R hx=>?_)).mono ?_
 ·obtain⟨x,hx,C⟩:=r5 j e he i c S;rw[h8]at z;have:=iF z.1;exact⟨x,hx,(C.flat (by omega)).mono (jf _) (fun b _ r=>hN b r) (fun _ _ _=>rfl) (fun _ _ h=>h)⟩
 ·rw[Uz F];simp at q1⊢;omega
 ·obtain⟨b,r,E⟩:=JB F i _ R;obtain⟨y,H,C⟩:=B i b r;rw[hx]at H;injection H with H;subst H
  obtain⟨rfl,rfl⟩|⟨hp,rfl⟩:=Tf E
  ·cases C with
   | ref _ _ A n c h =>
    rw[O]at h;injection h with h;subst h
    exact .ref _ _ _ _ _ (cN _ _ _)
  ·exact y9 ((C.pure hp (ext bG id0 v0)).mono (jf _) (fun b _ r=>hN b r) (fun _ _ _=>rfl) (fun _ _ h=>h))
 ·rintro e w' ⟨x,v,s1,ι1,rfl,⟨rfl,G⟩,X,C⟩
  rw[h8]at z;obtain⟨g1,g2,g3,g4⟩:=I.hs.back (iF z.2) ha O X G;have h3:Rel (NN d.M ι) w' ι v x:=(C.pure W.2 ι).mono (jf _) (fun b _ r=>g2 b r) (fun _ _ _=>rfl) (fun _ _ h=>h);have N:aX d (eC id D s) a w' ι:=I.world g1 rfl g4 (fun b _ r=>r) g3 (fun _ _ h=>h);exact hK _ _ (k _ _ _ (N.put (gj W.1) h3))
end
def Kd(k id:Nat)(cs:ck)(s:AS):AS:={ t:=bm k (.cptr cs) (dC id s.t),o:=fc id s.o,r:=s.r,u:=s.u }
theorem HS.fo{M:Nat→Prop}{E:aC}{w:World}{ι:Env}{s:AS}(h:HS M E w ι s){k id:Nat}{cs:ck}(B:E.pv id=none)(J:look id s.o=some cs):HS M E w (fR ι id) (Kd k id cs s):=by
 refine⟨h.below,h.old,fun i y f=>h.use i y (nA f).2,fun i g z=>h.own i g (ke z).2,fun i N g z A=>h.inj i N g (ke z).2 (ke A).2,fun i cs m=>?_,h.kr,fun i cs m d=>?_,fun i a m d=>?_,fun i y d=>?_⟩
 ·obtain⟨u,C,_⟩:=jv m;exact h.ko i u C
 ·obtain⟨u,C,rfl⟩:=jv m;obtain⟨y,f⟩:=EZ d;obtain⟨l,f⟩:=nA f;obtain⟨g,T,vs,n,q,o⟩:=h.objs i u C (by rw[fJ ι l]at d;exact d);refine⟨g,T,vs,(fJ ι l).trans n,q,by rw[mi];exact o.len,o.one,fun j x v D L=>?_⟩;obtain⟨y,f,rfl⟩:=lC D;exact((o.rel j y v f L).cT (fun i m=>fJ ι m)).mono (jf _) (fun b _ t=>kL b t) (fun _ _ _=>rfl) (fun _ _ h=>h)
 ·obtain⟨y,f⟩:=Db.mp d;obtain⟨l,f⟩:=nA f;obtain⟨v,xs,n,q,o,F,G⟩:=h.arrs i a m (by rw[f];rfl);refine⟨v,xs,(fJ ι l).trans n,q,o,F,fun j e I k c H=>?_⟩;obtain⟨x,D,K⟩:=G j e I k c H;exact⟨x,D,K.mono (jf _) (fun b _ t=>kL b t) (fun _ _ _=>rfl) (fun r p=>(fJ ι (fun e=>by
   rw[e]at p;obtain⟨g,T,vs,n,_,_⟩:=h.objs id cs J (by rw[p];rfl);rw[n]at p;cases p)).trans p) (fun _ _=>rfl) (fun h=>h)⟩
 ·have e:i≠id:=fun e=>by subst e;rw[B]at d;cases d
  exact⟨(fJ ι e).trans (h.pin i y d).1,(h.pin i y d).2⟩
section
variable{m:Cx}{Q:Exit→Act→World→Prop}{n:dn}{s:AS}{d:Array Oper}{f:Func}{p:d7}{i:Nat}
theorem XS{a:Act}{w:World}{ι:Env}(n:aX m s a w ι){k id:Nat}{cs:ck}(H:look k s.t=some (.ptr id 0))(C:look id s.o=some cs)(I:ep [] cs=true)(A:s.u.contains (dk id)=false):aX m (Kd k id cs s) a w (fR ι id):=by
 obtain⟨x,K,r⟩:=n.tmp k _ H;cases r with
 | ptr _ _ _ g q =>
  obtain⟨M,T,vs,l,D,t⟩:=n.hs.objs id cs C (by rw[q];rfl);rw[q]at l;injection l with l;injection l with l;injection l with l;injection l with l;subst l
  refine⟨n.hs.fo (n.hs.np A) C,n.dfr,n.n,fun j v G=>?_⟩;have d:look j (bm k (.cptr cs) (dC id s.t))=some v:=G;rw[cr]at d;split at d
  ·rename_i e;subst e;injection d with d;subst d
   refine⟨_,K,.cptr _ cs g 0 (fun i=>(vs[i]?).getD (.bool true)) (n.hs.own id g (by rw[q];rfl)).2 (fun f=>?_) (fun i=>?_) (fun i c p=>?_) (fun i c p=>?_)⟩
   ·rcases f with f|⟨i,f⟩
    ·exact n.hs.sep f (by rw[q];rfl)
    ·obtain⟨z,f⟩:=ke f;exact z (n.hs.inj i id g f (by rw[q];rfl))
   ·cases e:vs[i]? with
    | none=>rfl
    | some v=>exact t.one v (by rw[←afK]at e;exact lp e)
   ·have o:i<vs.size:=by have:=(io.1 p).1;rw[t.len]at this;simpa using this
    rw[ami w g _ vs T (0,0) D,DO];simp[iO o]
   ·have o:i<vs.size:=by have:=(io.1 p).1;rw[t.len]at this;simpa using this
    have B:vs.toList[i]?=some vs[i]:=by simp
    have r:=(t.rel i c _ p B).pure (l5 I i c p) bG;have E:=r.mono (N':=NN m.M (fR ι id)) (w':=w) (jf _) (fun b _ f=>kL b f) (fun _ _ _=>rfl) (fun _ _ h=>h);simpa[iO o]using E
  ·obtain⟨u,J,rfl⟩:=oQ d;obtain⟨y,L,r⟩:=n.tmp j u J;exact⟨y,L,(r.cT (fun i F=>fJ ι F)).mono (jf _) (fun b _ f=>kL b f) (fun _ _ _=>rfl) (fun _ _ h=>h)⟩
theorem n6 k id cs{l}(h:OT m Q n d l (Kd k id cs s))(c:look k s.t=some (.ptr id 0):=by kernel_rfl)(e:look id s.o=some cs:=by kernel_rfl)(f:ep [] cs=true:=by kernel_rfl)(b:s.u.contains (dk id)=false:=by kernel_rfl):OT m Q n d l s:=fun a w ι g=>h a w _ (XS g c e f b)
theorem sg(g:FuncId)(b:Array Operand)(l:ck)(k:OT m Q n d (aW f p (i+1)) (s.put (aY f p i).dst (.fn g l)))(z:aW f p i=aY f p i::aW f p (i+1):=by kernel_rfl)(x:cz d s (aY f p i)=true:=by kernel_rfl)
  (h:(aY f p i).op=.makeFunc (.func g) #[] b:=by kernel_rfl) (v:dr s b.toList=some l:=by kernel_rfl) (e:(cH m.n (aY f p i).dst&&ep [] l)=true:=by kernel_rfl):OT m Q n d (aW f p i) s:=by
 rw[z];refine fk _ x fun a w ι q=>?_;refine abL rfl fun K u=>?_;simp only[h8]at e;obtain⟨A,B⟩:=lq q v;have t:Rel (NN m.M ι) w ι (.fn g l) (.func (.func g) #[] (b.map a.eval)):=by
  have o:=Rel.fn (N:=NN m.M ι) (w:=w) ι g l (b.map a.eval).toList (by simp at A⊢;omega) (fun i c y j r=>(B i c y j (by simpa using r)).pure (l5 e.2 i c j) bG);rw[ain]at o;exact o
 unfold Oper.wp execOp;simp only[h,Instr.makeFunc,th,RX,amO];exact u _ _ (k _ _ _ (q.put (gj e.1) t))
end
def HW(s:AS):AV→Option AV
 | .ref i=>match look i s.r,Nat.ble (i+1) TG with|some ar,true=>some (.sl ar.l)|_,_=>none
 | v=>match v.di [] with|true=>some (gH v)|false=>none
def uT(s:AS):ck→Option ck
 | []=>some []
 | v::r=>match HW s v,uT s r with|some x,some l=>some (x::l)|_,_=>none
theorem NF{s}:∀{l m},uT s l=some m→m.length=l.length
 | [],m,h=>by injection h with h;grind
 | v::r,m,h=>by
  unfold uT at h;split at h
  ·rename_i x l' b a;injection h with h;subst h;simp[NF a]
  grind
theorem SW{s:AS}:∀{l m:ck},uT s l=some m→∀(i:Nat) (a:AV),m[i]?=some a→∃b,l[i]?=some b∧HW s b=some a
 | [],m,h,i,a,c=>by injection h with h;subst h;simp at c
 | v::r,m,h,i,a,c=>by
  unfold uT at h;split at h
  ·rename_i x l' d e;injection h with h;subst h
   cases i with
   | zero=>grind
   | succ i=>simp_all[SW]
  grind
def Ru(s:AS)(o:Oper):Option (FuncId×ck) :=
 match o.op with
 | .call c=>match c.callee with
  | .value a=>match s.ev a,dr s c.args.toList with
   | some (.fn f aV),some l=>match uT s l with
    | some l'=>some (f,l'++aV)
    | none=>none
   | _,_=>none
  | _=>none
 | _=>none
section
variable{j:Cx}{Q:Exit→Act→World→Prop}{m:dn}{s:AS}{d:Array Oper}{f:Func}{p:d7}{i:Nat}
theorem acl{g:FuncId}{u:ck}{V:AV}(Z:ba j.P g u (fun v _=>v=V))(k:OT j Q m d (aW f p (i+1)) (s.put (aY f p i).dst V))
  (hl:aW f p i=aY f p i::aW f p (i+1):=by kernel_rfl) (hg:cz d s (aY f p i)=true:=by kernel_rfl) (L:cG j.P g=true:=by kernel_rfl) (r:Ru s (aY f p i)=some (g,u):=by kernel_rfl)
  (M:(cH j.n (aY f p i).dst&&V.Bq)=true:=by kernel_rfl):OT j Q m d (aW f p i) s:=by
 rw[hl];refine fk _ hg fun a w ι G=>?_;refine abL rfl fun K Y=>?_;simp only[h8]at M;unfold Ru at r;split at r
 case h_2=>cases r
 rename_i c P;split at r
 case h_2=>cases r
 rename_i fo z;split at r
 case h_2=>cases r
 rename_i f' aV l hf O;split at r
 case h_2=>cases r
 rename_i l' B;injection r with r;injection r with W X;subst W;subst X
 obtain⟨q1,q2⟩:=lq G O;unfold Oper.wp;obtain⟨ys,R,a0,J⟩:=ln (o:={ aY f p i with guard:=none }) G P z hf L;rw[R,af6];have C:=NF B;have t:l'.length=(c.args.map a.eval).size:=by rw[C,q1];simp
 refine (Z (fun _=>False) w _ (fun b I=>I.elim) ⟨by simp at t⊢;omega,fun i v y D E=>?_⟩).mono ?_
 ·by_cases U:i<l'.length
  ·rw[Dz U]at D;rw[By (by rw[←t];exact U)]at E;obtain⟨b,I,q⟩:=SW B i v D;have T:(c.args.toList.map a.eval)[i]?=some y:=by rw[←afK,alG]at E;exact E
   have F:=q2 i b y I T;unfold HW at q;split at q
   ·rename_i id;split at q
    ·rename_i ar H S;injection q with q;subst q
     cases F with
     | ref _ _ A n c h=>exact(G.hs.rk (iF S) H A n c h bG).mono (jf _) (fun _ _ h=>h.elim) (fun _ _ _=>rfl) (fun _ _ h=>h)
    ·cases q
   ·split at q
    ·rename_i hp;injection q with q;subst q
     exact y9 ((F.pure hp bG).mono (jf _) (fun _ _ h=>h.elim) (fun _ _ _=>rfl) (fun _ _ h=>h))
    ·cases q
  ·rw[AT (by omega)]at D;rw[akG (by rw[←t];omega)]at E;rw[t]at D;exact(J _ v y D (by simpa using E)).mono (jf _) (fun _ _ h=>h.elim) (fun _ _ _=>rfl) (fun _ _ h=>h)
 ·rintro e w' ⟨x,v,s1,ι1,rfl,rfl,N,F⟩
  exact Y _ _ (k _ _ _ ((G.nF N.below.plain).put (gj M.1) (TA M.2 F)))
end
abbrev iI(x:Int):AV:=.int .i64 x
abbrev gD{α:Type}[Inhabited α](L:List α)(i:Int):α:=List.getD L i.toNat default
def yd(b:Nat→Bool):Nat→Nat→Bool
 | _,0=>true
 | lo,k+1=>b lo&&yd b (lo+1) k
theorem Kv{b}:∀{lo k},yd b lo k=true→eE lo k fun j=>b j=true
 | _,0,_=>trivial
 | lo,k+1,h=>by
  unfold yd at h;rw[h8]at h;exact⟨h.1,Kv h.2⟩
theorem aF{P:Program}{n:Nat}{f:AS}{a:Array Oper}{g:List Tag}{K:Nat}{b:er}{o:Oper}(lo k:Nat)(e:o.guard.isSome=true:=by kernel_rfl)(h:yd (fun j=>BT a (nth b j) o) lo k=true:=by kernel_rfl)
  (c:yd (fun j=>(match o.dst with|some d=>(match look d (nth b j).t with|none=>true|some (.tup [])=>Nat.ble (d+1) n|_=>false)|none=>true)) 0 (K+1)=true:=by kernel_rfl):eN P n f a g K b o (.off lo k):=WY e (Kv h) (Kv c)
def vz(n:Nat):List Tag:=List.replicate n (.v 0 1)
theorem cW{P:Program}{n:Nat}{j:AS}{c:Array Oper}{k:List Tag}{K:Nat}{a:er}{o:Oper}(lo d:Nat){e b:Bool}(f:e=b)(g:cz c (nth a lo) o=true:=by kernel_rfl)(h:bZ P n (nth a lo) o=some ((nth a lo).put (some d) (.bool e)):=by kernel_rfl)(i:(nth a lo).put (some d) (.bool b)=nth a lo:=by kernel_rfl):
  eN P n j c k K a o (.v lo 1):=fi (db ⟨g,acb d f h i⟩ fI)
def nu:Nat→ck→List em
 | _,[]=>[]
 | k,x::l=>(k,x)::nu (k+1) l
abbrev lm{α β:Type}(f:α→β)(l:List α):List β:=List.map f l
theorem bI{P}{f}{b}{a}{Q}{n} c(g:P.funcs[f]?=some b)(j:b.ntmps=n)(h:∀M d,VE ⟨P,n,M,d⟩ (bodyPost P b (bR M d Q)) [.c c] .normal ⟨idxs 0 a,[],[],[]⟩)
  (e:b.body=some c:=by kernel_rfl) (i:decide (a.length≤n)=true:=by kernel_rfl):ba P f a Q :=by grind[ag7]
theorem bn{a}{Q}{b}{e}{s} s'(h:VE a Q b e s')(c:s=s':=by kernel_rfl):VE a Q b e s:=c ▸ h
theorem cF{P}{n}{s}{o}{α:Type}[Inhabited α] id sz enc{L:List α}{i}{m}(a:aN i m=true)(b:L.length=m:=by simp only[alU])(h:IS P n s o=some (id,sz,i,L.map enc):=by kernel_rfl):bZ P n s o=some (s.put o.dst (.eptr id sz i.toNat 0)) :=by grind[cp]
theorem bi{P:Program}{n:Nat}{c:AS}{a:Array Oper}{d:List Tag}{K:Nat}{b:er}{f:Func}{p:d7}{i:Nat}{ts:List Tag}{s':AS}(h:bZ P n (nth b 0) (aY f p i)=some s')(e:ff P n c a d K b (aW f p (i+1)) ts)(g:s'=nth b 0:=by kernel_rfl)(j:cz a (nth b 0) (aY f p i)=true:=by kernel_rfl)
  (k:aW f p i=aY f p i::aW f p (i+1):=by kernel_rfl):ff P n c a d K b (aW f p i) (.v 0 1::ts):=aj (Cn h g j) e k
def OF:Nat→Nat→d7→d7
 | 0,_,l=>l
 | k+1,x,l=>match Nat.ble x 1 with
  | true=>l
  | false=>OF k (x / 2) (x % 2::l)
def pn(x:Nat):d7:=OF 90 x []
def wq(n q:Nat):Nat:=n*2 ^ q.log2+(q-2 ^ q.log2)
section
variable{e:Cx}{Q:Exit→Act→World→Prop}{g:dn}{s:AS}{f:Func}{n:Nat}
abbrev cP(f:Func)(n:Nat):aq:=.c (cat f (pn n))
theorem ay a b k(c:VE e Q (cP f (wq n a)::cP f (wq n b)::g) .normal (gE e.P e.n k (cP f n::g) .normal s))(h:gJ e.P e.n k (cP f n::g) .normal s=some (cP f (wq n a)::cP f (wq n b)::g,.normal):=by kernel_rfl):VE e Q (cP f n::g) .normal s:=cd k c h
theorem bv a k(b:VE e Q (cP f (wq n a)::g) .normal (gE e.P e.n k (cP f n::g) .normal s))(h:gJ e.P e.n k (cP f n::g) .normal s=some (cP f (wq n a)::g,.normal):=by kernel_rfl):VE e Q (cP f n::g) .normal s:=cd k b h
theorem dI a b c d k(i:VE e Q (cP f (wq n a)::cP f (wq n b) :: .b c::cP f (wq n d)::g) .normal (gE e.P e.n k (cP f n::g) .normal s))(h:gJ e.P e.n k (cP f n::g) .normal s=some (cP f (wq n a)::cP f (wq n b) :: .b c::cP f (wq n d)::g,.normal):=by kernel_rfl):VE e Q (cP f n::g) .normal s:=cd k i h
theorem bX a b c k(d:VE e Q (cP f (wq n a)::cP f (wq n b)::cP f (wq n c)::g) .normal (gE e.P e.n k (cP f n::g) .normal s))(h:gJ e.P e.n k (cP f n::g) .normal s=some (cP f (wq n a)::cP f (wq n b)::cP f (wq n c)::g,.normal):=by kernel_rfl):VE e Q (cP f n::g) .normal s:=cd k d h
theorem ir a b c k(d:VE e Q (cP f (wq n a) :: .b b::cP f (wq n c)::g) .normal (gE e.P e.n k (cP f n::g) .normal s))(h:gJ e.P e.n k (cP f n::g) .normal s=some (cP f (wq n a) :: .b b::cP f (wq n c)::g,.normal):=by kernel_rfl):VE e Q (cP f n::g) .normal s:=cd k d h
theorem ig a b k(c:VE e Q (cP f (wq n a) :: .b b::g) .normal (gE e.P e.n k (cP f n::g) .normal s))(h:gJ e.P e.n k (cP f n::g) .normal s=some (cP f (wq n a) :: .b b::g,.normal):=by kernel_rfl):VE e Q (cP f n::g) .normal s:=cd k c h
theorem T7{d i j} a b c k(l:VE e Q (cP f (wq n a)::cP f (wq n b)::cP f (wq n c)::g) .normal (gE e.P e.n k (d::i::j::cP f n::g) .normal s))(h:gJ e.P e.n k (d::i::j::cP f n::g) .normal s=some (cP f (wq n a)::cP f (wq n b)::cP f (wq n c)::g,.normal):=by kernel_rfl):VE e Q (d::i::j::cP f n::g) .normal s:=cd k l h
theorem gB{c d i j} a b k(l:VE e Q (cP f (wq n a)::cP f (wq n b)::g) .normal (gE e.P e.n k (c::d::i::j::cP f n::g) .normal s))(h:gJ e.P e.n k (c::d::i::j::cP f n::g) .normal s=some (cP f (wq n a)::cP f (wq n b)::g,.normal):=by kernel_rfl):VE e Q (c::d::i::j::cP f n::g) .normal s:=cd k l h
theorem cQ{i} a b c d k(j:VE e Q (cP f (wq n a)::cP f (wq n b) :: .b c::cP f (wq n d)::g) .normal (gE e.P e.n k (i::cP f n::g) .normal s))(h:gJ e.P e.n k (i::cP f n::g) .normal s=some (cP f (wq n a)::cP f (wq n b) :: .b c::cP f (wq n d)::g,.normal):=by kernel_rfl):VE e Q (i::cP f n::g) .normal s:=cd k j h
theorem fO{c} a b k(d:VE e Q (cP f (wq n a)::cP f (wq n b)::g) .normal (gE e.P e.n k (c::cP f n::g) .normal s))(h:gJ e.P e.n k (c::cP f n::g) .normal s=some (cP f (wq n a)::cP f (wq n b)::g,.normal):=by kernel_rfl):VE e Q (c::cP f n::g) .normal s:=cd k d h
theorem EK{d} a b c k(i:VE e Q (cP f (wq n a) :: .b b::cP f (wq n c)::g) .normal (gE e.P e.n k (d::cP f n::g) .normal s))(h:gJ e.P e.n k (d::cP f n::g) .normal s=some (cP f (wq n a) :: .b b::cP f (wq n c)::g,.normal):=by kernel_rfl):VE e Q (d::cP f n::g) .normal s:=cd k i h
theorem oL{d} a b c k(i:VE e Q (cP f (wq n a)::cP f (wq n b)::cP f (wq n c)::g) .normal (gE e.P e.n k (d::cP f n::g) .normal s))(h:gJ e.P e.n k (d::cP f n::g) .normal s=some (cP f (wq n a)::cP f (wq n b)::cP f (wq n c)::g,.normal):=by kernel_rfl):VE e Q (d::cP f n::g) .normal s:=cd k i h
theorem xg{d i j l} a b c k(m:VE e Q (cP f (wq n a)::cP f (wq n b)::cP f (wq n c)::g) .normal (gE e.P e.n k (d::i::j::l::cP f n::g) .normal s))(h:gJ e.P e.n k (d::i::j::l::cP f n::g) .normal s=some (cP f (wq n a)::cP f (wq n b)::cP f (wq n c)::g,.normal):=by kernel_rfl):VE e Q (d::i::j::l::cP f n::g) .normal s:=cd k m h
end
def nK(ops:Array Oper):Nat→d7→d7
 | 0,S=>S
 | j+1,S=>match S.contains j with
  | true=>nK ops j (S++(match ops[j]? with|some o=>cV o|none=>[]))
  | false=>nK ops j S
def DL(ops:Array Oper)(z:Nat):Bool:=match ops[z]? with
 | some o=>(Nat.beq (z+1) ops.size&&(cV o).all fun j=>decide (j<z))&&(List.range z).all fun i=>(nK ops z (cV o)).contains i
 | none=>false
theorem rW{ops}{listed:Array Bool}(cl:∀(i:Nat) (o:Oper),ops[i]?=some o→listed[i]?=some true→∀j∈cV o,listed[j]?=some true):∀n S,(∀j∈S,listed[j]?=some true)→∀j∈nK ops n S,listed[j]?=some true
 | 0,S,h,j,a=>h j a
 | n+1,S,h,j,a=>by
  unfold nK at a;split at a
  ·have c:n∈S:=by grind
   refine rW cl n _ (fun i b=>?_) j a
   grind
  ·exact rW cl n S h j a
section
variable{d:Cx}{ops:Array Oper}{c:List Tag}{K:Nat}{σ:Nat→AS}{g:AS}
theorem c8.alf{N:Exit→Act→World→Prop}(st:Stat ops c K)(dy:lW d.P d.n g ops c K σ){z:Nat}{oz:Oper}(R:c.length=z)(A:ops[z]?=some oz)(m:DL ops z=true)(hQ:∀a w ι,aX d (σ K) a w ι→wpList d.P ops N [oz] a w):
  ∀(l:Nat) (listed:Array Bool) (a:Act) (w:World) (k:Nat) (ι:Env),iT listed=l→listed[z]?≠some true→c8 d ops c K σ listed a w k ι→wpAny d.P .any ops N l listed a w:=by
 unfold DL at m;rw[A]at m;simp only[h8,ne,qv,acS]at m;obtain⟨⟨M,X⟩,G⟩:=m;have M:=mo M;have B:∀{listed:Array Bool},(∀(i:Nat) (o:Oper),ops[i]?=some o→listed[i]?=some true→∀j∈cV o,listed[j]?=some true)→(∀j∈cV oz,listed[j]?=some true)→∀i,i<z→listed[i]?=some true:=fun cl T i u =>
  rW cl z _ T i (by simpa using G i u)
 have S:∀(listed:Array Bool) (a:Act) (w:World) (k:Nat) (ι:Env),c8 d ops c K σ listed a w k ι→(∀i,i<z→listed[i]?=some true)→aX d (σ K) a w ι:=by
  intro listed a w k ι h n;have hk:k=K:=by
   have:=h.kK;rcases st.last with h0|⟨i,u⟩
   ·omega
   ·have W:i<z:=by rw[←R];exact(io.1 u).1
    have:=(h.wr i K u).1 (n i W);omega
  subst hk;exact⟨h.hs,h.dfr,h.n,fun t v hv=>h.tmp t v hv (fun i o tg _ Z _ _=>n i (by rw[←R];exact(io.1 Z).1))⟩
 intro l
 induction l with
 | zero =>
  intro listed a w k ι hl y h;exact absurd (uU hl z (by rw[h.sz];omega)) y
 | succ l ih =>
  intro listed a w k ι hl y h;refine⟨fun E=>?_,fun i u=>?_⟩
  ·-- nothing is up: all are listed,the last one too
   exfalso;have key:∀i,i<ops.size→listed[i]?=some true:=by
    intro i
    induction i using Nat.strongRecOn with
    | _ i a0 =>
     intro u;have p:=iO (xs:=ops) u;cases H:listed[i]? with
     | none=>rw[alI,h.sz]at H;omega
     | some b =>
      cases b with
      | true=>rfl
      | false =>
       exfalso;have P:i∈Region.ready .any ops listed:=by
        unfold Region.ready;simp only[alN,acS,h8,Io];refine⟨u,by rw[ti,H];rfl,?_⟩;rw[p];simp only[MO,IF,acr,In,Io];intro e T;by_cases O:Region.binds .any e=true
        ·right;have D:e.on∈cV ops[i]:=px.2 ⟨e,T,O,rfl⟩;have I:e.on<i:=by
          by_cases x:i<z
          ·exact st.lex i _ _ p (iN (by rw[R];exact x)) e.on D
          ·have:i=z:=by omega
           subst this;rw[A]at p;injection p with p
           rw[←p]at D;exact X _ D
         rw[ti,a0 e.on I (by omega)];rfl
        ·left;simpa using O
       rw[E]at P;cases P
   exact y (key z (by omega))
  ·obtain⟨C,o,p,U⟩:=kZ u;have s:i<listed.size:=by rw[h.sz];exact(ob.1 p).1
   have hf:listed[i]?=some false:=by
    rw[iO s]at C⊢;cases O:listed[i] with
    | true=>rw[O]at C;exact(C rfl).elim
    | false=>rfl
   have b0:=uF hf;by_cases x:i=z
   ·subst x;rw[A]at p;injection p with p;subst p
    have n:=B h.cl U;have Q:=hQ a w ι (S listed a w k ι h n);have q:∀F w',N .normal F w'→wpAny d.P .any ops N l (listed.setIfInBounds i true) F w':=fun F w' L=>by
     have E:Region.ready .any ops (listed.setIfInBounds i true)=[]:=by
      cases E:Region.ready .any ops (listed.setIfInBounds i true) with
      | nil=>rfl
      | cons j r =>
       exfalso;obtain⟨J,o2,Y,_⟩:=kZ (ops:=ops) (listed:=listed.setIfInBounds i true) (i:=j) (by rw[E];simp);refine J ((dM s).2 ?_);have:j<ops.size:=(ob.1 Y).1;by_cases e:j=i
       ·exact .inl e
       ·exact .inr (n j (by omega))
     cases l with
     | zero=>exact⟨E,L⟩
     | succ f=>exact⟨fun _=>L,fun j D=>by rw[E]at D;cases D⟩
    unfold wpOp;simp only[A];unfold wpList at Q;split at Q
    ·rename_i hw;rw[kc hw];exact Q.imp (RP q (fun _ _ _ _ h=>h)) (fun h=>h)
    ·rename_i hw;rw[kb hw];exact q _ _ Q
   ·refine h.one st dy (by rw[R];have:=(ob.1 p).1;omega) u (fun F w' k' ι' P=>ih _ F w' k' ι' (by omega) (fun V=>?_) P);rcases (dM s).1 V with e|V
    ·exact x e.symm
    ·exact y V
end
theorem ah1{i:Cx}{Q:Exit→Act→World→Prop}{E:dn}{f:Func}{p:d7}{k:AS}{c:List Tag}(z K:Nat)(t:List em)(l:List (Nat×ck))(rl:List (Nat×bW))(v:List (AS→AS))
  (x:ff i.P i.n k (dh f p) c K (n9 k t l rl v) (aW f p 0) c) (h:OT i Q E (dh f p) (aW f p z) (Ii k t l rl v K))
  (y:kz f p=true:=by kernel_rfl) (J:i.P.follows .mixedOrders=true:=by kernel_rfl) (u:un (dh f p) c K z=true:=by kernel_rfl) (I:mA c K=true:=by kernel_rfl) (e:ly (aW f p 0) c t=true:=by kernel_rfl) (A:iK k.u l=true:=by kernel_rfl) (o:iK k.u rl=true:=by kernel_rfl)
  (g:DL (dh f p) z=true:=by kernel_rfl):VE i Q (.c (cat f p)::E) .normal k:=by
 have G:aW f p 0=(dh f p).toList:=by simp[aW]
 cases m:cat f p with
 | region id ops b =>
  cases b with
  | false=>unfold kz at y;rw[m]at y;cases y
  | true =>
   have C:dh f p=ops:=by unfold dh;rw[m];rfl
   rw[G]at x e;have d:∃s,ops[z]?=some s∧aW f p z=[s]:=by
    unfold DL at g;rw[C]at g;split at g
    ·rename_i s d;refine⟨s,d,?_⟩;simp only[h8]at g;have L:=mo g.1.1;unfold aW;rw[C];rw[lc (by rw[Dj];omega),ll (by rw[Dj];omega)];obtain⟨_,H⟩:=ob.1 d;simp[H]
    ·cases g
   obtain⟨s,d,j⟩:=d;rw[j]at h;rw[C]at x e u h g;intro a w ι r;obtain⟨F,q,_⟩:=zh u I;have D:=xf (P:=i.P) (n:=i.n) c K t l rl (n9 k t l rl v) e A o (by unfold n9;cases v<;>rfl) x;refine am9 J (c8.alf F D q d g (fun a w ι u=>h a w ι u) ops.size _ a _ 0 ι (by simp[iT]) (fun B=>?_) (c8.start F D r));rw[ajQ]at B;split at B<;>cases B
 | _=>grind[kz]
section
variable{t:Cx}{Q:Exit→Act→World→Prop}{u:dn}{s:AS}{d:Array Oper}{f:Func}{p:d7}{i:Nat}
def nR(s:AS):Bool:=(s.u.all fun k=>Nat.ble (k+1) 1000000)&&((s.o.all fun q=>Nat.ble (q.1+1) eo)&&(s.r.all fun q=>Nat.ble (q.1+1) eo))
theorem wM{α:Type}:∀{l:List (Nat×α)} {k:Nat} {v:α},look k l=some v→(k,v)∈l
 | [],k,v,h=>by cases h
 | (j,x)::r,k,v,h=>by
  simp only[look]at h;split at h
  ·rename_i e;subst e;injection h with h;subst h;exact u6
  ·exact pt _ (wM h)
theorem agV{s:AS}(h:nR s=true){i:Nat}{cs:ck}(a:look i s.o=some cs):i<eo:=by
 simp only[nR,h8,ne]at h;exact iF (h.2.1 _ (wM a))
theorem TB{s:AS}(h:nR s=true){i:Nat}{a:bW}(b:look i s.r=some a):i<eo:=by
 simp only[nR,h8,ne]at h;exact iF (h.2.2 _ (wM b))
theorem abv{M:Nat→Prop}{a:aC}{w:World}{ι:Env}{s:AS}(d:HS M a w ι s)(h:nR s=true){i:Nat}{v:Value}(c:a.pv i=some v):False:=by
 have b:=(d.pin i v c).2;simp only[nR,h8,ne]at h;have:=iF (h.1 _ (by simpa using b));unfold dk at this;omega
theorem Ci(id q:Nat):eo≤nm id q:=amF _ _
mutual
/-- Names no map in a cell. -/
def AV.iW:AV→Bool
 | .mref _ _=>false
 | .ptr i _=>Nat.ble (i+1) eo
 | .eptr i _ _ _=>Nat.ble (i+1) eo
 | .sref i _ _ _=>Nat.ble (i+1) eo
 | .pp i _ _=>Nat.ble (i+1) eo
 | .sit i _ _ _=>Nat.ble (i+1) eo
 | .ref i=>Nat.ble (i+1) eo
 | .lk i _=>Nat.ble (i+1) eo
 | .agg cs=>nC cs
 | .tup cs=>nC cs
 | .fno _ cs=>nC cs
 | _=>true
def nC:ck→Bool
 | []=>true
 | c::r=>c.iW&&nC r
end
theorem oi:∀{l:ck},nC l=true→∀(i:Nat) (x:AV),l[i]?=some x→x.iW=true
 | [],_,i,x,a=>by simp at a
 | c::r,h,0,x,a=>by simp only[nC,h8]at h;simp at a;subst a;exact h.1
 | c::r,h,i+1,x,a=>by simp only[nC,h8]at h;simp at a;exact oi h.2 i x a
theorem Rel.iW{N:Nat→Prop}{w:World}{ι:Env}{v:AV}{x:Value}(h:Rel N w ι v x){κ:Nat}(V:eo≤κ){T:Option Nat}{ι':Env}(J:ι κ=some (.map T))(I:∀k,k≠κ→ι' k=ι k):v.iW=true→Rel N w ι' v x:=by
 have d:∀{i y},ι i=some y→(∀r,y ≠ .map r)→ι' i=some y:=fun {i y} G Q=>by
  by_cases e:i=κ
  ·subst e;rw[J]at G;injection G with G;exact absurd G.symm (Q _)
  ·exact(I i e).trans G
 induction h with
 | int ι k n=>intro _;exact .int _ _ _
 | bool ι b=>intro _;exact .bool _ _
 | str ι s=>intro _;exact .str _ _
 | nils ι=>intro _;exact .nils _
 | nilm ι=>intro _;exact .nilm _
 | sl0 ι A c=>intro _;exact .sl0 _ _ _
 | sl ι l b o c sz D R E a z K p F u=>intro _;exact .sl _ l b o c sz D R E a z K p F
 | fn ι f aV L C p u=>intro _;exact .fn _ f aV L C p
 | fno ι f aV L C p u=>intro a;exact .fno _ f aV L C (fun i x v t H=>u i x v t H J I d (oi (by simpa[AV.iW]using a) i x t))
 | nilf ι=>intro _;exact .nilf _
 | nilp ι=>intro _;exact .nilp _
 | any ι x h=>intro _;exact .any _ _ h
 | ptr ι id off g h=>intro _;exact .ptr _ _ _ _ (d h (fun r e=>by cases e))
 | eptr ι id sz j off g n c h=>intro _;exact .eptr _ _ _ _ _ _ n c (d h (fun r e=>by cases e))
 | sref ι id sz off m n c M A B h O=>intro _;exact .sref _ _ _ _ _ n c M A B (d h (fun r e=>by cases e)) O
 | cptr ι cs b o D E a z K p u=>intro _;exact .cptr _ cs b o D E a z K p
 | adr ι g off=>intro _;exact .adr _ _ _
 | vv ι x h=>intro _;exact .vv _ _ h
 | pp ι id g off h=>intro _;exact .pp _ _ _ _ (d h (fun r e=>by cases e))
 | sit ι id g s S h P a E=>intro _;exact .sit _ _ _ _ _ (d h (fun r e=>by cases e)) P a E
 | ref ι id A n c h=>intro _;exact .ref _ _ _ _ _ (d h (fun r e=>by cases e))
 | lk ι id v x h z=>intro a;exact .lk _ _ _ _ ((I id (fun e=>by have:=iF (show Nat.ble (id+1) eo=true from a);omega)).trans h) z
 | mref ι id q r v h U=>intro a;cases a
 | agg ι cs vs C z p u=>intro a;exact .agg _ cs vs C z (fun i x v t H=>u i x v t H J I d (oi (by simpa[AV.iW]using a) i x t))
 | tup ι cs vs C p u=>intro a;exact .tup _ cs vs C (fun i x v t H=>u i x v t H J I d (oi (by simpa[AV.iW]using a) i x t))
theorem Rel.low{N:Nat→Prop}{w:World}{ι:Env}{v:AV}{x:Value}(h:Rel N w ι v x){ι':Env}(d:∀k,k<eo→ι' k=ι k):v.iW=true→Rel N w ι' v x:=by
 have z:∀{i},Nat.ble (i+1) eo=true→i<eo:=fun h=>iF h
 induction h with
 | int ι k n=>intro _;exact .int _ _ _
 | bool ι b=>intro _;exact .bool _ _
 | str ι s=>intro _;exact .str _ _
 | nils ι=>intro _;exact .nils _
 | nilm ι=>intro _;exact .nilm _
 | sl0 ι A c=>intro _;exact .sl0 _ _ _
 | sl ι l b o c sz C L D a u G e E t=>intro _;exact .sl _ l b o c sz C L D a u G e E
 | fn ι f aV H y e t=>intro _;exact .fn _ f aV H y e
 | fno ι f aV H y e t=>intro a;exact .fno _ f aV H y (fun i x v p F=>t i x v p F d (oi (by simpa[AV.iW]using a) i x p))
 | nilf ι=>intro _;exact .nilf _
 | nilp ι=>intro _;exact .nilp _
 | any ι x h=>intro _;exact .any _ _ h
 | ptr ι id off g h=>intro q;exact .ptr _ _ _ _ ((d _ (z q)).trans h)
 | eptr ι id sz j off g n c h=>intro q;exact .eptr _ _ _ _ _ _ n c ((d _ (z q)).trans h)
 | sref ι id sz off m n c I A B h J=>intro q;exact .sref _ _ _ _ _ n c I A B ((d _ (z q)).trans h) J
 | cptr ι cs b o C D a u G e t=>intro _;exact .cptr _ cs b o C D a u G e
 | adr ι g off=>intro _;exact .adr _ _ _
 | vv ι x h=>intro _;exact .vv _ _ h
 | pp ι id g off h=>intro q;exact .pp _ _ _ _ ((d _ (z q)).trans h)
 | sit ι id g s M h K a D=>intro q;exact .sit _ _ _ _ _ ((d _ (z q)).trans h) K a D
 | ref ι id A n c h=>intro q;exact .ref _ _ _ _ _ ((d _ (z q)).trans h)
 | lk ι id v x h u=>intro q;exact .lk _ _ _ _ ((d _ (z q)).trans h) u
 | mref ι id q r v h O=>intro a;cases a
 | agg ι cs vs y u e t=>intro a;exact .agg _ cs vs y u (fun i x v p F=>t i x v p F d (oi (by simpa[AV.iW]using a) i x p))
 | tup ι cs vs y e t=>intro a;exact .tup _ cs vs y (fun i x v p F=>t i x v p F d (oi (by simpa[AV.iW]using a) i x p))
def xj(s:AS):Bool:=(s.t.all fun q=>q.2.iW)&&(s.o.all fun q=>nC q.2)
end
end Go.Proofs.YtocgkfoifehcbaaGreat
