/- Calls that look at own slices and at parts of them. No program in sight. -/
import Derived.Test.YtocgkfoifehcbaaGreatRtOwn
import Derived.Test.YtocgkfoifehcbaaGreatRtAren
namespace Go.Proofs.YtocgkfoifehcbaaGreat
set_option linter.all false
open Go.RowKit
def akb:=@Array.getElem?_append_right
def akn:=@List.take_zero
def tr:AV→Bool
 | .int _ _|.bool _|.str _=>true
 | _=>false
def AV.I0:AV→Bool
 | .tup l=>l.all tr
 | v=>tr v
theorem CV{N N'}{w w'}{ι ι'}{v}{x}(a:tr v=true)(h:Rel N w ι v x):Rel N' w' ι' v x:=by
 cases h<;>first|(cases a;done)|constructor
theorem Q5{N N'}{w w'}{ι ι'}{v}{x}(a:v.I0=true)(h:Rel N w ι v x):Rel N' w' ι' v x:=by
 cases h with
 | tup _ cs vs b c=>exact .tup _ cs vs b fun i x v e d=>CV (n5.1 a x (by grind)) (c i x v e d)
 | _=>first|(cases a;done)|constructor
def yA(s:AS):AV→Option AV
 | .ref i=>match look i s.r,Nat.ble (i+1) TG with|some ar,true=>some (.sl ar.l)|_,_=>none
 | .sref i sz off m=>match look i s.r,Nat.ble (i+1) TG with|some ar,true=>(match Nat.beq ar.sz sz with|true=>some (.sl (List.take m (List.drop off ar.l)))|false=>none)|_,_=>none
 | v=>match v.di [] with|true=>some (gw v)|false=>none
def my(s:AS):c6→Option c6
 | []=>some []
 | v::r=>match yA s v,my s r with|some x,some l=>some (x::l)|_,_=>none
def nV(s:AS):c6→Prop
 | []=>True
 | .sref i _ off m::r=>(match look i s.r with|some ar=>off+m≤ar.l.length|none=>True)∧nV s r
 | _::r=>nV s r
theorem NP{s}:∀{l},nV s l→∀(k i sz off m:Nat) ar,l[k]?=some (.sref i sz off m)→look i s.r=some ar→off+m≤ar.l.length
 | [],_,k,i,sz,off,m,ar,h,_=>by grind
 | v::r,h,0,i,sz,off,m,ar,b,a=>by
  grind[nV]
 | v::r,h,k+1,i,sz,off,m,ar,b,a=>by
  refine NP (l:=r) ?_ k i sz off m ar (by grind) a;cases v<;>first|exact h|exact h.2
theorem Uf{s}:∀{l m},my s l=some m→m.length=l.length
 | [],m,h=>by injection h with h;grind
 | v::r,m,h=>by
  unfold my at h;split at h
  ·rename_i x l' b a;injection h with h;subst h;simp[Uf a]
  grind
theorem U1{s:AS}:∀{l m:c6},my s l=some m→∀(i:Nat) (a:AV),m[i]?=some a→∃b,l[i]?=some b∧yA s b=some a
 | [],m,h,i,a,c=>by injection h with h;subst h;simp at c
 | v::r,m,h,i,a,c=>by
  unfold my at h;split at h
  ·injection h with h;subst h
   cases i with
   | zero=>grind
   | succ i=>simp_all[U1]
  grind
def yo(s:AS)(o:Oper):Option (FuncId×c6×c6) :=
 match o.op with
 | .call c=>match c.callee with
  | .value a=>match s.ev a,dr s c.args.toList with
   | some (.fn f aS),some l=>match my s l with
    | some l'=>some (f,l'++aS,l)
    | none=>none
   | _,_=>none
  | _=>none
 | _=>none
section
variable{d:Cx}{s:AS}
theorem adL{o:Oper}{g:FuncId}{C l:c6}{Q':AV→AS→Prop}(hc:bc d.P g C Q')(Y:cK d.P g=true)(k:yo s o=some (g,C,l))(g0:nV s l){a:Act}{w:World}{ι:Env}(P:aV d s a w ι){K:Act→World→Prop}{R:Exit→Act→World→Prop}
  (hK:∀x v s1 ι1 w',Q' v s1→HS (fun _=>False) (ng w) w' ι1 s1→Rel (NN (fun _=>False) ι1) w' ι1 v x→K (a.put o.dst x) w'):({ o with guard:=none }:Oper).wp d.P a w K R:=by
 unfold yo at k;split at k
 case h_2=>cases k
 rename_i c b0;split at k
 case h_2=>cases k
 rename_i fo H;split at k
 case h_2=>cases k
 rename_i f' aS l0 hf Z;split at k
 case h_2=>cases k
 rename_i l' J;injection k with k;injection k with e1 k;injection k with e2 e3;subst e1;subst e2;subst e3
 obtain⟨q1,q2⟩:=li P Z;unfold Oper.wp;obtain⟨ys,e0,p0,X⟩:=kT (o:={ o with guard:=none }) P b0 H hf Y;rw[e0,ahH];have M:=Uf J;have z:l'.length=(c.args.map a.eval).size:=by rw[M,q1];simp
 refine (hc (fun _=>False) w _ (fun b T=>T.elim) ⟨by simp at z⊢;omega,fun i v y t S=>?_⟩).mono ?_
 ·by_cases hi:i<l'.length
  ·rw[Db hi]at t;rw[Dz (by rw[←z];exact hi)]at S;obtain⟨b,T,f⟩:=U1 J i v t;have i0:(c.args.toList.map a.eval)[i]?=some y:=by rw[←ahk,akd]at S;exact S
   have hr:=q2 i b y T i0;unfold yA at f;split at f
   ·rename_i id;split at f
    ·rename_i ar p G;injection f with f;subst f
     cases hr with
     | ref _ _ A n c h=>exact(P.hs.sr (j3 G) p A n c h bG).mono (lc _) (fun _ _ h=>h.elim) (fun _ _ _=>rfl) (fun _ _ h=>h)
    ·cases f
   ·rename_i id sz off m;split at f
    ·rename_i ar p G;split at f
     ·rename_i F;have F:=n3 F;injection f with f;subst f
      subst F;have D:=NP g0 i id _ off m ar T p;have r:(List.take m (List.drop off ar.l)).length=m:=by rw[IN,ahP];omega
      cases hr with
      | sref _ _ _ _ _ n c c' A B h hB =>
       by_cases hm:m=0
       ·subst hm;simp only[akn];exact .sl0 _ _ _
       rcases hB with hB|⟨g,rfl,rfl,a0,_⟩
       ·omega
       have f0:=(P.hs.sr (j3 G) p _ n c h bG).mono (N':=NN (fun _=>False) bG) (lc _) (fun _ _ h=>by rcases h with h|⟨_,h⟩;exact h.elim;cases h) (fun _ _ _=>rfl) (fun _ _ h=>h);have E:Rel (fun _=>False) w bG (.sl ar.l) (.slice (some ⟨g,0,none⟩) n c):=f0.mono (lc _) (fun _ _ h=>h.elim) (fun _ _ _=>rfl) (fun _ _ h=>h);generalize N:ar.l=u at E D r⊢;obtain⟨v1,r0,U,k2,k3,_⟩:=P.hs.arrs id ar p (by rw[h];rfl);rw[h]at U;injection U with U;subst U
       have q0:n=u.length:=by
        obtain⟨t,h0⟩|⟨_,_,_,t,_⟩:=k2.2
        ·cases t
        ·injection t with _ t _;rw[←N];exact t
       cases E with
       | sl0=>simp at D;omega
       | sl _ _ b o c0 k0 m0 hz V hn k W d0 o0 =>
        have Q:k0=ar.sz:=by
         have h4:=hz u[0] (q6 (by omega));have h5:=k3 u[0] (by rw[N];exact q6 (by omega));omega
        subst Q;have e:List.drop off (List.take (off+m) u)=List.take m (List.drop off u):=by
         rw[List.drop_take];congr 1;omega
        have L:(List.drop off (List.take (off+m) u)).length=m:=by rw[e];exact r
        have I:∀j,(List.drop off (List.take (off+m) u))[j]?=if off+j<off+m then u[off+j]? else none:=fun j=>by
         rw[af8,z3]
        rw[←e];have O:Rel (NN (fun _=>False) bG) w bG (.sl (List.drop off (List.take (off+m) u))) (.slice (some ⟨g,0+off*ar.sz,none⟩) (List.drop off (List.take (off+m) u)).length c'):=by
         refine .sl _ _ _ _ _ ar.sz (fun j i=>m0 (off+j) i) (fun e q=>hz e (oR (w3 q))) V (fun h=>by rcases h with h|⟨_,h⟩;exact h.elim;cases h) (fun j i=>k _ _) (fun j e q i x hx=>?_) (fun j e q i x hx=>?_) (by rw[L];exact a0)
         ·rw[I]at q;split at q
          ·have:=W (off+j) e q i x hx;rw[show 0+off*ar.sz+j*ar.sz+i=0+(off+j)*ar.sz+i by rw[aiA];omega];exact this
          ·cases q
         ·rw[I]at q;split at q
          ·exact(d0 (off+j) e q i x hx).mono (lc _) (fun _ _ h=>by rcases h with h|⟨_,h⟩;exact h.elim;cases h) (fun _ _ _=>rfl) (fun _ _ h=>h)
          ·cases q
        rw[L,If]at O;exact O.mono (lc _) (fun _ _ h=>h.elim) (fun _ _ _=>rfl) (fun _ _ h=>h)
     ·cases f
    ·cases f
   ·split at f
    ·rename_i hp;injection f with f;subst f
     exact Aq ((hr.pure hp bG).mono (lc _) (fun _ _ h=>h.elim) (fun _ _ _=>rfl) (fun _ _ h=>h))
    ·cases f
  ·rw[Dy (by omega)]at t;rw[akb (by rw[←z];omega)]at S;rw[z]at t;exact(X _ v y t (by simpa using S)).mono (lc _) (fun _ _ h=>h.elim) (fun _ _ _=>rfl) (fun _ _ h=>h)
 grind
end
theorem YY s t v:yA (s.tt t) v=yA s v:=by rfl
theorem KX s t:∀l:c6,my (s.tt t) l=my s l
 | []=>rfl
 | v::r=>by unfold my;rw[YY,KX s t r]
theorem Hj s t:∀l:c6,nV s l→nV (s.tt t) l
 | [],h=>h
 | v::r,h=>by
  cases v<;>first|exact Hj s t r h|exact⟨h.1,Hj s t r h.2⟩
end Go.Proofs.YtocgkfoifehcbaaGreat
