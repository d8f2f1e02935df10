/- Calls that look at own slices and at parts of them. No program in sight. -/
import Derived.Test.YtocgkfoifehcbaaGreatRdOwn
import Derived.Test.YtocgkfoifehcbaaGreatRdAren
namespace Go.Proofs.YtocgkfoifehcbaaGreat
set_option linter.all false
open Go.RowKit
def akU:=@Array.getElem?_append_right
def ak6:=@List.take_zero
def vk:AV→Bool
 | .int _ _|.bool _|.str _=>true
 | _=>false
def AV.Gb:AV→Bool
 | .tup l=>l.all vk
 | v=>vk v
theorem Ed{N N'}{w w'}{ι ι'}{v}{x}(a:vk v=true)(h:Rel N w ι v x):Rel N' w' ι' v x:=by
 cases h<;>first|(cases a;done)|constructor
theorem TE{N N'}{w w'}{ι ι'}{v}{x}(a:v.Gb=true)(h:Rel N w ι v x):Rel N' w' ι' v x:=by
 cases h with
 | tup _ cs vs b c=>exact .tup _ cs vs b fun i x v e d=>Ed (n3.1 a x (by grind)) (c i x v e d)
 | _=>first|(cases a;done)|constructor
def z5(s:AS):AV→Option AV
 | .ref i=>match look i s.r,Nat.ble (i+1) TG with|some ar,true=>some (.sl ar.l)|_,_=>none
 | .sref i sz off m=>match look i s.r,Nat.ble (i+1) TG with|some ar,true=>(match Nat.beq ar.sz sz with|true=>some (.sl (List.take m (List.drop off ar.l)))|false=>none)|_,_=>none
 | v=>match v.de [] with|true=>some (gu v)|false=>none
def nz(s:AS):c6→Option c6
 | []=>some []
 | v::r=>match z5 s v,nz s r with|some x,some l=>some (x::l)|_,_=>none
def nX(s:AS):c6→Prop
 | []=>True
 | .sref i _ off m::r=>(match look i s.r with|some ar=>off+m≤ar.l.length|none=>True)∧nX s r
 | _::r=>nX s r
theorem U5{s}:∀{l},nX s l→∀(k i sz off m:Nat) ar,l[k]?=some (.sref i sz off m)→look i s.r=some ar→off+m≤ar.l.length
 | [],_,k,i,sz,off,m,ar,h,_=>by grind
 | v::r,h,0,i,sz,off,m,ar,b,a=>by
  grind[nX]
 | v::r,h,k+1,i,sz,off,m,ar,b,a=>by
  refine U5 (l:=r) ?_ k i sz off m ar (by grind) a;cases v<;>first|exact h|exact h.2
theorem PG{s}:∀{l m},nz s l=some m→m.length=l.length
 | [],m,h=>by injection h with h;grind
 | v::r,m,h=>by
  unfold nz at h;split at h
  ·rename_i x l' b a;injection h with h;subst h;simp[PG a]
  grind
theorem Uu{s:AS}:∀{l m:c6},nz s l=some m→∀(i:Nat) (a:AV),m[i]?=some a→∃b,l[i]?=some b∧z5 s b=some a
 | [],m,h,i,a,c=>by injection h with h;subst h;simp at c
 | v::r,m,h,i,a,c=>by
  unfold nz at h;split at h
  ·injection h with h;subst h
   cases i with
   | zero=>grind
   | succ i=>simp_all[Uu]
  grind
def AY(s:AS)(o:Oper):Option (FuncId×c6×c6) :=
 match o.op with
 | .call c=>match c.callee with
  | .value a=>match s.ev a,dj s c.args.toList with
   | some (.fn f aR),some l=>match nz s l with
    | some l'=>some (f,l'++aR,l)
    | none=>none
   | _,_=>none
  | _=>none
 | _=>none
section
variable{d:Cx}{s:AS}
theorem abg{o:Oper}{g:FuncId}{C l:c6}{Q':AV→AS→Prop}(hc:aY d.P g C Q')(Y:cI d.P g=true)(k:AY s o=some (g,C,l))(g0:nX s l){a:Act}{w:World}{ι:Env}(P:aV d s a w ι){K:Act→World→Prop}{R:Exit→Act→World→Prop}
  (hK:∀x v s1 ι1 w',Q' v s1→HS (fun _=>False) (nj w) w' ι1 s1→Rel (NN (fun _=>False) ι1) w' ι1 v x→K (a.put o.dst x) w'):({ o with guard:=none }:Oper).wp d.P a w K R:=by
 unfold AY at k;split at k
 case h_2=>cases k
 rename_i c b0;split at k
 case h_2=>cases k
 rename_i fo H;split at k
 case h_2=>cases k
 rename_i f' aR l0 hf Z;split at k
 case h_2=>cases k
 rename_i l' J;injection k with k;injection k with e1 k;injection k with e2 e3;subst e1;subst e2;subst e3
 obtain⟨q1,q2⟩:=lr P Z;unfold Oper.wp;obtain⟨ys,e0,p0,X⟩:=kF (o:={ o with guard:=none }) P b0 H hf Y;rw[e0,ahR];have M:=PG J;have z:l'.length=(c.args.map a.eval).size:=by rw[M,q1];simp
 refine (hc (fun _=>False) w _ (fun b T=>T.elim) ⟨by simp at z⊢;omega,fun i v y t S=>?_⟩).mono ?_
 ·by_cases hi:i<l'.length
  ·rw[zt hi]at t;rw[Dz (by rw[←z];exact hi)]at S;obtain⟨b,T,f⟩:=Uu J i v t;have i0:(c.args.toList.map a.eval)[i]?=some y:=by rw[←aix,akW]at S;exact S
   have hr:=q2 i b y T i0;unfold z5 at f;split at f
   ·rename_i id;split at f
    ·rename_i ar p G;injection f with f;subst f
     cases hr with
     | ref _ _ A n c h=>exact(P.hs.uj (kb G) p A n c h bH).mono (la _) (fun _ _ h=>h.elim) (fun _ _ _=>rfl) (fun _ _ h=>h)
    ·cases f
   ·rename_i id sz off m;split at f
    ·rename_i ar p G;split at f
     ·rename_i F;have F:=nx F;injection f with f;subst f
      subst F;have D:=U5 g0 i id _ off m ar T p;have r:(List.take m (List.drop off ar.l)).length=m:=by rw[afN,ak2];omega
      cases hr with
      | sref _ _ _ _ _ n c c' A B h hB =>
       by_cases hm:m=0
       ·subst hm;simp only[ak6];exact .sl0 _ _ _
       rcases hB with hB|⟨g,rfl,rfl,a0,_⟩
       ·omega
       have f0:=(P.hs.uj (kb G) p _ n c h bH).mono (N':=NN (fun _=>False) bH) (la _) (fun _ _ h=>by rcases h with h|⟨_,h⟩;exact h.elim;cases h) (fun _ _ _=>rfl) (fun _ _ h=>h);have E:Rel (fun _=>False) w bH (.sl ar.l) (.slice (some ⟨g,0,none⟩) n c):=f0.mono (la _) (fun _ _ h=>h.elim) (fun _ _ _=>rfl) (fun _ _ h=>h);generalize N:ar.l=u at E D r⊢;obtain⟨v1,r0,U,k2,k3,_⟩:=P.hs.arrs id ar p (by rw[h];rfl);rw[h]at U;injection U with U;subst U
       have q0:n=u.length:=by
        obtain⟨t,h0⟩|⟨_,_,_,t,_⟩:=k2.2
        ·cases t
        ·injection t with _ t _;rw[←N];exact t
       cases E with
       | sl0=>simp at D;omega
       | sl _ _ b o c0 k0 m0 hz V hn k W d0 o0 =>
        have Q:k0=ar.sz:=by
         have h4:=hz u[0] (qv (by omega));have h5:=k3 u[0] (by rw[N];exact qv (by omega));omega
        subst Q;have e:List.drop off (List.take (off+m) u)=List.take m (List.drop off u):=by
         rw[List.drop_take];congr 1;omega
        have L:(List.drop off (List.take (off+m) u)).length=m:=by rw[e];exact r
        have I:∀j,(List.drop off (List.take (off+m) u))[j]?=if off+j<off+m then u[off+j]? else none:=fun j=>by
         rw[ahn,By]
        rw[←e];have O:Rel (NN (fun _=>False) bH) w bH (.sl (List.drop off (List.take (off+m) u))) (.slice (some ⟨g,0+off*ar.sz,none⟩) (List.drop off (List.take (off+m) u)).length c'):=by
         refine .sl _ _ _ _ _ ar.sz (fun j i=>m0 (off+j) i) (fun e q=>hz e (u6 (OR q))) V (fun h=>by rcases h with h|⟨_,h⟩;exact h.elim;cases h) (fun j i=>k _ _) (fun j e q i x hx=>?_) (fun j e q i x hx=>?_) (by rw[L];exact a0)
         ·rw[I]at q;split at q
          ·have:=W (off+j) e q i x hx;rw[show 0+off*ar.sz+j*ar.sz+i=0+(off+j)*ar.sz+i by rw[ajK];omega];exact this
          ·cases q
         ·rw[I]at q;split at q
          ·exact(d0 (off+j) e q i x hx).mono (la _) (fun _ _ h=>by rcases h with h|⟨_,h⟩;exact h.elim;cases h) (fun _ _ _=>rfl) (fun _ _ h=>h)
          ·cases q
        rw[L,IF]at O;exact O.mono (la _) (fun _ _ h=>h.elim) (fun _ _ _=>rfl) (fun _ _ h=>h)
     ·cases f
    ·cases f
   ·split at f
    ·rename_i hp;injection f with f;subst f
     exact xT ((hr.pure hp bH).mono (la _) (fun _ _ h=>h.elim) (fun _ _ _=>rfl) (fun _ _ h=>h))
    ·cases f
  ·rw[z3 (by omega)]at t;rw[akU (by rw[←z];omega)]at S;rw[z]at t;exact(X _ v y t (by simpa using S)).mono (la _) (fun _ _ h=>h.elim) (fun _ _ _=>rfl) (fun _ _ h=>h)
 grind
end
theorem ai9 s t v:z5 (s.tt t) v=z5 s v:=by rfl
theorem Nx s t:∀l:c6,nz (s.tt t) l=nz s l
 | []=>rfl
 | v::r=>by unfold nz;rw[ai9,Nx s t r]
theorem Kz s t:∀l:c6,nX s l→nX (s.tt t) l
 | [],h=>h
 | v::r,h=>by
  cases v<;>first|exact Kz s t r h|exact⟨h.1,Kz s t r h.2⟩
end Go.Proofs.YtocgkfoifehcbaaGreat
