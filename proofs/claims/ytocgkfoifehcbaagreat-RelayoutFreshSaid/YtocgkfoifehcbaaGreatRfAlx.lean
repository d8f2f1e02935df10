/- Calls that look at own slices and at parts of them. No program in sight. -/
import Derived.Test.YtocgkfoifehcbaaGreatRfOwn
import Derived.Test.YtocgkfoifehcbaaGreatRfAren
namespace Go.Proofs.YtocgkfoifehcbaaGreat
set_option linter.all false
open Go.RowKit
def pb:AV→Bool
 | .int _ _|.bool _|.str _=>true
 | _=>false
def AV.Af:AV→Bool
 | .tup l=>l.all pb
 | v=>pb v
theorem vt{N N':Nat→Prop}{w w':World}{ι ι':Env}{v:AV}{x:Value}(hs:pb v=true)(h:Rel N w ι v x):Rel N' w' ι' v x:=by
 cases h<;>first|(cases hs;done)|constructor
theorem Gk{N N':Nat→Prop}{w w':World}{ι ι':Env}{v:AV}{x:Value}(hs:v.Af=true)(h:Rel N w ι v x):Rel N' w' ι' v x:=by
 cases h with
 | tup _ cs vs hl hr=>exact .tup _ cs vs hl fun i x v hx hv=>vt (List.all_eq_true.1 hs x (List.mem_of_getElem? hx)) (hr i x v hx hv)
 | _=>first|(cases hs;done)|constructor
def tr(s:AS):AV→Option AV
 | .ref i=>match look i s.r,Nat.ble (i+1) TG with|some ar,true=>some (.sl ar.l)|_,_=>none
 | .sref i sz off m=>match look i s.r,Nat.ble (i+1) TG with|some ar,true=>(match Nat.beq ar.sz sz with|true=>some (.sl (List.take m (List.drop off ar.l)))|false=>none)|_,_=>none
 | v=>match v.cL [] with|true=>some (fP v)|false=>none
def i9(s:AS):List AV→Option (List AV)
 | []=>some []
 | v::r=>match tr s v,i9 s r with|some x,some l=>some (x::l)|_,_=>none
def kC(s:AS):List AV→Prop
 | []=>True
 | .sref i _ off m::r=>(match look i s.r with|some ar=>off+m≤ar.l.length|none=>True)∧kC s r
 | _::r=>kC s r
theorem HK{s:AS}:∀{l:List AV},kC s l→∀(k i sz off m:Nat) (ar:br),l[k]?=some (.sref i sz off m)→look i s.r=some ar→off+m≤ar.l.length
 | [],_,k,i,sz,off,m,ar,h,_=>by simp at h
 | v::r,h,0,i,sz,off,m,ar,hk,ha=>by
  simp at hk;subst hk;unfold kC at h;rw[ha]at h;exact h.1
 | v::r,h,k+1,i,sz,off,m,ar,hk,ha=>by
  refine HK (l:=r) ?_ k i sz off m ar (by simpa using hk) ha;cases v<;>first|exact h|exact h.2
theorem Hv{s:AS}:∀{l m:List AV},i9 s l=some m→m.length=l.length
 | [],m,h=>by injection h with h;subst h;rfl
 | v::r,m,h=>by
  unfold i9 at h;split at h
  ·rename_i x l' h1 h2;injection h with h;subst h;simp[Hv h2]
  ·cases h
theorem Jw{s:AS}:∀{l m:List AV},i9 s l=some m→∀(i:Nat) (a:AV),m[i]?=some a→∃b,l[i]?=some b∧tr s b=some a
 | [],m,h,i,a,ha=>by injection h with h;subst h;simp at ha
 | v::r,m,h,i,a,ha=>by
  unfold i9 at h;split at h
  ·rename_i x l' h1 h2;injection h with h;subst h
   cases i with
   | zero=>exact⟨v,rfl,by simpa using ha ▸ h1⟩
   | succ i=>simpa using Jw h2 i a (by simpa using ha)
  ·cases h
def rS(s:AS)(o:Oper):Option (FuncId×List AV×List AV) :=
 match o.op with
 | .call c=>match c.callee with
  | .value fo=>match s.ev fo,cG s c.args.toList with
   | some (.fn f aP),some l=>match i9 s l with
    | some l'=>some (f,l'++aP,l)
    | none=>none
   | _,_=>none
  | _=>none
 | _=>none
section
variable{cx:Cx}{s:AS}
theorem TT{o:Oper}{g:FuncId}{args l:List AV}{Q':AV→AS→Prop}(hc:aU cx.P g args Q')(hcl:cf cx.P g=true)(h1:rS s o=some (g,args,l))(hsr:kC s l){a:Act}{w:World}{ι:Env}(hs:aN cx s a w ι){K:Act→World→Prop}{R:Exit→Act→World→Prop}
  (hK:∀x v s1 ι1 w',Q' v s1→HS (fun _=>False) (jy w) w' ι1 s1→Rel (NN (fun _=>False) ι1) w' ι1 v x→K (a.put o.dst x) w'):({ o with guard:=none }:Oper).wp cx.P a w K R:=by
 unfold rS at h1;split at h1
 case h_2=>cases h1
 rename_i c hop;split at h1
 case h_2=>cases h1
 rename_i fo hcal;split at h1
 case h_2=>cases h1
 rename_i f' aP l0 hf hl';split at h1
 case h_2=>cases h1
 rename_i l' hio;injection h1 with h1;injection h1 with e1 h1;injection h1 with e2 e3;subst e1;subst e2;subst e3
 obtain⟨q1,q2⟩:=jo hs hl';unfold Oper.wp;obtain⟨ys,hrc,hc1,hc2⟩:=iR (o:={ o with guard:=none }) hs hop hcal hf hcl;rw[hrc,Oper.upon_enter];have hlen:=Hv hio;have hlc:l'.length=(c.args.map a.eval).size:=by rw[hlen,q1];simp
 refine (hc (fun _=>False) w _ (fun b hb=>hb.elim) ⟨by simp at hlc⊢;omega,fun i v y hv hy=>?_⟩).mono ?_
 ·by_cases hi:i<l'.length
  ·rw[List.getElem?_append_left hi]at hv;rw[Array.getElem?_append_left (by rw[←hlc];exact hi)]at hy;obtain⟨b,hb,hba⟩:=Jw hio i v hv;have hy':(c.args.toList.map a.eval)[i]?=some y:=by rw[←Array.getElem?_toList,Array.toList_map]at hy;exact hy
   have hr:=q2 i b y hb hy';unfold tr at hba;split at hba
   ·rename_i id;split at hba
    ·rename_i ar har htg;injection hba with hba;subst hba
     cases hr with
     | ref _ _ A n c h=>exact(hs.hs.oh (Nat.le_of_ble_eq_true htg) har A n c h bn).mono (Nat.le_refl _) (fun _ _ h=>h.elim) (fun _ _ _=>rfl) (fun _ _ h=>h)
    ·cases hba
   ·rename_i id sz off m;split at hba
    ·rename_i ar har htg;split at hba
     ·rename_i hsz;have hsz:=Nat.eq_of_beq_eq_true hsz;injection hba with hba;subst hba
      subst hsz;have hfit:=HK hsr i id _ off m ar hb har;have hlen2:(List.take m (List.drop off ar.l)).length=m:=by rw[List.length_take,List.length_drop];omega
      cases hr with
      | sref _ _ _ _ _ n c c' A B h hB =>
       by_cases hm:m=0
       ·subst hm;simp only[List.take_zero];exact .sl0 _ _ _
       rcases hB with hB|⟨g,rfl,rfl,hmc,_⟩
       ·omega
       have hse:=(hs.hs.oh (Nat.le_of_ble_eq_true htg) har _ n c h bn).mono (N':=NN (fun _=>False) bn) (Nat.le_refl _) (fun _ _ h=>by rcases h with h|⟨_,h⟩;exact h.elim;cases h) (fun _ _ _=>rfl) (fun _ _ h=>h);have hse2:Rel (fun _=>False) w bn (.sl ar.l) (.slice (some ⟨g,0,none⟩) n c):=hse.mono (Nat.le_refl _) (fun _ _ h=>h.elim) (fun _ _ _=>rfl) (fun _ _ h=>h);generalize hll:ar.l=ll at hse2 hfit hlen2⊢;obtain⟨v1,xs1,k1,k2,k3,_⟩:=hs.hs.arrs id ar har (by rw[h];rfl);rw[h]at k1;injection k1 with k1;subst k1
       have hnn:n=ll.length:=by
        obtain⟨hv,h0⟩|⟨_,_,_,hv,_⟩:=k2.2
        ·cases hv
        ·injection hv with _ hv _;rw[←hll];exact hv
       cases hse2 with
       | sl0=>simp at hfit;omega
       | sl _ _ b o c0 sz0 val hz hb' hn h1 hc' hr' hcap =>
        have hsz0:sz0=ar.sz:=by
         have h4:=hz ll[0] (List.getElem_mem (by omega));have h5:=k3 ll[0] (by rw[hll];exact List.getElem_mem (by omega));omega
        subst hsz0;have e:List.drop off (List.take (off+m) ll)=List.take m (List.drop off ll):=by
         rw[List.drop_take];congr 1;omega
        have hl3:(List.drop off (List.take (off+m) ll)).length=m:=by rw[e];exact hlen2
        have hg3:∀j,(List.drop off (List.take (off+m) ll))[j]?=if off+j<off+m then ll[off+j]? else none:=fun j=>by
         rw[List.getElem?_drop,List.getElem?_take]
        rw[←e];have hr3:Rel (NN (fun _=>False) bn) w bn (.sl (List.drop off (List.take (off+m) ll))) (.slice (some ⟨g,0+off*ar.sz,none⟩) (List.drop off (List.take (off+m) ll)).length c'):=by
         refine .sl _ _ _ _ _ ar.sz (fun j i=>val (off+j) i) (fun e he=>hz e (List.mem_of_mem_take (List.mem_of_mem_drop he))) hb' (fun h=>by rcases h with h|⟨_,h⟩;exact h.elim;cases h) (fun j i=>h1 _ _) (fun j e he i x hx=>?_) (fun j e he i x hx=>?_) (by rw[hl3];exact hmc)
         ·rw[hg3]at he;split at he
          ·have:=hc' (off+j) e he i x hx;rw[show 0+off*ar.sz+j*ar.sz+i=0+(off+j)*ar.sz+i by rw[Nat.add_mul];omega];exact this
          ·cases he
         ·rw[hg3]at he;split at he
          ·exact(hr' (off+j) e he i x hx).mono (Nat.le_refl _) (fun _ _ h=>by rcases h with h|⟨_,h⟩;exact h.elim;cases h) (fun _ _ _=>rfl) (fun _ _ h=>h)
          ·cases he
        rw[hl3,Nat.zero_add]at hr3;exact hr3.mono (Nat.le_refl _) (fun _ _ h=>h.elim) (fun _ _ _=>rfl) (fun _ _ h=>h)
     ·cases hba
    ·cases hba
   ·split at hba
    ·rename_i hp;injection hba with hba;subst hba
     exact wJ ((hr.pure hp bn).mono (Nat.le_refl _) (fun _ _ h=>h.elim) (fun _ _ _=>rfl) (fun _ _ h=>h))
    ·cases hba
  ·rw[List.getElem?_append_right (by omega)]at hv;rw[Array.getElem?_append_right (by rw[←hlc];omega)]at hy;rw[hlc]at hv;exact(hc2 _ v y hv (by simpa using hy)).mono (Nat.le_refl _) (fun _ _ h=>h.elim) (fun _ _ _=>rfl) (fun _ _ h=>h)
 ·rintro e w' ⟨x,v,s1,ι1,rfl,hq,hhs,hr⟩
  exact hK x v s1 ι1 w' hq hhs hr
end
theorem QI(s:AS)(t:List (Nat×AV))(v:AV):tr (s.tt t) v=tr s v:=by cases v<;>rfl
theorem CI(s:AS)(t:List (Nat×AV)):∀l:List AV,i9 (s.tt t) l=i9 s l
 | []=>rfl
 | v::r=>by unfold i9;rw[QI,CI s t r]
theorem B1(s:AS)(t:List (Nat×AV)):∀l:List AV,kC s l→kC (s.tt t) l
 | [],h=>h
 | v::r,h=>by
  cases v<;>first|exact B1 s t r h|exact⟨h.1,B1 s t r h.2⟩
end Go.Proofs.YtocgkfoifehcbaaGreat
