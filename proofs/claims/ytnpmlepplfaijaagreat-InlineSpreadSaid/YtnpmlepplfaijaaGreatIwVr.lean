/- Structs one of whose slices is known to be nil where it is empty; calls that are handed them. No program in sight. -/
import Derived.Test.YtnpmlepplfaijaaGreatIwVo
namespace Go.Proofs.YtnpmlepplfaijaaGreat
set_option linter.all false
open Go.RowKit
def pu{α:Type}(enc:α→List AV):List α→AV
 | []=>.nils
 | x::r=>.sl ((x::r).map enc)
theorem Xq{α:Type}{enc:α→List AV}{l:List α}(h:l.isEmpty=true):pu enc l=.nils:=by
 cases l with
 | nil=>rfl
 | cons x r=>cases h
theorem aaD{α:Type}(enc:α→List AV)(l:List α):eD (pu enc l)=.sl (l.map enc):=by cases l<;>rfl
theorem aaC{α:Type}(enc:α→List AV)(l:List α):(pu enc l).kv=pu enc l:=by cases l<;>rfl
theorem abV{α:Type}(enc:α→List AV)(l:List α):(pu enc l).pX=true:=by cases l<;>rfl
theorem J1{α:Type}(u:List Nat)(enc:α→List AV)(l:List α):(pu enc l).cJ u=true:=by cases l<;>rfl
def NJ(s:AS)(o:Oper):Option (FuncId×List AV×List AV) :=
 match o.op with
 | .call c=>match c.callee with
  | .value fo=>match s.ev fo,c9 s c.args.toList with
   | some (.fn f bb),some l=>some (f,l,bb)
   | _,_=>none
  | _=>none
 | _=>none
section
variable{cx:Cx}{Q:Exit→Act→World→Prop}{ks:List aq}{s:AS}{all:Array Oper}{f:Func}{p:List Nat}{i:Nat}
theorem W4{g:FuncId}{args:List AV}{V:AV}(hc:aO cx.P g args (fun v _=>v=V))(k:OT cx Q ks all (aX f p (i+1)) (s.put (bd f p i).dst V))(hp:cZ [] args=true)(hl:aX f p i=bd f p i::aX f p (i+1):=by kernel_rfl)(hg:cw all s (bd f p i)=true:=by kernel_rfl)(hcl:cN cx.P g=true:=by kernel_rfl)
  (h1:NJ s (bd f p i)=some (g,args,[]):=by kernel_rfl) (hd:cB cx.n (bd f p i).dst=true:=by kernel_rfl) (hv:V.cJ []=true):OT cx Q ks all (aX f p i) s:=by
 rw[hl];refine gf _ hg fun a w ι hs=>?_;refine wpList_plain rfl fun K hK=>?_;unfold NJ at h1;split at h1
 case h_2=>cases h1
 rename_i c hop;split at h1
 case h_2=>cases h1
 rename_i fo hcal;split at h1
 case h_2=>cases h1
 rename_i f' bb l hf hl';simp only[Option.some.injEq,Prod.mk.injEq]at h1;obtain⟨rfl,rfl,rfl⟩:=h1;unfold Oper.wp;obtain⟨ys,hrc,hc1,_⟩:=kM (o:={ bd f p i with guard:=none }) hs hop hcal hf hcl;have hys:ys=[]:=List.eq_nil_of_length_eq_zero (by simpa using hc1.symm);subst hys;rw[hrc,Oper.upon_enter];obtain⟨q1,q2⟩:=kD hs hl';refine (hc (NN cx.M ι) w _ (fun b hb=>nL hs.hs hb) ⟨by simp at q1⊢;omega,fun i v y hv hy=>?_⟩).mono ?_
 ·exact(q2 i v y hv (by simpa using hy)).pure (jI hp i v hv) bO
 ·rintro e w' ⟨x,v,s1,ι1,rfl,rfl,hhs,hr⟩
  have h3:Rel (NN cx.M ι) w' ι v x:=(hr.pure hv ι).mono (Nat.le_refl _) (fun b _ hb=>.inl hb) (fun _ _ _=>rfl) (fun _ _ h=>h);exact hK _ _ (k _ _ _ ((hs.jg hhs.below.plain).put (fH hd) h3))
end
theorem Ze{P:Program}{n:Nat}{s:AS}{o:Oper}{α:Type}[Inhabited α](id:Nat)(et:TypeId)(sz off:Nat)(enc exp:α→List AV){L:List α}{j:Nat}(new:α)(hj:j<L.length)(he:∀a,enc a=exp a)(nv:List AV)(hu:cZ [] nv=true)(h:vh P s o=some (id,et,sz,j,off,L.map enc):=by kernel_rfl)
  (hq:kS s o=nv:=by kernel_rfl) (hl:Nat.ble (off+nv.length) (exp (L.getD j default)).length=true:=by kernel_rfl) (hs:fg off nv (exp (L.getD j default))=exp new:=by kernel_rfl) :
  br P n s o=some (qX id ⟨et,sz,(L.set j new).map enc⟩ s):=tL id et sz off enc exp new hj he h (by rw[hq,hl,hu];rfl) (by rw[hq];exact hs)
theorem HS.Uk{M:Nat→Prop}{w0:aF}{w:World}{ι:Env}{s:AS}(h:HS M w0 w ι s){id:Nat}{ar:bo}(ha:look id s.r=some ar):HS M w0 w ι { s with r:=aU id ⟨ar.e,ar.sz,ar.l.map (fun e=>e.map eD)⟩ s.r }:=by
 refine⟨h.below,h.old,h.use,h.own,h.inj,h.ko,fun i a hi=>?_,h.objs,fun i a hi hp=>?_,h.pin⟩
 ·have hi':look i (aU id _ s.r)=some a:=hi;rw[ce]at hi';split at hi'
  ·rename_i e;subst e;exact h.kr i ar ha
  ·exact h.kr i a hi'
 ·have hi':look i (aU id _ s.r)=some a:=hi;rw[ce]at hi';split at hi'
  ·rename_i e;subst e;injection hi' with hi';subst hi'
   obtain⟨v,xs,h1,h2,h3,h4,h5⟩:=h.arrs i ar ha hp;refine⟨v,xs,h1,by simpa using h2,fun e he=>?_,h4,fun j e hj k c hk=>?_⟩
   ·obtain⟨e',he',rfl⟩:=List.mem_map.1 he;rw[List.length_map];exact h3 e' he'
   ·simp only[List.getElem?_map]at hj;cases hq:ar.l[j]? with
    | none=>rw[hq]at hj;cases hj
    | some e' =>
     rw[hq]at hj;injection hj with hj;subst hj
     rw[List.getElem?_map]at hk;cases hc:e'[k]? with
     | none=>rw[hc]at hk;cases hk
     | some c' =>
      rw[hc]at hk;injection hk with hk;subst hk
      obtain⟨x,hx,hr⟩:=h5 j e' hq k c' hc;refine⟨x,hx,?_⟩;rcases hr with hr|⟨h0,m,r,rfl,h6⟩|⟨h0,e,sz,l,r,rfl,h6⟩
      ·exact .inl (GC hr)
      ·exact .inr (.inl ⟨h0,m,r,rfl,h6⟩)
      ·exact .inr (.inr ⟨h0,e,sz,l,r,rfl,h6⟩)
  ·exact h.arrs i a hi' hp
def Rq(id:Nat)(ar:bo)(s:AS):AS:={ s with r:=aU id ar s.r }
section
variable{cx:Cx}{Q:Exit→Act→World→Prop}{ks:List aq}{s:AS}{e:Exit}
theorem Xh{α:Type}(id:Nat)(et:TypeId)(sz:Nat)(cc enc:α→List AV)(L:List α)(he:∀x,(cc x).map eD=enc x)(k:VE cx Q ks e (Rq id ⟨et,sz,L.map enc⟩ s))(ha:look id s.r=some ⟨et,sz,L.map cc⟩:=by kernel_rfl):VE cx Q ks e s:=fun a w ι hs=>by
 have h1:=hs.hs.Uk ha;have e1:(L.map cc).map (fun e=>e.map eD)=L.map enc:=by rw[List.map_map];exact List.map_congr_left fun x _=>he x
 simp only[e1]at h1;exact k a w ι ⟨⟨h1.below,h1.old,h1.use,h1.own,h1.inj,h1.ko,h1.kr,h1.objs,h1.arrs,h1.pin⟩,hs.dfr,hs.n,hs.tmp⟩
end
end Go.Proofs.YtnpmlepplfaijaaGreat
