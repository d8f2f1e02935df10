/- Slices of structs whose one slice field is the cell's own: short rules. No program in sight. -/
import Derived.Test.YtnpmlepplfaijaaGreatIwVn
import Derived.Test.YtnpmlepplfaijaaGreatIwVdt
namespace Go.Proofs.YtnpmlepplfaijaaGreat
set_option linter.all false
open Go.RowKit
section
variable{P:Program}{n:Nat}{s:AS}{o:Oper}{α β:Type}[Inhabited α]
theorem Ux(d id:Nat)(et:TypeId)(sz:Nat){l new:List (List AV)}{bytes:Nat}(hz:new.all (fun e=>e.length == sz)=true)(hf:fits (l.length+new.length) bytes=true)(h:vX P n s o=some (d,id,et,sz,bytes,new,l)):
  br P n s o=some (iJ d id ⟨et,sz,l++new⟩ s):=by
 unfold vX at h;split at h
 case h_2=>cases h
 rename_i d' x y T T' hd hop;split at h
 case h_2=>cases h
 rename_i hb h1 h2 h3;simp only[Bool.and_eq_true]at hb;have hT:=Nat.eq_of_beq_eq_true hb.1;split at h
 case h_2=>cases h
 rename_i et' sz' l' h5;split at h
 case h_2=>cases h
 rename_i h6;simp only[Bool.and_eq_true,Bool.not_eq_true']at h6;have h7:=Nat.eq_of_beq_eq_true h6.1.1;have h8:=Nat.eq_of_beq_eq_true h6.1.2;have h9:=h6.2;simp only[Option.some.injEq,Prod.mk.injEq]at h;obtain⟨rfl,rfl,rfl,rfl,rfl,rfl,rfl⟩:=h;have hT':T=T':=hT;subst hT';subst h7;subst h8;exact Yd T x y _ hop hd hb.2 h1 h2 h5 h3 hz hf h9
theorem Tp(d id:Nat)(et:TypeId)(sz q:Nat)(ek:TypeId)(sk:Nat)(enc exp:α→List AV)(encK:β→List AV){L:List (α×Option (List β))}(x0:α)(c:AV){bytes:Nat}(he:∀a,enc a=exp a)(hz:∀a,(enc a).length=sz)(hf:fits (L.length+1) bytes=true)
  (h:vX P n s o=some (d,id,et,sz,bytes,[(exp x0).set q c],L.map (cc enc q ek sk encK)):=by kernel_rfl) :
  br P n s o=some (iJ d id ⟨et,sz,L.map (cc enc q ek sk encK)++[(exp x0).set q c]⟩ s) :=
 Ux d id et sz (by simp[←he,hz]) (by simpa using hf) h
theorem zr(j q:Nat)(enc:α→List AV)(c:AV)(L:List α)(h:Ba P n s o=some (cU (L.map enc) j q c):=by kernel_rfl):br P n s o=some (s.put o.dst (.int .i64 L.length)):=by
 have h1:=bq (α:=List AV) (P:=P) (n:=n) (s:=s) (o:=o) id (cU (L.map enc) j q c) (by rw[List.map_id];exact h);rw[uJ,List.length_map]at h1;exact h1
theorem EB(id sz j q:Nat)(enc:α→List AV)(c:AV){L:List α}{i:Int}(hb:aY i L.length=true)(h:ug P n s o=some (id,sz,i,cU (L.map enc) j q c):=by kernel_rfl):br P n s o=some (s.put o.dst (.eptr id sz i.toNat 0)):=by
 unfold ug at h;split at h
 case h_2=>cases h
 rename_i T x y hd hop;obtain⟨d,hd,hn⟩:=kJ hd;split at h
 case h_2=>cases h
 rename_i h1 h2 h3 h4;split at h
 case h_2=>cases h
 rename_i h5;split at h
 case h_2=>cases h
 rename_i h6;have h6:=Nat.eq_of_beq_eq_true h6;simp only[Option.some.injEq,Prod.mk.injEq]at h;obtain⟨rfl,rfl,rfl,rfl⟩:=h;subst h6;rw[hd];exact aad _ T x y d hop hd hn h1 h2 h5 h3 h4 (by simpa[uJ]using hb)
def Ca(n:Nat)(s:AS)(o:Oper):Option (TypeId×Nat×Nat×Nat×Nat×List (List AV)):=match iz n o,o.op with
 | true,.load T x=>match s.ev x with
  | some (.eptr id sz j off)=>match look id s.r with
   | some ⟨_,sz',l⟩=>match Nat.beq sz sz'&&Nat.ble TG id with
    | true=>some (T,id,sz,j,off,l)
    | false=>none
   | none=>none
  | _=>none
 | _,_=>none
theorem Qz(T:TypeId){id sz j off:Nat}{l:List (List AV)}{e:List AV}{v:AV}(h:Ca n s o=some (T,id,sz,j,off,l))(hj:l[j]?=some e)(hv:eZ P T ((e.drop off).map AV.kU)=some v):br P n s o=some (s.put o.dst v):=by
 unfold Ca at h;split at h
 case h_2=>cases h
 rename_i T' x hd hop;obtain⟨d,hd,hn⟩:=kJ hd;split at h
 case h_2=>cases h
 rename_i h1;split at h
 case h_2=>cases h
 rename_i et sz' l' h5;split at h
 case h_2=>cases h
 rename_i h6;rw[Bool.and_eq_true]at h6;have htg:=Nat.le_of_ble_eq_true h6.2;have h6:=Nat.eq_of_beq_eq_true h6.1;simp only[Option.some.injEq,Prod.mk.injEq]at h;obtain⟨rfl,rfl,rfl,rfl,rfl,rfl⟩:=h;subst h6;rw[hd];exact X8 T' x d hop hd hn h1 h5 hj htg hv
theorem Cl(enc:α→List AV)(q:Nat)(ek:TypeId)(sk:Nat)(encK:β→List AV){L:List (α×Option (List β))}{j:Nat}(hj:j<L.length)(c:AV):(cU (L.map (cc enc q ek sk encK)) j q c)[j]?=some ((enc (L.getD j default).1).set q c):=by
 rw[Sr (Z3 enc q ek sk encK hj)];unfold cc;rw[List.set_set]
theorem YX(T:TypeId)(id sz q:Nat)(ek:TypeId)(sk:Nat)(enc exp:α→List AV)(encK:β→List AV)(x:Value){L:List (α×Option (List β))}{j:Nat}(hj:j<L.length)(he:∀a,enc a=exp a)(h:Ca n s o=some (T,id,sz,j,q,cU (L.map (cc enc q ek sk encK)) j q (.vv x)):=by kernel_rfl)
  (hv:eZ P T ((((exp (L.getD j default).1).set q (.vv x)).drop q).map AV.kU)=some (.vv x):=by kernel_rfl):br P n s o=some (s.put o.dst (.vv x)) :=
 Qz T h (Cl enc q ek sk encK hj (.vv x)) (by rw[he];exact hv)
theorem PN(id:Nat)(et:TypeId)(sz q:Nat)(ek:TypeId)(sk:Nat)(enc:α→List AV)(encK:β→List AV)(c:AV)(x:Value){L:List (α×Option (List β))}{j:Nat}(hj:j<L.length)(hz:∀a,(enc a).length=sz)(h:vh P s o=some (id,et,sz,j,q,cU (L.map (cc enc q ek sk encK)) j q c):=by kernel_rfl)
  (hn:kS s o=[.vv x]:=by kernel_rfl) (hq:Nat.ble (q+1) sz=true:=by kernel_rfl) :
  br P n s o=some (qX id ⟨et,sz,cU (L.map (cc enc q ek sk encK)) j q (.vv x)⟩ s):=by
 unfold vh at h;split at h
 case h_2=>cases h
 rename_i T x' y hd hop;split at h
 case h_2=>cases h
 rename_i v h1 h2;split at h
 case h_2=>cases h
 rename_i nv k h5 hv hz2;split at h
 case h_2=>cases h
 rename_i h6;simp only[Bool.and_eq_true]at h6;have h7:=Nat.eq_of_beq_eq_true h6.1;have h8:=Nat.eq_of_beq_eq_true h6.2;simp only[Option.some.injEq,Prod.mk.injEq]at h;obtain⟨e1,e2,e3,e4,e5,e6⟩:=h;subst h7;subst h8;rw[e1]at h1 h5;rw[e4,e5]at h1;rw[e2,e6]at h5;clear e1 e2 e4 e5 e6;subst e3;have hN:kS s o=nv:=by unfold kS;simp only[hop,h2,hv]
 rw[hN]at hn;subst hn;have hq':=Nat.le_of_ble_eq_true hq;have hat:=Cl enc q ek sk encK hj c;rw[aal T x' y hop hd h1 h2 h5 hat hv hz2 (by rw[List.length_set,hz];simpa using hq') rfl,Qv hat (by rw[List.length_set,hz];omega),aaM];rfl
end
section
variable{cx:Cx}{Q:Exit→Act→World→Prop}{ks:List aq}{s:AS}{f:Func}{p:List Nat}{all:Array Oper}{i:Nat}{α β:Type}[Inhabited α]
def Cr(s:AS):AS:={ s with u:=Gx::s.u }
theorem aR.mark{A:Act}{w:World}{ι:Env}(h:aR cx s A w ι):aR cx (Cr s) A w ι :=
 ⟨⟨h.hs.below,h.hs.old,fun k y hk=>dw (h.hs.use k y hk),h.hs.own,h.hs.inj,fun k c hk=>dw (h.hs.ko k c hk),fun k c hk=>dw (h.hs.kr k c hk),h.hs.objs,h.hs.arrs,fun k v hv=>⟨(h.hs.pin k v hv).1,by
  have:=(h.hs.pin k v hv).2;simp only[Cr,List.contains_cons,Bool.or_eq_true];exact .inr this⟩⟩,h.dfr,h.n,h.tmp⟩
theorem ZW{ex:Exit}(k:VE cx Q ks ex (Cr s)):VE cx Q ks ex s:=fun A w ι hs=>k A w ι hs.mark
def wX(s:AS)(id k q:Nat):Bool:=match look k s.t with
 | some (.ref i)=>Nat.beq i id
 | some (.ptr o _)=>match look o s.o with
  | some cs=>match cs[q]? with
   | some (.ref i)=>Nat.beq i id
   | _=>false
  | none=>false
 | some (.agg cs)=>match cs[q]? with
  | some (.ref i)=>Nat.beq i id
  | _=>false
 | _=>false
theorem uQ{id:Nat}(k q:Nat)(h:wX s id k q=true):tH cx s id:=by
 unfold wX at h;split at h
 ·rename_i i hk;have:=Nat.eq_of_beq_eq_true h;subst this;exact fun {_ _ _} hs=>Te hk hs
 ·rename_i o off hk;split at h
  ·rename_i cs ho;split at h
   ·rename_i i hq;have:=Nat.eq_of_beq_eq_true h;subst this;exact fun {_ _ _} hs=>ab8 hk ho hq hs
   ·cases h
  ·cases h
 ·rename_i cs hk;split at h
  ·rename_i i hq;have:=Nat.eq_of_beq_eq_true h;subst this;intro A w ι hs;obtain⟨y,_,hr⟩:=hs.tmp k _ hk;cases hr with
   | agg _ _ vs hl h1 hr =>
    have hlt:q<vs.length:=by rw[←hl];exact(List.getElem?_eq_some_iff.1 hq).1
    have:=hr q _ _ hq (List.getElem?_eq_getElem hlt);generalize vs[q]=X at this;cases this with
    | ref _ _ _ _ _ h=>rw[h];rfl
  ·cases h
 ·cases h
def xe(id tid:Nat)(ar:bo)(s:AS):AS:=⟨cR tid s.t,dv tid s.o,era tid (aU id ar s.r),s.u⟩
def Fx(id:Nat)(ar:bo)(s:AS):AS:={ s with r:=aU id ar s.r }
theorem GT{id j i tid:Nat}{a b:bo}{l:List (List AV)}(h:cU a.l j i (.osl b.e b.sz b.l)=l):xq id j i tid a b s=xe id tid ⟨a.e,a.sz,l⟩ s:=by
 unfold xq xe;rw[h]
theorem Ox{l:List Oper}(id tid d0 ka qa:Nat)(et:TypeId)(sz q:Nat)(ek:TypeId)(sk:Nat)(enc exp:α→List AV)(encK:β→List AV)(L:List (α×Option (List β)))(x0:α)(l0:List β)(x:Value)(he:∀a,enc a=exp a)(hz:∀a,(enc a).length=sz)
  (k:OT cx Q ks all l (xe id tid ⟨et,sz,(L++[(x0,some l0)]).map (cc enc q ek sk encK)⟩ s)) (har:look id s.r=some ⟨et,sz,L.map (cc enc q ek sk encK)++[(exp x0).set q (.vv x)]⟩:=by kernel_rfl) (hat:look tid s.r=some ⟨ek,sk,l0.map encK⟩:=by kernel_rfl) (hq:Nat.ble (q+1) sz=true:=by kernel_rfl)
  (hd:look d0 s.t=some (.lk tid x):=by kernel_rfl) (hal:wX s id ka qa=true:=by kernel_rfl) (htg:Nat.ble TG id=true:=by kernel_rfl) (hlt:Nat.ble (tid+1) TG=true:=by kernel_rfl) (hpl:eP s=true:=by kernel_rfl) (hnm:eY s=true:=by kernel_rfl):OT cx Q ks all l s:=by
 have hq':=Nat.le_of_ble_eq_true hq;refine IZ id L.length q tid d0 (uQ ka qa hal) (Yy enc q ek sk encK L _) (by rw[List.getElem?_set,if_pos rfl,if_pos (by rw[←he,hz];omega)]) ?_ har hat hd htg hlt hpl hnm;rw[GT (Qb enc q ek sk encK L x0 l0 (by rw[List.set_set,he]))];exact k
theorem P5{ex:Exit}(id tid d0 ka qa:Nat)(et:TypeId)(sz q:Nat)(ek:TypeId)(sk:Nat)(enc:α→List AV)(encK:β→List AV)(L:List (α×Option (List β)))(j:Nat)(l0:List β)(c0:AV)(hj:j<L.length)(hl:(L.getD j default).2=some l0)(hz:∀a,(enc a).length=sz)
  (k:∀x,VE cx Q ks ex (zG id j q tid d0 ⟨et,sz,L.map (cc enc q ek sk encK)⟩ ek sk (l0.map encK) x s)) (har:look id s.r=some ⟨et,sz,L.map (cc enc q ek sk encK)⟩:=by kernel_rfl) (hq:Nat.ble (q+1) sz=true:=by kernel_rfl)
  (hal:wX s id ka qa=true:=by kernel_rfl) (hd:look d0 s.t=some c0:=by kernel_rfl) (hone:c0.o8=true:=by kernel_rfl) (hlt:Nat.ble (tid+1) c7=true:=by kernel_rfl) (hfr:has s.u tid=false:=by kernel_rfl) (hpl:eP s=true:=by kernel_rfl) (hnm:eY s=true:=by kernel_rfl):VE cx Q ks ex s:=by
 obtain⟨h1,h2⟩:=aah (enc:=enc) (q:=q) (ek:=ek) (sk:=sk) (encK:=encK) (sz:=sz) hj hz (Nat.le_of_ble_eq_true hq) hl;exact SC id j q tid d0 (uQ ka qa hal) h1 h2 k har hd hone hlt hfr hpl hnm
theorem ZA{l:List Oper}(id tid d0 ka qa:Nat)(et:TypeId)(sz q:Nat)(ek:TypeId)(sk:Nat)(enc:α→List AV)(encK:β→List AV)(L:List (α×Option (List β)))(j:Nat)(l0:List β)(x:Value)(hj:j<L.length)(hz:∀a,(enc a).length=sz)
  (k:OT cx Q ks all l (xe id tid ⟨et,sz,(L.set j ((L.getD j default).1,some l0)).map (cc enc q ek sk encK)⟩ s)) (har:look id s.r=some ⟨et,sz,cU (L.map (cc enc q ek sk encK)) j q (.vv x)⟩:=by kernel_rfl) (hat:look tid s.r=some ⟨ek,sk,l0.map encK⟩:=by kernel_rfl) (hq:Nat.ble (q+1) sz=true:=by kernel_rfl)
  (hd:look d0 s.t=some (.lk tid x):=by kernel_rfl) (hal:wX s id ka qa=true:=by kernel_rfl) (htg:Nat.ble TG id=true:=by kernel_rfl) (hlt:Nat.ble (tid+1) TG=true:=by kernel_rfl) (hpl:eP s=true:=by kernel_rfl) (hnm:eY s=true:=by kernel_rfl):OT cx Q ks all l s:=by
 have hq':=Nat.le_of_ble_eq_true hq;refine IZ id j q tid d0 (uQ ka qa hal) (Cl enc q ek sk encK hj (.vv x)) (by rw[List.getElem?_set,if_pos rfl,if_pos (by rw[hz];omega)]) ?_ har hat hd htg hlt hpl hnm;rw[GT (QS (enc:=enc) (q:=q) (ek:=ek) (sk:=sk) (encK:=encK) hj l0 (.vv x))];exact k
def T5(id nid:Nat)(ar:bo)(s:AS):AS:=⟨kI id nid s.t,lO id nid s.o,aU nid ar (era id s.r),nid::s.u⟩
theorem Uo{α:Type}(k:Nat)(v:α)(l:List (Nat×α)):look k (aU k v l)=some v:=by rw[ce,if_pos rfl]
theorem JJ{α:Type}(k:Nat)(v:α):∀l:List (Nat×α),era k (aU k v l)=era k l
 | []=>by simp[aU,era]
 | (j,x)::r=>by
  unfold aU;by_cases h:k=j
  ·simp[h,era]
  ·simp only[h,if_false,era];rw[JJ k v r]
theorem S4{ex:Exit}(id nid:Nat)(et:TypeId)(sz q:Nat)(ek:TypeId)(sk:Nat)(enc:α→List AV)(encK:β→List AV)(L:List (α×Option (List β)))(wk:α→List β→α)(hw:∀x l,(enc x).set q (.sl (l.map encK))=enc (wk x l))(hf:∀x,(enc x).map AV.kv=enc x)(hfl:∀x,(enc x).all AV.pX=true)(hL:L.all (fun p=>p.2.isSome)=true)
  (k:VE cx Q ks ex (T5 id nid ⟨et,sz,(L.map fun p=>wk p.1 (p.2.getD [])).map enc⟩ s)) (har:look id s.r=some ⟨et,sz,L.map (cc enc q ek sk encK)⟩:=by kernel_rfl) (hn:has s.u nid=false:=by kernel_rfl) (hnp:s.u.contains (cW id)=false:=by kernel_rfl) (hpl:eP s=true:=by kernel_rfl) (hnm:eY s=true:=by kernel_rfl):VE cx Q ks ex s:=by
 have hno:∀e∈L.map (cc enc q ek sk encK),∀c∈e,c.xA=true:=by
  intro e he c hc;obtain⟨p,_,rfl⟩:=List.mem_map.1 he;unfold cc at hc;rcases List.mem_or_eq_of_mem_set hc with h|h
  ·have h2:=List.all_eq_true.1 (hfl p.1) c h;cases c<;>first|rfl|(simp[AV.pX]at h2)
  ·subst h;cases p.2<;>rfl
 refine Sp id hno ?_ har hpl hnm;have e1:yD id ⟨et,sz,L.map (cc enc q ek sk encK)⟩ s=Fx id ⟨et,sz,(L.map fun p=>wk p.1 (p.2.getD [])).map enc⟩ s:=by
  unfold yD Fx;rw[show(bo.l ⟨et,sz,L.map (cc enc q ek sk encK)⟩)=L.map (cc enc q ek sk encK) from rfl,QJ enc q ek sk encK wk hw hf L hL]
 rw[e1];refine acV id nid (ar:=⟨et,sz,(L.map fun p=>wk p.1 (p.2.getD [])).map enc⟩) (fun e he c hc=>?_) ?_ (Uo _ _ _) hn hnp
 ·obtain⟨y,_,rfl⟩:=List.mem_map.1 he;exact List.all_eq_true.1 (hfl y) c hc
 ·unfold Fx;rw[JJ];exact k
end
end Go.Proofs.YtnpmlepplfaijaaGreat
