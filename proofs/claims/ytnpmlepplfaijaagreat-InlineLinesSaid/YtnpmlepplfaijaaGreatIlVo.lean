/- Slices of structs whose one slice field is the cell's own: short rules. No program in sight. -/
import Derived.Test.YtnpmlepplfaijaaGreatIlVn
import Derived.Test.YtnpmlepplfaijaaGreatIlVdt
namespace Go.Proofs.YtnpmlepplfaijaaGreat
set_option linter.all false
open Go.RowKit
section
variable{P:Program}{n:Nat}{s:AS}{o:Oper}{α β:Type}[Inhabited α]
theorem N2(d id:Nat)(et:TypeId)(sz:Nat){l new:List (List AV)}{bytes:Nat}(hz:new.all (fun e=>e.length == sz)=true)(hf:fits (l.length+new.length) bytes=true)(h:tE P n s o=some (d,id,et,sz,bytes,new,l)):
  bo P n s o=some (ii d id ⟨et,sz,l++new⟩ s):=by
 unfold tE at h;split at h
 case h_2=>cases h
 rename_i d' x y T T' hd hop;split at h
 case h_2=>cases h
 rename_i hb h1 h2 h3;simp only[Bool.and_eq_true]at hb;have hT:=Nat.eq_of_beq_eq_true hb.1;split at h
 case h_2=>cases h
 rename_i et' sz' l' h5;split at h
 case h_2=>cases h
 rename_i h6;simp only[Bool.and_eq_true,Bool.not_eq_true']at h6;have h7:=Nat.eq_of_beq_eq_true h6.1.1;have h8:=Nat.eq_of_beq_eq_true h6.1.2;have h9:=h6.2;simp only[Option.some.injEq,Prod.mk.injEq]at h;obtain⟨rfl,rfl,rfl,rfl,rfl,rfl,rfl⟩:=h;have hT':T=T':=hT;subst hT';subst h7;subst h8;exact Yb T x y _ hop hd hb.2 h1 h2 h5 h3 hz hf h9
theorem W7(d id:Nat)(et:TypeId)(sz q:Nat)(ek:TypeId)(sk:Nat)(enc exp:α→List AV)(encK:β→List AV){L:List (α×Option (List β))}(x0:α)(c:AV){bytes:Nat}(he:∀a,enc a=exp a)(hz:∀a,(enc a).length=sz)(hf:fits (L.length+1) bytes=true)
  (h:tE P n s o=some (d,id,et,sz,bytes,[(exp x0).set q c],L.map (bZ enc q ek sk encK)):=by kernel_rfl) :
  bo P n s o=some (ii d id ⟨et,sz,L.map (bZ enc q ek sk encK)++[(exp x0).set q c]⟩ s) :=
 N2 d id et sz (by simp[←he,hz]) (by simpa using hf) h
theorem yh(j q:Nat)(enc:α→List AV)(c:AV)(L:List α)(h:BK P n s o=some (cT (L.map enc) j q c):=by kernel_rfl):bo P n s o=some (s.put o.dst (.int .i64 L.length)):=by
 have h1:=bv (α:=List AV) (P:=P) (n:=n) (s:=s) (o:=o) id (cT (L.map enc) j q c) (by rw[List.map_id];exact h);rw[wx,List.length_map]at h1;exact h1
theorem Al(id sz j q:Nat)(enc:α→List AV)(c:AV){L:List α}{i:Int}(hb:bd i L.length=true)(h:tR P n s o=some (id,sz,i,cT (L.map enc) j q c):=by kernel_rfl):bo P n s o=some (s.put o.dst (.eptr id sz i.toNat 0)):=by
 unfold tR at h;split at h
 case h_2=>cases h
 rename_i T x y hd hop;obtain⟨d,hd,hn⟩:=kA hd;split at h
 case h_2=>cases h
 rename_i h1 h2 h3 h4;split at h
 case h_2=>cases h
 rename_i h5;split at h
 case h_2=>cases h
 rename_i h6;have h6:=Nat.eq_of_beq_eq_true h6;simp only[Option.some.injEq,Prod.mk.injEq]at h;obtain⟨rfl,rfl,rfl,rfl⟩:=h;subst h6;rw[hd];exact YF _ T x y d hop hd hn h1 h2 h5 h3 h4 (by simpa[wx]using hb)
def CR(n:Nat)(s:AS)(o:Oper):Option (TypeId×Nat×Nat×Nat×Nat×List (List AV)):=match gQ n o,o.op with
 | true,.load T x=>match s.ev x with
  | some (.eptr id sz j off)=>match look id s.r with
   | some ⟨_,sz',l⟩=>match Nat.beq sz sz'&&Nat.ble TG id with
    | true=>some (T,id,sz,j,off,l)
    | false=>none
   | none=>none
  | _=>none
 | _,_=>none
theorem VT(T:TypeId){id sz j off:Nat}{l:List (List AV)}{e:List AV}{v:AV}(h:CR n s o=some (T,id,sz,j,off,l))(hj:l[j]?=some e)(hv:eE P T ((e.drop off).map AV.lj)=some v):bo P n s o=some (s.put o.dst v):=by
 unfold CR at h;split at h
 case h_2=>cases h
 rename_i T' x hd hop;obtain⟨d,hd,hn⟩:=kA hd;split at h
 case h_2=>cases h
 rename_i h1;split at h
 case h_2=>cases h
 rename_i et sz' l' h5;split at h
 case h_2=>cases h
 rename_i h6;rw[Bool.and_eq_true]at h6;have htg:=Nat.le_of_ble_eq_true h6.2;have h6:=Nat.eq_of_beq_eq_true h6.1;simp only[Option.some.injEq,Prod.mk.injEq]at h;obtain⟨rfl,rfl,rfl,rfl,rfl,rfl⟩:=h;subst h6;rw[hd];exact VP T' x d hop hd hn h1 h5 hj htg hv
theorem BG(enc:α→List AV)(q:Nat)(ek:TypeId)(sk:Nat)(encK:β→List AV){L:List (α×Option (List β))}{j:Nat}(hj:j<L.length)(c:AV):(cT (L.map (bZ enc q ek sk encK)) j q c)[j]?=some ((enc (L.getD j default).1).set q c):=by
 rw[TC (Wg enc q ek sk encK hj)];unfold bZ;rw[List.set_set]
theorem Zq(T:TypeId)(id sz q:Nat)(ek:TypeId)(sk:Nat)(enc exp:α→List AV)(encK:β→List AV)(x:Value){L:List (α×Option (List β))}{j:Nat}(hj:j<L.length)(he:∀a,enc a=exp a)(h:CR n s o=some (T,id,sz,j,q,cT (L.map (bZ enc q ek sk encK)) j q (.vv x)):=by kernel_rfl)
  (hv:eE P T ((((exp (L.getD j default).1).set q (.vv x)).drop q).map AV.lj)=some (.vv x):=by kernel_rfl):bo P n s o=some (s.put o.dst (.vv x)) :=
 VT T h (BG enc q ek sk encK hj (.vv x)) (by rw[he];exact hv)
theorem Qj(id:Nat)(et:TypeId)(sz q:Nat)(ek:TypeId)(sk:Nat)(enc:α→List AV)(encK:β→List AV)(c:AV)(x:Value){L:List (α×Option (List β))}{j:Nat}(hj:j<L.length)(hz:∀a,(enc a).length=sz)(h:uG P s o=some (id,et,sz,j,q,cT (L.map (bZ enc q ek sk encK)) j q c):=by kernel_rfl)
  (hn:kN s o=[.vv x]:=by kernel_rfl) (hq:Nat.ble (q+1) sz=true:=by kernel_rfl) :
  bo P n s o=some (qV id ⟨et,sz,cT (L.map (bZ enc q ek sk encK)) j q (.vv x)⟩ s):=by
 unfold uG at h;split at h
 case h_2=>cases h
 rename_i T x' y hd hop;split at h
 case h_2=>cases h
 rename_i v h1 h2;split at h
 case h_2=>cases h
 rename_i nv k h5 hv hz2;split at h
 case h_2=>cases h
 rename_i h6;simp only[Bool.and_eq_true]at h6;have h7:=Nat.eq_of_beq_eq_true h6.1;have h8:=Nat.eq_of_beq_eq_true h6.2;simp only[Option.some.injEq,Prod.mk.injEq]at h;obtain⟨e1,e2,e3,e4,e5,e6⟩:=h;subst h7;subst h8;rw[e1]at h1 h5;rw[e4,e5]at h1;rw[e2,e6]at h5;clear e1 e2 e4 e5 e6;subst e3;have hN:kN s o=nv:=by unfold kN;simp only[hop,h2,hv]
 rw[hN]at hn;subst hn;have hq':=Nat.le_of_ble_eq_true hq;have hat:=BG enc q ek sk encK hj c;rw[VB T x' y hop hd h1 h2 h5 hat hv hz2 (by rw[List.length_set,hz];simpa using hq') rfl,MZ hat (by rw[List.length_set,hz];omega),MI];rfl
end
section
variable{cx:Cx}{Q:Exit→Act→World→Prop}{ks:List ao}{s:AS}{f:Func}{p:List Nat}{all:Array Oper}{i:Nat}{α β:Type}[Inhabited α]
def zG(s:AS):AS:={ s with u:=H8::s.u }
theorem aS.mark{A:Act}{w:World}{ι:Env}(h:aS cx s A w ι):aS cx (zG s) A w ι :=
 ⟨⟨h.hs.below,h.hs.old,fun k y hk=>di (h.hs.use k y hk),h.hs.own,h.hs.inj,fun k c hk=>di (h.hs.ko k c hk),fun k c hk=>di (h.hs.kr k c hk),h.hs.objs,h.hs.arrs,fun k v hv=>⟨(h.hs.pin k v hv).1,by
  have:=(h.hs.pin k v hv).2;simp only[zG,List.contains_cons,Bool.or_eq_true];exact .inr this⟩⟩,h.dfr,h.n,h.tmp⟩
theorem X3{ex:Exit}(k:VE cx Q ks ex (zG s)):VE cx Q ks ex s:=fun A w ι hs=>k A w ι hs.mark
def uw(s:AS)(id k q:Nat):Bool:=match look k s.t with
 | some (.ref i)=>Nat.beq i id
 | some (.ptr o _)=>match look o s.o with
  | some cs=>match cs[q]? with
   | some (.ref i)=>Nat.beq i id
   | _=>false
  | none=>false
 | some (.agg cs)=>match cs[q]? with
  | some (.ref i)=>Nat.beq i id
  | _=>false
 | _=>false
theorem wg{id:Nat}(k q:Nat)(h:uw s id k q=true):pZ cx s id:=by
 unfold uw at h;split at h
 ·rename_i i hk;have:=Nat.eq_of_beq_eq_true h;subst this;exact fun {_ _ _} hs=>Qm hk hs
 ·rename_i o off hk;split at h
  ·rename_i cs ho;split at h
   ·rename_i i hq;have:=Nat.eq_of_beq_eq_true h;subst this;exact fun {_ _ _} hs=>RU hk ho hq hs
   ·cases h
  ·cases h
 ·rename_i cs hk;split at h
  ·rename_i i hq;have:=Nat.eq_of_beq_eq_true h;subst this;intro A w ι hs;obtain⟨y,_,hr⟩:=hs.tmp k _ hk;cases hr with
   | agg _ _ vs hl h1 hr =>
    have hlt:q<vs.length:=by rw[←hl];exact(List.getElem?_eq_some_iff.1 hq).1
    have:=hr q _ _ hq (List.getElem?_eq_getElem hlt);generalize vs[q]=X at this;cases this with
    | ref _ _ _ _ _ h=>rw[h];rfl
  ·cases h
 ·cases h
def wA(id tid:Nat)(ar:bn)(s:AS):AS:=⟨cG tid s.t,dk tid s.o,era tid (aU id ar s.r),s.u⟩
def CG(id:Nat)(ar:bn)(s:AS):AS:={ s with r:=aU id ar s.r }
theorem J6{id j i tid:Nat}{a b:bn}{l:List (List AV)}(h:cT a.l j i (.osl b.e b.sz b.l)=l):wQ id j i tid a b s=wA id tid ⟨a.e,a.sz,l⟩ s:=by
 unfold wQ wA;rw[h]
theorem MM{l:List Oper}(id tid d0 ka qa:Nat)(et:TypeId)(sz q:Nat)(ek:TypeId)(sk:Nat)(enc exp:α→List AV)(encK:β→List AV)(L:List (α×Option (List β)))(x0:α)(l0:List β)(x:Value)(he:∀a,enc a=exp a)(hz:∀a,(enc a).length=sz)
  (k:OT cx Q ks all l (wA id tid ⟨et,sz,(L++[(x0,some l0)]).map (bZ enc q ek sk encK)⟩ s)) (har:look id s.r=some ⟨et,sz,L.map (bZ enc q ek sk encK)++[(exp x0).set q (.vv x)]⟩:=by kernel_rfl) (hat:look tid s.r=some ⟨ek,sk,l0.map encK⟩:=by kernel_rfl) (hq:Nat.ble (q+1) sz=true:=by kernel_rfl)
  (hd:look d0 s.t=some (.lk tid x):=by kernel_rfl) (hal:uw s id ka qa=true:=by kernel_rfl) (htg:Nat.ble TG id=true:=by kernel_rfl) (hlt:Nat.ble (tid+1) TG=true:=by kernel_rfl) (hpl:ew s=true:=by kernel_rfl) (hnm:eP s=true:=by kernel_rfl):OT cx Q ks all l s:=by
 have hq':=Nat.le_of_ble_eq_true hq;refine JS id L.length q tid d0 (wg ka qa hal) (M6 enc q ek sk encK L _) (by rw[List.getElem?_set,if_pos rfl,if_pos (by rw[←he,hz];omega)]) ?_ har hat hd htg hlt hpl hnm;rw[J6 (Qg enc q ek sk encK L x0 l0 (by rw[List.set_set,he]))];exact k
theorem YB{ex:Exit}(id tid d0 ka qa:Nat)(et:TypeId)(sz q:Nat)(ek:TypeId)(sk:Nat)(enc:α→List AV)(encK:β→List AV)(L:List (α×Option (List β)))(j:Nat)(l0:List β)(c0:AV)(hj:j<L.length)(hl:(L.getD j default).2=some l0)(hz:∀a,(enc a).length=sz)
  (k:∀x,VE cx Q ks ex (xQ id j q tid d0 ⟨et,sz,L.map (bZ enc q ek sk encK)⟩ ek sk (l0.map encK) x s)) (har:look id s.r=some ⟨et,sz,L.map (bZ enc q ek sk encK)⟩:=by kernel_rfl) (hq:Nat.ble (q+1) sz=true:=by kernel_rfl)
  (hal:uw s id ka qa=true:=by kernel_rfl) (hd:look d0 s.t=some c0:=by kernel_rfl) (hone:c0.nN=true:=by kernel_rfl) (hlt:Nat.ble (tid+1) cQ=true:=by kernel_rfl) (hfr:has s.u tid=false:=by kernel_rfl) (hpl:ew s=true:=by kernel_rfl) (hnm:eP s=true:=by kernel_rfl):VE cx Q ks ex s:=by
 obtain⟨h1,h2⟩:=YP (enc:=enc) (q:=q) (ek:=ek) (sk:=sk) (encK:=encK) (sz:=sz) hj hz (Nat.le_of_ble_eq_true hq) hl;exact O0 id j q tid d0 (wg ka qa hal) h1 h2 k har hd hone hlt hfr hpl hnm
theorem Mv{l:List Oper}(id tid d0 ka qa:Nat)(et:TypeId)(sz q:Nat)(ek:TypeId)(sk:Nat)(enc:α→List AV)(encK:β→List AV)(L:List (α×Option (List β)))(j:Nat)(l0:List β)(x:Value)(hj:j<L.length)(hz:∀a,(enc a).length=sz)
  (k:OT cx Q ks all l (wA id tid ⟨et,sz,(L.set j ((L.getD j default).1,some l0)).map (bZ enc q ek sk encK)⟩ s)) (har:look id s.r=some ⟨et,sz,cT (L.map (bZ enc q ek sk encK)) j q (.vv x)⟩:=by kernel_rfl) (hat:look tid s.r=some ⟨ek,sk,l0.map encK⟩:=by kernel_rfl) (hq:Nat.ble (q+1) sz=true:=by kernel_rfl)
  (hd:look d0 s.t=some (.lk tid x):=by kernel_rfl) (hal:uw s id ka qa=true:=by kernel_rfl) (htg:Nat.ble TG id=true:=by kernel_rfl) (hlt:Nat.ble (tid+1) TG=true:=by kernel_rfl) (hpl:ew s=true:=by kernel_rfl) (hnm:eP s=true:=by kernel_rfl):OT cx Q ks all l s:=by
 have hq':=Nat.le_of_ble_eq_true hq;refine JS id j q tid d0 (wg ka qa hal) (BG enc q ek sk encK hj (.vv x)) (by rw[List.getElem?_set,if_pos rfl,if_pos (by rw[hz];omega)]) ?_ har hat hd htg hlt hpl hnm;rw[J6 (VM (enc:=enc) (q:=q) (ek:=ek) (sk:=sk) (encK:=encK) hj l0 (.vv x))];exact k
def SC(id nid:Nat)(ar:bn)(s:AS):AS:=⟨kq id nid s.t,kD id nid s.o,aU nid ar (era id s.r),nid::s.u⟩
theorem Y8{α:Type}(k:Nat)(v:α)(l:List (Nat×α)):look k (aU k v l)=some v:=by rw[cb,if_pos rfl]
theorem Kx{α:Type}(k:Nat)(v:α):∀l:List (Nat×α),era k (aU k v l)=era k l
 | []=>by simp[aU,era]
 | (j,x)::r=>by
  unfold aU;by_cases h:k=j
  ·simp[h,era]
  ·simp only[h,if_false,era];rw[Kx k v r]
theorem Qk{ex:Exit}(id nid:Nat)(et:TypeId)(sz q:Nat)(ek:TypeId)(sk:Nat)(enc:α→List AV)(encK:β→List AV)(L:List (α×Option (List β)))(wk:α→List β→α)(hw:∀x l,(enc x).set q (.sl (l.map encK))=enc (wk x l))(hf:∀x,(enc x).map AV.j8=enc x)(hfl:∀x,(enc x).all AV.nV=true)(hL:L.all (fun p=>p.2.isSome)=true)
  (k:VE cx Q ks ex (SC id nid ⟨et,sz,(L.map fun p=>wk p.1 (p.2.getD [])).map enc⟩ s)) (har:look id s.r=some ⟨et,sz,L.map (bZ enc q ek sk encK)⟩:=by kernel_rfl) (hn:has s.u nid=false:=by kernel_rfl) (hnp:s.u.contains (cK id)=false:=by kernel_rfl) (hpl:ew s=true:=by kernel_rfl) (hnm:eP s=true:=by kernel_rfl):VE cx Q ks ex s:=by
 have hno:∀e∈L.map (bZ enc q ek sk encK),∀c∈e,c.wo=true:=by
  intro e he c hc;obtain⟨p,_,rfl⟩:=List.mem_map.1 he;unfold bZ at hc;rcases List.mem_or_eq_of_mem_set hc with h|h
  ·have h2:=List.all_eq_true.1 (hfl p.1) c h;cases c<;>first|rfl|(simp[AV.nV]at h2)
  ·subst h;cases p.2<;>rfl
 refine ZJ id hno ?_ har hpl hnm;have e1:xu id ⟨et,sz,L.map (bZ enc q ek sk encK)⟩ s=CG id ⟨et,sz,(L.map fun p=>wk p.1 (p.2.getD [])).map enc⟩ s:=by
  unfold xu CG;rw[show(bn.l ⟨et,sz,L.map (bZ enc q ek sk encK)⟩)=L.map (bZ enc q ek sk encK) from rfl,Sg enc q ek sk encK wk hw hf L hL]
 rw[e1];refine YI id nid (ar:=⟨et,sz,(L.map fun p=>wk p.1 (p.2.getD [])).map enc⟩) (fun e he c hc=>?_) ?_ (Y8 _ _ _) hn hnp
 ·obtain⟨y,_,rfl⟩:=List.mem_map.1 he;exact List.all_eq_true.1 (hfl y) c hc
 ·unfold CG;rw[Kx];exact k
end
end Go.Proofs.YtnpmlepplfaijaaGreat
