/- Slices of structs whose one slice field is the cell's own: short rules. No program in sight. -/
import Derived.Test.YtolhpahjgddjkaaGreatCwVn
import Derived.Test.YtolhpahjgddjkaaGreatCwVdf
namespace Go.Proofs.YtolhpahjgddjkaaGreat
set_option linter.all false
open Go.RowKit
section
variable{P:Program}{n:Nat}{s:AS}{o:Oper}{α β:Type}[Inhabited α]
theorem XL(d id:Nat)(et:TypeId)(sz:Nat){l new:List (List AV)}{bytes:Nat}(hz:new.all (fun e=>e.length == sz)=true)(hf:fits (l.length+new.length) bytes=true)(h:wI P n s o=some (d,id,et,sz,bytes,new,l)):
  bG P n s o=some (fZ d id ⟨et,sz,l++new⟩ s):=by
 unfold wI at h;split at h
 case h_2=>cases h
 rename_i d' x y T T' hd hop;split at h
 case h_2=>cases h
 rename_i hb h1 h2 h3;simp only[Bool.and_eq_true]at hb;have hT:=Nat.eq_of_beq_eq_true hb.1;split at h
 case h_2=>cases h
 rename_i et' sz' l' h5;split at h
 case h_2=>cases h
 rename_i h6;simp only[Bool.and_eq_true,Bool.not_eq_true']at h6;have h7:=Nat.eq_of_beq_eq_true h6.1.1;have h8:=Nat.eq_of_beq_eq_true h6.1.2;have h9:=h6.2;simp only[Option.some.injEq,Prod.mk.injEq]at h;obtain⟨rfl,rfl,rfl,rfl,rfl,rfl,rfl⟩:=h;have hT':T=T':=hT;subst hT';subst h7;subst h8;exact aci T x y _ hop hd hb.2 h1 h2 h5 h3 hz hf h9
theorem BM(d id:Nat)(et:TypeId)(sz q:Nat)(ek:TypeId)(sk:Nat)(enc exp:α→List AV)(encK:β→List AV){L:List (α×Option (List β))}(x0:α)(c:AV){bytes:Nat}(he:∀a,enc a=exp a)(hz:∀a,(enc a).length=sz)(hf:fits (L.length+1) bytes=true)
  (h:wI P n s o=some (d,id,et,sz,bytes,[(exp x0).set q c],L.map (bi enc q ek sk encK)):=by kernel_rfl) :
  bG P n s o=some (fZ d id ⟨et,sz,L.map (bi enc q ek sk encK)++[(exp x0).set q c]⟩ s) :=
 XL d id et sz (by simp[←he,hz]) (by simpa using hf) h
theorem kj(id sz j q:Nat)(enc:α→List AV)(c:AV){L:List α}{i:Int}(hb:aB i L.length=true)(h:vD P n s o=some (id,sz,i,da (L.map enc) j q c):=by kernel_rfl):bG P n s o=some (s.put o.dst (.eptr id sz i.toNat 0)):=by
 unfold vD at h;split at h
 case h_2=>cases h
 rename_i T x y hd hop;obtain⟨d,hd,hn⟩:=kw hd;split at h
 case h_2=>cases h
 rename_i h1 h2 h3 h4;split at h
 case h_2=>cases h
 rename_i h5;split at h
 case h_2=>cases h
 rename_i h6;have h6:=Nat.eq_of_beq_eq_true h6;simp only[Option.some.injEq,Prod.mk.injEq]at h;obtain⟨rfl,rfl,rfl,rfl⟩:=h;subst h6;rw[hd];exact Wo _ T x y d hop hd hn h1 h2 h5 h3 h4 (by simpa[xa]using hb)
def tL(n:Nat)(s:AS)(o:Oper):Option (TypeId×Nat×Nat×Nat×Nat×List (List AV)):=match iX n o,o.op with
 | true,.load T x=>match s.ev x with
  | some (.eptr id sz j off)=>match look id s.r with
   | some ⟨_,sz',l⟩=>match Nat.beq sz sz'&&Nat.ble TG id with
    | true=>some (T,id,sz,j,off,l)
    | false=>none
   | none=>none
  | _=>none
 | _,_=>none
theorem Db(T:TypeId){id sz j off:Nat}{l:List (List AV)}{e:List AV}{v:AV}(h:tL n s o=some (T,id,sz,j,off,l))(hj:l[j]?=some e)(hv:fm P T ((e.drop off).map AV.gL)=some v):bG P n s o=some (s.put o.dst v):=by
 unfold tL at h;split at h
 case h_2=>cases h
 rename_i T' x hd hop;obtain⟨d,hd,hn⟩:=kw hd;split at h
 case h_2=>cases h
 rename_i h1;split at h
 case h_2=>cases h
 rename_i et sz' l' h5;split at h
 case h_2=>cases h
 rename_i h6;rw[Bool.and_eq_true]at h6;have htg:=Nat.le_of_ble_eq_true h6.2;have h6:=Nat.eq_of_beq_eq_true h6.1;simp only[Option.some.injEq,Prod.mk.injEq]at h;obtain⟨rfl,rfl,rfl,rfl,rfl,rfl⟩:=h;subst h6;rw[hd];exact aaP T' x d hop hd hn h1 h5 hj htg hv
theorem wD(enc:α→List AV)(q:Nat)(ek:TypeId)(sk:Nat)(encK:β→List AV){L:List (α×Option (List β))}{j:Nat}(hj:j<L.length)(c:AV):(da (L.map (bi enc q ek sk encK)) j q c)[j]?=some ((enc (L.getD j default).1).set q c):=by
 rw[P8 (Ea enc q ek sk encK hj)];unfold bi;rw[List.set_set]
theorem MG(T:TypeId)(id sz off q:Nat)(ek:TypeId)(sk:Nat)(enc exp:α→List AV)(encK:β→List AV){L:List (α×Option (List β))}{j:Nat}(hj:j<L.length)(he:∀a,enc a=exp a)(h:tL n s o=some (T,id,sz,j,off,L.map (bi enc q ek sk encK)):=by kernel_rfl)
  (hv:NI (fm P T ((((exp (L.getD j default).1).set q .any).drop off).map AV.gL))=true:=by kernel_rfl):bG P n s o=some (s.put o.dst (N3 (fm P T ((((exp (L.getD j default).1).set q .any).drop off).map AV.gL)))):=by
 cases hq:fm P T ((((exp (L.getD j default).1).set q .any).drop off).map AV.gL) with
 | none=>rw[hq]at hv;cases hv
 | some v=>exact Db T h (Ea enc q ek sk encK hj) (by rw[Yq,he];exact hq)
theorem zK(T:TypeId)(id sz q:Nat)(ek:TypeId)(sk:Nat)(enc exp:α→List AV)(encK:β→List AV)(x:Value){L:List (α×Option (List β))}{j:Nat}(hj:j<L.length)(he:∀a,enc a=exp a)(h:tL n s o=some (T,id,sz,j,q,da (L.map (bi enc q ek sk encK)) j q (.vv x)):=by kernel_rfl)
  (hv:fm P T ((((exp (L.getD j default).1).set q (.vv x)).drop q).map AV.gL)=some (.vv x):=by kernel_rfl):bG P n s o=some (s.put o.dst (.vv x)) :=
 Db T h (wD enc q ek sk encK hj (.vv x)) (by rw[he];exact hv)
theorem Q9(T:TypeId)(id sz off q:Nat)(ek:TypeId)(sk:Nat)(enc exp:α→List AV)(encK:β→List AV)(x:Value)(v:AV){L:List (α×Option (List β))}{j:Nat}(hj:j<L.length)(he:∀a,enc a=exp a)(h:tL n s o=some (T,id,sz,j,off,da (L.map (bi enc q ek sk encK)) j q (.vv x)):=by kernel_rfl)
  (hv:fm P T ((((exp (L.getD j default).1).set q (.vv x)).drop off).map AV.gL)=some v:=by kernel_rfl):bG P n s o=some (s.put o.dst v) :=
 Db T h (wD enc q ek sk encK hj (.vv x)) (by rw[he];exact hv)
theorem MM(id:Nat)(et:TypeId)(sz off q:Nat)(ek:TypeId)(sk:Nat)(enc exp:α→List AV)(encK:β→List AV){L:List (α×Option (List β))}{j:Nat}(new:α)(hj:j<L.length)(he:∀a,enc a=exp a)(h:rF P s o=some (id,et,sz,j,off,L.map (bi enc q ek sk encK)):=by kernel_rfl)
  (hl:((Nat.ble (off+(ij s o).length) (exp (L.getD j default).1).length&&dV [] (ij s o))&&(Nat.ble (q+1) off||Nat.ble (off+(ij s o).length) q))=true:=by kernel_rfl) (hs:fb off (ij s o) (exp (L.getD j default).1)=exp new:=by kernel_rfl) :
  bG P n s o=some (cD id ⟨et,sz,(L.set j (new,(L.getD j default).2)).map (bi enc q ek sk encK)⟩ s):=by
 unfold rF at h;split at h
 case h_2=>cases h
 rename_i T x y hd hop;split at h
 case h_2=>cases h
 rename_i v h1 h2;split at h
 case h_2=>cases h
 rename_i nv k h5 hv hz;split at h
 case h_2=>cases h
 rename_i h6;simp only[Bool.and_eq_true]at h6;have h7:=Nat.eq_of_beq_eq_true h6.1;have h8:=Nat.eq_of_beq_eq_true h6.2;simp only[Option.some.injEq,Prod.mk.injEq]at h;obtain⟨rfl,rfl,rfl,rfl,rfl,rfl⟩:=h;subst h7;subst h8;have hN:ij s o=nv:=by unfold ij;simp only[hop,h2,hv]
 rw[hN]at hl hs;rw[Bool.and_eq_true,Bool.and_eq_true]at hl;exact X3 enc exp q ek sk encK L new T x y hop hd h1 h2 h5 hj hv hz he hl.1.1 hl.1.2 hl.2 hs
theorem BB(id:Nat)(et:TypeId)(sz q:Nat)(ek:TypeId)(sk:Nat)(enc:α→List AV)(encK:β→List AV)(c:AV)(x:Value){L:List (α×Option (List β))}{j:Nat}(hj:j<L.length)(hz:∀a,(enc a).length=sz)(h:rF P s o=some (id,et,sz,j,q,da (L.map (bi enc q ek sk encK)) j q c):=by kernel_rfl)
  (hn:ij s o=[.vv x]:=by kernel_rfl) (hq:Nat.ble (q+1) sz=true:=by kernel_rfl) :
  bG P n s o=some (cD id ⟨et,sz,da (L.map (bi enc q ek sk encK)) j q (.vv x)⟩ s):=by
 unfold rF at h;split at h
 case h_2=>cases h
 rename_i T x' y hd hop;split at h
 case h_2=>cases h
 rename_i v h1 h2;split at h
 case h_2=>cases h
 rename_i nv k h5 hv hz2;split at h
 case h_2=>cases h
 rename_i h6;simp only[Bool.and_eq_true]at h6;have h7:=Nat.eq_of_beq_eq_true h6.1;have h8:=Nat.eq_of_beq_eq_true h6.2;simp only[Option.some.injEq,Prod.mk.injEq]at h;obtain⟨e1,e2,e3,e4,e5,e6⟩:=h;subst h7;subst h8;rw[e1]at h1 h5;rw[e4,e5]at h1;rw[e2,e6]at h5;clear e1 e2 e4 e5 e6;subst e3;have hN:ij s o=nv:=by unfold ij;simp only[hop,h2,hv]
 rw[hN]at hn;subst hn;have hq':=Nat.le_of_ble_eq_true hq;have hat:=wD enc q ek sk encK hj c;rw[Jz T x' y hop hd h1 h2 h5 hat hv hz2 (by rw[List.length_set,hz];simpa using hq') rfl,ab7 hat (by rw[List.length_set,hz];omega),MX];rfl
end
section
variable{cx:Cx}{Q:Exit→Act→World→Prop}{ks:List ao}{s:AS}{f:Func}{p:List Nat}{all:Array Oper}{i:Nat}{α β:Type}[Inhabited α]
def Eh(s:AS):AS:={ s with u:=M0::s.u }
theorem aX.mark{A:Act}{w:World}{ι:Env}(h:aX cx s A w ι):aX cx (Eh s) A w ι :=
 ⟨⟨h.hs.below,h.hs.old,fun k y hk=>fg (h.hs.use k y hk),h.hs.own,h.hs.inj,fun k c hk=>fg (h.hs.ko k c hk),fun k c hk=>fg (h.hs.kr k c hk),h.hs.objs,h.hs.arrs,fun k v hv=>⟨(h.hs.pin k v hv).1,by
  have:=(h.hs.pin k v hv).2;simp only[Eh,List.contains_cons,Bool.or_eq_true];exact .inr this⟩⟩,h.dfr,h.n,h.tmp⟩
theorem Dv{ex:Exit}(k:VE cx Q ks ex (Eh s)):VE cx Q ks ex s:=fun A w ι hs=>k A w ι hs.mark
def qi(s:AS)(id k q:Nat):Bool:=match look k s.t with
 | some (.ref i)=>Nat.beq i id
 | some (.ptr o _)=>match look o s.o with
  | some cs=>match cs[q]? with
   | some (.ref i)=>Nat.beq i id
   | _=>false
  | none=>false
 | some (.agg cs)=>match cs[q]? with
  | some (.ref i)=>Nat.beq i id
  | _=>false
 | _=>false
theorem kR{id:Nat}(k q:Nat)(h:qi s id k q=true):mu cx s id:=by
 unfold qi at h;split at h
 ·rename_i i hk;have:=Nat.eq_of_beq_eq_true h;subst this;exact fun {_ _ _} hs=>acb hk hs
 ·rename_i o off hk;split at h
  ·rename_i cs ho;split at h
   ·rename_i i hq;have:=Nat.eq_of_beq_eq_true h;subst this;exact fun {_ _ _} hs=>YG hk ho hq hs
   ·cases h
  ·cases h
 ·rename_i cs hk;split at h
  ·rename_i i hq;have:=Nat.eq_of_beq_eq_true h;subst this;intro A w ι hs;obtain⟨y,_,hr⟩:=hs.tmp k _ hk;cases hr with
   | agg _ _ vs hl h1 hr =>
    have hlt:q<vs.length:=by rw[←hl];exact(List.getElem?_eq_some_iff.1 hq).1
    have:=hr q _ _ hq (List.getElem?_eq_getElem hlt);generalize vs[q]=X at this;cases this with
    | ref _ _ _ _ _ h=>rw[h];rfl
  ·cases h
 ·cases h
def zM(id tid:Nat)(ar:bD)(s:AS):AS:=⟨dR tid s.t,fy tid s.o,era tid (bh id ar s.r),s.u⟩
def kk(id:Nat)(ar:bD)(s:AS):AS:={ s with r:=bh id ar s.r }
theorem Ov{id j i:Nat}{a:bD}{et:TypeId}{sz2:Nat}{l:List (List AV)}(h:da a.l j i (.osl et sz2 [])=l):tw id j i a et sz2 s=kk id ⟨a.e,a.sz,l⟩ s:=by
 unfold tw kk;rw[h]
theorem IT{id j i tid:Nat}{a b:bD}{l:List (List AV)}(h:da a.l j i (.osl b.e b.sz b.l)=l):y4 id j i tid a b s=zM id tid ⟨a.e,a.sz,l⟩ s:=by
 unfold y4 zM;rw[h]
theorem aae{ex:Exit}(id:Nat)(et:TypeId)(sz q:Nat)(ek:TypeId)(sk:Nat)(enc exp:α→List AV)(encK:β→List AV)(L:List (α×Option (List β)))(x0:α)(he:∀a,enc a=exp a)(hz:∀a,(enc a).length=sz)
  (k:VE cx Q ks ex (kk id ⟨et,sz,(L++[(x0,some [])]).map (bi enc q ek sk encK)⟩ s)) (har:look id s.r=some ⟨et,sz,L.map (bi enc q ek sk encK)++[(exp x0).set q .nils]⟩:=by kernel_rfl) (hq:Nat.ble (q+1) sz=true:=by kernel_rfl)
  (htg:Nat.ble TG id=true:=by kernel_rfl) (hpl:dT s=true:=by kernel_rfl) (hnm:dH s=true:=by kernel_rfl):VE cx Q ks ex s:=by
 have hq':=Nat.le_of_ble_eq_true hq;refine TY id L.length q ek sk (CE enc q ek sk encK L _) (by rw[List.getElem?_set,if_pos rfl,if_pos (by rw[←he,hz];omega)]) ?_ har htg hpl hnm;rw[Ov (Pu enc q ek sk encK L x0 (by rw[List.set_set,he]))];exact k
theorem UT{l:List Oper}(id:Nat)(et:TypeId)(sz q:Nat)(ek:TypeId)(sk:Nat)(enc exp:α→List AV)(encK:β→List AV)(L:List (α×Option (List β)))(x0:α)(he:∀a,enc a=exp a)(hz:∀a,(enc a).length=sz)
  (k:OT cx Q ks all l (kk id ⟨et,sz,(L++[(x0,some [])]).map (bi enc q ek sk encK)⟩ s)) (har:look id s.r=some ⟨et,sz,L.map (bi enc q ek sk encK)++[(exp x0).set q .nils]⟩:=by kernel_rfl) (hq:Nat.ble (q+1) sz=true:=by kernel_rfl)
  (htg:Nat.ble TG id=true:=by kernel_rfl) (hpl:dT s=true:=by kernel_rfl) (hnm:dH s=true:=by kernel_rfl):OT cx Q ks all l s:=by
 have hq':=Nat.le_of_ble_eq_true hq;refine Sv id L.length q ek sk (CE enc q ek sk encK L _) (by rw[List.getElem?_set,if_pos rfl,if_pos (by rw[←he,hz];omega)]) ?_ har htg hpl hnm;rw[Ov (Pu enc q ek sk encK L x0 (by rw[List.set_set,he]))];exact k
theorem Wu{l:List Oper}(id tid d0 ka qa:Nat)(et:TypeId)(sz q:Nat)(ek:TypeId)(sk:Nat)(enc exp:α→List AV)(encK:β→List AV)(L:List (α×Option (List β)))(x0:α)(l0:List β)(x:Value)(he:∀a,enc a=exp a)(hz:∀a,(enc a).length=sz)
  (k:OT cx Q ks all l (zM id tid ⟨et,sz,(L++[(x0,some l0)]).map (bi enc q ek sk encK)⟩ s)) (har:look id s.r=some ⟨et,sz,L.map (bi enc q ek sk encK)++[(exp x0).set q (.vv x)]⟩:=by kernel_rfl) (hat:look tid s.r=some ⟨ek,sk,l0.map encK⟩:=by kernel_rfl) (hq:Nat.ble (q+1) sz=true:=by kernel_rfl)
  (hd:look d0 s.t=some (.lk tid x):=by kernel_rfl) (hal:qi s id ka qa=true:=by kernel_rfl) (htg:Nat.ble TG id=true:=by kernel_rfl) (hlt:Nat.ble (tid+1) TG=true:=by kernel_rfl) (hpl:dT s=true:=by kernel_rfl) (hnm:dH s=true:=by kernel_rfl):OT cx Q ks all l s:=by
 have hq':=Nat.le_of_ble_eq_true hq;refine Nx id L.length q tid d0 (kR ka qa hal) (CE enc q ek sk encK L _) (by rw[List.getElem?_set,if_pos rfl,if_pos (by rw[←he,hz];omega)]) ?_ har hat hd htg hlt hpl hnm;rw[IT (XN enc q ek sk encK L x0 l0 (by rw[List.set_set,he]))];exact k
theorem yY{ex:Exit}(id tid d0 ka qa:Nat)(et:TypeId)(sz q:Nat)(ek:TypeId)(sk:Nat)(enc:α→List AV)(encK:β→List AV)(L:List (α×Option (List β)))(j:Nat)(l0:List β)(c0:AV)(hj:j<L.length)(hl:(L.getD j default).2=some l0)(hz:∀a,(enc a).length=sz)
  (k:∀x,VE cx Q ks ex (sc id j q tid d0 ⟨et,sz,L.map (bi enc q ek sk encK)⟩ ek sk (l0.map encK) x s)) (har:look id s.r=some ⟨et,sz,L.map (bi enc q ek sk encK)⟩:=by kernel_rfl) (hq:Nat.ble (q+1) sz=true:=by kernel_rfl)
  (hal:qi s id ka qa=true:=by kernel_rfl) (hd:look d0 s.t=some c0:=by kernel_rfl) (hone:c0.lz=true:=by kernel_rfl) (hlt:Nat.ble (tid+1) dp=true:=by kernel_rfl) (hfr:has s.u tid=false:=by kernel_rfl) (hpl:dT s=true:=by kernel_rfl) (hnm:dH s=true:=by kernel_rfl):VE cx Q ks ex s:=by
 obtain⟨h1,h2⟩:=IV (enc:=enc) (q:=q) (ek:=ek) (sk:=sk) (encK:=encK) (sz:=sz) hj hz (Nat.le_of_ble_eq_true hq) hl;exact aaX id j q tid d0 (kR ka qa hal) h1 h2 k har hd hone hlt hfr hpl hnm
theorem V8{l:List Oper}(id tid d0 ka qa:Nat)(et:TypeId)(sz q:Nat)(ek:TypeId)(sk:Nat)(enc:α→List AV)(encK:β→List AV)(L:List (α×Option (List β)))(j:Nat)(l0:List β)(c0:AV)(hj:j<L.length)(hl:(L.getD j default).2=some l0)(hz:∀a,(enc a).length=sz)
  (k:∀x,OT cx Q ks all l (sc id j q tid d0 ⟨et,sz,L.map (bi enc q ek sk encK)⟩ ek sk (l0.map encK) x s)) (har:look id s.r=some ⟨et,sz,L.map (bi enc q ek sk encK)⟩:=by kernel_rfl) (hq:Nat.ble (q+1) sz=true:=by kernel_rfl)
  (hal:qi s id ka qa=true:=by kernel_rfl) (hd:look d0 s.t=some c0:=by kernel_rfl) (hone:c0.lz=true:=by kernel_rfl) (hlt:Nat.ble (tid+1) dp=true:=by kernel_rfl) (hfr:has s.u tid=false:=by kernel_rfl) (hpl:dT s=true:=by kernel_rfl) (hnm:dH s=true:=by kernel_rfl):OT cx Q ks all l s:=by
 obtain⟨h1,h2⟩:=IV (enc:=enc) (q:=q) (ek:=ek) (sk:=sk) (encK:=encK) (sz:=sz) hj hz (Nat.le_of_ble_eq_true hq) hl;exact aay id j q tid d0 (kR ka qa hal) h1 h2 k har hd hone hlt hfr hpl hnm
theorem yz{l:List Oper}(id tid d0 ka qa:Nat)(et:TypeId)(sz q:Nat)(ek:TypeId)(sk:Nat)(enc:α→List AV)(encK:β→List AV)(L:List (α×Option (List β)))(j:Nat)(l0:List β)(x:Value)(hj:j<L.length)(hz:∀a,(enc a).length=sz)
  (k:OT cx Q ks all l (zM id tid ⟨et,sz,(L.set j ((L.getD j default).1,some l0)).map (bi enc q ek sk encK)⟩ s)) (har:look id s.r=some ⟨et,sz,da (L.map (bi enc q ek sk encK)) j q (.vv x)⟩:=by kernel_rfl) (hat:look tid s.r=some ⟨ek,sk,l0.map encK⟩:=by kernel_rfl) (hq:Nat.ble (q+1) sz=true:=by kernel_rfl)
  (hd:look d0 s.t=some (.lk tid x):=by kernel_rfl) (hal:qi s id ka qa=true:=by kernel_rfl) (htg:Nat.ble TG id=true:=by kernel_rfl) (hlt:Nat.ble (tid+1) TG=true:=by kernel_rfl) (hpl:dT s=true:=by kernel_rfl) (hnm:dH s=true:=by kernel_rfl):OT cx Q ks all l s:=by
 have hq':=Nat.le_of_ble_eq_true hq;refine Nx id j q tid d0 (kR ka qa hal) (wD enc q ek sk encK hj (.vv x)) (by rw[List.getElem?_set,if_pos rfl,if_pos (by rw[hz];omega)]) ?_ har hat hd htg hlt hpl hnm;rw[IT (acd (enc:=enc) (q:=q) (ek:=ek) (sk:=sk) (encK:=encK) hj l0 (.vv x))];exact k
theorem SH{l:List Oper}(id:Nat)(et:TypeId)(sz q:Nat)(ek:TypeId)(sk:Nat)(enc:α→List AV)(encK:β→List AV)(L:List (α×Option (List β)))(j:Nat)(x:Value)(hj:j<L.length)(hz:∀a,(enc a).length=sz)
  (k:OT cx Q ks all l (kk id ⟨et,sz,(L.set j ((L.getD j default).1,none)).map (bi enc q ek sk encK)⟩ s)) (har:look id s.r=some ⟨et,sz,da (L.map (bi enc q ek sk encK)) j q (.vv x)⟩:=by kernel_rfl) (hq:Nat.ble (q+1) sz=true:=by kernel_rfl):OT cx Q ks all l s:=by
 have hq':=Nat.le_of_ble_eq_true hq;refine aa3 id j q (wD enc q ek sk encK hj (.vv x)) (by rw[List.getElem?_set,if_pos rfl,if_pos (by rw[hz];omega)]) ?_ har;have:Ae id j q ⟨et,sz,da (L.map (bi enc q ek sk encK)) j q (.vv x)⟩ s=kk id ⟨et,sz,(L.set j ((L.getD j default).1,none)).map (bi enc q ek sk encK)⟩ s:=by
  unfold Ae kk;rw[aan enc q ek sk encK L hj]
 rw[this];exact k
def Z8(id nid:Nat)(ar:bD)(s:AS):AS:=⟨lO id nid s.t,lK id nid s.o,bh nid ar (era id s.r),nid::s.u⟩
theorem ab1{α:Type}(k:Nat)(v:α)(l:List (Nat×α)):look k (bh k v l)=some v:=by rw[cu,if_pos rfl]
theorem NA{α:Type}(k:Nat)(v:α):∀l:List (Nat×α),era k (bh k v l)=era k l
 | []=>by simp[bh,era]
 | (j,x)::r=>by
  unfold bh;by_cases h:k=j
  ·simp[h,era]
  ·simp only[h,if_false,era];rw[NA k v r]
theorem I6{ex:Exit}(id nid:Nat)(et:TypeId)(sz q:Nat)(ek:TypeId)(sk:Nat)(enc:α→List AV)(encK:β→List AV)(L:List (α×Option (List β)))(wk:α→List β→α)(hw:∀x l,(enc x).set q (.sl (l.map encK))=enc (wk x l))(hf:∀x,(enc x).map AV.lE=enc x)(hfl:∀x,(enc x).all AV.oH=true)(hL:L.all (fun p=>p.2.isSome)=true)
  (k:VE cx Q ks ex (Z8 id nid ⟨et,sz,(L.map fun p=>wk p.1 (p.2.getD [])).map enc⟩ s)) (har:look id s.r=some ⟨et,sz,L.map (bi enc q ek sk encK)⟩:=by kernel_rfl) (hn:has s.u nid=false:=by kernel_rfl) (hnp:s.u.contains (ey id)=false:=by kernel_rfl) (hpl:dT s=true:=by kernel_rfl) (hnm:dH s=true:=by kernel_rfl):VE cx Q ks ex s:=by
 have hno:∀e∈L.map (bi enc q ek sk encK),∀c∈e,c.yQ=true:=by
  intro e he c hc;obtain⟨p,_,rfl⟩:=List.mem_map.1 he;unfold bi at hc;rcases List.mem_or_eq_of_mem_set hc with h|h
  ·have h2:=List.all_eq_true.1 (hfl p.1) c h;cases c<;>first|rfl|(simp[AV.oH]at h2)
  ·subst h;cases p.2<;>rfl
 refine W4 id hno ?_ har hpl hnm;have e1:Bu id ⟨et,sz,L.map (bi enc q ek sk encK)⟩ s=kk id ⟨et,sz,(L.map fun p=>wk p.1 (p.2.getD [])).map enc⟩ s:=by
  unfold Bu kk;rw[show(bD.l ⟨et,sz,L.map (bi enc q ek sk encK)⟩)=L.map (bi enc q ek sk encK) from rfl,YS enc q ek sk encK wk hw hf L hL]
 rw[e1];refine aaq id nid (ar:=⟨et,sz,(L.map fun p=>wk p.1 (p.2.getD [])).map enc⟩) (fun e he c hc=>?_) ?_ (ab1 _ _ _) hn hnp
 ·obtain⟨y,_,rfl⟩:=List.mem_map.1 he;exact List.all_eq_true.1 (hfl y) c hc
 ·unfold kk;rw[NA];exact k
end
end Go.Proofs.YtolhpahjgddjkaaGreat
