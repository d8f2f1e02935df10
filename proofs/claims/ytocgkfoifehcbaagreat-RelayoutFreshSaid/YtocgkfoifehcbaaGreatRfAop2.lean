/- The operations on abstract values, second part: addresses, stores, new variables, literals, len, max, min. No program in sight. -/
import Derived.Test.YtocgkfoifehcbaaGreatRfAop
namespace Go.Proofs.YtocgkfoifehcbaaGreat
set_option linter.all false
open Go.RowKit
def q9(k:Nat):AV→Option AV
 | .ptr id off=>some (.ptr id (off+k))
 | .cptr cs=>some (.cptr (cs.drop k))
 | .eptr id sz j off=>some (.eptr id sz j (off+k))
 | .adr g off=>some (.adr g (off+k))
 | .pp _ g off=>some (.adr g (off+k))
 | _=>none
theorem JW{N:Nat→Prop}{w:World}{ι:Env}{k:Nat}{p q:AV}{x:Value}(h:q9 k p=some q)(hp:Rel N w ι p x):
  ∃b o,x=.pointer (some ⟨b,o,none⟩)∧Rel N w ι q (.pointer (some ⟨b,o+k,none⟩)):=by
 unfold q9 at h;split at h<;>first|(cases h;done)|skip
 ·injection h with h;subst h
  cases hp with
  | ptr _ _ _ g hι=>exact⟨g,_,rfl,.ptr _ _ _ g hι⟩
 ·injection h with h;subst h
  cases hp with
  | cptr _ cs b o val hb hn h1 hc hr =>
   refine⟨b,o,rfl,.cptr _ _ b (o+k) (fun i=>val (k+i)) hb hn (fun i=>h1 _) (fun i x hx=>?_) (fun i x hx=>?_)⟩
   ·rw[List.getElem?_drop]at hx;have:=hc _ x hx;rwa[←Nat.add_assoc]at this
   ·rw[List.getElem?_drop]at hx;exact hr _ x hx
 ·injection h with h;subst h
  cases hp with
  | eptr _ _ _ _ _ g n c hι =>
   refine⟨g,_,rfl,?_⟩;rw[Nat.add_assoc];exact .eptr _ _ _ _ _ g n c hι
 ·injection h with h;subst h
  cases hp with
  | adr _ _ _=>exact⟨_,_,rfl,.adr _ _ _⟩
 ·injection h with h;subst h
  cases hp with
  | pp _ _ _ _ _=>exact⟨_,_,rfl,.adr _ _ _⟩
theorem QJ{P:Program}{w:World}{N:Nat→Prop}{ι:Env}{T:TypeId}{f k:Nat}{p q:AV}{x:Value}(hf:xH P T f=some k)(h:q9 k p=some q)(hp:Rel N w ι p x):
  ∃z,(Instr.fieldAt T x f).run P w=.ok z w∧Rel N w ι q z:=by
 obtain⟨b,o,rfl,hq⟩:=JW h hp;unfold xH at hf;split at hf
 ·rename_i fs hu;split at hf
  ·rename_i g hg;split at hf
   ·rename_i m hm;injection hf with hf;subst hf
    refine⟨_,?_,hq⟩;cases hi:P.info? g.type with
    | none=>simp[bU,hi]at hm
    | some i =>
     have hs:i.size=m+1:=by simpa[bU,hi]using hm
     have hne:¬ i.size=0:=by omega
     simp[Instr.fieldAt,run_underlying hu,hg,Instr.sureAddr,fieldPlace,sizeOf,typeInfo,hi,hs,Addr.add_mid]
   ·cases hf
  ·cases hf
 ·cases hf
def tB(P:Program)(s:AS)(T:TypeId)(x:AV)(i:Int):Option AV :=
 if 0≤i then
  match ke P T with
  | some (n,k)=>if i.toNat<n then q9 (i.toNat*k) x else none
  | none=>match eI P T with
   | some (_,k)=>match x with
    | .sl l=>match l[i.toNat]? with
     | some e=>if e.length=k then some (.cptr e) else none
     | none=>none
    | .ref id=>match look id s.r with
     | some a=>if a.sz=k∧i.toNat<a.l.length then some (.eptr id k i.toNat 0) else none
     | none=>none
    | .sref id sz off m=>if sz=k∧i.toNat<m then some (.eptr id k (off+i.toNat) 0) else none
    | _=>none
   | none=>none
 else none
theorem TP{cx:Cx}{s:AS}{a:Act}{w:World}{ι:Env}(hsim:aN cx s a w ι){T:TypeId}{x r:AV}{k:IntKind}{i:Int}(h:tB cx.P s T x i=some r){X:Value}(hx:Rel (NN cx.M ι) w ι x X):
  ∃z,(Instr.indexAt T X (.int k i)).run cx.P w=.ok z w∧Rel (NN cx.M ι) w ι r z:=by
 unfold tB at h;split at h
 ·rename_i hi;split at h
  ·rename_i n sz hta;split at h
   ·rename_i hlt;obtain⟨b,o,rfl,hq⟩:=JW h hx;refine⟨_,?_,hq⟩;unfold ke at hta;split at hta
    ·rename_i n' e hu;cases hz:bU cx.P e with
     | none=>rw[hz]at hta;cases hta
     | some sz' =>
      rw[hz]at hta;injection hta with hta;injection hta with hn hk;subst hn;subst hk
      cases hin:cx.P.info? e with
      | none=>simp[bU,hin]at hz
      | some ti =>
       have hs:ti.size=sz':=by simpa[bU,hin]using hz
       have hlt':i<(n':Int):=by omega
       simp[Instr.indexAt,asIntOf,run_underlying hu,Instr.sureAddr,hi,hlt',sizeOf,typeInfo,hin,hs,Addr.add_mid]
    ·cases hta
   ·cases h
  ·split at h
   ·rename_i e sz hts;unfold eI at hts;split at hts
    ·rename_i e' hu;cases hz:bU cx.P e' with
     | none=>rw[hz]at hts;cases hts
     | some sz' =>
      rw[hz]at hts;injection hts with hts;injection hts with he hk;subst he;subst hk
      cases hin:cx.P.info? e' with
      | none=>simp[bU,hin]at hz
      | some ti =>
       have hs:ti.size=sz':=by simpa[bU,hin]using hz
       split at h
       ·rename_i l;split at h
        ·rename_i el hel;split at h
         ·rename_i hlen;injection h with h;subst h
          cases hx with
          | sl0 A c=>simp at hel
          | sl _ _ b o c sz0 val hz0 hb hn h1 hc hr _ =>
           have hlt:i.toNat<l.length:=(List.getElem?_eq_some_iff.1 hel).1;have hlt':i<(l.length:Int):=by omega
           have hsz0:sz0=sz':=by rw[←hlen];exact(hz0 el (List.mem_of_getElem? hel)).symm
           subst hsz0;refine⟨.pointer (some ⟨b,o+i.toNat*sz0,none⟩),?_,.cptr _ _ b _ (val i.toNat) hb hn (h1 _) (hc _ _ hel) (hr _ _ hel)⟩;simp[Instr.indexAt,asIntOf,run_underlying hu,hi,hlt',sizeOf,typeInfo,hin,hs,Addr.add_mid]
         ·cases h
        ·cases h
       ·rename_i id;split at h
        ·rename_i ar har;split at h
         ·rename_i hcond;injection h with h;subst h
          cases hx with
          | ref _ _ A n c hι =>
           obtain⟨v,xs,h1,h2,h3,h4,h5⟩:=hsim.hs.arrs id ar har (by rw[hι];rfl);rw[hι]at h1;injection h1 with h1;subst h1
           obtain⟨hv,h0⟩|⟨g',cap,cur,hv,hb,hg,hle,hcap,hsize,htake⟩:=h2.2
           ·omega
           ·injection hv with hA hn hc'
            subst hA;subst hn;have hlt':i<(ar.l.length:Int):=by omega
            refine⟨.pointer (some ⟨g',i.toNat*sz'+0,none⟩),?_,.eptr _ _ _ _ _ g' _ c hι⟩;simp[Instr.indexAt,asIntOf,run_underlying hu,hi,hlt',sizeOf,typeInfo,hin,hs,Addr.add_mid]
         ·cases h
        ·cases h
       ·rename_i id sz0 off m;split at h
        ·rename_i hcond;obtain⟨rfl,hlt⟩:=hcond;injection h with h;subst h
         cases hx with
         | sref _ _ _ _ _ n c c' A B hι hB =>
          rcases hB with hB|⟨g,rfl,rfl,_⟩
          ·omega
          ·have hlt':i<(m:Int):=by omega
           refine⟨.pointer (some ⟨g,(off+i.toNat)*sz0+0,none⟩),?_,.eptr _ _ _ _ _ g n c hι⟩;rw[Nat.add_zero,Nat.add_mul];simp[Instr.indexAt,asIntOf,run_underlying hu,hi,hlt',sizeOf,typeInfo,hin,hs,Addr.add_mid]
        ·cases h
       ·cases h
    ·cases hts
   ·cases h
 ·cases h
def gu:AV→Option (List AV)
 | .agg cs=>some cs
 | .tup _=>none
 | v=>some [v]
theorem qF{N:Nat→Prop}{w:World}{ι:Env}{v:AV}{x:Value}{cs:List AV}(h:gu v=some cs)(hv:Rel N w ι v x):Cells N w ι cs x.cells.toList:=by
 have key:∀(y:Value),Rel N w ι v y→v.vo=true→y.cells = #[y]→Cells N w ι [v] y.cells.toList:=fun y hy ho hc=>by
  rw[hc];exact⟨rfl,fun u hu=>by simp at hu;subst hu;exact hy.one ho,fun i c u hc' hu=>by
   cases i with
   | zero=>simp at hc' hu;subst hc';subst hu;exact hy
   | succ i=>simp at hc'⟩
 unfold gu at h;split at h
 ·injection h with h;subst h
  cases hv with
  | agg _ _ vs hl h1 hr=>exact⟨by simpa[Value.cells]using hl,by simpa[Value.cells]using h1,by simpa[Value.cells]using hr⟩
 ·cases h
 ·rename_i h1 h2;injection h with h;subst h
  cases hv<;>first
   | exact key _ (by constructor<;>assumption) rfl rfl
   | (rename_i hone;exact key _ (.any _ _ hone) rfl (by cases x<;>first|rfl|cases hone))
   | (rename_i hone;exact key _ (.vv _ _ hone) rfl (by cases x<;>first|rfl|cases hone))
   | (rename_i hlk hone;exact key _ (.lk _ _ _ _ hlk hone) rfl (by cases x<;>first|rfl|cases hone))
   | exact(h1 _ rfl).elim
   | exact(h2 _ rfl).elim
def fW(off:Nat)(nv cs:List AV):List AV:=cs.take off++nv++cs.drop (off+nv.length)
theorem gS{α:Type}(off:Nat)(nv cs:List α)(h:off+nv.length≤cs.length)(i:Nat):(cs.take off++nv++cs.drop (off+nv.length))[i]?=if i<off then cs[i]? else if i<off+nv.length then nv[i-off]? else cs[i]?:=by
 have e1:(cs.take off).length=off:=by rw[List.length_take];omega
 by_cases h1:i<off
 ·rw[if_pos h1,List.append_assoc,List.getElem?_append_left (by omega),List.getElem?_take,if_pos h1]
 ·rw[if_neg h1,List.append_assoc,List.getElem?_append_right (by omega),e1];by_cases h2:i<off+nv.length
  ·rw[if_pos h2,List.getElem?_append_left (by omega)]
  ·rw[if_neg h2,List.getElem?_append_right (by omega),List.getElem?_drop];congr 1;omega
theorem jZ{α:Type}(off:Nat)(nv cs:List α)(h:off+nv.length≤cs.length):(cs.take off++nv++cs.drop (off+nv.length)).length=cs.length:=by
 simp;omega
theorem Cells.fW{N:Nat→Prop}{w:World}{ι:Env}{cs nv:List AV}{vs nw:List Value}(h:Cells N w ι cs vs)(hn:Cells N w ι nv nw){off:Nat}(hl:off+nv.length≤cs.length):
  Cells N w ι (fW off nv cs) (vs.take off++nw++vs.drop (off+nw.length)):=by
 have hl':off+nw.length≤vs.length:=by rw[←hn.len,← h.len];exact hl
 refine⟨?_,fun v hv=>?_,fun i x v hx hv=>?_⟩
 ·unfold Proofs.YtocgkfoifehcbaaGreat.fW;rw[jZ off nv cs hl,jZ off nw vs hl',h.len]
 ·rcases List.mem_append.1 hv with hv|hv
  ·rcases List.mem_append.1 hv with hv|hv
   ·exact h.one v (List.mem_of_mem_take hv)
   ·exact hn.one v hv
  ·exact h.one v (List.mem_of_mem_drop hv)
 ·unfold Proofs.YtocgkfoifehcbaaGreat.fW at hx;rw[gS off nv cs hl]at hx;rw[gS off nw vs hl']at hv;rw[hn.len]at hx;split at hx
  ·rename_i h1;rw[if_pos h1]at hv;exact h.rel i x v hx hv
  ·rename_i h1;rw[if_neg h1]at hv;split at hx
   ·rename_i h2;rw[if_pos h2]at hv;exact hn.rel _ x v hx hv
   ·rename_i h2;rw[if_neg h2]at hv;exact h.rel i x v hx hv
def lY(P:Program)(s:AS)(T:TypeId)(p v:AV):Option AS :=
 match p with
 | .ptr id off=>match look id s.o,gu v with
  | some cs,some nv=>if bU P T=some nv.length∧off+nv.length≤cs.length then some { s with o:=aZ id (fW off nv cs) s.o } else none
  | _,_=>none
 | .eptr id sz j off=>match look id s.r,gu v with
  | some a,some nv=>match a.l[j]? with
   | some e=>if a.sz=sz∧bU P T=some nv.length∧off+nv.length≤e.length∧db [] nv=true then some { s with r:=aZ id { a with l:=a.l.set j (fW off nv e) } s.r } else none
   | none=>none
  | _,_=>none
 | _=>none
theorem F0{P:Program}{w:World}{g off:Nat}{T T':TypeId}{cur:Array Value}{x:Value}(hg:w.heap[g]?=some (.cells cur T' (0,0)))(hz:bU P T=some x.cells.toList.length)(hl:off+x.cells.toList.length≤cur.size)(h1:∀v∈x.cells.toList,v.oneCell'=true):
  (Instr.storeAt T (.pointer (some ⟨g,off,none⟩)) x).run P w=.ok () (w.setRow g (cur.toList.take off++x.cells.toList++cur.toList.drop (off+x.cells.toList.length)).toArray):=by
 have hst:=run_storeCells_at P g off T' x.cells.toList 0 cur w hg (by simpa using hl) h1;cases hi:P.info? T with
 | none=>simp[bU,hi]at hz
 | some i =>
  have hs:i.size=x.cells.size:=by simpa[bU,hi]using hz
  simp only[Nat.add_zero]at hst;simp[Instr.storeAt,Instr.sureAddr,storeVar,sizeOf,typeInfo,hi,hs,hst]
theorem Cells.Di{N:Nat→Prop}{w:World}{ι:Env}{cs:List AV}{vs:List Value}(h:Cells N w ι cs vs)(hp:db [] cs=true)(ι':Env):Cells N w ι' cs vs :=
 ⟨h.len,h.one,fun i x v hx hv=>(h.rel i x v hx hv).pure (iE hp i x hx) ι'⟩
theorem HS.QE{M:Nat→Prop}{w0:aE}{w:World}{ι:Env}{s:AS}(h:HS M w0 w ι s){id g n c:Nat}{ar:br}{j off:Nat}{e nv:List AV}{nw:List Value}
  (har:look id s.r=some ar) (hι:ι id=some (.slice (some ⟨g,0,none⟩) n c)) (he:ar.l[j]?=some e) (hl:off+nv.length≤e.length) (hc:Cells (NN M ι) w bn nv nw) :
  ∃cur T,w.heap[g]?=some (.cells cur T (0,0))∧j*ar.sz+off+nw.length≤cur.size ∧
   HS M w0 (w.setRow g (cur.toList.take (j*ar.sz+off)++nw++cur.toList.drop (j*ar.sz+off+nw.length)).toArray) ι { s with r:=aZ id { ar with l:=ar.l.set j (fW off nv e) } s.r }:=by
 obtain⟨v,xs,h1,h2,h3,h4,h5⟩:=h.arrs id ar har (by rw[hι];rfl);rw[hι]at h1;injection h1 with h1;subst h1
 have hbg:bm (ι id)=some g:=by rw[hι];rfl
 obtain⟨hv,_⟩|⟨g',cap,cur,hv,hb,hg,hle,hcap,hsize,htake⟩:=h2.2
 ·cases hv
 injection hv with hA hn hcc
 injection hA with hA;injection hA with hA;subst hA;subst hcc
 have hjl:j<ar.l.length:=(List.getElem?_eq_some_iff.1 he).1;have hel:e.length=ar.sz:=h3 e (List.mem_of_getElem? he);have hxl:xs.length=ar.l.length*ar.sz:=h2.1;have hmul:(j+1)*ar.sz≤ar.l.length*ar.sz:=Nat.mul_le_mul_right _ hjl;have hmul':ar.l.length*ar.sz≤c*ar.sz:=Nat.mul_le_mul_right _ hle;have hj1:(j+1)*ar.sz=j*ar.sz+ar.sz:=by rw[Nat.add_mul,Nat.one_mul]
 have hfit:j*ar.sz+off+nw.length≤cur.size:=by rw[←hc.len,hsize];omega
 have hfitx:j*ar.sz+off+nw.length≤xs.length:=by rw[←hc.len,hxl];omega
 refine⟨cur,ar.e,hg,hfit,?_⟩;generalize hC:(cur.toList.take (j*ar.sz+off)++nw++cur.toList.drop (j*ar.sz+off+nw.length)).toArray=C;have bI:∀b,b<w.heap.size→¬ NN M ι b→(w.setRow g C).heap[b]?=w.heap[b]?:=fun b _ hb=>du (fun e=>hb (.inr ⟨id,by rw[e];exact hbg⟩));obtain⟨ho,hlt⟩:=h.own id g hbg;refine⟨?_,h.old,h.use,fun i k hk=>?_,h.inj,h.ko,fun i a hi=>?_,fun i cs hi hp=>?_,fun i a hi hp=>?_,h.pin⟩
 ·exact h.below.trans ⟨rfl,rfl,rfl,by simp,fun k hk hG=>du (fun e=>by subst e;rcases ho with ho|ho;exact Nat.lt_irrefl _ (Nat.lt_of_lt_of_le hk ho);exact hG ho)⟩
 ·have:=h.own i k hk;simp;exact this
 ·simp only[ca]at hi;by_cases ei:i=id
  ·subst ei;exact h.use i _ hι
  ·rw[if_neg ei]at hi;exact h.kr i a hi
 ·obtain⟨g',T',vs1,h1,h2',h3'⟩:=h.objs i cs hi hp;have hne:g'≠g:=fun e'=>by
   have:=h.inj i id g (by rw[h1,e'];rfl) hbg;subst this;rw[h1]at hι;cases hι
  exact⟨g',T',vs1,h1,(du hne).trans h2',h3'.mono (by simp) (fun b _ hb=>hb) bI (fun _ _ h=>h)⟩
 ·simp only[ca]at hi;by_cases ei:i=id
  ·subst ei;rw[if_pos rfl]at hi;injection hi with hi;subst hi
   refine⟨_,xs.take (j*ar.sz+off)++nw++xs.drop (j*ar.sz+off+nw.length),hι,⟨?_,.inr ⟨g,c,C,?_,hb,setRow_heap w g cur _ _ _ hg,?_,hcap,?_,?_⟩⟩,?_,?_,?_⟩
   ·rw[jZ _ _ _ hfitx];simpa using hxl
   ·simp[hn]
   ·simpa using hle
   ·rw[←hsize,← hC];have hfit':=hfit;rw[←Array.length_toList]at hfit';rw[List.size_toArray,jZ _ _ _ hfit',Array.length_toList]
   ·rw[←hC];apply List.ext_getElem?;intro i;simp only[List.getElem?_take,List.length_set];rw[gS _ _ _ (by simpa using hfit),gS _ _ _ hfitx];have ht:∀i,xs[i]?=if i<ar.l.length*ar.sz then cur.toList[i]? else none:=fun i=>by rw[←htake,List.getElem?_take]
    simp only[ht];have hb1:=hc.len;by_cases g1:i<ar.l.length*ar.sz
    ·simp only[if_pos g1]
    ·simp only[if_neg g1];have g2:¬ i<j*ar.sz+off:=by omega
     have g3:¬ i<j*ar.sz+off+nw.length:=by omega
     simp only[if_neg g2,if_neg g3]
   ·intro e' he';simp only[]at he'⊢;rcases List.mem_or_eq_of_mem_set he' with he'|rfl
    ·exact h3 e' he'
    ·unfold fW;rw[jZ _ _ _ hl];exact hel
   ·intro x hx;rcases List.mem_append.1 hx with hx|hx
    ·rcases List.mem_append.1 hx with hx|hx
     ·exact h4 x (List.mem_of_mem_take hx)
     ·exact hc.one x hx
    ·exact h4 x (List.mem_of_mem_drop hx)
   ·intro j' e' hj' k c' hk;simp only[]at hj'⊢;rw[gS _ _ _ hfitx];rw[List.getElem?_set]at hj';by_cases ej:j=j'
    ·subst ej;rw[if_pos rfl,if_pos hjl]at hj';injection hj' with hj';subst hj'
     unfold fW at hk;have hklt:k<e.length:=by have:=(List.getElem?_eq_some_iff.1 hk).1;rwa[jZ _ _ _ hl]at this
     rw[gS _ _ _ hl]at hk;split at hk
     ·rename_i g1;obtain⟨x,hx,hr⟩:=h5 j e he k c' hk;rw[if_pos (by omega)];exact⟨x,hx,hr.mono (by simp) (fun b _ hb=>hb) bI (fun _ h=>h) (fun r hr'=>du (fun e=>h.li hr' hι (fun _ e=>by cases e) (by rw[e];rfl))) (fun h=>h)⟩
     ·rename_i g1;split at hk
      ·rename_i g2;have hk':k-off<nw.length:=by rw[←hc.len];omega
       rw[if_neg (by omega),if_pos (by rw[←hc.len];omega)];have e2:j*ar.sz+k-(j*ar.sz+off)=k-off:=by omega
       rw[e2];exact⟨nw[k-off],List.getElem?_eq_getElem hk',.inl ((hc.rel _ _ _ hk (List.getElem?_eq_getElem hk')).mono (by simp) (fun b _ hb=>hb) bI (fun _ _ h=>h))⟩
      ·rename_i g2;obtain⟨x,hx,hr⟩:=h5 j e he k c' hk;rw[if_neg (by omega),if_neg (by rw[←hc.len];omega)];exact⟨x,hx,hr.mono (by simp) (fun b _ hb=>hb) bI (fun _ h=>h) (fun r hr'=>du (fun e=>h.li hr' hι (fun _ e=>by cases e) (by rw[e];rfl))) (fun h=>h)⟩
    ·rw[if_neg ej]at hj';obtain⟨x,hx,hr⟩:=h5 j' e' hj' k c' hk;have hklt:k<ar.sz:=by have:=(List.getElem?_eq_some_iff.1 hk).1;rwa[h3 e' (List.mem_of_getElem? hj')]at this
     have hl2:off+nw.length≤ar.sz:=by rw[←hc.len];omega
     refine⟨x,?_,hr.mono (by simp) (fun b _ hb=>hb) bI (fun _ h=>h) (fun r hr'=>du (fun e=>h.li hr' hι (fun _ e=>by cases e) (by rw[e];rfl))) (fun h=>h)⟩;rcases Nat.lt_or_gt_of_ne ej with hlt'|hgt'
     ·have:(j+1)*ar.sz≤j'*ar.sz:=Nat.mul_le_mul_right _ hlt';rw[if_neg (by omega),if_neg (by omega)];exact hx
     ·have:(j'+1)*ar.sz≤j*ar.sz:=Nat.mul_le_mul_right _ hgt';rw[Nat.add_mul,Nat.one_mul]at this;rw[if_pos (by omega)];exact hx
  ·rw[if_neg ei]at hi;obtain⟨v',xs',h1',h2',h3',h4',h5'⟩:=h.arrs i a hi hp;refine⟨v',xs',h1',eo h2' (fun g' hg'=>du ?_),h3',h4',fun j el hj k c hk'=>?_⟩
   ·intro e';subst e';exact ei (h.inj i id g' (by rw[h1'];exact hg') hbg)
   ·obtain⟨x,hx,hr⟩:=h5' j el hj k c hk';exact⟨x,hx,hr.mono (by simp) (fun b _ hb=>hb) bI (fun _ h=>h) (fun r hr'=>du (fun e=>h.li hr' hι (fun _ e=>by cases e) (by rw[e];rfl))) (fun h=>h)⟩
theorem Sa{cx:Cx}{s s':AS}{a:Act}{w:World}{ι:Env}(hsim:aN cx s a w ι){T:TypeId}{p v:AV}(h:lY cx.P s T p v=some s'){X Y:Value}(hp:Rel (NN cx.M ι) w ι p X)(hv:Rel (NN cx.M ι) w ι v Y):
  ∃w',(Instr.storeAt T X Y).run cx.P w=.ok () w'∧aN cx s' a w' ι:=by
 unfold lY at h;split at h
 ·rename_i id off;split at h
  ·rename_i cs nv hcs hnv;split at h
   ·rename_i hcond;injection h with h;subst h
    cases hp with
    | ptr _ _ _ g hι =>
     obtain⟨g',T',vs,h1,h2,h3⟩:=hsim.hs.objs id cs hcs (by rw[hι];rfl);rw[hι]at h1;injection h1 with h1;injection h1 with h1;injection h1 with h1;injection h1 with h1;subst h1
     have hc:=qF hnv hv;have hbg:bm (ι id)=some g:=by rw[hι];rfl
     refine⟨_,F0 h2 (by rw[←hc.len];exact hcond.1) (by have:=h3.len;have:=hcond.2;rw[←hc.len];simp at *;omega) hc.one,?_⟩;refine hsim.world (hsim.hs.setObj hι h2 (h3.fW hc hcond.2)) rfl (by simp) (fun b _ hb=>hb) (fun b _ hb=>du (fun e=>hb (.inr ⟨id,by rw[e];exact hbg⟩))) (fun _ _ h=>h)
   ·cases h
  ·cases h
 ·rename_i id sz j off;split at h
  ·rename_i ar nv har hnv;split at h
   ·rename_i e he;split at h
    ·rename_i hcond;obtain⟨c1,c2,c3,c4⟩:=hcond;subst c1;injection h with h;subst h
     cases hp with
     | eptr _ _ _ _ _ g n c hι =>
      have hc:=qF hnv hv;obtain⟨cur,T',hg,hfit,hhs⟩:=hsim.hs.QE har hι he c3 (hc.Di c4 bn);have hbg:bm (ι id)=some g:=by rw[hι];rfl
      refine⟨_,F0 hg (by rw[←hc.len];exact c2) hfit hc.one,?_⟩;refine hsim.world hhs rfl (by simp) (fun b _ hb=>hb) (fun b _ hb=>du (fun e=>hb (.inr ⟨id,by rw[e];exact hbg⟩))) (fun _ _ h=>h)
    ·cases h
   ·cases h
  ·cases h
 ·cases h
end Go.Proofs.YtocgkfoifehcbaaGreat
