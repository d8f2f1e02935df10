/- The builtin clear at the end of an own slice; an own slice becomes its own beginning. No program in sight. -/
import Derived.Test.YtocgkfoifehcbaaGreatRdCu
namespace Go.Proofs.YtocgkfoifehcbaaGreat
set_option linter.all false
open Go.RowKit
def alA:=@List.replicate_zero
def amq:=@Int.le_refl
def amI:=@congrArg
def BL(id:Nat)(ar:cj)(s:AS):AS:={ s with r:=bd id ar s.r }
section
variable{C:Cx}{Q:Exit→Act→World→Prop}{E:dt}{s:AS}{D:Array Oper}{f:Func}{p:ed}{i:Nat}{α:Type}
theorem XR{a:Act}{w:World}{ι:Env}(o:aV C s a w ι){id sz off m bytes:Nat}{et T ty:TypeId}{l:h6}{zc:c6}{X:Value}(hX:Rel (NN C.M ι) w ι (.sref id sz off m) X)(hr:look id s.r=some ⟨et,sz,l⟩)(t:ja C.P T=some (et,sz,bytes))(hz:ey C.P et=some zc)(S:off+m=l.length):
  ∃w',(Builtin.clear_ #[T] ty #[X]).run C.P w=.ok (.tuple #[]) w'∧aV C (BL id ⟨et,sz,l.take off++List.replicate m (zc.map fT)⟩ s) a w' ι:=by
 unfold ja at t;split at t
 case h_2=>cases t
 rename_i e' a0;split at t
 case h_2=>cases t
 rename_i d Z;split at t
 case h_2=>cases t
 rename_i z d0;split at t
 case isFalse=>cases t
 rename_i F;injection t with t;injection t with h1 t;injection t with h2 h3
 subst h1;subst h2;subst h3;have o0:lI z.cells.toList=some zc:=by simpa[ey,Z,d0]using hz
 have f:=(lj (NN C.M ι) w bH o0);have k0:=f.pz;have E:zc.length=d.size:=by rw[f.len,← F.1];simp
 cases hX with
 | sref _ _ _ _ _ n c c' A B hι hB =>
  obtain⟨v,xs,e1,e2,e3,e4,e5⟩:=o.hs.arrs id _ hr (by rw[hι];rfl);by_cases hm:m=0
  ·subst hm;have hL:l.take off++List.replicate 0 (zc.map fT)=l:=by rw[alA,List.append_nil,Dj (by omega)]
   refine⟨w,by cases B<;>simp[Builtin.clear_,ob a0]<;>rfl,?_⟩;rw[hL];refine⟨⟨o.hs.below,o.hs.old,o.hs.use,o.hs.own,o.hs.inj,o.hs.ko,fun j ar u=>?_,o.hs.objs,fun j ar u hp=>?_,o.hs.pin⟩,o.dfr,o.n,o.tmp⟩
   ·simp only[BL,cn]at u;split at u
    ·rename_i e;subst e;exact o.hs.kr j _ hr
    ·exact o.hs.kr j ar u
   ·simp only[BL,cn]at u;split at u
    ·rename_i e;subst e;injection u with u;subst u;exact o.hs.arrs j _ hr hp
    ·exact o.hs.arrs j ar u hp
  ·rcases hB with hB|⟨g,rfl,e0,w0,s0⟩
   ·omega
   subst e0;rw[hι]at e1;injection e1 with e1;subst e1
   obtain⟨J,_⟩|⟨g',q0,p,J,hb,U,h0,p0,N,r⟩:=e2.2
   ·cases J
   injection J with Q hn R
   injection Q with Q;injection Q with Q;subst Q;subst R
   simp only at hn h0 N r e3 e5;have x0:xs.length=l.length*d.size:=e2.1;have W:l.length*d.size=off*d.size+m*d.size:=by rw[←S,ajK]
   generalize O:(Builtin.zeroCells z.cells m).toList=vs;have m0:vs.length=m*d.size:=by rw[←O];simp[Builtin.zeroCells,F.1]
   have H:∀q,q<m*d.size→vs[q]?=z.cells.toList[q % d.size]?:=fun q M=>by
    have hm:q % d.size<z.cells.size:=by rw[F.1];exact amY _ F.2
    rw[←O];simp[Builtin.zeroCells,M,F.1];rw[amz z.cells (q % d.size) hm,ll hm]
   have b0:∀v∈vs,v.oneCell'=true:=fun v J=>by
    obtain⟨q,M⟩:=ali J;have L:q<m*d.size:=by have:=(jt.1 M).1;omega
    rw[H q L]at M;exact f.one v (mm M)
   have t0:l.length*d.size≤p.size:=by
    have h9:=amI List.length r;have r0:p.toList.length=p.size:=If;simp only[afN]at h9;omega
   have Y:=run_storeCells_at C.P g (off*d.size) _ vs 0 p w U (by omega) b0;have P:(xs.take (off*d.size)).length=off*d.size:=by rw[afN];omega
   have I:=o.hs.LQ (l':=l.take off++List.replicate m (zc.map fT)) (xs':=xs.take (off*d.size)++vs) hr hι U (by simp;omega) (fun e he=>by
     rcases n5.1 he with he|he
     ·exact e3 e (u6 he)
     ·rw[(ama.1 he).2,nw,E]) (by rw[ne,P,m0];exact W.symm) (fun x hx=>by
     rcases n5.1 hx with hx|hx
     ·exact e4 x (u6 hx)
     ·exact b0 x hx) (fun j e he D c0 G=>by
     have i0:(l.take off).length=off:=by rw[afN];omega
     show ∃x,(xs.take (off*d.size)++vs)[j*d.size+D]?=some x∧_;by_cases u:j<off
     ·rw[zt (by omega),By,lp u]at he;have K:D<d.size:=by rw[←e3 e (mm he)];exact(jt.1 G).1
      have L:j*d.size+D<off*d.size:=by
       have:(j+1)*d.size≤off*d.size:=IN _ u;rw[ajK,ak9]at this;omega
      obtain⟨y,hy,l0⟩:=e5 j e he D c0 G;exact⟨y,by rw[zt (by omega),By,lp L];exact hy,l0⟩
     ·rw[z3 (by omega),i0,ak4]at he;split at he
      case isFalse=>cases he
      rename_i g0;injection he with he;subst he
      have K:D<d.size:=by have:=(jt.1 G).1;rw[nw,E]at this;exact this
      have v0:j*d.size=off*d.size+(j-off)*d.size:=by rw[←ajK];congr 1;omega
      have M:(j-off)*d.size+D<m*d.size:=by
       have:(j-off+1)*d.size≤m*d.size:=IN _ g0;rw[ajK,ak9]at this;omega
      have V:((j-off)*d.size+D) % d.size=D:=by rw[als,amA,alo K]
      have J:=j3 (l:=z.cells.toList) (i:=D) (by rw[←f.len,E];exact K);refine⟨_,?_,.inl ((k0.rel D c0 _ G J))⟩;rw[z3 (by omega),P,show j*d.size+D - off*d.size=(j-off)*d.size+D by omega,H _ M,V];exact J)
   have hC:p.toList.take (off*d.size+0)++vs++p.toList.drop (off*d.size+0+vs.length)=(xs.take (off*d.size)++vs)++p.toList.drop (xs.take (off*d.size)++vs).length:=by
    rw[ne,P,ak5,← r,amL,Nat.min_eq_left (by omega)]
   rw[←hC]at I;have f0:bu (ι id)=some g:=by rw[hι];rfl
   obtain⟨k,rfl⟩:∃k,m=k+1:=⟨m-1,by omega⟩;refine⟨_,?_,o.world I rfl (by simp) (fun b _ hb=>hb) (fun b _ hb=>eG (fun e=>hb (.inr ⟨id,by rw[e];exact f0⟩))) (fun _ _ h=>h)⟩;simp[Builtin.clear_,ob a0,zeroValue,typeInfo,Z,d0,O,Y]
theorem abp(id:Nat)(et:TypeId)(sz off m:Nat)(enc:α→c6){L:List α}(z:α)(zc:c6){x:Operand}{T:TypeId}{bytes:Nat}(l:Nat.beq (off+m) L.length=true)
  (k:OT C Q E D (aU f p (i+1)) (BL id ⟨et,sz,(L.take off++List.replicate m z).map enc⟩ s))
  (e:(aS f p i).op=.call ⟨.builtin .clear,#[x],#[T]⟩:=by kernel_rfl) (n:(aS f p i).dst=none:=by kernel_rfl)
  (u:s.ev x=some (.sref id sz off m):=by kernel_rfl) (r:look id s.r=some ⟨et,sz,L.map enc⟩:=by kernel_rfl) (t:ja C.P T=some (et,sz,bytes):=by kernel_rfl) (v:ey C.P et=some zc:=by kernel_rfl) (g:zc.map fT=enc z:=by kernel_rfl)
  (q:aU f p i=aS f p i::aU f p (i+1):=by kernel_rfl) (o:cC D s (aS f p i)=true:=by kernel_rfl):OT C Q E D (aU f p i) s:=by
 rw[q];refine eU _ o fun a w ι h=>?_;refine Ts rfl fun K j=>?_;obtain⟨w',c,d⟩:=XR (ty:=(aS f p i).type) h (h.ev u) r t v (by rw[nw];exact nx l);have b:(List.map enc L).take off++List.replicate m (zc.map fT)=(L.take off++List.replicate m z).map enc:=by rw[g];simp only[MO,List.map_take,amd]
 rw[b]at d;unfold Oper.wp;simp[execOp,e,resolve,invoke,builtin,c,Result.andThen];refine j (a.put (aS f p i).dst (.tuple #[])) w' (k _ _ ι ?_);rw[n];exact d
theorem ajy{a:Act}{w:World}{ι:Env}(p:aV C s a w ι){id sz:Nat}{et e T:TypeId}{l:h6}{X:Value}{hi:Operand}{kd:IntKind}{n:Int}(B:id<TG)(m:C.w0.pv id=none)(P:Rel (NN C.M ι) w ι (.ref id) X)(G:look id s.r=some ⟨et,sz,l⟩)(U:C.P.underlying T=some (.slice e))(d:cr C.P e=some sz)(j:s.ev hi=some (.int kd n))(M:0≤n)(N:n≤l.length)(hp:1≤l.length):
  ∃x ι',(Instr.sliceAt T X none (some (a.eval hi)) none).run C.P w=.ok x w∧Rel (NN C.M ι') w ι' (.ref id) x∧aV C { t:=dw id s.t,o:=eV id s.o,r:=bd id ⟨et,sz,l.take n.toNat⟩ s.r,u:=s.u } a w ι':=by
 have q:(sizeOf e).run C.P w=.ok sz w:=by
  cases hi:C.P.info? e with
  | none=>simp[cr,hi]at d
  | some V =>
   have : V.size=sz:=by simpa[cr, hi]using d
   simp[sizeOf,typeInfo,hi,this]
 have Q:jJ s l.length none (some hi)=some (0,n):=by simp[jJ,j]
 have h:∀c,l.length≤c→(Instr.sliceBounds true l.length c none (some (a.eval hi)) none).run C.P w=.ok ((0:Int).toNat,n.toNat,c) w:=fun c S=>CO p Q (amq 0) M N S;cases P with
 | ref _ _ A n' c D =>
  obtain⟨v,xs,f,K,W,Y,Z⟩:=p.hs.arrs id _ G (by rw[D];rfl);rw[D]at f;injection f with f;subst f
  obtain⟨H,g⟩|⟨L,I,J,H,R,hg,b,E,y,z⟩:=K.2
  ·simp only at g;omega
  ·injection H with O F i
   subst O;subst i;simp only at F b;subst F;have:=h c b;refine⟨.slice (some ⟨L,0,none⟩) n.toNat c,_,?_,.ref _ _ _ _ _ (nc _ _ _),p.Hg (k:=n.toNat) m B G D (by simp only;omega)⟩;simp[Instr.sliceAt,ob U,Instr.slice,this,q,Addr.add]
theorem akJ(d id:Nat)(et e:TypeId)(sz:Nat)(enc:α→c6){L:List α}{x hi:Operand}{T:TypeId}{kd:IntKind}{n:Int}(y:(decide (0≤n)&&(decide (n≤L.length)&&Nat.ble 1 L.length))=true)
  (k:OT C Q E D (aU f p (i+1)) (g9 d id ⟨et,sz,(L.take n.toNat).map enc⟩ s))
  (q:(aS f p i).op=.slice T x none (some hi) none:=by kernel_rfl) (G:(aS f p i).dst=some d:=by kernel_rfl) (j:Nat.ble (d+1) C.n=true:=by kernel_rfl)
  (O:s.ev x=some (.ref id):=by kernel_rfl) (l:s.ev hi=some (.int kd n):=by kernel_rfl) (J:look id s.r=some ⟨et,sz,L.map enc⟩:=by kernel_rfl) (M:C.P.underlying T=some (.slice e):=by kernel_rfl) (t:cr C.P e=some sz:=by kernel_rfl)
  (o:s.u.contains (da id)=false:=by kernel_rfl) (u:Nat.ble (id+1) TG=true:=by kernel_rfl) (I:aU f p i=aS f p i::aU f p (i+1):=by kernel_rfl) (H:cC D s (aS f p i)=true:=by kernel_rfl):OT C Q E D (aU f p i) s:=by
 simp only[iO,q6]at y;obtain⟨z,A,h⟩:=y;have h:=kb h;rw[I];refine eU _ H fun a w ι r=>?_;refine Ts rfl fun K F=>?_;obtain⟨v,ι',c,N,g⟩:=ajy r (kb u) (r.hs.np o) (r.ev O) J M t l z (by rw[nw];exact A) (by rw[nw];exact h);have b:(List.map enc L).take n.toNat=(L.take n.toNat).map enc:=by rw[List.map_take]
 rw[b]at g;unfold Oper.wp;simp[execOp,q,c,Result.andThen];refine F (a.put (aS f p i).dst v) w (k _ _ ι' ?_);have B:=g.put (d:=some d) (fun k m=>by injection m with m;subst m;exact kb j) N;rw[G];exact B
end
end Go.Proofs.YtocgkfoifehcbaaGreat
