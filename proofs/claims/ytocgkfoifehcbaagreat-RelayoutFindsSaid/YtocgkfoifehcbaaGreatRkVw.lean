/- Copies, and appends of own slices' elements, in short form. No program in sight. -/
import Derived.Test.YtocgkfoifehcbaaGreatRkVz
import Derived.Test.YtocgkfoifehcbaaGreatRkVdz
namespace Go.Proofs.YtocgkfoifehcbaaGreat
set_option linter.all false
open Go.RowKit
section
variable{P:Program}{n:Nat}{s:AS}{o:Oper}{α:Type}
def Uv(P:Program)(n:Nat)(s:AS)(o:Oper):Option (Nat×Nat×TypeId×Nat×Nat×hZ×hZ):=match o.dst,o.op with
 | some d,.call ⟨.builtin .append,⟨[x,y]⟩,⟨[T,T']⟩⟩=>match Nat.beq T T'&&Nat.ble (d+1) n,s.ev x,s.ev y,jS P T with
  | true,some (.ref id),some (.ref a),some (f,sz,bytes)=>match look id s.r,look a s.r with
   | some ⟨b,c,l⟩,some ⟨_,e,new⟩=>match (Nat.beq f b&&Nat.beq sz c)&&((!s.u.contains (da id))&&(Nat.beq sz e&&Nat.ble (a+1) TG)) with
    | true=>some (d,id,f,sz,bytes,new,l)
    | false=>none
   | _,_=>none
  | _,_,_,_=>none
 | _,_=>none
theorem ach(d id:Nat)(l:TypeId)(sz:Nat)(enc:α→c6){L M:List α}{bytes:Nat}(D:fits (L.length+M.length) bytes=true)(h:Uv P n s o=some (d,id,l,sz,bytes,M.map enc,L.map enc):=by kernel_rfl):
  cb P n s o=some (gA d id ⟨l,sz,(L++M).map enc⟩ s):=by
 unfold Uv at h;split at h
 case h_2=>cases h
 rename_i q x y T T' m g;split at h
 case h_2=>cases h
 rename_i id0 k w I p c G H F;split at h
 case h_2=>cases h
 rename_i z J N A K new E i;split at h
 case h_2=>cases h
 rename_i a;simp only[iN]at a c;have r:=mo c.1;have e:q<n:=j3 c.2;have t:=mo a.1.1;have u:=mo a.1.2;have v:=mo a.2.2.1;have j:=j3 a.2.2.2;have b:s.u.contains (da id0)=false:=by simpa using a.2.1
 simp only[rv,w3]at h;obtain⟨rfl,rfl,rfl,rfl,rfl,rfl,rfl⟩:=h;subst r;subst t;subst u;subst v;obtain⟨B,C⟩:=RT D;have f:k<TG:=j;unfold cb;rw[lc (by rw[m];simpa[cJ]using e)];simp only[g,G,H,m,vN,F,nr,i,E,f,amm,zt,b,nx,B,C,gA,IF]
end
end Go.Proofs.YtocgkfoifehcbaaGreat
