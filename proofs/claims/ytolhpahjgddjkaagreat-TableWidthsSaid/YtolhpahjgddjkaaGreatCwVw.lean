/- Copies, and appends of own slices' elements, in short form. No program in sight. -/
import Derived.Test.YtolhpahjgddjkaaGreatCwVz
import Derived.Test.YtolhpahjgddjkaaGreatCwVdz
namespace Go.Proofs.YtolhpahjgddjkaaGreat
set_option linter.all false
open Go.RowKit
def Sy(id:Nat)(d:Option Tmp)(ar:bD)(v:AV)(s:AS):AS:=(cD id ar s).put d v
section
variable{P:Program}{n:Nat}{s:AS}{o:Oper}{α:Type}
def KY(P:Program)(n:Nat)(s:AS)(o:Oper):Option (Nat×TypeId×List (List AV)×Option (Nat×Nat)×List (List AV)×Option (Nat×Nat)):=match dq n o.dst,o.op with
 | true,.call ⟨.builtin .copy,⟨[x,y]⟩,⟨[T,_]⟩⟩=>match s.ev x,s.ev y,eV P T with
  | some u,some v,some (et,1)=>match lg s u,pq s v with
   | some (id,et',l,od),some (l2,os)=>(match Nat.beq et et' with|true=>some (id,et,l,od,l2,os)|false=>none)
   | _,_=>none
  | _,_,_=>none
 | _,_=>none
theorem PJ(enc:α→List AV)(id:Nat)(et:TypeId){L S:List α}{od os:Option (Nat×Nat)}(off m off2 m2:Nat)(hz:∀a,(enc a).length=1)(hc:kL off m L.length off2 m2 S.length=true)
  (h:KY P n s o=some (id,et,L.map enc,od,S.map enc,os):=by kernel_rfl) (ho:eZ od L.length=(off,m):=by kernel_rfl) (hos:eZ os S.length=(off2,m2):=by kernel_rfl) :
  bG P n s o=some ((cD id ⟨et,1,(fq L off m S off2 m2).map enc⟩ s).put o.dst (.int .i64 ((min m2 m:Nat):Int))):=by
 unfold KY at h;split at h
 case h_2=>cases h
 rename_i x y T T' hd hop;split at h
 case h_2=>cases h
 rename_i u v et0 hx hy ht;split at h
 case h_2=>cases h
 rename_i id0 et1 l od0 l2 os0 hu hv;split at h
 case h_2=>cases h
 rename_i he;have he:=Nat.eq_of_beq_eq_true he;simp only[Option.some.injEq,Prod.mk.injEq]at h;obtain⟨rfl,rfl,rfl,rfl,rfl,rfl⟩:=h;subst he;have hl:∀(L:List α),∀e∈L.map enc,e.length=1:=fun L e he=>by obtain⟨q,_,rfl⟩:=List.mem_map.1 he;exact hz q
 have hcp:me P s T u v=some (cD id0 ⟨et0,1,(fq L off m S off2 m2).map enc⟩ s,.int .i64 ((min m2 m:Nat):Int)):=by
  unfold me;simp only[ht,hu,hv,List.length_map,ho,hos];rw[if_pos ⟨trivial,trivial,hl L,hl S,hc⟩,ZY];rfl
 unfold bG;rw[if_pos hd];simp only[hop,hx,hy,hcp]
end
end Go.Proofs.YtolhpahjgddjkaaGreat
