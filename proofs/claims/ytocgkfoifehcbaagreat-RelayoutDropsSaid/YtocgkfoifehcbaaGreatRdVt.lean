/- Functions that are lent variables: how they end; variables whose name says their type; function values that own variables. No program in sight. -/
import Derived.Test.YtocgkfoifehcbaaGreatRdVs
namespace Go.Proofs.YtocgkfoifehcbaaGreat
set_option linter.all false
open Go.RowKit
def xk(b:Bool)(id:Nat):AV:=match b with|true=>.ptr id 0|false=>.nilp
theorem Cd{o}:∀{a},(a.map fun p=>look p.1 o)=(a.map fun p=>some p.2)→cq o a
 | [],_=>trivial
 | (j,c)::r,h=>by
  simp only[rl,alm]at h;exact⟨h.1,Cd h.2⟩
section
variable{j:Cx}{Q:Exit→Act→World→Prop}{q:dt}{e:Exit}{s:AS}{m:Array Oper}{l:List Oper}{f:Func}{p:ed}{i:Nat}{r:Func}
theorem ex{V}{a}{b}{ar}(h:gZ j.P s r.results.toList=some [V]:=by kernel_rfl)(c:look b s.r=some ar:=by kernel_rfl)(d:(a.map fun p=>look p.1 s.o)=(a.map fun p=>some p.2):=by kernel_rfl):
  VE j (bodyPost j.P r (bI j.M j.w0 (fun v s=>v=V∧cq s.o a∧look b s.r=some ar))) [] .ret s:=pY rfl h ⟨rfl,Cd d,c⟩
theorem rE{l}{a}{b}{ar}(h:gZ j.P s r.results.toList=some l:=by kernel_rfl)(c:look b s.r=some ar:=by kernel_rfl)(d:(a.map fun p=>look p.1 s.o)=(a.map fun p=>some p.2):=by kernel_rfl)(e:re l=.tup l:=by kernel_rfl):
  VE j (bodyPost j.P r (bI j.M j.w0 (fun v s=>v=.tup l∧cq s.o a∧look b s.r=some ar))) [] .ret s :=by grind[pY,Cd]
theorem D5 d i n et sz(h:OT j Q q m l (DJ d i n et sz s))(a:has s.u d=false:=by kernel_rfl)(b:DZ i n s=true:=by kernel_rfl):OT j Q q m l s:=by
 grind[DZ,DJ,ajj]
theorem pM(g:FuncId)(b:Array Operand)(l:c6)(k:OT j Q q m (aU f p (i+1)) (s.put (aS f p i).dst (.fno g l)))(z:aU f p i=aS f p i::aU f p (i+1):=by kernel_rfl)(x:cC m s (aS f p i)=true:=by kernel_rfl)
  (d:(aS f p i).op=.makeFunc (.func g) #[] b:=by kernel_rfl) (v:dj s b.toList=some l:=by kernel_rfl) (u:cK j.n (aS f p i).dst=true:=by kernel_rfl):OT j Q q m (aU f p i) s:=by
 rw[z];refine eU _ x fun a w ι h=>?_;refine Ts rfl fun K t=>?_;obtain⟨A,B⟩:=lr h v;have r:Rel (NN j.M ι) w ι (.fno g l) (.func (.func g) #[] (b.map a.eval)):=by
  have e:=Rel.fno (N:=NN j.M ι) (w:=w) ι g l (b.map a.eval).toList (by simp at A⊢;omega) (fun i c y n o=>B i c y n (by simpa using o));rw[aiU]at e;exact e
 unfold Oper.wp execOp;simp only[d,Instr.makeFunc,sj,Qf,u5,al0];exact t _ _ (k _ _ _ (h.put (fX u) r))
def acf(d id:Nat)(cs:c6)(s:AS):AS:=⟨bd d (.ptr id 0) s.t,bd id cs s.o,s.r,id::s.u⟩
def Vx(P:Program)(o:Oper):Option (Nat×Nat×c6):=match o.op,o.dst with
 | .alloc T,some d=>match ey P T with|some cs=>some (T,d,cs)|none=>none
 | _,_=>none
theorem agX(id:Nat){T d:Nat}{cs:c6}(k:OT j Q q m (aU f p (i+1)) (acf d id cs s))(h:Vx j.P (aS f p i)=some (T,d,cs):=by kernel_rfl)(O:aU f p i=aS f p i::aU f p (i+1):=by kernel_rfl)(M:cC m s (aS f p i)=true:=by kernel_rfl)
  (L:cK j.n (aS f p i).dst=true:=by kernel_rfl) (C:has s.u id=false:=by kernel_rfl) (I:Nat.beq T ((id-450000) % 1000)=true:=by kernel_rfl):OT j Q q m (aU f p i) s:=by
 rw[O];refine eU _ M fun a w ι y=>?_;refine Ts rfl fun K H=>?_;unfold Vx at h;split at h
 case h_2=>cases h
 rename_i T' E x l;split at h
 case h_2=>cases h
 rename_i t r;simp only[th,BY]at h;obtain⟨rfl,rfl,rfl⟩:=h;unfold ey at r;cases c:j.P.info? T' with
 | none=>simp[c]at r
 | some R =>
  cases g:R.zero with
  | none=>simp[c,g]at r
  | some D =>
   simp only[c,iN,g]at r;have J:=lj (NN j.M ι) w ι r;have z:=y.hs.alloc (d:=id) C (T:=T') (fun _ _=>nx I) J;have P:=y.hs.free C;have F:aV j { s with o:=bd id t s.o,u:=id::s.u } a (w.alloc (.cells D.cells.toList.toArray T')) (ext ι id (.pointer (some ⟨w.heap.size,0,none⟩))):=by
    refine y.world z rfl (by simp) (fun b B e=>?_) (fun b B _=>u7 _ _ _ B) (fd P _);rcases gk e with e|e
    ·exact e
    ·injection e with e;simp only[]at e;omega
   have A:=F.put (d:=some E) (fun k N=>fX L k (by rw[l];exact N)) (v:=.ptr id 0) (.ptr _ _ _ _ (cJ _ _ _));simp only[aiU]at A;have n:(execOp a.eval ({ aS f p i with guard:=none }:Oper)).run j.P w=.ok (.value (.pointer (some ⟨w.heap.size,0,none⟩))) (w.alloc (.cells D.cells T')):=by
    unfold execOp;simp[x,Instr.alloc,zeroValue,typeInfo,c,g,newVar,newRow]
   unfold Oper.wp;rw[n];have G:=k _ _ _ A;refine H _ _ ?_;show _;simp only[l];exact G
end
end Go.Proofs.YtocgkfoifehcbaaGreat
