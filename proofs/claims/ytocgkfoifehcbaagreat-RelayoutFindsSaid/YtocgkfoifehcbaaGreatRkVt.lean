/- Functions that are lent variables: how they end; variables whose name says their type; function values that own variables. No program in sight. -/
import Derived.Test.YtocgkfoifehcbaaGreatRkVs
namespace Go.Proofs.YtocgkfoifehcbaaGreat
set_option linter.all false
open Go.RowKit
def zd(b:Bool)(id:Nat):AV:=match b with|true=>.ptr id 0|false=>.nilp
theorem Er{o}:∀{a},(a.map fun p=>look p.1 o)=(a.map fun p=>some p.2)→cy o a
 | [],_=>trivial
 | (j,c)::r,h=>by
  simp only[q6,akM]at h;exact⟨h.1,Er h.2⟩
section
variable{j:Cx}{Q:Exit→Act→World→Prop}{q:dt}{e:Exit}{s:AS}{m:Array Oper}{l:List Oper}{f:Func}{p:eb}{i:Nat}{r:Func}
theorem fa{V}{a}{b}{ar}(h:ij j.P s r.results.toList=some [V]:=by kernel_rfl)(c:look b s.r=some ar:=by kernel_rfl)(d:(a.map fun p=>look p.1 s.o)=(a.map fun p=>some p.2):=by kernel_rfl):
  VE j (bodyPost j.P r (bJ j.M j.w0 (fun v s=>v=V∧cy s.o a∧look b s.r=some ar))) [] .ret s:=rg rfl h ⟨rfl,Er d,c⟩
theorem q9{l}{a}{b}{ar}(h:ij j.P s r.results.toList=some l:=by kernel_rfl)(c:look b s.r=some ar:=by kernel_rfl)(d:(a.map fun p=>look p.1 s.o)=(a.map fun p=>some p.2):=by kernel_rfl)(e:pH l=.tup l:=by kernel_rfl):
  VE j (bodyPost j.P r (bJ j.M j.w0 (fun v s=>v=.tup l∧cy s.o a∧look b s.r=some ar))) [] .ret s :=by grind[rg,Er]
theorem Ex d i n a sz(h:OT j Q q m l (DZ d i n a sz s))(b:has s.u d=false:=by kernel_rfl)(c:C9 i n s=true:=by kernel_rfl):OT j Q q m l s:=by
 grind[C9,DZ,Y9]
theorem rd(g:FuncId)(b:Array Operand)(l:c6)(k:OT j Q q m (aV f p (i+1)) (s.put (aW f p i).dst (.fno g l)))(z:aV f p i=aW f p i::aV f p (i+1):=by kernel_rfl)(x:cH m s (aW f p i)=true:=by kernel_rfl)
  (d:(aW f p i).op=.makeFunc (.func g) #[] b:=by kernel_rfl) (v:dk s b.toList=some l:=by kernel_rfl) (u:cJ j.n (aW f p i).dst=true:=by kernel_rfl):OT j Q q m (aV f p i) s:=by
 rw[z];refine fu _ x fun a w ι h=>?_;refine aa6 rfl fun K t=>?_;obtain⟨A,B⟩:=ln h v;have r:Rel (NN j.M ι) w ι (.fno g l) (.func (.func g) #[] (b.map a.eval)):=by
  have e:=Rel.fno (N:=NN j.M ι) (w:=w) ι g l (b.map a.eval).toList (by simp at A⊢;omega) (fun i c y n o=>B i c y n (by simpa using o));rw[afM]at e;exact e
 unfold Oper.wp execOp;simp only[d,Instr.makeFunc,sj,IT,u3,alw];exact t _ _ (k _ _ _ (h.put (fU u) r))
def Y4(d id:Nat)(cs:c6)(s:AS):AS:=⟨bm d (.ptr id 0) s.t,bm id cs s.o,s.r,id::s.u⟩
def M3(P:Program)(o:Oper):Option (Nat×Nat×c6):=match o.op,o.dst with
 | .alloc T,some d=>match eZ P T with|some cs=>some (T,d,cs)|none=>none
 | _,_=>none
theorem agm(id:Nat){T d:Nat}{cs:c6}(k:OT j Q q m (aV f p (i+1)) (Y4 d id cs s))(h:M3 j.P (aW f p i)=some (T,d,cs):=by kernel_rfl)(O:aV f p i=aW f p i::aV f p (i+1):=by kernel_rfl)(M:cH m s (aW f p i)=true:=by kernel_rfl)
  (L:cJ j.n (aW f p i).dst=true:=by kernel_rfl) (C:has s.u id=false:=by kernel_rfl) (I:Nat.beq T ((id-450000) % 1000)=true:=by kernel_rfl):OT j Q q m (aV f p i) s:=by
 rw[O];refine fu _ M fun a w ι y=>?_;refine aa6 rfl fun K H=>?_;unfold M3 at h;split at h
 case h_2=>cases h
 rename_i T' E x l;split at h
 case h_2=>cases h
 rename_i t r;simp only[rv,w3]at h;obtain⟨rfl,rfl,rfl⟩:=h;unfold eZ at r;cases c:j.P.info? T' with
 | none=>simp[c]at r
 | some R =>
  cases g:R.zero with
  | none=>simp[c,g]at r
  | some D =>
   simp only[c,iF,g]at r;have J:=nc (NN j.M ι) w ι r;have z:=y.hs.alloc (d:=id) C (T:=T') (fun _ _=>mo I) J;have P:=y.hs.free C;have F:aU j { s with o:=bm id t s.o,u:=id::s.u } a (w.alloc (.cells D.cells.toList.toArray T')) (ext ι id (.pointer (some ⟨w.heap.size,0,none⟩))):=by
    refine y.world z rfl (by simp) (fun b B e=>?_) (fun b B _=>u4 _ _ _ B) (ff P _);rcases gg e with e|e
    ·exact e
    ·injection e with e;simp only[]at e;omega
   have A:=F.put (d:=some E) (fun k N=>fU L k (by rw[l];exact N)) (v:=.ptr id 0) (.ptr _ _ _ _ (cI _ _ _));simp only[afM]at A;have n:(execOp a.eval ({ aW f p i with guard:=none }:Oper)).run j.P w=.ok (.value (.pointer (some ⟨w.heap.size,0,none⟩))) (w.alloc (.cells D.cells T')):=by
    unfold execOp;simp[x,Instr.alloc,zeroValue,typeInfo,c,g,newVar,newRow]
   unfold Oper.wp;rw[n];have G:=k _ _ _ A;refine H _ _ ?_;show _;simp only[l];exact G
end
end Go.Proofs.YtocgkfoifehcbaaGreat
