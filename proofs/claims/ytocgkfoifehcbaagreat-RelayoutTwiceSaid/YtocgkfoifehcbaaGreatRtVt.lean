/- Functions that are lent variables: how they end; variables whose name says their type; function values that own variables. No program in sight. -/
import Derived.Test.YtocgkfoifehcbaaGreatRtVs
namespace Go.Proofs.YtocgkfoifehcbaaGreat
set_option linter.all false
open Go.RowKit
def wQ(b:Bool)(id:Nat):AV:=match b with|true=>.ptr id 0|false=>.nilp
theorem Dx{o}:∀{a},(a.map fun p=>look p.1 o)=(a.map fun p=>some p.2)→cB o a
 | [],_=>trivial
 | (j,c)::r,h=>by
  simp only[th,aki]at h;exact⟨h.1,Dx h.2⟩
section
variable{j:Cx}{Q:Exit→Act→World→Prop}{q:dt}{e:Exit}{s:AS}{m:Array Oper}{l:List Oper}{f:Func}{p:ed}{i:Nat}{r:Func}
theorem fm{V}{a}{b}{ar}(h:ii j.P s r.results.toList=some [V]:=by kernel_rfl)(c:look b s.r=some ar:=by kernel_rfl)(d:(a.map fun p=>look p.1 s.o)=(a.map fun p=>some p.2):=by kernel_rfl):
  VE j (bodyPost j.P r (bP j.M j.w0 (fun v s=>v=V∧cB s.o a∧look b s.r=some ar))) [] .ret s:=qo rfl h ⟨rfl,Dx d,c⟩
theorem o8{l}{a}{b}{ar}(h:ii j.P s r.results.toList=some l:=by kernel_rfl)(c:look b s.r=some ar:=by kernel_rfl)(d:(a.map fun p=>look p.1 s.o)=(a.map fun p=>some p.2):=by kernel_rfl)(e:qU l=.tup l:=by kernel_rfl):
  VE j (bodyPost j.P r (bP j.M j.w0 (fun v s=>v=.tup l∧cB s.o a∧look b s.r=some ar))) [] .ret s :=by grind[qo,Dx]
theorem EC d i n et sz(h:OT j Q q m l (Cn d i n et sz s))(a:has s.u d=false:=by kernel_rfl)(b:Ei i n s=true:=by kernel_rfl):OT j Q q m l s:=by
 grind[Ei,Cn,aaA]
theorem q8(g:FuncId)(b:Array Operand)(l:c6)(k:OT j Q q m (aR f p (i+1)) (s.put (aW f p i).dst (.fno g l)))(z:aR f p i=aW f p i::aR f p (i+1):=by kernel_rfl)(x:cE m s (aW f p i)=true:=by kernel_rfl)
  (d:(aW f p i).op=.makeFunc (.func g) #[] b:=by kernel_rfl) (v:dr s b.toList=some l:=by kernel_rfl) (u:cQ j.n (aW f p i).dst=true:=by kernel_rfl):OT j Q q m (aR f p i) s:=by
 rw[z];refine eZ _ x fun a w ι h=>?_;refine abM rfl fun K t=>?_;obtain⟨A,B⟩:=li h v;have r:Rel (NN j.M ι) w ι (.fno g l) (.func (.func g) #[] (b.map a.eval)):=by
  have e:=Rel.fno (N:=NN j.M ι) (w:=w) ι g l (b.map a.eval).toList (by simp at A⊢;omega) (fun i c y n o=>B i c y n (by simpa using o));rw[ain]at e;exact e
 unfold Oper.wp execOp;simp only[d,Instr.makeFunc,u3,S2,u6,alf];exact t _ _ (k _ _ _ (h.put (f8 u) r))
def ZC(d id:Nat)(cs:c6)(s:AS):AS:=⟨bi d (.ptr id 0) s.t,bi id cs s.o,s.r,id::s.u⟩
def UV(P:Program)(o:Oper):Option (Nat×Nat×c6):=match o.op,o.dst with
 | .alloc T,some d=>match fe P T with|some cs=>some (T,d,cs)|none=>none
 | _,_=>none
theorem Wv(id:Nat){T d:Nat}{cs:c6}(k:OT j Q q m (aR f p (i+1)) (ZC d id cs s))(h:UV j.P (aW f p i)=some (T,d,cs):=by kernel_rfl)(O:aR f p i=aW f p i::aR f p (i+1):=by kernel_rfl)(M:cE m s (aW f p i)=true:=by kernel_rfl)
  (L:cQ j.n (aW f p i).dst=true:=by kernel_rfl) (C:has s.u id=false:=by kernel_rfl) (I:Nat.beq T ((id-450000) % 1000)=true:=by kernel_rfl):OT j Q q m (aR f p i) s:=by
 rw[O];refine eZ _ M fun a w ι y=>?_;refine abM rfl fun K H=>?_;unfold UV at h;split at h
 case h_2=>cases h
 rename_i T' E x l;split at h
 case h_2=>cases h
 rename_i t r;simp only[u5,zt]at h;obtain⟨rfl,rfl,rfl⟩:=h;unfold fe at r;cases c:j.P.info? T' with
 | none=>simp[c]at r
 | some R =>
  cases g:R.zero with
  | none=>simp[c,g]at r
  | some D =>
   simp only[c,iN,g]at r;have J:=mX (NN j.M ι) w ι r;have z:=y.hs.alloc (d:=id) C (T:=T') (fun _ _=>n3 I) J;have P:=y.hs.free C;have F:aV j { s with o:=bi id t s.o,u:=id::s.u } a (w.alloc (.cells D.cells.toList.toArray T')) (ext ι id (.pointer (some ⟨w.heap.size,0,none⟩))):=by
    refine y.world z rfl (by simp) (fun b B e=>?_) (fun b B _=>u7 _ _ _ B) (fk P _);rcases gc e with e|e
    ·exact e
    ·injection e with e;simp only[]at e;omega
   have A:=F.put (d:=some E) (fun k N=>f8 L k (by rw[l];exact N)) (v:=.ptr id 0) (.ptr _ _ _ _ (cO _ _ _));simp only[ain]at A;have n:(execOp a.eval ({ aW f p i with guard:=none }:Oper)).run j.P w=.ok (.value (.pointer (some ⟨w.heap.size,0,none⟩))) (w.alloc (.cells D.cells T')):=by
    unfold execOp;simp[x,Instr.alloc,zeroValue,typeInfo,c,g,newVar,newRow]
   unfold Oper.wp;rw[n];have G:=k _ _ _ A;refine H _ _ ?_;show _;simp only[l];exact G
end
end Go.Proofs.YtocgkfoifehcbaaGreat
