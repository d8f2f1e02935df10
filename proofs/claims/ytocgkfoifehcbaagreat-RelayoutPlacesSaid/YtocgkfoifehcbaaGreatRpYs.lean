/- append of a string to an own slice of bytes. No program in sight. -/
import Derived.Test.YtocgkfoifehcbaaGreatRpZ2
import Derived.Lib.AppendStr
namespace Go.Proofs.YtocgkfoifehcbaaGreat
set_option linter.all false
open Go.RowKit
variable[FM]
def fT(s:ByteArray):b5:=s.data.toList.map fun b=>b.toNat
theorem afU{P:Program}(w:World)(t u ty e:TypeId)(i:TypeInfo)(C:P.underlying t=some (.slice e))(D:P.underlying u=some .string)(z:P.info? e=some i)(K:i.zero=some (.int .u8 0))(a:i.size=1)(o:i.bytes=1)
  (v:Value) (n:Nat) (xs:d5) (b:w.ownsRow 0 e 1 v n xs) (s:ByteArray) (q:n+s.size≤maxLen) (d:n+s.size≤140737488355328) :
  ∃v' w',(Builtin.append_ #[t,u] ty #[v,.string s]).run P w=.ok v' w'∧w'.ownsRow 0 e 1 v' (n+s.size) (xs++Lib.strCells s)∧w.grownBy w' v.ownBlock∧(bg (some v')=bg (some v)∨bg (some v')=some w.heap.size)∧∃A k c,v'=.slice A k c:=by
 obtain⟨v',w',f,L,O,r⟩:=Lib.run_append_own_string (P:=P) w 0 t u ty e i C D z K a o v n xs b s q d (n3 _);have B:n+s.size≤9223372036854775807:=by simp only[maxLen]at q;omega
 have J:xs.length=n:=by simpa using b.1
 have H:∃A k c,v'=.slice A k c:=by rcases L.2 with⟨h,_⟩|⟨_,_,_,h,_⟩<;>exact⟨_,_,_,h⟩
 refine⟨v',w',f,L,O,?_,H⟩;have m:∀{y:Value} {M:World},(Builtin.append_ #[t,u] ty #[v,.string s]).run P w=.ok y M→v'=y:=fun {y M} h=>by rw[f]at h;injection h
 obtain⟨rfl,rfl⟩|⟨g,l,E,rfl,_,G,R,N,F,I⟩:=b.2
 ·by_cases Q:s.size=0
  ·rw[r.2 ⟨rfl,Q⟩];exact .inl rfl
  ·have x:=run_append_nil_string (P:=P) w t u ty e i (.int .u8 0) C D z K s (by omega) (by omega) (by rw[o];omega);rw[m x];exact .inr rfl
 ·by_cases p:n+s.size≤l
  ·have x:=Lib.run_append_room_string (P:=P) w t u ty e i C D z a g n l E G s p (by rw[F];omega);rw[m x];exact .inl rfl
  ·have holds:∀j u,xs[j]?=some u→w.cell? ((⟨g,0,none⟩:Addr).add j)=some u:=b.cells (g:=g) rfl;have x:=Lib.run_append_grow_string (P:=P) w t u ty e i (.int .u8 0) C D z K ⟨g,0,none⟩ n l xs (by rw[a];simpa using J) holds s (by omega) (by omega) (by rw[o];exact growslice_fits (by omega) (by omega));rw[m x];exact .inr rfl
section
variable{m:Cx}{Q:Exit→Act→World→Prop}{t:ck}{s:AS}{r:Array Oper}{f:Func}{p:d4}{i:Nat}
def VZ(P:Program)(n:Nat)(s:AS)(o:Oper):Option (Nat×Nat×ByteArray×TypeId×f7):=match o.dst,o.op with
 | some d,.call ⟨.builtin .append,⟨[x,y]⟩,⟨[T,U]⟩⟩=>match Nat.ble (d+1) n&&(match P.underlying U with|some .string=>true|_=>false),s.ev x,s.ev y,iJ P T with
  | true,some (.ref id),some (.str b),some (e,sz,by_)=>match look id s.r,(P.info? e).bind (·.zero) with
   | some ar,some (.int .u8 0)=>match Nat.beq ar.e e&&(Nat.beq ar.sz 1&&(Nat.beq sz 1&&(Nat.beq by_ 1&&(match s.u.contains (cS id) with|true=>false|false=>true)))) with
    | true=>some (d,id,b,e,ar.l)
    | false=>none
   | _,_=>none
  | _,_,_,_=>none
 | _,_=>none
def afh(d id:Nat)(ar:bZ)(s:AS):AS:=⟨bj d (.ref id) (dB id s.t),eS id s.o,bj id ar s.r,s.u⟩
theorem RD{d id:Nat}{sb:ByteArray}{e:TypeId}{L:b5}(hf:fits (L.length+sb.size) 1=true)(k:OT m Q t r (aJ f p (i+1)) (afh d id ⟨e,1,(L++fT sb).map (ak .u8)⟩ s))
  (o:VZ m.P m.n s (aL f p i)=some (d,id,sb,e,L.map (ak .u8)):=by kernel_rfl) (hl:aJ f p i=aL f p i::aJ f p (i+1):=by kernel_rfl) (E:cv r s (aL f p i)=true:=by kernel_rfl):OT m Q t r (aJ f p i) s:=by
 rw[hl];refine eL _ E fun a w ι D=>?_;refine v9 rfl fun K hK=>dK ?_;unfold VZ at o;split at o
 case h_2=>cases o
 rename_i d' x y T U hd q0;split at o
 case h_2=>cases o
 rename_i B b' e' S0 v0 R hx hy b;split at o
 case h_2=>cases o
 rename_i ar hr hz;split at o
 case h_2=>cases o
 rename_i S;simp only[g6]at R S;obtain⟨q1,q2⟩:=R;obtain⟨q3,q4,q5,q6,q7⟩:=S;injection o with o;injection o with e1 o;injection o with e2 o;injection o with e3 o;injection o with e4 o
 subst e1;subst e2;subst e3;subst e4;have k0:d'<m.n:=hF q1;split at q2
 case h_2=>cases q2
 rename_i hU;unfold iJ at b;split at b
 case h_2=>cases b
 rename_i e0 hu;split at b
 case h_2=>cases b
 rename_i ti d0;split at b
 case h_2=>cases b
 rename_i z F0;split at b
 case isFalse=>cases b
 injection b with b;injection b with g1 b;injection b with g2 g3
 subst g1;have f1:=iO q3;have J:=iO q4;have f3:=iO q5;have f4:=iO q6;have t0:ti.zero=some (.int .u8 0):=by rw[d0]at hz;exact hz
 have p0:s.u.contains (cS B)=false:=by
  cases C:s.u.contains (cS B) with
  | true=>rw[C]at q7;cases q7
  | false=>rfl
 have hX:=D.ev hx;have N:=D.ev hy;generalize g0:a.eval x=X at hX;generalize h0:a.eval y=Yv at N;cases hX with
 | ref _ _ A n c hι =>
 cases N with
 | str _ _ =>
 obtain⟨v,xs,h1,h2,h3,h4,h5⟩:=D.hs.arrs B ar hr (by rw[hι];rfl);rw[hι]at h1;injection h1 with h1;subst h1
 rw[f1,J]at h2;have G:ar.l.length=L.length:=by rw[o];simp
 obtain⟨f0,y0⟩:=Lp hf;obtain⟨v',w',b0,Z,V,H,c0⟩:=afU (P:=m.P) w T U (aL f p i).type e0 ti hu hU d0 t0 (by rw[g2,f3]) (by rw[g3,f4]) _ _ _ h2 b' (by rw[G];exact f0) (by rw[G];omega);have m0:(execOp a.eval { aL f p i with guard:=none }).run m.P w=.ok (.value v') w':=by
  unfold execOp;simp only[q0,resolve,n4,By,pt,invoke,builtin];simp[g0,h0,b0]
 rw[m0];have r0:(fT b').length=b'.size:=by simp[fT]
 have O:=D.hs.app (w':=w') (v':=v') (news:=Lib.strCells b') (new:=(fT b').map (ak .u8)) (D.hs.np p0) hr hι (by rw[f1,J];exact h2) h3 h4 h5 (fun _=>by
   rw[f1,J,lp,r0];exact Z) V H c0 (fun el l0=>by
   obtain⟨q,_,rfl⟩:=u6.1 l0;rw[J];rfl) (fun x hx=>by
   simp only[Lib.strCells,u6]at hx;obtain⟨q,_,rfl⟩:=hx;rfl) (fun j el I i' c' hc=>by
   rw[th]at I;cases C:(fT b')[j]? with
   | none=>rw[C]at I;cases I
   | some q =>
    rw[C]at I;injection I with I;subst I
    cases i' with
    | succ i'=>simp[ak]at hc
    | zero =>
     injection hc with hc;subst hc
     refine⟨.int .u8 q,?_,.int _ _ _⟩;rw[J,anj,aix];simp only[fT,Lib.strCells,th]at C⊢;cases a0:b'.data.toList[j]? with
     | none=>rw[a0]at C;cases C
     | some u=>rw[a0]at C;injection C with C;rw[←C];rfl) (fun g E=>by
   obtain⟨F,_⟩|⟨M,w0,x0,F,A0,o0,_⟩:=Z.2
   ·rw[F]at E;cases E
   ·rw[F]at E;injection E with E;simp only[]at E;subst E
    refine⟨?_,(lc.1 o0).1⟩;rw[F]at H;rcases H with e|e
    ·exact(D.hs.own B M (by rw[hι,← e];rfl)).1
    ·have e':some M=some w.heap.size:=e;injection e' with e';subst e'
     exact .inl D.hs.below.size)
 obtain⟨p1,p2,p3⟩:=O;obtain⟨A',k',c',rfl⟩:=c0;have i0:aI m ⟨dB B s.t,eS B s.o,bj B ⟨e0,1,(L++fT b').map (ak .u8)⟩ s.r,s.u⟩ a w' (rep ι B (.slice A' k' c')):=by
  refine⟨?_,D.dfr,D.n,fun k y W=>?_⟩
  ·have e9:({ ar with l:=ar.l++(fT b').map (ak .u8) }:bZ)=⟨e0,1,(L++fT b').map (ak .u8)⟩:=by
    rw[o,Db,← f1,← J]
   rw[e9]at p1;exact p1
  ·obtain⟨u,s0,rfl⟩:=lJ W;obtain⟨Y,hY,hr⟩:=D.tmp k u s0;exact⟨Y,hY,(hr.cW (fun i hi=>qI _ _ hi)).mono V.size p2 p3 (fun _ _ h=>h)⟩
 refine hK _ _ ?_;show wpListIn FF 0 _ _ _ _ (a.put (aL f p i).dst _) _;rw[hd];exact k _ _ _ (i0.put (d:=some d') (fun k W=>by injection W with W;subst W;exact k0) (.ref _ _ _ _ _ (lA _ _ _)))
end
end Go.Proofs.YtocgkfoifehcbaaGreat
