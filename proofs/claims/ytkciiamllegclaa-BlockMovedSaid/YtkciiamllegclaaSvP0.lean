/- The runs of the functions that BlockMoved reaches do what their plain forms say, part 0. Made by a program. -/
import Derived.Test.YtkciiamllegclaaSvGk
namespace Go.Proofs.Ytkciiamllegclaa
noncomputable section
open Go.RowKit
set_option maxRecDepth 20000
set_option linter.all false
variable[ZX]
section
variable(M:Nat→Prop)(b:aC)(r:Int)(a:ag)  
variable{M b r a}{K:Kn}{n:Nat}
def mX(c:au K)(h:jO K n a=some r):aF aT 16 [.agg (aW a)] (fun v _=>v=iI r):=by
 refine bi (cat Try.f16 (pn 1)) Try.func16 Try.ntmps16 fun M b=>(bj ⟨[(0,.agg (aW a))],[],[],[]⟩ ?_);unfold jO at h;refine aL 5 ?_;cases h;exact aZ
end
section
variable(M:Nat→Prop)(b:aC)(r:ag)(a:Int)  
variable{M b r a}{K:Kn}{n:Nat}
def lM(c:au K)(h:g6 K n a=some r):aF aT 17 [iI a] (fun v _=>v=.agg (aW r)):=by
 refine bi (cat Try.f17 (pn 1)) Try.func17 Try.ntmps17 fun M b=>(bj ⟨[(0,iI a)],[],[],[]⟩ ?_);unfold g6 at h;refine aL 5 ?_;cases h;exact aZ
end
section
variable(M:Nat→Prop)(b:aC)(r a:Int)  
variable{M b r a}{K:Kn}{n:Nat}
def gI(c:au K)(h:ex K n a=some r):aF aT 52 [iI a] (fun v _=>v=iI r):=by
 refine bi (cat Try.f52 (pn 1)) Try.func52 Try.ntmps52 fun M b=>(bj ⟨[(0,iI a)],[],[],[]⟩ ?_);unfold ex at h;refine aL 5 ?_;cases h;exact aZ
end
section
variable(M:Nat→Prop)(a:aC)(r:Int×Bool)(b:bx)(c d:Int)  
abbrev wB(n:Nat):aw:=.c (cat Try.f20 (pn n))
abbrev zj:Cx:=⟨aT,25,M,a⟩
abbrev wM:=bodyPost aT Try.f20 (bB M a (fun v _=>v=.tup [iI r.1,.bool r.2]))
abbrev sX(b:b6)(s:AS):=VE (zj M a) (wM M a r) b .normal s
def wu:AS:=⟨[(6,iI d)],[],[],[]⟩
variable{M a r b c d}{K:Kn}{n:Nat}
def qq(b:au K)(h:gP K n d=some r):sX M a r [.b 0,wB 15] (wu d):=by
 unfold gP at h;refine aL 4 ?_;cases h;exact f0
def cU(f:au K)(h:cp K n b c=some r):aF aT 20 [.agg (dJ b),iI c] (fun v _=>v=.tup [iI r.1,.bool r.2]):=by
 refine bi (cat Try.f20 (pn 1)) Try.func20 Try.ntmps20 fun M a=>(bj ⟨[(0,.agg (dJ b)),(1,iI c)],[],[],[]⟩ ?_);unfold cp at h;refine eP 117 0 15 10 ?_;obtain⟨d,h⟩|⟨d,h⟩:=aj h
 ·exact ah 11 d (ae 2 (qq f h))
 ·refine ah 11 d (bt 7 3 ?_);obtain⟨e,h⟩|⟨e,h⟩:=aj h
  ·refine ah 13 e (bt 2 1 (am 1 ?_));obtain⟨i,g,h⟩:=aq h;exact ay (gI f g) (ac (ae 0 (qq f h)))
  ·refine ah 13 e (aL 6 ?_);cases h;exact f0
end
section
variable(M:Nat→Prop)(a:aC)(r:Int)(b:aR)(c d e f:Int)  
abbrev qw(n:Nat):aw:=.c (cat Try.f22 (pn n))
abbrev wK:Cx:=⟨aT,37,M,a⟩
abbrev wd:=bodyPost aT Try.f22 (bB M a (fun v _=>v=iI r))
abbrev pi(b:b6)(s:AS):=VE (wK M a) (wd M a r) b .normal s
def wJ:AS:=⟨[(2,iI f)],[],[],[]⟩
def uU:AS:=⟨[(1,iI c),(2,iI e),(3,.ptr 3 0)],[(3,aX b)],[],[3]⟩
variable{M a r b c d e f}{K:Kn}{n:Nat}
def rg(b:au K)(h:lc K n f=some r):pi M a r [qw 31] (wJ f):=by
 unfold lc at h;refine aL 3 ?_;cases h;exact aZ
def oS(f:au K)(h:kv K n b c e=some r):pi M a r [qw 15] (uU b c e):=by
 unfold kv at h;refine cr 4 5 3 2 (am 3 ?_);obtain⟨i,g,h⟩:=aq h;refine ay (cU f g) (ac (bt 3 2 ?_));obtain⟨d,h⟩|⟨d,h⟩:=aj h
 ·exact ah 32 d (ae 2 (rg f h))
 ·exact ah 32 d (ae 2 (rg f h))
def xC(f:au K)(h:l3 K n b c d=some r):aF aT 22 [.agg (aX b),iI c,iI d] (fun v _=>v=iI r):=by
 refine bi (cat Try.f22 (pn 1)) Try.func22 Try.ntmps22 fun M a=>(bj ⟨[(0,.agg (aX b)),(1,iI c),(2,iI d)],[],[],[]⟩ ?_);unfold l3 at h;refine cr 28 29 15 6 (am 3 ?_);obtain⟨i,g,h⟩:=aq h;refine ay (cU f g) (ac (bt 3 2 ?_));obtain⟨e,h⟩|⟨e,h⟩:=aj h
 ·exact ah 20 e (ae 2 (oS f h))
 ·exact ah 20 e (ae 2 (oS f h))
end
section
variable(M:Nat→Prop)(a:aC)(r:az)(b:aR)(d e:Int)  
abbrev fT(n:Nat):aw:=.c (cat Try.f24 (pn n))
abbrev wE:Cx:=⟨aT,52,M,a⟩
abbrev vM:=bodyPost aT Try.f24 (bB M a (fun v _=>v=.agg (aK r)))
abbrev jE(m:Nat):b6:=kl (wE M a) (vM M a r) [.b 0,fT 15] (cat Try.f24 (pn 116)) m::[.b 0,fT 15]
variable{M a r b d e}{K:Kn}{n:Nat}
def xI(f:au K)(h:m5 K n b d e=some r):aF aT 24 [.agg (aX b),iI d,iI e] (fun v _=>v=.agg (aK r)):=by
 refine bi (cat Try.f24 (pn 1)) Try.func24 Try.ntmps24 fun M a=>(bj ⟨[(0,.agg (aX b)),(1,iI d),(2,iI e)],[],[],[]⟩ ?_);unfold m5 at h;refine cj (ks':=[fT 58,.b 0,fT 15]) 8 ⟨[(1,iI d),(3,.ptr 3 0),(6,.ptr 6 0),(7,.ptr 7 0),(13,iI 0)],[(3,aX b),(6,aK ci),(7,aK ({ ci with Content:=e }:az))],[],[3,6,7]⟩ (kA 40 (c:=cat Try.f24 [1,1,0,1,0,0]) (by kernel_rfl) (bH (cO (ks':=fT 7474::fT 7475 :: .b 1::fT 935::jE M a r 39) 10 (am 6 ?_))));obtain⟨k,z,h⟩:=aq h;refine ay (cU f z) (ac (aA 2 3 1 (am 5 ?_)));obtain⟨l,A,h⟩:=aq h;refine ay (gI f A) (ac (aA 2 3 1 (am 5 ?_)));obtain⟨m,B,h⟩:=aq h;refine ay (cU f B) (ac (cj (ks':=jE M a r 39) 3 ⟨[(1,iI d),(3,.ptr 3 0),(6,.ptr 6 0),(7,.ptr 7 0),(13,iI 1)],[(3,aX b),(6,aK ci),(7,aK (⟨⟨k.1,0,0,0⟩,⟨l,0,0,0⟩,⟨(max m.1 0),0,0,0⟩,e⟩:az))],[],[3,6,7]⟩ (bM (bH (dF 114 115 1 15 10 (am 6 ?_))))));obtain⟨w,C,h⟩:=aq h;refine ay (cU f C) (ac (aA 2 3 1 (am 5 ?_)))
 obtain⟨x,D,h⟩:=aq h;refine ay (gI f D) (ac (aA 2 3 1 (am 5 ?_)));obtain⟨y,E,h⟩:=aq h;refine ay (cU f E) (ac (cj (ks':=jE M a r 38) 3 ⟨[(1,iI d),(3,.ptr 3 0),(6,.ptr 6 0),(7,.ptr 7 0),(13,iI 2)],[(3,aX b),(6,aK ci),(7,aK (⟨⟨k.1,w.1,0,0⟩,⟨l,x,0,0⟩,⟨(max m.1 0),(max y.1 0),0,0⟩,e⟩:az))],[],[3,6,7]⟩ (bM (bH (dF 114 115 1 15 10 (am 6 ?_))))));obtain⟨g,F,h⟩:=aq h;refine ay (cU f F) (ac (aA 2 3 1 (am 5 ?_)));obtain⟨i,G,h⟩:=aq h;refine ay (gI f G) (ac (aA 2 3 1 (am 5 ?_)));obtain⟨j,H,h⟩:=aq h;refine ay (cU f H) (ac (cj (ks':=jE M a r 37) 3 ⟨[(1,iI d),(3,.ptr 3 0),(6,.ptr 6 0),(7,.ptr 7 0),(13,iI 3)],[(3,aX b),(6,aK ci),(7,aK (⟨⟨k.1,w.1,g.1,0⟩,⟨l,x,i,0⟩,⟨(max m.1 0),(max y.1 0),(max j.1 0),0⟩,e⟩:az))],[],[3,6,7]⟩ (bM (bH (dF 114 115 1 15 10 (am 6 ?_))))));obtain⟨s,o,h⟩:=aq h;refine ay (cU f o) (ac (aA 2 3 1 (am 5 ?_)));obtain⟨t,p,h⟩:=aq h
 refine ay (gI f p) (ac (aA 2 3 1 (am 5 ?_)));obtain⟨u,q,h⟩:=aq h;refine ay (cU f q) (ac (cj (ks':=jE M a r 36) 3 ⟨[(1,iI d),(3,.ptr 3 0),(6,.ptr 6 0),(7,.ptr 7 0),(13,iI 4)],[(3,aX b),(6,aK ci),(7,aK (⟨⟨k.1,w.1,g.1,s.1⟩,⟨l,x,i,t⟩,⟨(max m.1 0),(max y.1 0),(max j.1 0),(max u.1 0)⟩,e⟩:az))],[],[3,6,7]⟩ (bM (bH (aL 11 ?_)))));cases h;exact aZ
end
section
variable(M:Nat→Prop)(b:aC)(r:Int)(a:az)  
variable{M b r a}{K:Kn}{n:Nat}
def ri(c:au K)(h:kF K n a=some r):aF aT 26 [.agg (aK a)] (fun v _=>v=iI r):=by
 refine bi (cat Try.f26 (pn 1)) Try.func26 Try.ntmps26 fun M b=>(bj ⟨[(0,.agg (aK a))],[],[],[]⟩ ?_);unfold kF at h;refine aL 5 ?_;cases h;exact aZ
end
section
variable(M:Nat→Prop)(f:aC)(r:az)(j:aR)(l g:Int)(c:az)(m i k:Int)(a b:(Int×Bool))(d:Bool)(e:V4 Int)  
abbrev lJ(n:Nat):aw:=.c (cat Try.f28 (pn n))
abbrev yQ:Cx:=⟨aT,89,M,f⟩
abbrev uv:=bodyPost aT Try.f28 (bB M f (fun v _=>v=.agg (aK r)))
abbrev oz(a:b6)(s:AS):=VE (yQ M f) (uv M f r) a .normal s
def yT:AS:=⟨[(4,.ptr 4 0),(5,.ptr 5 0)],[(4,aK ci),(5,aK ({ c with Margin:=e,Content:=i }:az))],[],[4,5]⟩
def ug:AS:=⟨[(4,.ptr 4 0),(5,.ptr 5 0),(8,iI (ab (g-k))),(10,.bool a.2),(12,.bool b.2),(59,.bool d)],[(4,aK ci),(5,aK ({ c with Content:=i }:az))],[],[4,5]⟩
def ue:AS:=⟨[(1,iI g),(2,.ptr 2 0),(4,.ptr 4 0),(5,.ptr 5 0),(6,iI m)],[(2,aX j),(4,aK ci),(5,aK c)],[],[2,4,5]⟩
variable{M f r j l g c m i k a b d e}{K:Kn}{n:Nat}
def kS(a:au K)(h:gz K n c i e=some r):oz M f r [.b 0,lJ 4095] (yT c i e):=by
 unfold gz at h;refine aL 4 ?_;cases h;exact aZ
def rK(m:au K)(h:kI K n g c i k a b d=some r):oz M f r [lJ 16377,.b 0,lJ 4095] (ug g c i k a b d):=by
 unfold kI at h;obtain⟨e,h⟩|⟨e,h⟩:=aj h
 ·exact ah 59 e (ae 4 (kS m h))
 ·refine ah 59 e (bt 7 3 ?_);obtain⟨j,h⟩|⟨j,h⟩:=aj h
  ·exact ah 76 j (ae 2 (kS m h))
  ·refine ah 76 j (bt 7 3 ?_);obtain⟨l,h⟩|⟨l,h⟩:=aj h
   ·exact ah 82 l (ae 2 (kS m h))
   ·exact ah 82 l (ae 2 (kS m h))
def se(e:au K)(h:lD K n j g c m=some r):oz M f r [lJ 63] (ue j g c m):=by
 unfold lD at h;refine aA 2 3 1 (am 3 ?_);obtain⟨i,p,h⟩:=aq h;refine ay (xC e p) (ac (aA 2 3 1 (am 2 ?_)));obtain⟨k,q,h⟩:=aq h;refine ay (ri e q) (ac (aA 5 3 3 ?_));obtain⟨o,h⟩|⟨o,h⟩:=aj h
 ·refine ah 41 o (aL 5 ?_);cases h;exact aZ
 ·refine ah 41 o (fa 2 3 3 (am 4 ?_));obtain⟨a,s,h⟩:=aq h;refine ay (cU e s) (ac (aA 2 3 1 (am 4 ?_)));obtain⟨b,l,h⟩:=aq h;refine ay (cU e l) (ac (dF 8 9 0 3 3 (am 3 ?_)));obtain⟨d,h⟩|⟨d,h⟩:=aj h
  ·exact ao 62 d (ac (ae 0 (rK e h)))
  ·exact ao 62 d (ac (ae 0 (rK e h)))
def vt(a:au K)(h:ma K n j l=some r):aF aT 28 [.agg (aX j),iI l] (fun v _=>v=.agg (aK r)):=by
 refine bi (cat Try.f28 (pn 1)) Try.func28 Try.ntmps28 fun M f=>(bj ⟨[(0,.agg (aX j)),(1,iI l)],[],[],[]⟩ ?_);unfold ma at h;refine aA 6 7 3 (am 1 ?_);obtain⟨g,d,h⟩:=aq h;refine ay (gI a d) (ac (aA 2 3 1 (am 2 ?_)));obtain⟨c,e,h⟩:=aq h;refine ay (xI a e) (ac (aA 2 3 1 (am 3 ?_)));obtain⟨m,i,h⟩:=aq h;refine ay (cU a i) (ac (aA 5 3 3 ?_));obtain⟨b,h⟩|⟨b,h⟩:=aj h
 ·refine ah 26 b (bt 2 1 (am 2 ?_));obtain⟨o,k,h⟩:=aq h;exact ay (ri a k) (ac (ae 0 (se a h)))
 ·exact ah 26 b (ae 2 (se a h))
end
section
variable(M:Nat→Prop)(c:aC)(r:ag)(a b:ag)  
variable{M c r a b}{K:Kn}{n:Nat}
def yd(d:au K)(h:nt K n a b=some r):aF aT 14 [.agg (aW a),.agg (aW b)] (fun v _=>v=.agg (aW r)):=by
 refine bi (cat Try.f14 (pn 1)) Try.func14 Try.ntmps14 fun M c=>(bj ⟨[(0,.agg (aW a)),(1,.agg (aW b))],[],[],[]⟩ ?_);unfold nt at h;refine aL 5 ?_;cases h;exact aZ
end
section
variable(M:Nat→Prop)(g:aC)(r:bY×Int×ag×ag×Bool)(c:bY)(d:Int)(e:Bool)(a:Int)(j i:ag)(b:bY)(k:ag)(f:Int)(t:ag)(u:Int)(w:Bool)(x y o:ag)(l:Nat)(q:Int→Bool→Int→ag→ag→bY→Option (bY×Int×ag×ag×Bool))
abbrev oa:Cx:=⟨aT,52,M,g⟩
abbrev oB:=bodyPost aT Try.f32 (bB M g (fun v s=>v=.tup [.ref 43,iI r.2.1,.agg (aW r.2.2.1),.agg (aW r.2.2.2.1),.bool r.2.2.2.2]∧look 43 s.r=some (bf r.1)))
abbrev je(a:b6)(s:AS):=VE (oa M g) (oB M g r) a .normal s
abbrev eb(n:Nat):aw:=.c (cat Try.f32 (pn n))
abbrev nM:b6:=[.b 0,eb 31]
abbrev kV:b6:=kl (oa M g) (oB M g r) nM (cat Try.f32 (pn 244)) l::nM
def wt:AS:=⟨[(2,.ref 43),(3,iI u),(4,.ptr 4 0),(5,.ptr 5 0),(6,.bool w),(7,.ptr 7 0),(9,.ptr 9 0),(10,.sl (lm ap c)),(11,iI (c.length:Int)),(12,iI a)],[(4,aW x),(5,aW b8),(7,aW y),(9,ak ({ (gD c a)with Y:=f }:aa))],[(43,(bf b))],[4,5,7,9,43]⟩
def ut:AS:=⟨[(2,.ref 43),(4,.ptr 4 0),(5,.ptr 5 0),(7,.ptr 7 0),(9,.ptr 9 0),(10,.sl (lm ap c)),(11,iI (c.length:Int)),(12,iI a)],[(4,aW t),(5,aW b8),(7,aW k),(9,ak ({ (gD c a)with Y:=f }:aa))],[(43,(bf b))],[4,5,7,9,43]⟩
def uw:AS:=⟨[(2,.ref 43),(3,iI d),(4,.ptr 4 0),(5,.ptr 5 0),(6,.bool e),(7,.ptr 7 0),(9,.ptr 9 0),(10,.sl (lm ap c)),(11,iI (c.length:Int)),(12,iI a)],[(4,aW j),(5,aW b8),(7,aW k),(9,ak ({ (gD c a)with Y:=f }:aa))],[(43,(bf b))],[4,5,7,9,43]⟩
def wX:AS:=⟨[(2,.ref 43),(3,iI d),(4,.ptr 4 0),(5,.ptr 5 0),(6,.bool e),(7,.ptr 7 0)],[(4,aW o),(5,aW b8),(7,aW i)],[(43,(bf b))],[4,5,7,43]⟩
def rz:AS:=⟨[(2,.ref 43),(3,iI d),(4,.ptr 4 0),(5,.ptr 5 0),(6,.bool e),(7,.ptr 7 0),(10,.sl (lm ap c)),(11,iI (c.length:Int)),(12,iI a)],[(4,aW j),(5,aW b8),(7,aW i)],[(43,(bf b))],[4,5,7,43]⟩
abbrev iA:Prop:=∀{d:Int} {e:Bool} {a:Int} {j:ag} {i:ag} {b:bY},q d e a j i b=some r→LP (oa M g) (oB M g r) nM (cat Try.f32 (pn 244)) l (rz c d e a j i b)
variable{M g r c d e a j i b k f t u w x y o l q}{K:Kn}{n:Nat}
def o7(i:au K)(e:iA M g r c l q)(h:lI K n c a b f q u w x y=some r):je M g r (eb 125343 :: .b 1::eb 1959::kV M g r l) (wt c a b f u w x y):=by
 unfold lI at h;refine am 2 (aM (dY ap ([({ (gD c a)with Y:=f }:aa)]:bY) (new:=[ak ({ (gD c a)with Y:=f }:aa)]) (by simp only[u5,yk,bK])) ?_);obtain⟨d,h⟩:=bg h;exact aM (eT 43 43 60 67 ap (rfl) (dx) d) (ac (ae 2 (bM (e h))))
def rI(e:au K)(d:iA M g r c l q)(h:kX K n c a b k f q t=some r):je M g r (eb 1002741::eb 125343 :: .b 1::eb 1959::kV M g r l) (ut c a b k f t):=by
 unfold kX at h;exact ae 5 (o7 e d h)
def rZ(p:au K)(o:iA M g r c l q)(h:lH K n c d e a j b k q f=some r):je M g r (eb 62671 :: .b 1::eb 1959::kV M g r l) (uw c d e a j b k f):=by
 unfold lH at h;refine aA 5 3 3 ?_;obtain⟨i,h⟩|⟨i,h⟩:=aj h
 ·refine ah 30 i (aA 9 5 4 ?_);obtain⟨m,h⟩|⟨m,h⟩:=aj h
  ·exact ah 31 m (ae 2 (rI p o h))
  ·exact ah 31 m (ae 2 (rI p o h))
 ·exact ah 30 i (ae 2 (o7 p o h))
def sm(a:au K)(h:lj K n d e i b o=some r):je M g r [eb 63] (wX d e i b o):=by
 unfold lj at h;refine aA 2 3 1 (ca [2,3,4,5,6,7] [4,5,7] [43] (cI 5 (nu 47 [.ref 43,iI d,.agg (aW o),.agg (aW i),.bool e]) [] [] [bv aT 52 Try.f32 (pn 126) 5,bv aT 52 Try.f32 (pn 126) 6,bv aT 52 Try.f32 (pn 126) 7,bv aT 52 Try.f32 (pn 126) 8,bv aT 52 Try.f32 (pn 126) 9] (aN [.v 0 1,.v 0 2,.v 0 3,.v 0 4,.v 0 5] (av (cH 0) (av (cH 1) (av (cH 2) (av (cH 3) (av (cH 4) cJ)))))) (aL 1 ?_)));cases h;exact mj
def uj(p:au K)(s:iA M g r c l q)(h:l4 K n c q d e a j i b=some r):je M g r (eb 244::kV M g r l) (rz c d e a j i b):=by
 unfold l4 at h;refine aA 6 7 3 ?_;obtain⟨f,h⟩|⟨f,h⟩:=aj h
 ·refine ah 13 f (d5 8 9 1 3 5 (am 0 ?_));obtain⟨t,h⟩:=bg h;refine aM (bV ap ak t (dx) (bK)) (ac (aA 2 3 1 (am 3 ?_)));obtain⟨k,u,h⟩:=aq h;refine ay (yd p u) (ac (aA 13 7 5 ?_));obtain⟨m,h⟩|⟨m,h⟩:=aj h
  ·refine ah 22 m (bt 2 1 (am 2 ?_));obtain⟨w,v,h⟩:=aq h;exact ay (mX p v) (ac (ae 0 (rZ p s h)))
  ·exact ah 22 m (ae 2 (rZ p s h))
 ·refine ah 13 f (mQ 5 3 8 ?_);obtain⟨o,h⟩|⟨o,h⟩:=aj h
  ·exact ah 45 o (ae 2 (sm p h))
  ·exact ah 45 o (ae 2 (sm p h))
def yx(a:au K)(m:Nat):iA M g r c m (nc K n c m):=by
 induction m with
 | zero=>exact fun h=>nomatch h
 | succ m b=>exact fun h=>bH (uj a b h)
def zf(a:au K)(h:oe K n c=some r):aF aT 32 [.sl (lm ap c)] (fun v s=>v=.tup [.ref 43,iI r.2.1,.agg (aW r.2.2.1),.agg (aW r.2.2.2.1),.bool r.2.2.2.2]∧look 43 s.r=some (bf r.1)):=by
 refine bi (cat Try.f32 (pn 1)) Try.func32 Try.ntmps32 fun M g=>(bj ⟨[(0,.sl (lm ap c))],[],[],[]⟩ ?_);unfold oe at h;exact cr 60 61 31 8 (am 1 (aM (bP ap c) (ac (sf 2 0 1 (ca [2,3,4,5,6,7,10,11,12] [4,5,7] [] (kz 43 2 60 67 (ae 0 (dK (p:=pn 122) n (yx a n h)))))))))
end
section
variable(M:Nat→Prop)(b:aC)(r:bx)(a:Int)  
variable{M b r a}{K:Kn}{n:Nat}
def tR(c:au K)(h:n6 K n a=some r):aF aT 50 [iI a] (fun v _=>v=.agg (dJ r)):=by
 refine bi (cat Try.f50 (pn 1)) Try.func50 Try.ntmps50 fun M b=>(bj ⟨[(0,iI a)],[],[],[]⟩ ?_);unfold n6 at h;refine aL 5 ?_;cases h;exact aZ
end
section
variable(M:Nat→Prop)(b:aC)(r a:Bool)  
abbrev uJ(n:Nat):aw:=.c (cat Try.f13 (pn n))
abbrev s8:Cx:=⟨aT,57,M,b⟩
abbrev yv:=bodyPost aT Try.f13 (bB M b (fun v _=>v=.bool r))
abbrev tL(a:b6)(s:AS):=VE (s8 M b) (yv M b r) a .normal s
def wY:AS:=⟨[(0,.bool a)],[],[],[]⟩
variable{M b r a}{K:Kn}{n:Nat}
def gb(c:au K)(h:eo K n a=some r):tL M b r [uJ 31] (wY a):=by
 unfold eo at h;refine aL 1 ?_;cases h;exact aZ
def uV(a:au K)(h:lB K n=some r):aF aT 13 [] (fun v _=>v=.bool r):=by
 refine bi (cat Try.f13 (pn 1)) Try.func13 Try.ntmps13 fun M b=>(bj ⟨[],[],[],[]⟩ ?_);unfold lB at h;refine aA 6 7 3 (am 0 ?_);obtain⟨A,s,h⟩:=aq h;refine ay (tR a s) (aB 2 1 ?_);obtain⟨B,t,h⟩:=aq h;refine ay (vt a t) (ac (aA 2 3 1 (am 0 ?_)));obtain⟨m,u,h⟩:=aq h;refine ay (lM a u) ?_;obtain⟨o,w,h⟩:=aq h;refine ay (lM a w) (aB 3 1 ?_);obtain⟨p,x,h⟩:=aq h;refine ay (lM a x) ?_;obtain⟨q,y,h⟩:=aq h;refine ay (lM a y) (aB 6 1 (aM (dY ap ([({ aS with H:=20,Before:=m,After:=o }:aa),({ aS with H:=20,Before:=p,After:=q }:aa)]:bY) (new:=[ak ({ aS with H:=20,Before:=m,After:=o }:aa),ak ({ aS with H:=20,Before:=p,After:=q }:aa)]) (by simp only[u5,yk,bK])) ?_));obtain⟨C,z,h⟩:=aq h;refine fy 1018 (zf a z) (qz (i:=0) rfl) (ac (aA 2 3 1 (am 4 ?_)));obtain⟨k,h⟩|⟨k,h⟩:=aj h
 ·refine ao 27 k (aB 10 6 ?_);obtain⟨l,h⟩|⟨l,h⟩:=aj h
  ·refine ao 33 l (aB 16 6 ?_);obtain⟨c,h⟩|⟨c,h⟩:=aj h
   ·refine ao 39 c (aB 20 4 ?_);obtain⟨d,h⟩|⟨d,h⟩:=aj h
    ·refine ao 43 d (aB 21 1 ?_);obtain⟨D,g,h⟩:=aq h;refine ay (mX a g) (aB 25 3 ?_);obtain⟨e,h⟩|⟨e,h⟩:=aj h
     ·refine ao 48 e (aB 26 1 ?_);obtain⟨E,j,h⟩:=aq h;refine ay (mX a j) (aB 30 3 ?_);obtain⟨f,h⟩|⟨f,h⟩:=aj h
      ·exact ao 53 f (ac (ae 0 (gb a h)))
      ·exact ao 53 f (ac (ae 0 (gb a h)))
     ·exact ao 48 e (ac (ae 0 (gb a h)))
    ·exact ao 43 d (ac (ae 0 (gb a h)))
   ·exact ao 39 c (ac (ae 0 (gb a h)))
  ·exact ao 33 l (ac (ae 0 (gb a h)))
 ·exact ao 27 k (ac (ae 0 (gb a h)))
end
section
variable(M:Nat→Prop)(a:aC)(r:Bool)(b:bx)(c:Bool)  
abbrev tQ(n:Nat):aw:=.c (cat Try.f51 (pn n))
abbrev vx:Cx:=⟨aT,11,M,a⟩
abbrev yM:=bodyPost aT Try.f51 (bB M a (fun v _=>v=.bool r))
abbrev yA(b:b6)(s:AS):=VE (vx M a) (yM M a r) b .normal s
def vV:AS:=⟨[(2,.bool c)],[],[],[]⟩
variable{M a r b c}{K:Kn}{n:Nat}
def sx(b:au K)(h:jZ K n c=some r):yA M a r [tQ 7] (vV c):=by
 unfold jZ at h;refine aL 1 ?_;cases h;exact aZ
def cW(d:au K)(h:cm K n b=some r):aF aT 51 [.agg (dJ b)] (fun v _=>v=.bool r):=by
 refine bi (cat Try.f51 (pn 1)) Try.func51 Try.ntmps51 fun M a=>(bj ⟨[(0,.agg (dJ b))],[],[],[]⟩ ?_);unfold cm at h;refine aA 6 7 3 (am 4 ?_);obtain⟨c,h⟩|⟨c,h⟩:=aj h
 ·exact ao 6 c (ac (ae 0 (sx d h)))
 ·exact ao 6 c (ac (ae 0 (sx d h)))
end
section
variable(M:Nat→Prop)(d:aC)(r:Bool)(b:eq)(e a:Int)(i j k l o:Bool)(f:Nat)(g:Int→Option Bool)
abbrev lr:Cx:=⟨aT,130,M,d⟩
abbrev km:=bodyPost aT Try.f19 (bB M d (fun v _=>v=.bool r))
abbrev gC(a:b6)(s:AS):=VE (lr M d) (km M d r) a .normal s
abbrev ce(n:Nat):aw:=.c (cat Try.f19 (pn n))
abbrev mf:b6:=[.b 0,ce 7]
abbrev kj:b6:=kl (lr M d) (km M d r) mf (cat Try.f19 (pn 52)) f::mf
def wG:AS:=⟨[(0,.sl (lm aJ b)),(1,iI e),(5,iI a),(6,.ptr 6 0),(7,iI 3),(125,.bool o)],[(6,aX ((gD b a).Style))],[],[6]⟩
def um:AS:=⟨[(0,.sl (lm aJ b)),(1,iI e),(5,iI a),(6,.ptr 6 0),(7,iI 2),(125,.bool l)],[(6,aX ((gD b a).Style))],[],[6]⟩
def uS:AS:=⟨[(0,.sl (lm aJ b)),(1,iI e),(5,iI a),(6,.ptr 6 0),(7,iI 1),(125,.bool k)],[(6,aX ((gD b a).Style))],[],[6]⟩
def zD:AS:=⟨[(0,.sl (lm aJ b)),(1,iI e),(5,iI a),(6,.ptr 6 0),(7,iI 0),(125,.bool j)],[(6,aX ((gD b a).Style))],[],[6]⟩
def y3:AS:=⟨[(0,.sl (lm aJ b)),(1,iI e),(5,iI a),(6,.ptr 6 0),(107,.bool i)],[(6,aX ((gD b a).Style))],[],[6]⟩
def sP:AS:=⟨[(0,.sl (lm aJ b)),(1,iI e),(5,iI a)],[],[],[]⟩
abbrev fA:Prop:=∀{a:Int},g a=some r→LP (lr M d) (km M d r) mf (cat Try.f19 (pn 52)) f (sP b e a)
abbrev ek(m:Nat):b6:=kl (lr M d) (km M d r) (.b 2 :: .b 1::ce 211::kj M d r f) (cat Try.f19 (pn 13468)) m::(.b 2 :: .b 1::ce 211::kj M d r f)
variable{M d r b e a i j k l o f g}{K:Kn}{n:Nat}
def sT(j:au K)(i:fA M d r b e f g)(h:gm K n b e a g o=some r):gC M d r (ce 215497 :: .b 3::ce 53875::ek M d r f 36) (wG b e a o):=by
 unfold gm at h;obtain⟨c,h⟩|⟨c,h⟩:=aj h
 ·refine ah 125 c (aL 13 ?_);cases h;exact aZ
 ·exact ah 125 c (cj (ks':=ek M d r f 36) 4 ⟨[(0,.sl (lm aJ b)),(1,iI e),(5,iI a),(6,.ptr 6 0),(7,iI 4)],[(6,aX ((gD b a).Style))],[],[6]⟩ (bM (bH (ae 10 (bM (i h))))))
def su(k:au K)(j:fA M d r b e f g)(h:iM K n b e a g l=some r):gC M d r (ce 215497 :: .b 3::ce 53875::ek M d r f 37) (um b e a l):=by
 unfold iM at h;obtain⟨c,h⟩|⟨c,h⟩:=aj h
 ·refine ah 125 c (aL 13 ?_);cases h;exact aZ
 ·refine ah 125 c (cj (ks':=ek M d r f 37) 4 ⟨[(0,.sl (lm aJ b)),(1,iI e),(5,iI a),(6,.ptr 6 0),(7,iI 3)],[(6,aX ((gD b a).Style))],[],[6]⟩ (bM (bH (dF 24 25 3 7 8 (am 4 ?_)))));obtain⟨p,m,h⟩:=aq h;refine ay (cW k m) (aB 7 2 ?_);obtain⟨i,h⟩|⟨i,h⟩:=aj h
  ·exact ao 118 i (ac (ae 0 (sT k j h)))
  ·refine ao 118 i (aB 11 4 ?_);obtain⟨q,o,h⟩:=aq h;exact ay (cW k o) (ac (ae 0 (sT k j h)))
def qf(l:au K)(j:fA M d r b e f g)(h:ji K n b e a g k=some r):gC M d r (ce 215497 :: .b 3::ce 53875::ek M d r f 38) (uS b e a k):=by
 unfold ji at h;obtain⟨c,h⟩|⟨c,h⟩:=aj h
 ·refine ah 125 c (aL 13 ?_);cases h;exact aZ
 ·refine ah 125 c (cj (ks':=ek M d r f 38) 4 ⟨[(0,.sl (lm aJ b)),(1,iI e),(5,iI a),(6,.ptr 6 0),(7,iI 2)],[(6,aX ((gD b a).Style))],[],[6]⟩ (bM (bH (dF 24 25 3 7 8 (am 4 ?_)))));obtain⟨p,m,h⟩:=aq h;refine ay (cW l m) (aB 7 2 ?_);obtain⟨i,h⟩|⟨i,h⟩:=aj h
  ·exact ao 118 i (ac (ae 0 (su l j h)))
  ·refine ao 118 i (aB 11 4 ?_);obtain⟨q,o,h⟩:=aq h;exact ay (cW l o) (ac (ae 0 (su l j h)))
def rX(l:au K)(k:fA M d r b e f g)(h:jr K n b e a g j=some r):gC M d r (ce 215497 :: .b 3::ce 53875::ek M d r f 39) (zD b e a j):=by
 unfold jr at h;obtain⟨c,h⟩|⟨c,h⟩:=aj h
 ·refine ah 125 c (aL 13 ?_);cases h;exact aZ
 ·refine ah 125 c (cj (ks':=ek M d r f 39) 4 ⟨[(0,.sl (lm aJ b)),(1,iI e),(5,iI a),(6,.ptr 6 0),(7,iI 1)],[(6,aX ((gD b a).Style))],[],[6]⟩ (bM (bH (dF 24 25 3 7 8 (am 4 ?_)))));obtain⟨p,m,h⟩:=aq h;refine ay (cW l m) (aB 7 2 ?_);obtain⟨i,h⟩|⟨i,h⟩:=aj h
  ·exact ao 118 i (ac (ae 0 (qf l k h)))
  ·refine ao 118 i (aB 11 4 ?_);obtain⟨q,o,h⟩:=aq h;exact ay (cW l o) (ac (ae 0 (qf l k h)))
def cN(m:au K)(l:fA M d r b e f g)(h:bU K n b e a g i=some r):gC M d r (ce 3365::ce 1683 :: .b 1::ce 211::kj M d r f) (y3 b e a i):=by
 unfold bU at h;obtain⟨j,h⟩|⟨j,h⟩:=aj h
 ·refine ah 107 j (aL 10 ?_);cases h;exact aZ
 ·refine ah 107 j (cj (ks':=ce 6734 :: .b 2 :: .b 1::ce 211::kj M d r f) 5 ⟨[(0,.sl (lm aJ b)),(1,iI e),(5,iI a),(6,.ptr 6 0),(7,iI 0)],[(6,aX ((gD b a).Style))],[],[6]⟩ (kA 40 (c:=cat Try.f19 [1,0,1,0,0,1,0,0,1,1,1,0,0]) (by kernel_rfl) (bH (cO (ks':=ce 215496::ce 215497 :: .b 3::ce 53875::ek M d r f 39) 8 (am 4 ?_)))));obtain⟨q,o,h⟩:=aq h;refine ay (cW m o) (aB 7 2 ?_);obtain⟨k,h⟩|⟨k,h⟩:=aj h
  ·exact ao 118 k (ac (ae 0 (rX m l h)))
  ·refine ao 118 k (aB 11 4 ?_);obtain⟨s,p,h⟩:=aq h;exact ay (cW m p) (ac (ae 0 (rX m l h)))
def zh(i:au K)(c:fA M d r b e f g)(h:fd K n b e g a=some r):gC M d r (ce 52::kj M d r f) (sP b e a):=by
 unfold fd at h;refine cr 4 5 3 2 (am 2 (aM (bP aJ b) (ac ?_)));obtain⟨j,h⟩|⟨j,h⟩:=aj h
 ·refine ah 11 j (d5 8 9 1 3 5 (am 2 ?_));obtain⟨B,h⟩:=bg h;refine aM (bV aJ aJ B (dR) af) (ac (cr 4 5 3 2 (am 2 ?_)));obtain⟨C,h⟩:=bg h;refine aM (bV aJ aJ C (dR) af) (aB 8 5 ?_);obtain⟨k,h⟩|⟨k,h⟩:=aj h
  ·exact ao 26 k (ac (ae 0 (cN i c h)))
  ·refine ao 26 k (aB 10 2 ?_);obtain⟨L,D,h⟩:=aq h;refine ay (cW i D) (aB 14 3 ?_);obtain⟨l,h⟩|⟨l,h⟩:=aj h
   ·exact ao 32 l (ac (ae 0 (cN i c h)))
   ·refine ao 32 l (aB 16 2 ?_);obtain⟨N,E,h⟩:=aq h;refine ay (cW i E) (aB 20 3 ?_);obtain⟨m,h⟩|⟨m,h⟩:=aj h
    ·exact ao 38 m (ac (ae 0 (cN i c h)))
    ·refine ao 38 m (aB 22 2 ?_);obtain⟨O,F,h⟩:=aq h;refine ay (cW i F) (aB 26 3 ?_);obtain⟨o,h⟩|⟨o,h⟩:=aj h
     ·exact ao 44 o (ac (ae 0 (cN i c h)))
     ·refine ao 44 o (aB 28 2 ?_);obtain⟨P,G,h⟩:=aq h;refine ay (cW i G) (aB 32 3 ?_);obtain⟨p,h⟩|⟨p,h⟩:=aj h
      ·exact ao 50 p (ac (ae 0 (cN i c h)))
      ·refine ao 50 p (aB 34 2 ?_);obtain⟨Q,H,h⟩:=aq h;refine ay (cW i H) (aB 38 3 ?_);obtain⟨q,h⟩|⟨q,h⟩:=aj h
       ·exact ao 56 q (ac (ae 0 (cN i c h)))
       ·refine ao 56 q (aB 40 2 ?_);obtain⟨R,I,h⟩:=aq h;refine ay (cW i I) (aB 44 3 ?_);obtain⟨s,h⟩|⟨s,h⟩:=aj h
        ·exact ao 62 s (ac (ae 0 (cN i c h)))
        ·refine ao 62 s (aB 46 2 ?_);obtain⟨S,J,h⟩:=aq h;refine ay (cW i J) (aB 50 3 ?_);obtain⟨t,h⟩|⟨t,h⟩:=aj h
         ·exact ao 68 t (ac (ae 0 (cN i c h)))
         ·refine ao 68 t (aB 55 5 ?_);obtain⟨u,h⟩|⟨u,h⟩:=aj h
          ·exact ao 73 u (ac (ae 0 (cN i c h)))
          ·refine ao 73 u (aB 60 5 ?_);obtain⟨v,h⟩|⟨v,h⟩:=aj h
           ·exact ao 78 v (ac (ae 0 (cN i c h)))
           ·refine ao 78 v (aB 65 5 ?_);obtain⟨w,h⟩|⟨w,h⟩:=aj h
            ·exact ao 83 w (ac (ae 0 (cN i c h)))
            ·refine ao 83 w (aB 70 5 ?_);obtain⟨x,h⟩|⟨x,h⟩:=aj h
             ·exact ao 88 x (ac (ae 0 (cN i c h)))
             ·refine ao 88 x (aB 75 5 ?_);obtain⟨y,h⟩|⟨y,h⟩:=aj h
              ·exact ao 93 y (ac (ae 0 (cN i c h)))
              ·refine ao 93 y (aB 80 5 ?_);obtain⟨z,h⟩|⟨z,h⟩:=aj h
               ·exact ao 98 z (ac (ae 0 (cN i c h)))
               ·refine ao 98 z (aB 85 5 ?_);obtain⟨A,h⟩|⟨A,h⟩:=aj h
                ·exact ao 103 A (ac (ae 0 (cN i c h)))
                ·exact ao 103 A (ac (ae 0 (cN i c h)))
 ·refine ah 11 j (mQ 2 3 6 (am 1 (aM (bP aJ b) (ac (aL 1 ?_)))));cases h;exact aZ
def zg(a:au K)(m:Nat):fA M d r b e m (hJ K n b e m):=by
 induction m with
 | zero=>exact fun h=>nomatch h
 | succ m c=>exact fun h=>bH (zh a c h)
def yc(a:au K)(h:lC K n b e=some r):aF aT 19 [.sl (lm aJ b),iI e] (fun v _=>v=.bool r):=by
 refine bi (cat Try.f19 (pn 1)) Try.func19 Try.ntmps19 fun M d=>(bj ⟨[(0,.sl (lm aJ b)),(1,iI e)],[],[],[]⟩ ?_);unfold lC at h;exact ae 6 (dK (p:=pn 26) n (zg a n h))
end
section
variable(M:Nat→Prop)(d:aC)(r:ai×Int)(a:eq)(c:Int)(e:Bool)(b:Int)(f:b7)(g:Bool)(i:Nat)(j:Int→b7→Option (ai×Int))
abbrev oq:Cx:=⟨aT,95,M,d⟩
abbrev mG:=bodyPost aT Try.f35 (bB M d (fun v s=>v=.tup [.agg (List.set (aY ({ r.1 with Kids:=[] }:ai)) 58 (.ref 72)),iI r.2]∧look 72 s.r=some ⟨63,59,lm ba r.1.Kids⟩))
abbrev ml(a:b6)(s:AS):=VE (oq M d) (mG M d r) a .normal s
abbrev gh(n:Nat):aw:=.c (cat Try.f35 (pn n))
abbrev nj:b6:=[.b 0,gh 127]
abbrev nY:b6:=kl (oq M d) (mG M d r) nj (cat Try.f35 (pn 504)) i::nj
def wj:AS:=⟨[(0,.sl (lm aJ a)),(1,iI b),(4,.ptr 4 0),(6,.ptr 6 0),(7,.int .u8 ((gD a c).Depth)),(8,.bool e),(60,.bool g)],[(4,List.set (aY cX) 58 (.nils)),(6,List.set (aY ({ cX with Kind:=1,Node:=(ab (10+c)),Style:=(gD a c).Style }:ai)) 58 (.ref 72))],[(72,⟨63,59,lm ba f⟩)],[4,6,72]⟩
def sM:AS:=⟨[(0,.sl (lm aJ a)),(1,iI b),(4,.ptr 4 0),(6,.ptr 6 0),(7,.int .u8 ((gD a c).Depth)),(8,.bool e)],[(4,List.set (aY cX) 58 (.nils)),(6,List.set (aY ({ cX with Kind:=1,Node:=(ab (10+c)),Style:=(gD a c).Style }:ai)) 58 (.ref 72))],[(72,⟨63,59,lm ba f⟩)],[4,6,72]⟩
def t5:AS:=⟨[(0,.sl (lm aJ a)),(1,iI (ab (c+1))),(4,.ptr 4 0),(6,.ptr 6 0),(7,.int .u8 ((gD a c).Depth)),(8,.bool e)],[(4,List.set (aY cX) 58 (.nils)),(6,List.set (aY ({ cX with Kind:=1,Node:=(ab (10+c)),Style:=(gD a c).Style }:ai)) 58 (.nils))],[],[4,6]⟩
abbrev mU:Prop:=∀{b:Int} {f:b7},j b f=some r→LP (oq M d) (mG M d r) nj (cat Try.f35 (pn 504)) i (sM a c e b f)
variable{M d r a c e b f g i j}{K:Kn}{n:Nat}
def sc(x:au K)(s:mU M d r a c e i j)(h:d9 K n a c e b f j g=some r):ml M d r (gh 2017::gh 1009::nY M d r i) (wj a c e b f g):=by
 unfold d9 at h;obtain⟨l,h⟩|⟨l,h⟩:=aj h
 ·refine ah 60 l (cO (ks':=gh 8073::gh 4037 :: .b 1::nY M d r i) 6 ?_);obtain⟨o,h⟩|⟨o,h⟩:=aj h
  ·refine ah 61 o (aA 4 5 2 (am 2 ?_));obtain⟨t,u,h⟩:=aq h;refine ay (x.fD u) (ac (aA 2 3 1 (am 3 (aM (dY ba ([t.1]:b7) (new:=[aY t.1]) (by simp only[u5,yk,dv])) ?_))));obtain⟨v,h⟩:=bg h;exact aM (eT 72 72 63 59 ba (rfl) (fi) v) (ac (ae 5 (bM (s h))))
  ·refine ah 61 o (fa 2 3 3 (ca [0,1,4,6,7,8] [4,6] [72] ?_));obtain⟨p,h⟩:=bg h;obtain⟨q,h⟩:=bg h;obtain⟨w,h⟩:=bg h;exact cI 2 (nu 75 [.ptr 6 58,.ref 72,.sl (lm aJ a),iI b,.cptr (aJ (gD a b)),.cptr (List.drop 5 (aJ (gD a b))),.agg (aX ((gD a b).Style)),.sl (lm aJ a),iI b,.cptr (aJ (gD a b)),.cptr (List.drop 2 (aJ (gD a b))),.str ((gD a b).Text),.agg (List.set (aY ({ cX with Kind:=3,Style:=(gD a b).Style,Text:=(gD a b).Text }:ai)) 58 (.nils)),.sl (lm ba [({ cX with Kind:=3,Style:=(gD a b).Style,Text:=(gD a b).Text }:ai)])]++nu 90 [.ptr 6 58]) [] [] [kH 89 72 ⟨63,59,lm ba (f++[({ cX with Kind:=3,Style:=(gD a b).Style,Text:=(gD a b).Text }:ai)])⟩,bv aT 95 Try.f35 (pn 8074) 16] (aN [.v 0 2,.v 0 1,.v 0 2,.v 0 2] (av (fx (lo:=0) (k:=2) (dD ⟨(by kernel_rfl),(dH (bV aJ aJ p (dR) af) (by kernel_rfl))⟩ (dD ⟨(by kernel_rfl),(dH (bV aJ aJ p (dR) af) (by kernel_rfl))⟩ fV))) (aN [.v 0 2,.v 0 2,.v 0 2,.v 0 2] (av (fx (lo:=0) (k:=2) (dD ⟨(by kernel_rfl),(dH (bV aJ aJ q (dR) af) (by kernel_rfl))⟩ (dD ⟨(by kernel_rfl),(dH (bV aJ aJ q (dR) af) (by kernel_rfl))⟩ fV))) (aN [.v 0 2,.v 0 2,.v 0 2] (di (dY ba ([({ cX with Kind:=3,Style:=(gD a b).Style,Text:=(gD a b).Text }:ai)]:b7) (new:=[aY ({ cX with Kind:=3,Style:=(gD a b).Style,Text:=(gD a b).Text }:ai)]) (by simp only[u5,yk,dv])) (av (mV (m:=0) (eT 89 72 63 59 ba (rfl) (fi) w)) (aN [.v 1 1] (av (cH 1) cJ))))))))) (ae 2 (bM (s h)))
 ·refine ah 60 l (aL 8 ?_);cases h;exact mj
def yK(m:au K)(k:mU M d r a c e i j)(h:jj K n a c e j b f=some r):ml M d r (gh 504::nY M d r i) (sM a c e b f):=by
 unfold jj at h;refine cr 4 5 3 2 (am 2 (aM (bP aJ a) (aB 5 2 ?_)));obtain⟨g,h⟩|⟨g,h⟩:=aj h
 ·refine ao 52 g (aB 7 2 ?_);obtain⟨l,h⟩:=bg h;exact aM (bV aJ aJ l (dR) af) (ac (ae 0 (sc m k h)))
 ·exact ao 52 g (ac (ae 0 (sc m k h)))
def yU(b:au K)(m:Nat):mU M d r a c e m (dG K n a c e m):=by
 induction m with
 | zero=>exact fun h=>nomatch h
 | succ m f=>exact fun h=>bH (yK b f h)
def md(b:au K)(h:fW K n a c e=some r):ml M d r [gh 63] (t5 a c e):=by
 unfold fW at h;exact eP 4 0 3 2 (ca [0,1,4,6,7,8] [4,6] [] (nB 72 6 58 63 59 (ae 0 (dK (p:=pn 252) n (yU b n h)))))
def qa(f:au K)(h:dU K n a c=some r):aF aT 35 [.sl (lm aJ a),iI c] (fun v s=>v=.tup [.agg (List.set (aY ({ r.1 with Kids:=[] }:ai)) 58 (.ref 72)),iI r.2]∧look 72 s.r=some ⟨63,59,lm ba r.1.Kids⟩):=by
 refine bi (cat Try.f35 (pn 1)) Try.func35 Try.ntmps35 fun M d=>(bj ⟨[(0,.sl (lm aJ a)),(1,iI c)],[],[],[]⟩ ?_);unfold dU at h;refine aA 6 7 3 (am 4 ?_);obtain⟨g,h⟩:=bg h;refine aM (bV aJ aJ g (dR) af) (ac (aA 2 3 1 (am 2 ?_)));obtain⟨i,h⟩:=bg h;refine aM (bV aJ aJ i (dR) af) (ac (aA 6 7 3 (am 2 (aM (bP aJ a) (aB 5 2 ?_)))));obtain⟨b,h⟩|⟨b,h⟩:=aj h
 ·refine ao 30 b (aB 7 2 ?_);obtain⟨j,h⟩:=bg h;refine aM (bV aJ aJ j (dR) af) (aB 14 6 ?_);obtain⟨e,h⟩|⟨e,h⟩:=aj h
  ·refine ao 39 e (aB 16 2 ?_);obtain⟨k,h⟩:=bg h;exact aM (bV aJ aJ k (dR) af) (ac (ae 0 (md f h)))
  ·exact ao 39 e (ac (ae 0 (md f h)))
 ·exact ao 30 b (ac (ae 0 (md f h)))
end
section
variable(M:Nat→Prop)(b:aC)(r a:Int)  
variable{M b r a}{K:Kn}{n:Nat}
def gk(c:au K)(h:ef K n a=some r):aF aT 30 [iI a] (fun v _=>v=iI r):=by
 refine bi (cat Try.f30 (pn 1)) Try.func30 Try.ntmps30 fun M b=>(bj ⟨[(0,iI a)],[],[],[]⟩ ?_);unfold ef at h;refine aL 5 ?_;cases h;exact aZ
end
section
variable(M:Nat→Prop)(b:aC)(r a:Int)  
variable{M b r a}{K:Kn}{n:Nat}
def na(c:au K)(h:fv K n a=some r):aF aT 53 [iI a] (fun v _=>v=iI r):=by
 refine bi (cat Try.f53 (pn 1)) Try.func53 Try.ntmps53 fun M b=>(bj ⟨[(0,iI a)],[],[],[]⟩ ?_);unfold fv at h;refine aL 5 ?_;cases h;exact aZ
end
section
variable(M:Nat→Prop)(c:aC)(r:Int×Bool)(a:bx)(b:Int)  
variable{M c r a b}{K:Kn}{n:Nat}
def cR(f:au K)(h:cn K n a b=some r):aF aT 21 [.agg (dJ a),iI b] (fun v _=>v=.tup [iI r.1,.bool r.2]):=by
 refine bi (cat Try.f21 (pn 1)) Try.func21 Try.ntmps21 fun M c=>(bj ⟨[(0,.agg (dJ a)),(1,iI b)],[],[],[]⟩ ?_);unfold cn at h;refine eP 53 0 7 8 ?_;obtain⟨d,h⟩|⟨d,h⟩:=aj h
 ·refine ah 8 d (aA 4 5 2 (am 2 ?_));obtain⟨m,i,h⟩:=aq h;refine ay (na f i) (ac (aL 3 ?_));cases h;exact f0
 ·refine ah 8 d (bt 7 3 ?_);obtain⟨e,h⟩|⟨e,h⟩:=aj h
  ·refine ah 13 e (aA 4 5 2 (ca [1,2] [2] [] ?_));obtain⟨g,j,h⟩:=aq h;obtain⟨l,k,h⟩:=aq h;refine cI 2 (nu 15 [iI b,iI g,.ptr 2 1,iI a.Value,iI (max a.Value (-1000000)),iI (min (max a.Value (-1000000)) 1000000),iI (ab (g*(min (max a.Value (-1000000)) 1000000))),iI (ab (Int.tdiv (ab (g*(min (max a.Value (-1000000)) 1000000))) 10000)),iI l]) [] [] [bv aT 24 Try.f21 (pn 860) 9,bv aT 24 Try.f21 (pn 860) 10] (aN [.v 0 1] (av (bQ 0 1 16 (gk f j)) (aN (vz 6) (av (bQ 0 1 23 (na f k)) (av (cH 0) (av (cH 1) cJ)))))) (aL 3 ?_);cases h;exact f0
  ·refine ah 13 e (aL 6 ?_);cases h;exact f0
end
section
variable(M:Nat→Prop)(a:aC)(r:Int)(b:aR)(c d e f:Int)  
abbrev rG(n:Nat):aw:=.c (cat Try.f23 (pn n))
abbrev wT:Cx:=⟨aT,37,M,a⟩
abbrev ux:=bodyPost aT Try.f23 (bB M a (fun v _=>v=iI r))
abbrev qD(b:b6)(s:AS):=VE (wT M a) (ux M a r) b .normal s
def tZ:AS:=⟨[(7,iI f)],[],[],[]⟩
def wv:AS:=⟨[(1,iI c),(3,.ptr 3 0),(7,iI e)],[(3,aX b)],[],[3]⟩
variable{M a r b c d e f}{K:Kn}{n:Nat}
def pU(b:au K)(h:jK K n f=some r):qD M a r [rG 127] (tZ f):=by
 unfold jK at h;refine aL 3 ?_;cases h;exact aZ
def sS(f:au K)(h:iz K n b c e=some r):qD M a r [rG 31] (wv b c e):=by
 unfold iz at h;refine aA 2 3 1 (am 3 ?_);obtain⟨i,g,h⟩:=aq h;refine ay (cR f g) (ac (aA 5 3 3 ?_));obtain⟨d,h⟩|⟨d,h⟩:=aj h
 ·exact ah 32 d (ae 2 (pU f h))
 ·exact ah 32 d (ae 2 (pU f h))
def wF(f:au K)(h:kh K n b c d=some r):aF aT 23 [.agg (aX b),iI c,iI d] (fun v _=>v=iI r):=by
 refine bi (cat Try.f23 (pn 1)) Try.func23 Try.ntmps23 fun M a=>(bj ⟨[(0,.agg (aX b)),(1,iI c),(2,iI d)],[],[],[]⟩ ?_);unfold kh at h;refine aA 14 15 5 (am 3 ?_);obtain⟨i,g,h⟩:=aq h;refine ay (cR f g) (ac (aA 5 3 3 ?_));obtain⟨e,h⟩|⟨e,h⟩:=aj h
 ·exact ah 20 e (ae 2 (sS f h))
 ·exact ah 20 e (ae 2 (sS f h))
end
section
variable(M:Nat→Prop)(a:aC)(r:az)(b:aR)(d e:Int)  
abbrev fY(n:Nat):aw:=.c (cat Try.f25 (pn n))
abbrev ym:Cx:=⟨aT,55,M,a⟩
abbrev wb:=bodyPost aT Try.f25 (bB M a (fun v _=>v=.agg (aK r)))
abbrev jk(m:Nat):b6:=kl (ym M a) (wb M a r) [.b 0,fY 15] (cat Try.f25 (pn 116)) m::[.b 0,fY 15]
variable{M a r b d e}{K:Kn}{n:Nat}
def yD(f:au K)(h:im K n b d e=some r):aF aT 25 [.agg (aX b),iI d,iI e] (fun v _=>v=.agg (aK r)):=by
 refine bi (cat Try.f25 (pn 1)) Try.func25 Try.ntmps25 fun M a=>(bj ⟨[(0,.agg (aX b)),(1,iI d),(2,iI e)],[],[],[]⟩ ?_);unfold im at h;refine cj (ks':=[fY 58,.b 0,fY 15]) 8 ⟨[(1,iI d),(3,.ptr 3 0),(6,.ptr 6 0),(7,.ptr 7 0),(8,iI 0)],[(3,aX b),(6,aK ci),(7,aK ({ ci with Content:=e }:az))],[],[3,6,7]⟩ (kA 40 (c:=cat Try.f25 [1,1,0,1,0,0]) (by kernel_rfl) (bH (cO (ks':=fY 1864::fY 1865 :: .b 1::fY 467::jk M a r 39) 8 (am 5 ?_))));obtain⟨k,z,h⟩:=aq h;refine ay (cR f z) (ac (aA 2 3 1 (am 5 ?_)));obtain⟨l,A,h⟩:=aq h;refine ay (cR f A) (ac (bt 7 4 (am 5 ?_)));obtain⟨m,B,h⟩:=aq h;refine ay (gk f B) (ac (cj (ks':=jk M a r 39) 2 ⟨[(1,iI d),(3,.ptr 3 0),(6,.ptr 6 0),(7,.ptr 7 0),(8,iI 1)],[(3,aX b),(6,aK ci),(7,aK (⟨⟨k.1,0,0,0⟩,⟨m,0,0,0⟩,⟨(max l.1 0),0,0,0⟩,e⟩:az))],[],[3,6,7]⟩ (bM (bH (dF 24 25 1 7 8 (am 5 ?_))))));obtain⟨w,C,h⟩:=aq h;refine ay (cR f C) (ac (aA 2 3 1 (am 5 ?_)))
 obtain⟨x,D,h⟩:=aq h;refine ay (cR f D) (ac (bt 7 4 (am 5 ?_)));obtain⟨y,E,h⟩:=aq h;refine ay (gk f E) (ac (cj (ks':=jk M a r 38) 2 ⟨[(1,iI d),(3,.ptr 3 0),(6,.ptr 6 0),(7,.ptr 7 0),(8,iI 2)],[(3,aX b),(6,aK ci),(7,aK (⟨⟨k.1,w.1,0,0⟩,⟨m,y,0,0⟩,⟨(max l.1 0),(max x.1 0),0,0⟩,e⟩:az))],[],[3,6,7]⟩ (bM (bH (dF 24 25 1 7 8 (am 5 ?_))))));obtain⟨g,F,h⟩:=aq h;refine ay (cR f F) (ac (aA 2 3 1 (am 5 ?_)));obtain⟨i,G,h⟩:=aq h;refine ay (cR f G) (ac (bt 7 4 (am 5 ?_)));obtain⟨j,H,h⟩:=aq h;refine ay (gk f H) (ac (cj (ks':=jk M a r 37) 2 ⟨[(1,iI d),(3,.ptr 3 0),(6,.ptr 6 0),(7,.ptr 7 0),(8,iI 3)],[(3,aX b),(6,aK ci),(7,aK (⟨⟨k.1,w.1,g.1,0⟩,⟨m,y,j,0⟩,⟨(max l.1 0),(max x.1 0),(max i.1 0),0⟩,e⟩:az))],[],[3,6,7]⟩ (bM (bH (dF 24 25 1 7 8 (am 5 ?_))))));obtain⟨s,o,h⟩:=aq h;refine ay (cR f o) (ac (aA 2 3 1 (am 5 ?_)));obtain⟨t,p,h⟩:=aq h;refine ay (cR f p) (ac (bt 7 4 (am 5 ?_)))
 obtain⟨u,q,h⟩:=aq h;refine ay (gk f q) (ac (cj (ks':=jk M a r 36) 2 ⟨[(1,iI d),(3,.ptr 3 0),(6,.ptr 6 0),(7,.ptr 7 0),(8,iI 4)],[(3,aX b),(6,aK ci),(7,aK (⟨⟨k.1,w.1,g.1,s.1⟩,⟨m,y,j,u⟩,⟨(max l.1 0),(max x.1 0),(max i.1 0),(max t.1 0)⟩,e⟩:az))],[],[3,6,7]⟩ (bM (bH (aL 11 ?_)))));cases h;exact aZ
end
section
variable(M:Nat→Prop)(b:aC)(r:Int)(a:az)  
variable{M b r a}{K:Kn}{n:Nat}
def sC(c:au K)(h:kf K n a=some r):aF aT 27 [.agg (aK a)] (fun v _=>v=iI r):=by
 refine bi (cat Try.f27 (pn 1)) Try.func27 Try.ntmps27 fun M b=>(bj ⟨[(0,.agg (aK a))],[],[],[]⟩ ?_);unfold kf at h;refine aL 5 ?_;cases h;exact aZ
end
section
variable(M:Nat→Prop)(f:aC)(r:az)(j:aR)(l g:Int)(c:az)(m i k:Int)(a b:(Int×Bool))(d:Bool)(e:V4 Int)  
abbrev k4(n:Nat):aw:=.c (cat Try.f29 (pn n))
abbrev uD:Cx:=⟨aT,89,M,f⟩
abbrev tM:=bodyPost aT Try.f29 (bB M f (fun v _=>v=.agg (aK r)))
abbrev ou(a:b6)(s:AS):=VE (uD M f) (tM M f r) a .normal s
def tF:AS:=⟨[(4,.ptr 4 0),(5,.ptr 5 0)],[(4,aK ci),(5,aK ({ c with Margin:=e,Content:=i }:az))],[],[4,5]⟩
def yr:AS:=⟨[(4,.ptr 4 0),(5,.ptr 5 0),(8,iI (ab (g-k))),(10,.bool a.2),(12,.bool b.2),(59,.bool d)],[(4,aK ci),(5,aK ({ c with Content:=i }:az))],[],[4,5]⟩
def wh:AS:=⟨[(1,iI g),(2,.ptr 2 0),(4,.ptr 4 0),(5,.ptr 5 0),(6,iI m)],[(2,aX j),(4,aK ci),(5,aK c)],[],[2,4,5]⟩
variable{M f r j l g c m i k a b d e}{K:Kn}{n:Nat}
def lF(a:au K)(h:fM K n c i e=some r):ou M f r [.b 0,k4 4095] (tF c i e):=by
 unfold fM at h;refine aL 4 ?_;cases h;exact aZ
def qo(m:au K)(h:j2 K n g c i k a b d=some r):ou M f r [k4 16377,.b 0,k4 4095] (yr g c i k a b d):=by
 unfold j2 at h;obtain⟨e,h⟩|⟨e,h⟩:=aj h
 ·exact ah 59 e (ae 4 (lF m h))
 ·refine ah 59 e (bt 7 3 ?_);obtain⟨j,h⟩|⟨j,h⟩:=aj h
  ·exact ah 76 j (ae 2 (lF m h))
  ·refine ah 76 j (bt 7 3 ?_);obtain⟨l,h⟩|⟨l,h⟩:=aj h
   ·exact ah 82 l (ae 2 (lF m h))
   ·exact ah 82 l (ae 2 (lF m h))
def qi(l:au K)(h:gB K n j g c m=some r):ou M f r [k4 63] (wh j g c m):=by
 unfold gB at h;refine aA 2 3 1 (am 3 ?_);obtain⟨i,o,h⟩:=aq h;refine ay (wF l o) (ac (aA 2 3 1 (am 2 ?_)));obtain⟨k,p,h⟩:=aq h;refine ay (sC l p) (ac (aA 2 3 1 (am 4 ?_)));obtain⟨a,q,h⟩:=aq h;refine ay (cR l q) (ac (aA 2 3 1 (am 4 ?_)));obtain⟨b,s,h⟩:=aq h;refine ay (cR l s) (ac (aA 5 3 3 ?_));obtain⟨d,h⟩|⟨d,h⟩:=aj h
 ·refine ah 57 d (aL 5 ?_);cases h;exact aZ
 ·refine ah 57 d (d5 8 9 0 3 5 (am 3 ?_));obtain⟨e,h⟩|⟨e,h⟩:=aj h
  ·exact ao 62 e (ac (ae 0 (qo l h)))
  ·exact ao 62 e (ac (ae 0 (qo l h)))
def zA(a:au K)(h:iK K n j l=some r):aF aT 29 [.agg (aX j),iI l] (fun v _=>v=.agg (aK r)):=by
 refine bi (cat Try.f29 (pn 1)) Try.func29 Try.ntmps29 fun M f=>(bj ⟨[(0,.agg (aX j)),(1,iI l)],[],[],[]⟩ ?_);unfold iK at h;refine aA 6 7 3 (am 1 ?_);obtain⟨g,d,h⟩:=aq h;refine ay (gk a d) (ac (aA 2 3 1 (am 2 ?_)));obtain⟨c,e,h⟩:=aq h;refine ay (yD a e) (ac (aA 2 3 1 (am 3 ?_)));obtain⟨m,i,h⟩:=aq h;refine ay (cR a i) (ac (aA 5 3 3 ?_));obtain⟨b,h⟩|⟨b,h⟩:=aj h
 ·refine ah 26 b (bt 2 1 (am 2 ?_));obtain⟨o,k,h⟩:=aq h;exact ay (sC a k) (ac (ae 0 (qi a h)))
 ·exact ah 26 b (ae 2 (qi a h))
end
section
variable(M:Nat→Prop)(c:aC)(r:ag)(a b:ag)  
variable{M c r a b}{K:Kn}{n:Nat}
def i9(d:au K)(h:ew K n a b=some r):aF aT 15 [.agg (aW a),.agg (aW b)] (fun v _=>v=.agg (aW r)):=by
 refine bi (cat Try.f15 (pn 1)) Try.func15 Try.ntmps15 fun M c=>(bj ⟨[(0,.agg (aW a)),(1,.agg (aW b))],[],[],[]⟩ ?_);unfold ew at h;refine aL 5 ?_;cases h;exact aZ
end
section
variable(M:Nat→Prop)(b:aC)(r:ag)(a:Int)  
variable{M b r a}{K:Kn}{n:Nat}
def sU(c:au K)(h:ju K n a=some r):aF aT 18 [iI a] (fun v _=>v=.agg (aW r)):=by
 refine bi (cat Try.f18 (pn 1)) Try.func18 Try.ntmps18 fun M b=>(bj ⟨[(0,iI a)],[],[],[]⟩ ?_);unfold ju at h;refine aL 5 ?_;cases h;exact aZ
end
section
variable(M:Nat→Prop)(b:aC)(r:Int)(a:ag)  
variable{M b r a}{K:Kn}{n:Nat}
def l6(c:au K)(h:fS K n a=some r):aF aT 54 [.agg (aW a)] (fun v _=>v=iI r):=by
 refine bi (cat Try.f54 (pn 1)) Try.func54 Try.ntmps54 fun M b=>(bj ⟨[(0,.agg (aW a))],[],[],[]⟩ ?_);unfold fS at h;refine aL 5 ?_;cases h;exact aZ
end
section
variable(M:Nat→Prop)(g:aC)(r:bm)(e:bY)(a c:Int)(i:ag)(d:Bool)(j:ag)(b:bY)(k:ag)(f:Int)(q:ag)(t:Int)(u:ag)(w:Bool)(x y:ag)(l:Nat)(o:Int→Int→ag→Bool→ag→bY→Option bm)
abbrev ny:Cx:=⟨aT,62,M,g⟩
abbrev nL:=bodyPost aT Try.f33 (bB M g (fun v s=>v=.agg (List.set (bG ({ r with List:=[] }:bm)) 0 (.ref 53))∧look 53 s.r=some (bf r.List)))
abbrev jQ(a:b6)(s:AS):=VE (ny M g) (nL M g r) a .normal s
abbrev eh(n:Nat):aw:=.c (cat Try.f33 (pn n))
abbrev ot:b6:=[.b 0,eh 31]
abbrev kD:b6:=kl (ny M g) (nL M g r) ot (cat Try.f33 (pn 244)) l::ot
def tr:AS:=⟨[(0,.sl (lm ap e)),(2,.ptr 2 0),(3,.ptr 3 0),(4,.ptr 4 0),(5,iI a),(6,.ptr 6 0)],[(2,List.set (bG fF) 0 (.nils)),(3,List.set (bG (⟨[],t,u,b8,w⟩:bm)) 0 (.ref 53)),(4,aW x),(6,ak ({ (gD e a)with Y:=f }:aa))],[(53,(bf b))],[2,3,4,6,53]⟩
def wV:AS:=⟨[(0,.sl (lm ap e)),(2,.ptr 2 0),(3,.ptr 3 0),(4,.ptr 4 0),(5,iI a),(6,.ptr 6 0)],[(2,List.set (bG fF) 0 (.nils)),(3,List.set (bG (⟨[],c,q,b8,d⟩:bm)) 0 (.ref 53)),(4,aW k),(6,ak ({ (gD e a)with Y:=f }:aa))],[(53,(bf b))],[2,3,4,6,53]⟩
def uk:AS:=⟨[(0,.sl (lm ap e)),(2,.ptr 2 0),(3,.ptr 3 0),(4,.ptr 4 0),(5,iI a),(6,.ptr 6 0)],[(2,List.set (bG fF) 0 (.nils)),(3,List.set (bG (⟨[],c,i,b8,d⟩:bm)) 0 (.ref 53)),(4,aW k),(6,ak ({ (gD e a)with Y:=f }:aa))],[(53,(bf b))],[2,3,4,6,53]⟩
def wZ:AS:=⟨[(2,.ptr 2 0),(3,.ptr 3 0),(4,.ptr 4 0)],[(2,List.set (bG fF) 0 (.nils)),(3,List.set (bG (⟨[],c,y,b8,d⟩:bm)) 0 (.ref 53)),(4,aW j)],[(53,(bf b))],[2,3,4,53]⟩
def ph:AS:=⟨[(0,.sl (lm ap e)),(2,.ptr 2 0),(3,.ptr 3 0),(4,.ptr 4 0),(5,iI a)],[(2,List.set (bG fF) 0 (.nils)),(3,List.set (bG (⟨[],c,i,b8,d⟩:bm)) 0 (.ref 53)),(4,aW j)],[(53,(bf b))],[2,3,4,53]⟩
abbrev iw:Prop:=∀{a:Int} {c:Int} {i:ag} {d:Bool} {j:ag} {b:bY},o a c i d j b=some r→LP (ny M g) (nL M g r) ot (cat Try.f33 (pn 244)) l (ph e a c i d j b)
variable{M g r e a c i d j b k f q t u w x y l o}{K:Kn}{n:Nat}
def qF(i:au K)(d:iw M g r e l o)(h:jz K n e a b f o t u w x=some r):jQ M g r (eh 62623 :: .b 1::eh 979::kD M g r l) (tr e a b f t u w x):=by
 unfold jz at h;refine am 3 (aM (dY ap ([({ (gD e a)with Y:=f }:aa)]:bY) (new:=[ak ({ (gD e a)with Y:=f }:aa)]) (by simp only[u5,yk,bK])) ?_);obtain⟨c,h⟩:=bg h;exact aM (eT 53 53 60 67 ap (rfl) (dx) c) (ac (ae 2 (bM (d h))))
def py(j:au K)(i:iw M g r e l o)(h:jN K n e a c d b k f o q=some r):jQ M g r (eh 500981::eh 62623 :: .b 1::eh 979::kD M g r l) (wV e a c d b k f q):=by
 unfold jN at h;exact ae 5 (qF j i h)
def rm(q:au K)(p:iw M g r e l o)(h:jP K n e a c i d b k o f=some r):jQ M g r (eh 31311 :: .b 1::eh 979::kD M g r l) (uk e a c i d b k f):=by
 unfold jP at h;refine aA 5 3 3 ?_;obtain⟨j,h⟩|⟨j,h⟩:=aj h
 ·refine ah 35 j (aA 9 5 4 ?_);obtain⟨m,h⟩|⟨m,h⟩:=aj h
  ·exact ah 37 m (ae 2 (py q p h))
  ·exact ah 37 m (ae 2 (py q p h))
 ·exact ah 35 j (ae 2 (qF q p h))
def pg(a:au K)(h:iY K n c d j b y=some r):jQ M g r [eh 63] (wZ c d j b y):=by
 unfold iY at h;refine aL 5 ?_;cases h;exact k7
def zt(q:au K)(s:iw M g r e l o)(h:k5 K n e o a c i d j b=some r):jQ M g r (eh 244::kD M g r l) (ph e a c i d j b):=by
 unfold k5 at h;refine cr 4 5 3 2 (am 2 (aM (bP ap e) (ac ?_)));obtain⟨f,h⟩|⟨f,h⟩:=aj h
 ·refine ah 12 f (d5 8 9 1 3 5 (am 2 ?_));obtain⟨u,h⟩:=bg h;refine aM (bV ap ak u (dx) (bK)) (ac (aA 2 3 1 (am 3 ?_)));obtain⟨k,v,h⟩:=aq h;refine ay (i9 q v) (ac (aA 13 7 5 ?_));obtain⟨m,h⟩|⟨m,h⟩:=aj h
  ·refine ah 26 m (bt 2 1 (ca [0,2,3,4,5,6] [2,3,4,6] [53] ?_));obtain⟨t,w,h⟩:=aq h;exact cI 1 (nu 27 [.ptr 3 1,iI c,.agg (aW k),iI t,iI (ab (c+t)),.ptr 6 3]) [] [] [bv aT 62 Try.f33 (pn 125242) 6] (aN (vz 3) (av (bQ 0 1 30 (l6 q w)) (aN (vz 2) (av (cH 0) cJ)))) (ae 0 (rm q s h))
  ·exact ah 26 m (ae 2 (rm q s h))
 ·refine ah 12 f (mQ 5 3 8 ?_);obtain⟨p,h⟩|⟨p,h⟩:=aj h
  ·exact ah 56 p (ae 2 (pg q h))
  ·exact ah 56 p (ae 2 (pg q h))
def xb(a:au K)(m:Nat):iw M g r e m (hI K n e m):=by
 induction m with
 | zero=>exact fun h=>nomatch h
 | succ m b=>exact fun h=>bH (zt a b h)
def zu(a:au K)(h:jh K n e=some r):aF aT 33 [.sl (lm ap e)] (fun v s=>v=.agg (List.set (bG ({ r with List:=[] }:bm)) 0 (.ref 53))∧look 53 s.r=some (bf r.List)):=by
 refine bi (cat Try.f33 (pn 1)) Try.func33 Try.ntmps33 fun M g=>(bj ⟨[(0,.sl (lm ap e))],[],[],[]⟩ ?_);unfold jh at h;exact eP 122 0 31 10 (ca [0,2,3,4,5] [2,3,4] [] (nB 53 3 0 60 67 (ae 0 (dK (p:=pn 122) n (xb a n h)))))
end
section
variable(M:Nat→Prop)(b:aC)(r a:aa)(d:Int)(c:Int×Bool)(e:Int)  
abbrev wa(n:Nat):aw:=.c (cat Try.f39 (pn n))
abbrev xG:Cx:=⟨aT,45,M,b⟩
abbrev xS:=bodyPost aT Try.f39 (bB M b (fun v _=>v=.agg (ak r)))
abbrev wk(a:b6)(s:AS):=VE (xG M b) (xS M b r) a .normal s
def ub:AS:=⟨[(2,.ptr 2 0),(4,.ptr 4 0)],[(2,ak ({ a with X:=(ab (a.X+c.1)),Y:=e }:aa)),(4,List.set (ak aS) 66 (.nils))],[],[2,4]⟩
variable{M b r a d c e}{K:Kn}{n:Nat}
def oJ(d:au K)(h:jo K n a c e=some r):wk M b r [wa 63] (ub a c e):=by
 unfold jo at h;refine aL 3 ?_;cases h;exact aZ
def j3(e:au K)(h:gY K n a d=some r):aF aT 39 [.agg (ak a),iI d] (fun v _=>v=.agg (ak r)):=by
 refine bi (cat Try.f39 (pn 1)) Try.func39 Try.ntmps39 fun M b=>(bj ⟨[(0,.agg (ak a)),(1,iI d)],[],[],[]⟩ ?_);unfold gY at h;refine aA 13 7 5 ?_;obtain⟨f,h⟩|⟨f,h⟩:=aj h
 ·refine ah 12 f (aL 5 ?_);cases h;exact aZ
 ·refine ah 12 f (fa 2 3 3 (am 4 ?_));obtain⟨c,i,h⟩:=aq h;refine ay (cR e i) (ac (aA 13 7 5 ?_));obtain⟨g,h⟩|⟨g,h⟩:=aj h
  ·refine ah 31 g (aA 4 5 2 (am 3 ?_));obtain⟨k,j,h⟩:=aq h;exact ay (cR e j) (ac (ae 1 (oJ e h)))
  ·exact ah 31 g (ae 2 (oJ e h))
end
section
variable(M:Nat→Prop)(g:aC)(r:bY×Int)(c:b7)(d:aR)(e b a:Int)(f:bY)(i:Int)(j:bY)(l:Nat)(o:Int→Int→bY→Option (bY×Int))
abbrev n7:Cx:=⟨aT,42,M,g⟩
abbrev m6:=bodyPost aT Try.f60 (bB M g (fun v s=>v=.tup [.ref 35,iI r.2]∧look 35 s.r=some (bf r.1)))
abbrev pF(a:b6)(s:AS):=VE (n7 M g) (m6 M g r) a .normal s
abbrev jn(n:Nat):aw:=.c (cat Try.f60 (pn n))
abbrev mq:b6:=[.b 0,jn 31]
abbrev n3:b6:=kl (n7 M g) (m6 M g r) mq (cat Try.f60 (pn 244)) l::mq
def xu:AS:=⟨[(0,.sl (lm ba c)),(2,iI e),(4,.ptr 4 0),(8,.ref 35),(9,iI i),(10,iI a)],[(4,aX d)],[(35,(bf j))],[4,35]⟩
def ru:AS:=⟨[(0,.sl (lm ba c)),(2,iI e),(4,.ptr 4 0),(8,.ref 35),(9,iI b),(10,iI a)],[(4,aX d)],[(35,(bf f))],[4,35]⟩
abbrev nS:Prop:=∀{b:Int} {a:Int} {f:bY},o b a f=some r→LP (n7 M g) (m6 M g r) mq (cat Try.f60 (pn 244)) l (ru c d e b a f)
variable{M g r c d e b a f i j l o}{K:Kn}{n:Nat}
def pC(f:au K)(b:nS M g r c d e l o)(h:iQ K n c d e a o i j=some r):pF M g r (.b 1::jn 979::n3 M g r l) (xu c d e a i j):=by
 unfold iQ at h;exact ae 2 (bM (b h))
def zx(w:au K)(q:nS M g r c d e l o)(h:la K n c d e o b a f=some r):pF M g r (jn 244::n3 M g r l) (ru c d e b a f):=by
 unfold la at h;refine cr 4 5 3 2 (am 2 (aM (bP ba c) (ac ?_)));obtain⟨i,h⟩|⟨i,h⟩:=aj h
 ·refine ah 14 i (d5 8 9 1 3 5 (am 2 ?_));obtain⟨s,h⟩:=bg h;refine aM (bV ba aY s (fi) (dv)) (ac ?_);obtain⟨v,t,h⟩:=jV h;refine cj (ks':=jn 3913 :: .b 1::jn 979::n3 M g r l) 0 ⟨[(0,.sl (lm ba c)),(2,iI e),(4,.ptr 4 0),(8,.ref 35),(9,iI b),(10,iI a),(22,.bool v)],[(4,aX d)],[(35,(bf f))],[4,35]⟩ ?_ (by subst t;kernel_rfl);obtain⟨j,h⟩|⟨j,h⟩:=aj h
  ·refine ah 22 j (aA 4 5 2 (ca [0,2,4,8,9,10] [4] [35] ?_));obtain⟨p,h⟩:=bg h;obtain⟨u,h⟩:=bg h;exact cI 2 (nu 23 [.ref 35,iI b,iI e,.ptr 4 38,iI d.LineHeight,.sl (lm ba c),iI a,.cptr (aY (gD c a)),.cptr (List.drop 55 (aY (gD c a))),.str ((gD c a).Text),.agg (List.set (ak ({ aS with Kind:=2,Y:=b,W:=e,H:=d.LineHeight,Text:=(gD c a).Text }:aa)) 66 (.nils)),.sl (lm ap [({ aS with Kind:=2,Y:=b,W:=e,H:=d.LineHeight,Text:=(gD c a).Text }:aa)])]) [] [] [kH 35 35 ⟨60,67,lm ap (f++[({ aS with Kind:=2,Y:=b,W:=e,H:=d.LineHeight,Text:=(gD c a).Text }:aa)])⟩,bv aT 42 Try.f60 (pn 15652) 13] (aN [.v 0 1,.v 0 2,.v 0 2,.v 0 2,.v 0 2,.v 0 2,.v 0 2] (av (fx (lo:=0) (k:=2) (dD ⟨(by kernel_rfl),(dH (bV ba aY p (fi) (dv)) (by kernel_rfl))⟩ (dD ⟨(by kernel_rfl),(dH (bV ba aY p (fi) (dv)) (by kernel_rfl))⟩ fV))) (aN [.v 0 2,.v 0 2,.v 0 2] (di (dY ap ([({ aS with Kind:=2,Y:=b,W:=e,H:=d.LineHeight,Text:=(gD c a).Text }:aa)]:bY) (new:=[ak ({ aS with Kind:=2,Y:=b,W:=e,H:=d.LineHeight,Text:=(gD c a).Text }:aa)]) (by simp only[u5,yk,bK])) (av (mV (m:=0) (eT 35 35 60 67 ap (rfl) (dx) u)) (av (cH 1) cJ)))))) (ae 1 (pC w q h))
  ·exact ah 22 j (ae 2 (pC w q h))
 ·refine ah 14 i (aL 8 ?_);cases h;exact mj
def zy(a:au K)(m:Nat):nS M g r c d e m (iE K n c d e m):=by
 induction m with
 | zero=>exact fun h=>nomatch h
 | succ m b=>exact fun h=>bH (zx a b h)
def xo(a:au K)(h:lQ K n c d e=some r):aF aT 60 [.sl (lm ba c),.agg (aX d),iI e] (fun v s=>v=.tup [.ref 35,iI r.2]∧look 35 s.r=some (bf r.1)):=by
 refine bi (cat Try.f60 (pn 1)) Try.func60 Try.ntmps60 fun M g=>(bj ⟨[(0,.sl (lm ba c)),(1,.agg (aX d)),(2,iI e)],[],[],[]⟩ ?_);unfold lQ at h;exact eP 122 0 31 10 (ca [0,2,4,8,9,10] [4] [] (kz 35 8 60 67 (ae 0 (dK (p:=pn 122) n (zy a n h)))))
end
section
variable(M:Nat→Prop)(a:aC)(r:Bool)(b:ai)(c:Bool)  
abbrev tD(n:Nat):aw:=.c (cat Try.f74 (pn n))
abbrev yR:Cx:=⟨aT,12,M,a⟩
abbrev t4:=bodyPost aT Try.f74 (bB M a (fun v _=>v=.bool r))
abbrev zz(b:b6)(s:AS):=VE (yR M a) (t4 M a r) b .normal s
def tU:AS:=⟨[(2,.bool c)],[],[],[]⟩
variable{M a r b c}{K:Kn}{n:Nat}
def rR(b:au K)(h:jg K n c=some r):zz M a r [tD 7] (tU c):=by
 unfold jg at h;refine aL 1 ?_;cases h;exact aZ
def wC(d:au K)(h:jB K n b=some r):aF aT 74 [.agg (aY b)] (fun v _=>v=.bool r):=by
 refine bi (cat Try.f74 (pn 1)) Try.func74 Try.ntmps74 fun M a=>(bj ⟨[(0,.agg (aY b))],[],[],[]⟩ ?_);unfold jB at h;refine aA 6 7 3 (am 4 ?_);obtain⟨c,h⟩|⟨c,h⟩:=aj h
 ·exact ao 6 c (ac (ae 0 (rR d h)))
 ·exact ao 6 c (ac (ae 0 (rR d h)))
end
section
variable(M:Nat→Prop)(b:aC)(r:b7)(a:ai)(c:Int)(f d:b7)(e:Nat)(g:Int→b7→Option b7)
abbrev nd:Cx:=⟨aT,27,M,b⟩
abbrev nG:=bodyPost aT Try.f67 (bB M b (fun v s=>v=.ref 25∧look 25 s.r=some ⟨63,59,lm ba r⟩))
abbrev sG(a:b6)(s:AS):=VE (nd M b) (nG M b r) a .normal s
abbrev mM(n:Nat):aw:=.c (cat Try.f67 (pn n))
abbrev m9:b6:=[.b 0,mM 15]
abbrev pY:b6:=kl (nd M b) (nG M b r) m9 (cat Try.f67 (pn 116)) e::m9
def vW:AS:=⟨[(1,.ptr 1 0),(3,.ref 25),(4,iI c)],[(1,aY a)],[(25,⟨63,59,lm ba d⟩)],[1,25]⟩
def rr:AS:=⟨[(1,.ptr 1 0),(3,.ref 25),(4,iI c)],[(1,aY a)],[(25,⟨63,59,lm ba f⟩)],[1,25]⟩
abbrev nR:Prop:=∀{c:Int} {f:b7},g c f=some r→LP (nd M b) (nG M b r) m9 (cat Try.f67 (pn 116)) e (rr a c f)
variable{M b r a c f d e g}{K:Kn}{n:Nat}
def qy(i:au K)(f:nR M b r a e g)(h:ib K n a c g d=some r):sG M b r (.b 1::mM 467::pY M b r e) (vW a c d):=by
 unfold ib at h;exact ae 2 (bM (f h))
def xm(p:au K)(j:nR M b r a e g)(h:lT K n a g c f=some r):sG M b r (mM 116::pY M b r e) (rr a c f):=by
 unfold lT at h;refine cr 4 5 3 2 (am 3 (aM (bP ba a.Kids) (ac ?_)));obtain⟨d,h⟩|⟨d,h⟩:=aj h
 ·refine ah 9 d (d5 8 9 1 3 5 (am 3 ?_));obtain⟨k,h⟩:=bg h;refine aM (bV ba aY k (fi) (dv)) (aB 5 1 ?_);obtain⟨q,l,h⟩:=aq h;refine ay (wC p l) (ac ?_);obtain⟨i,h⟩|⟨i,h⟩:=aj h
  ·refine ah 17 i (bt 2 1 (am 4 ?_));obtain⟨m,h⟩:=bg h;refine aM (bV ba aY m (fi) (dv)) (aB 6 1 (aM (dY ba ([(gD a.Kids c)]:b7) (new:=[aY (gD a.Kids c)]) (by simp only[u5,yk,dv])) ?_));obtain⟨o,h⟩:=bg h;exact aM (eT 25 25 63 59 ba (rfl) (fi) o) (ac (ae 0 (qy p j h)))
  ·exact ah 17 i (ae 2 (qy p j h))
 ·refine ah 9 d (aL 8 ?_);cases h;exact k7
def yw(c:au K)(m:Nat):nR M b r a m (jJ K n a m):=by
 induction m with
 | zero=>exact fun h=>nomatch h
 | succ m d=>exact fun h=>bH (xm c d h)
def o5(c:au K)(h:iy K n a=some r):aF aT 67 [.agg (aY a)] (fun v s=>v=.ref 25∧look 25 s.r=some ⟨63,59,lm ba r⟩):=by
 refine bi (cat Try.f67 (pn 1)) Try.func67 Try.ntmps67 fun M b=>(bj ⟨[(0,.agg (aY a))],[],[],[]⟩ ?_);unfold iy at h;exact eP 58 0 15 8 (ca [1,3,4] [1] [] (kz 25 3 63 59 (ae 0 (dK (p:=pn 58) n (yw c n h)))))
end
section
variable(M:Nat→Prop)(a:aC)(r:Bool)(f:ai)(b:b7)(c:Int)(d:Nat)(e:Int→Option Bool)
abbrev nE:Cx:=⟨aT,19,M,a⟩
abbrev my:=bodyPost aT Try.f66 (bB M a (fun v _=>v=.bool r))
abbrev w8(b:b6)(s:AS):=VE (nE M a) (my M a r) b .normal s
abbrev k8(n:Nat):aw:=.c (cat Try.f66 (pn n))
abbrev nP:b6:=[.b 0,k8 15]
abbrev qh:b6:=kl (nE M a) (my M a r) nP (cat Try.f66 (pn 116)) d::nP
def pu:AS:=⟨[(3,.ref 1006),(4,iI c)],[],[(1006,⟨63,59,lm ba b⟩)],[1006]⟩
abbrev rj:Prop:=∀{c:Int},e c=some r→LP (nE M a) (my M a r) nP (cat Try.f66 (pn 116)) d (pu b c)
variable{M a r f b c d e}{K:Kn}{n:Nat}
def t6(m:au K)(i:rj M a r b d e)(h:lN K n b e c=some r):w8 M a r (k8 116::qh M a r d) (pu b c):=by
 unfold lN at h;refine cr 4 5 3 2 (am 2 (aM (bP ba b) (ac ?_)));obtain⟨f,h⟩|⟨f,h⟩:=aj h
 ·refine ah 10 f (d5 8 9 1 3 5 (am 2 ?_));obtain⟨j,h⟩:=bg h;refine aM (mc 1006 59 ba j) (aB 4 1 (aM (eF 3 0 ba aY (cw j).2 (dv)) (ac ?_)));obtain⟨l,k,h⟩:=jV h;refine cj (ks':=k8 1865 :: .b 1::k8 467::qh M a r d) 0 ⟨[(3,.ref 1006),(4,iI c),(18,.bool l)],[],[(1006,⟨63,59,lm ba b⟩)],[1006]⟩ ?_ (by subst k;kernel_rfl);obtain⟨g,h⟩|⟨g,h⟩:=aj h
  ·refine ah 18 g (aL 9 ?_);cases h;exact aZ
  ·exact ah 18 g (ae 4 (bM (i h)))
 ·refine ah 10 f (aL 8 ?_);cases h;exact aZ
def zC(c:au K)(m:Nat):rj M a r b m (jc K n b m):=by
 induction m with
 | zero=>exact fun h=>nomatch h
 | succ m d=>exact fun h=>bH (t6 c d h)
def s4(c:au K)(h:j7 K n f=some r):aF aT 66 [.agg (aY f)] (fun v _=>v=.bool r):=by
 refine bi (cat Try.f66 (pn 1)) Try.func66 Try.ntmps66 fun M a=>(bj ⟨[(0,.agg (aY f))],[],[],[]⟩ ?_);unfold j7 at h;refine aA 6 7 3 (am 1 ?_);obtain⟨b,d,h⟩:=aq h;exact fy 1006 (o5 c d) (lP 25) (ac (ae 4 (dK (p:=pn 58) n (zC c n h))))
end
section
variable(M:Nat→Prop)(b:aC)(r:Int×Bool)(a:bx)  
variable{M b r a}{K:Kn}{n:Nat}
def xD(e:au K)(h:i8 K n a=some r):aF aT 68 [.agg (dJ a)] (fun v _=>v=.tup [iI r.1,.bool r.2]):=by
 refine bi (cat Try.f68 (pn 1)) Try.func68 Try.ntmps68 fun M b=>(bj ⟨[(0,.agg (dJ a))],[],[],[]⟩ ?_);unfold i8 at h;refine aA 13 7 5 ?_;obtain⟨c,h⟩|⟨c,h⟩:=aj h
 ·refine ah 6 c (aL 5 ?_);cases h;exact f0
 ·refine ah 6 c (fa 2 3 3 (am 2 ?_));obtain⟨f,d,h⟩:=aq h;refine ay (na e d) (ac (aL 1 ?_));cases h;exact f0
end
section
variable(M:Nat→Prop)(z:aC)(r:aa)(f:ai)(g:az)(H:Bool)(o:Int)(q:Bool)(I:b7)(O:Int)(F:bY)(a:Int)(d c:ag)(e:Bool)(b:bY)(j:Int×Bool)(G t A:Bool)(N y:ag)(P:Bool)(l:Int)(E:ag)(a0 b0:Bool)(c0:Int)(u w:ag)(x:Bool)(d0 B C:Int)(D:bY)(J:aa)(m1 m2:Nat)(L1:Int→bY→Option aa)(L2:Int→Int→bY→Option aa)
abbrev iH:Cx:=⟨aT,281,M,z⟩
abbrev iZ:=bodyPost aT Try.f55 (bB M z (fun v s=>v=.agg (List.set (ak ({ r with Kids:=[] }:aa)) 66 (.ref 278))∧look 278 s.r=some (bf r.Kids)))
abbrev dj(a:b6)(s:AS):=VE (iH M z) (iZ M z r) a .normal s
abbrev bF(n:Nat):aw:=.c (cat Try.f55 (pn n))
abbrev mO:b6:=[.b 3,bF 33554431]
abbrev l9:b6:=kl (iH M z) (iZ M z r) mO (cat Try.f55 (pn 268435444)) m2::mO
abbrev ow:b6:=[.b 0,bF 8171,bF 511]
abbrev vc:b6:=kl (iH M z) (iZ M z r) ow (cat Try.f55 (pn 65364)) m1::ow
def yp:AS:=⟨[(4,.ptr 4 0),(6,.ptr 6 0),(8,.ptr 8 0),(9,.bool q),(11,.ptr 11 0),(22,iI l),(24,iI B),(25,.ptr 25 0)],[(4,aK g),(6,List.set (ak aS) 66 (.nils)),(8,List.set (ak (⟨1,f.Node,g.Margin.a3,0,o,C,0,⟨#[]⟩,f.Style,u,w,x,[]⟩:aa)) 66 (.ref 278)),(11,List.set (bG (⟨[],a,d,c,e⟩:bm)) 0 (.ref 1077)),(25,ak J)],[(278,(bf D)),(1077,(bf b))],[4,6,8,11,25,278,1077]⟩
def qm:AS:=⟨[(4,.ptr 4 0),(6,.ptr 6 0),(8,.ptr 8 0),(9,.bool q),(11,.ptr 11 0),(22,iI l),(24,iI B)],[(4,aK g),(6,List.set (ak aS) 66 (.nils)),(8,List.set (ak (⟨1,f.Node,g.Margin.a3,0,o,C,0,⟨#[]⟩,f.Style,u,w,x,[]⟩:aa)) 66 (.ref 278)),(11,List.set (bG (⟨[],a,d,c,e⟩:bm)) 0 (.ref 1077))],[(278,(bf D)),(1077,(bf b))],[4,6,8,11,278,1077]⟩
def y5:AS:=⟨[(4,.ptr 4 0),(6,.ptr 6 0),(8,.ptr 8 0),(9,.bool q),(11,.ptr 11 0),(22,iI l),(23,iI d0)],[(4,aK g),(6,List.set (ak aS) 66 (.nils)),(8,List.set (ak (⟨1,f.Node,g.Margin.a3,0,o,0,0,⟨#[]⟩,f.Style,u,w,x,[]⟩:aa)) 66 (.nils)),(11,List.set (bG (⟨[],a,d,c,e⟩:bm)) 0 (.ref 1077))],[(1077,(bf b))],[4,6,8,11,1077]⟩
def tY:AS:=⟨[(4,.ptr 4 0),(6,.ptr 6 0),(8,.ptr 8 0),(9,.bool q),(11,.ptr 11 0),(16,iI j.1),(17,.bool j.2),(22,iI l),(23,iI c0)],[(4,aK g),(6,List.set (ak aS) 66 (.nils)),(8,List.set (ak (⟨1,f.Node,g.Margin.a3,0,o,0,0,⟨#[]⟩,f.Style,u,w,x,[]⟩:aa)) 66 (.nils)),(11,List.set (bG (⟨[],a,d,c,e⟩:bm)) 0 (.ref 1077))],[(1077,(bf b))],[4,6,8,11,1077]⟩
def wz:AS:=⟨[(4,.ptr 4 0),(6,.ptr 6 0),(8,.ptr 8 0),(9,.bool q),(11,.ptr 11 0),(16,iI j.1),(17,.bool j.2),(18,.bool t),(19,.bool A),(21,.ptr 21 0),(22,iI l),(23,iI 0),(186,.bool b0)],[(4,aK g),(6,List.set (ak aS) 66 (.nils)),(8,List.set (ak (⟨1,f.Node,g.Margin.a3,0,o,0,0,⟨#[]⟩,f.Style,E,y,false,[]⟩:aa)) 66 (.nils)),(11,List.set (bG (⟨[],a,d,c,e⟩:bm)) 0 (.ref 1077)),(21,aW y)],[(1077,(bf b))],[4,6,8,11,21,1077]⟩
def t3:AS:=⟨[(4,.ptr 4 0),(6,.ptr 6 0),(8,.ptr 8 0),(9,.bool q),(11,.ptr 11 0),(16,iI j.1),(17,.bool j.2),(18,.bool t),(19,.bool A),(21,.ptr 21 0),(22,iI l),(23,iI 0),(158,.bool a0)],[(4,aK g),(6,List.set (ak aS) 66 (.nils)),(8,List.set (ak (⟨1,f.Node,g.Margin.a3,0,o,0,0,⟨#[]⟩,f.Style,E,y,false,[]⟩:aa)) 66 (.nils)),(11,List.set (bG (⟨[],a,d,c,e⟩:bm)) 0 (.ref 1077)),(21,aW y)],[(1077,(bf b))],[4,6,8,11,21,1077]⟩
def vu:AS:=⟨[(4,.ptr 4 0),(6,.ptr 6 0),(8,.ptr 8 0),(9,.bool q),(11,.ptr 11 0),(16,iI j.1),(17,.bool j.2),(18,.bool t),(19,.bool A),(21,.ptr 21 0),(22,iI l),(23,iI 0)],[(4,aK g),(6,List.set (ak aS) 66 (.nils)),(8,List.set (ak (⟨1,f.Node,g.Margin.a3,0,o,0,0,⟨#[]⟩,f.Style,E,y,false,[]⟩:aa)) 66 (.nils)),(11,List.set (bG (⟨[],a,d,c,e⟩:bm)) 0 (.ref 1077)),(21,aW y)],[(1077,(bf b))],[4,6,8,11,21,1077]⟩
def ua:AS:=⟨[(4,.ptr 4 0),(6,.ptr 6 0),(8,.ptr 8 0),(9,.bool q),(11,.ptr 11 0),(16,iI j.1),(17,.bool j.2),(18,.bool t),(19,.bool A),(21,.ptr 21 0),(22,iI 0),(23,iI 0),(154,.bool P)],[(4,aK g),(6,List.set (ak aS) 66 (.nils)),(8,List.set (ak (⟨1,f.Node,g.Margin.a3,0,o,0,0,⟨#[]⟩,f.Style,N,y,false,[]⟩:aa)) 66 (.nils)),(11,List.set (bG (⟨[],a,d,c,e⟩:bm)) 0 (.ref 1077)),(21,aW y)],[(1077,(bf b))],[4,6,8,11,21,1077]⟩
def yq:AS:=⟨[(4,.ptr 4 0),(6,.ptr 6 0),(8,.ptr 8 0),(9,.bool q),(11,.ptr 11 0),(16,iI j.1),(17,.bool j.2),(18,.bool t),(19,.bool A)],[(4,aK g),(6,List.set (ak aS) 66 (.nils)),(8,List.set (ak ({ aS with Kind:=1,Node:=f.Node,X:=g.Margin.a3,W:=o,Style:=f.Style }:aa)) 66 (.nils)),(11,List.set (bG (⟨[],a,d,c,e⟩:bm)) 0 (.ref 1077))],[(1077,(bf b))],[4,6,8,11,1077]⟩
def va:AS:=⟨[(2,.bool G),(4,.ptr 4 0),(6,.ptr 6 0),(8,.ptr 8 0),(9,.bool q),(11,.ptr 11 0),(16,iI j.1),(17,.bool j.2),(18,.bool t)],[(4,aK g),(6,List.set (ak aS) 66 (.nils)),(8,List.set (ak ({ aS with Kind:=1,Node:=f.Node,X:=g.Margin.a3,W:=o,Style:=f.Style }:aa)) 66 (.nils)),(11,List.set (bG (⟨[],a,d,c,e⟩:bm)) 0 (.ref 1077))],[(1077,(bf b))],[4,6,8,11,1077]⟩
def yy:AS:=⟨[(2,.bool G),(4,.ptr 4 0),(6,.ptr 6 0),(8,.ptr 8 0),(9,.bool q),(11,.ptr 11 0),(16,iI j.1),(17,.bool j.2)],[(4,aK g),(6,List.set (ak aS) 66 (.nils)),(8,List.set (ak ({ aS with Kind:=1,Node:=f.Node,X:=g.Margin.a3,W:=o,Style:=f.Style }:aa)) 66 (.nils)),(11,List.set (bG (⟨[],a,d,c,e⟩:bm)) 0 (.ref 1077))],[(1077,(bf b))],[4,6,8,11,1077]⟩
def uB:AS:=⟨[(2,.bool H),(4,.ptr 4 0),(6,.ptr 6 0),(7,.ptr 7 0),(8,.ptr 8 0),(9,.bool q),(11,.ptr 11 0)],[(4,aK g),(6,List.set (ak aS) 66 (.nils)),(7,aX f.Style),(8,List.set (ak ({ aS with Kind:=1,Node:=f.Node,X:=g.Margin.a3,W:=o,Style:=f.Style }:aa)) 66 (.nils)),(11,List.set (bG (⟨[],a,d,c,e⟩:bm)) 0 (.ref 1077))],[(1077,(bf b))],[4,6,7,8,11,1077]⟩
def ql:AS:=⟨[(2,.bool H),(4,.ptr 4 0),(6,.ptr 6 0),(7,.ptr 7 0),(8,.ptr 8 0),(9,.bool q),(10,.ref 1057),(11,.ptr 11 0),(12,.ref 75),(13,iI O)],[(4,aK g),(6,List.set (ak aS) 66 (.nils)),(7,aX f.Style),(8,List.set (ak ({ aS with Kind:=1,Node:=f.Node,X:=g.Margin.a3,W:=o,Style:=f.Style }:aa)) 66 (.nils)),(11,List.set (bG fF) 0 (.nils))],[(75,(bf F)),(1057,⟨63,59,lm ba I⟩)],[4,6,7,8,11,75,1057]⟩
abbrev sw:Prop:=∀{O:Int} {F:bY},L1 O F=some r→LP (iH M z) (iZ M z r) ow (cat Try.f55 (pn 65364)) m1 (ql f g H o q I O F)
abbrev mR:Prop:=∀{B:Int} {C:Int} {D:bY},L2 B C D=some r→LP (iH M z) (iZ M z r) mO (cat Try.f55 (pn 268435444)) m2 (qm f g o q a d c e b l u w x B C D)
variable{M z r f g H o q I O F a d c e b j G t A N y P l E a0 b0 c0 u w x d0 B C D J m1 m2 L1 L2}{K:Kn}{n:Nat}
def pG(k:au K)(j:mR M z r f g o q a d c e b l u w x m2 L2)(h:iU K n f g o q a d c e b l u w x B C D L2 J=some r):dj M z r (bF 34359736911 :: .b 4::bF 1073741779::l9 M z r m2) (yp f g o q a d c e b l u w x B C D J):=by
 unfold iU at h;refine am 3 (aM (dY ap ([J]:bY) (new:=[ak J]) (by simp only[u5,yk,bK])) ?_);obtain⟨i,h⟩:=bg h;exact aM (eT 278 278 60 67 ap (rfl) (dx) i) (ac (ae 2 (bM (j h))))
def s7(v:au K)(m:mR M z r f g o q a d c e b l u w x m2 L2)(h:lf K n f g o q a d c e b l u w x L2 B C D=some r):dj M z r (bF 268435444::l9 M z r m2) (qm f g o q a d c e b l u w x B C D):=by
 unfold lf at h;refine cr 4 5 3 2 (am 3 (aM (bP ap b) (ac ?_)));obtain⟨i,h⟩|⟨i,h⟩:=aj h
 ·refine ah 237 i (d5 8 9 4 3 5 (am 3 ?_));obtain⟨k,h⟩:=bg h;refine aM (mc 1077 67 ap k) (aM (eF 60 0 ap ak (cw k).2 (bK)) (ac ?_));obtain⟨y,p,h⟩:=jV h;obtain⟨A,s,h⟩:=jV h;refine cj (ks':=bF 68719473821::bF 34359736911 :: .b 4::bF 1073741779::l9 M z r m2) 7 ⟨[(4,.ptr 4 0),(6,.ptr 6 0),(8,.ptr 8 0),(9,.bool q),(11,.ptr 11 0),(22,iI l),(24,iI B),(25,.ptr 25 0),(269,.bool q)],[(4,aK g),(6,List.set (ak aS) 66 (.nils)),(8,List.set (ak (⟨1,f.Node,g.Margin.a3,0,o,C,0,⟨#[]⟩,f.Style,u,w,x,[]⟩:aa)) 66 (.ref 278)),(11,List.set (bG (⟨[],a,d,c,e⟩:bm)) 0 (.ref 1077)),(25,ak ({ (gD b B)with X:=y,Y:=A }:aa))],[(278,(bf D)),(1077,(bf b))],[4,6,8,11,25,278,1077]⟩ ?_ (by subst s;subst p;kernel_rfl);obtain⟨j,h⟩|⟨j,h⟩:=aj h
  ·refine ah 269 j (bt 2 1 (am 3 ?_));obtain⟨E,t,h⟩:=aq h;exact ay (j3 v t) (ac (ae 0 (pG v m h)))
  ·exact ah 269 j (ae 2 (pG v m h))
 ·refine ah 237 i (aL 8 ?_);cases h;exact k7
def xQ(i:au K)(m:Nat):mR M z r f g o q a d c e b l u w x m (j6 K n f g o q a d c e b l u w x m):=by
 induction m with
 | zero=>exact fun h=>nomatch h
 | succ m j=>exact fun h=>bH (s7 i j h)
def oO(i:au K)(h:gF K n f g o q a d c e b l u w x d0=some r):dj M z r [bF 8388607] (y5 f g o q a d c e b l u w x d0):=by
 unfold gF at h;exact eP 26 3 7 6 (ca [4,6,8,9,11,22,24] [4,6,8,11] [1077] (nB 278 8 66 60 67 (ae 0 (dK (p:=pn 134217722) n (xQ i n h)))))
def gA(k:au K)(h:ed K n f g o q a d c e b j l c0 u w x=some r):dj M z r [.b 2,bF 2097151] (tY f g o q a d c e b j l c0 u w x):=by
 unfold ed at h;refine fa 13 7 6 ?_;obtain⟨i,h⟩|⟨i,h⟩:=aj h
 ·exact ah 213 i (ae 2 (oO k h))
 ·exact ah 213 i (ae 2 (oO k h))
def sh(p:au K)(h:jm K n f g o q a d c e b j t A y l E b0=some r):dj M z r [bF 134217631,.b 2,bF 2097151] (wz f g o q a d c e b j t A y l E b0):=by
 unfold jm at h;obtain⟨i,h⟩|⟨i,h⟩:=aj h
 ·refine ah 186 i (aA 4 5 2 (am 3 ?_));obtain⟨v,s,h⟩:=aq h;exact ay (i9 p s) (ac (ae 3 (gA p h)))
 ·refine ah 186 i (bt 7 3 ?_);obtain⟨k,h⟩|⟨k,h⟩:=aj h
  ·refine ah 200 k (bt 2 1 (am 3 ?_));obtain⟨w,u,h⟩:=aq h;exact ay (i9 p u) (ac (ae 0 (gA p h)))
  ·refine ah 200 k (bt 7 3 ?_);obtain⟨m,h⟩|⟨m,h⟩:=aj h
   ·exact ah 207 m (ae 2 (gA p h))
   ·exact ah 207 m (ae 2 (gA p h))
def rS(p:au K)(h:j9 K n f g o q a d c e b j t A y l E a0=some r):dj M z r [bF 8388601,.b 2,bF 2097151] (t3 f g o q a d c e b j t A y l E a0):=by
 unfold j9 at h;obtain⟨i,h⟩|⟨i,h⟩:=aj h
 ·refine ah 158 i (aA 4 5 2 (am 3 ?_));obtain⟨w,u,h⟩:=aq h;exact ay (i9 p u) (ac (ae 1 (gA p h)))
 ·refine ah 158 i (bt 7 3 ?_);obtain⟨k,h⟩|⟨k,h⟩:=aj h
  ·refine ah 174 k (bt 2 1 (ca [4,6,8,9,11,16,17,22] [4,6,8,11] [1077] ?_));obtain⟨s,v,h⟩:=aq h;exact cI 1 (nu 178 [iI l,.ptr 11 1,iI a,iI (ab (l+a)),.ptr 11 4,.agg (aW c),iI s,iI (ab ((ab (l+a))+s))]) [] [] [bv aT 281 Try.f55 (pn 67108814) 8] (aN (vz 6) (av (bQ 0 1 184 (l6 p v)) (aN [.v 0 1] (av (cH 0) cJ)))) (ae 0 (gA p h))
  ·refine ah 174 k (aA 6 7 2 (am 2 ?_));obtain⟨m,h⟩|⟨m,h⟩:=aj h
   ·exact ao 188 m (ac (ae 0 (sh p h)))
   ·exact ao 188 m (ac (ae 0 (sh p h)))
def nZ(k:au K)(h:gX K n f g o q a d c e b j t A y l E=some r):dj M z r [bF 1048575] (vu f g o q a d c e b j t A y l E):=by
 unfold gX at h;refine dF 8 9 2 3 3 (am 4 ?_);obtain⟨i,h⟩|⟨i,h⟩:=aj h
 ·exact ao 162 i (ac (ae 0 (rS k h)))
 ·exact ao 162 i (ac (ae 0 (rS k h)))
def qM(l:au K)(h:iS K n f g o q a d c e b j t A N y P=some r):dj M z r [bF 8388599,bF 1048575] (ua f g o q a d c e b j t A N y P):=by
 unfold iS at h;obtain⟨i,h⟩|⟨i,h⟩:=aj h
 ·refine ah 154 i (bt 2 1 (am 2 ?_));obtain⟨m,k,h⟩:=aq h;exact ay (l6 l k) (ac (ae 0 (nZ l h)))
 ·exact ah 154 i (ae 2 (nZ l h))
def oy(l:au K)(h:eU K n f g o q a d c e b j t A=some r):dj M z r [bF 8191] (yq f g o q a d c e b j t A):=by
 unfold eU at h;refine aA 2 3 1 (am 3 ?_);obtain⟨N,m,h⟩:=aq h;refine ay (sU l m) (ac (aA 2 3 1 (am 3 ?_)));obtain⟨y,p,h⟩:=aq h;refine ay (sU l p) (ac (aA 125 63 11 ?_));obtain⟨i,h⟩|⟨i,h⟩:=aj h
 ·refine ah 142 i (bt 2 1 (am 3 ?_));obtain⟨u,s,h⟩:=aq h;exact ay (i9 l s) (ac (ae 0 (nZ l h)))
 ·refine ah 142 i (aA 6 7 2 (am 4 ?_));obtain⟨k,h⟩|⟨k,h⟩:=aj h
  ·exact ao 151 k (ac (ae 0 (qM l h)))
  ·exact ao 151 k (ac (ae 0 (qM l h)))
def pE(l:au K)(h:ii K n f g o q a d c e b j G t=some r):dj M z r [bF 4095] (va f g o q a d c e b j G t):=by
 unfold ii at h;refine aA 2 3 1 (am 2 ?_);obtain⟨i,h⟩|⟨i,h⟩:=aj h
 ·refine ao 116 i (aB 12 10 ?_);obtain⟨k,h⟩|⟨k,h⟩:=aj h
  ·exact ao 126 k (ac (ae 0 (oy l h)))
  ·exact ao 126 k (ac (ae 0 (oy l h)))
 ·exact ao 116 i (ac (ae 0 (oy l h)))
def pL(k:au K)(h:jW K n f g o q a d c e b j G=some r):dj M z r [bF 2047] (yy f g o q a d c e b j G):=by
 unfold jW at h;refine aA 2 3 1 (am 2 ?_);obtain⟨i,h⟩|⟨i,h⟩:=aj h
 ·exact ao 105 i (ac (ae 0 (pE k h)))
 ·exact ao 105 i (ac (ae 0 (pE k h)))
def rW(l:au K)(h:eN K n f g H o q a d c e b=some r):dj M z r [bF 511] (uB f g H o q a d c e b):=by
 unfold eN at h;refine aA 2 3 1 (am 2 ?_);obtain⟨j,k,h⟩:=aq h;refine ay (xD l k) (ac (aA 2 3 1 (am 2 ?_)));obtain⟨i,h⟩|⟨i,h⟩:=aj h
 ·exact ao 99 i (ac (ae 0 (pL l h)))
 ·exact ao 99 i (ac (ae 0 (pL l h)))
def vn(l:au K)(p:sw M z r f g H o q I m1 L1)(h:k6 K n f g H o q I L1 O F=some r):dj M z r (bF 65364::vc M z r m1) (ql f g H o q I O F):=by
 unfold k6 at h;refine cr 4 5 3 2 (am 2 (aM (bP ba I) (ac ?_)));obtain⟨c,h⟩|⟨c,h⟩:=aj h
 ·refine ah 63 c (uA 4 1 3 4 (ca [2,4,6,7,8,9,10,11,12,13] [4,6,7,8,11] [75,1057] ?_));obtain⟨b,h⟩:=bg h;obtain⟨a,d,h⟩:=aq h;obtain⟨e,h⟩:=bg h;exact cI 2 (nu 66 [.ref 75,.ref 1057,iI O,.eptr 1057 59 (O.toNat) 0,.agg (aY (gD I O)),.ptr 4 12,iI g.Content,.agg (ak a),.sl (lm ap [a])]) [] [] [kH 75 75 ⟨60,67,lm ap (F++[a])⟩,bv aT 281 Try.f55 (pn 522916) 10] (aN [.v 0 1,.v 0 2,.v 0 2] (av (fx (lo:=0) (k:=2) (dD ⟨(by kernel_rfl),(dH (mC 1057 59 ba (L:=I) b) (by kernel_rfl))⟩ (dD ⟨(by kernel_rfl),(dH (mC 1057 59 ba (L:=I) b) (by kernel_rfl))⟩ fV))) (av (fx (lo:=0) (k:=2) (dD ⟨(by kernel_rfl),(dH (eF 63 0 ba aY (cw b).2 (dv)) (by kernel_rfl))⟩ (dD ⟨(by kernel_rfl),(dH (eF 63 0 ba aY (cw b).2 (dv)) (by kernel_rfl))⟩ fV))) (aN [.v 0 2,.v 0 2] (av (bQ 0 1 73 (l.de d)) (di (dY ap ([a]:bY) (new:=[ak a]) (by simp only[u5,yk,bK])) (av (mV (m:=0) (eT 75 75 60 67 ap (rfl) (dx) e)) (av (cH 1) cJ)))))))) (ae 2 (bM (p h)))
 ·refine ah 63 c (cO (ks':=[bF 8171,bF 511]) 5 (am 1 (kt 75 ?_)));obtain⟨s,j,h⟩:=aq h;exact fy 1077 (zu l j) (jH (i:=0) (by kernel_rfl)) (ac (ae 0 (rW l h)))
def tG(a:au K)(m:Nat):sw M z r f g H o q I m (go K n f g H o q I m):=by
 induction m with
 | zero=>exact fun h=>nomatch h
 | succ m b=>exact fun h=>bH (vn a b h)
def tN(a:au K)(h:jY K n f g H=some r):aF aT 55 [.agg (aY f),.agg (aK g),.bool H] (fun v s=>v=.agg (List.set (ak ({ r with Kids:=[] }:aa)) 66 (.ref 278))∧look 278 s.r=some (bf r.Kids)):=by
 refine bi (cat Try.f55 (pn 1)) Try.func55 Try.ntmps55 fun M z=>(bj ⟨[(0,.agg (aY f)),(1,.agg (aK g)),(2,.bool H)],[],[],[]⟩ ?_);unfold jY at h;obtain⟨o,e,h⟩:=jV h;refine cj (ks':=[bF 62,bF 63]) 9 ⟨[(2,.bool H),(3,.ptr 3 0),(4,.ptr 4 0),(6,.ptr 6 0),(7,.ptr 7 0),(8,.ptr 8 0)],[(3,aY f),(4,aK g),(6,List.set (ak aS) 66 (.nils)),(7,aX f.Style),(8,List.set (ak ({ aS with Kind:=1,Node:=f.Node,X:=g.Margin.a3,W:=o,Style:=f.Style }:aa)) 66 (.nils))],[],[3,4,6,7,8]⟩ ?_ (by subst e;kernel_rfl);refine am 1 ?_;obtain⟨q,j,h⟩:=aq h;refine ay (s4 a j) (ac (aA 2 3 1 (am 1 ?_)));obtain⟨I,k,h⟩:=aq h;refine fy 1057 (o5 a k) (lP 25) (ac (aA 13 7 5 ?_));obtain⟨c,h⟩|⟨c,h⟩:=aj h
 ·exact ah 59 c (eP 42 0 11 7 (ca [2,4,6,7,8,9,10,11,12,13] [4,6,7,8,11] [1057] (kz 75 12 60 67 (ae 0 (dK (p:=pn 32682) n (tG a n h))))))
 ·refine ah 59 c (aA 6 7 2 (am 4 (kt 1057 ?_)));obtain⟨d,b,h⟩:=aq h;exact fy 1083 (xo a b) (qz (i:=0) rfl) (ac (am 3 (aM (bP ap d.1) (ac (ca [2,4,6,7,8,9,11] [4,6,7,8,11] [1083] (uf 1083 1077 (ae 0 (rW a h))))))))
end
section
variable(M:Nat→Prop)(c:aC)(r:aa)(a:ai)(b:Int)  
variable{M c r a b}{K:Kn}{n:Nat}
def mF(d:au K)(h:fR K n a b=some r):aF aT 36 [.agg (aY a),iI b] (fun v s=>v=.agg (List.set (ak ({ r with Kids:=[] }:aa)) 66 (.ref 10))∧look 10 s.r=some (bf r.Kids)):=by
 refine bi (cat Try.f36 (pn 1)) Try.func36 Try.ntmps36 fun M c=>(bj ⟨[(0,.agg (aY a)),(1,iI b)],[],[],[]⟩ ?_);unfold fR at h;refine aA 6 7 3 (ca [1,2,4] [2,4] [] ?_);obtain⟨j,f,h⟩:=aq h;obtain⟨e,g,h⟩:=aq h;refine cI 1 (nu 5 [.agg (aY a),.ptr 2 2,.agg (aX a.Style),iI b,.agg (aK j),.agg (List.set (ak ({ e with Kids:=[] }:aa)) 66 (.ref 10))]) [] [(10,(bf e.Kids))] [bv aT 11 Try.f36 (pn 6) 6] (aN (vz 4) (av (bQ 0 1 9 (zA d f)) (av (y1 0 1 10 (tN d g) (jH (i:=66) (by kernel_rfl))) (av (cH 0) cJ)))) (aL 1 ?_);cases h;exact k7
end
section
variable(M:Nat→Prop)(b:aC)(r a:aa)(d:Int)(c:Int×Bool)(e:Int)  
abbrev xn(n:Nat):aw:=.c (cat Try.f37 (pn n))
abbrev xZ:Cx:=⟨aT,45,M,b⟩
abbrev xk:=bodyPost aT Try.f37 (bB M b (fun v _=>v=.agg (ak r)))
abbrev xH(a:b6)(s:AS):=VE (xZ M b) (xk M b r) a .normal s
def yZ:AS:=⟨[(2,.ptr 2 0),(4,.ptr 4 0)],[(2,ak ({ a with X:=(ab (a.X+c.1)),Y:=e }:aa)),(4,List.set (ak aS) 66 (.nils))],[],[2,4]⟩
variable{M b r a d c e}{K:Kn}{n:Nat}
def rd(d:au K)(h:ir K n a c e=some r):xH M b r [xn 63] (yZ a c e):=by
 unfold ir at h;refine aL 3 ?_;cases h;exact aZ
def vg(e:au K)(h:iq K n a d=some r):aF aT 37 [.agg (ak a),iI d] (fun v _=>v=.agg (ak r)):=by
 refine bi (cat Try.f37 (pn 1)) Try.func37 Try.ntmps37 fun M b=>(bj ⟨[(0,.agg (ak a)),(1,iI d)],[],[],[]⟩ ?_);unfold iq at h;refine aA 13 7 5 ?_;obtain⟨f,h⟩|⟨f,h⟩:=aj h
 ·refine ah 12 f (aL 5 ?_);cases h;exact aZ
 ·refine ah 12 f (fa 2 3 3 (am 4 ?_));obtain⟨c,i,h⟩:=aq h;refine ay (cU e i) (ac (aA 13 7 5 ?_));obtain⟨g,h⟩|⟨g,h⟩:=aj h
  ·refine ah 31 g (aA 4 5 2 (am 3 ?_));obtain⟨k,j,h⟩:=aq h;exact ay (cU e j) (ac (ae 1 (rd e h)))
  ·exact ah 31 g (ae 2 (rd e h))
end
section
variable(M:Nat→Prop)(c:aC)(r:Bool)(a b:aa)(g:Bool)(d:Int)(e:Nat)(f:Int→Option Bool)
abbrev mn:Cx:=⟨aT,116,M,c⟩
abbrev mL:=bodyPost aT Try.f38 (bB M c (fun v _=>v=.bool r))
abbrev qW(a:b6)(s:AS):=VE (mn M c) (mL M c r) a .normal s
abbrev kQ(n:Nat):aw:=.c (cat Try.f38 (pn n))
abbrev oi:b6:=[.b 0,kQ 15]
abbrev yj:b6:=kl (mn M c) (mL M c r) oi (cat Try.f38 (pn 116)) e::oi
def qc:AS:=⟨[(2,.ptr 2 0),(3,.ptr 3 0),(5,iI d)],[(2,ak a),(3,ak b)],[],[2,3]⟩
def vC:AS:=⟨[(2,.ptr 2 0),(3,.ptr 3 0),(96,.bool g)],[(2,ak a),(3,ak b)],[],[2,3]⟩
abbrev rU:Prop:=∀{d:Int},f d=some r→LP (mn M c) (mL M c r) oi (cat Try.f38 (pn 116)) e (qc a b d)
variable{M c r a b g d e f}{K:Kn}{n:Nat}
def zn(p:au K)(m:rU M c r a b e f)(h:lx K n a b f d=some r):qW M c r (kQ 116::yj M c r e) (qc a b d):=by
 unfold lx at h;refine cr 4 5 3 2 (am 3 (aM (bP ap a.Kids) (ac ?_)));obtain⟨g,h⟩|⟨g,h⟩:=aj h
 ·refine ah 101 g (d5 8 9 1 3 5 (ca [2,3,5] [2,3] [] ?_));obtain⟨j,h⟩:=bg h;obtain⟨k,h⟩:=bg h;obtain⟨o,l,h⟩:=aq h;refine cI 0 (nu 104 [.ptr 2 66,.sl (lm ap a.Kids),iI d,.cptr (ak (gD a.Kids d)),.agg (ak (gD a.Kids d)),.ptr 3 66,.sl (lm ap b.Kids),iI d,.cptr (ak (gD b.Kids d)),.agg (ak (gD b.Kids d)),.bool o,.bool (!o)]) [] [] [] (aN (vz 3) (di (bV ap ak j (dx) (bK)) (aN (vz 4) (di (bV ap ak k (dx) (bK)) (aN [.v 0 1] (av (bQ 0 1 114 (p.i7 l)) (aN [.v 0 1] cJ))))))) ?_;obtain⟨i,h⟩|⟨i,h⟩:=aj h
  ·refine ah 115 i (aL 9 ?_);cases h;exact aZ
  ·exact ah 115 i (ae 4 (bM (m h)))
 ·refine ah 101 g (aL 8 ?_);cases h;exact aZ
def vb(d:au K)(m:Nat):rU M c r a b m (il K n a b m):=by
 induction m with
 | zero=>exact fun h=>nomatch h
 | succ m e=>exact fun h=>bH (zn d e h)
def df(e:au K)(h:cK K n a b g=some r):qW M c r [kQ 13,kQ 7] (vC a b g):=by
 unfold cK at h;obtain⟨d,h⟩|⟨d,h⟩:=aj h
 ·refine ah 96 d (aL 5 ?_);cases h;exact aZ
 ·exact ah 96 d (ae 6 (dK (p:=pn 58) n (vb e n h)))
def jD(d:au K)(h:fw K n a b=some r):aF aT 38 [.agg (ak a),.agg (ak b)] (fun v _=>v=.bool r):=by
 refine bi (cat Try.f38 (pn 1)) Try.func38 Try.ntmps38 fun M c=>(bj ⟨[(0,.agg (ak a)),(1,.agg (ak b))],[],[],[]⟩ ?_);unfold fw at h;refine cr 12 13 7 4 (am 6 ?_);obtain⟨i,h⟩|⟨i,h⟩:=aj h
 ·exact ao 11 i (ac (ae 0 (df d h)))
 ·refine ao 11 i (aB 13 7 ?_);obtain⟨j,h⟩|⟨j,h⟩:=aj h
  ·exact ao 18 j (ac (ae 0 (df d h)))
  ·refine ao 18 j (aB 20 7 ?_);obtain⟨k,h⟩|⟨k,h⟩:=aj h
   ·exact ao 25 k (ac (ae 0 (df d h)))
   ·refine ao 25 k (aB 27 7 ?_);obtain⟨l,h⟩|⟨l,h⟩:=aj h
    ·exact ao 32 l (ac (ae 0 (df d h)))
    ·refine ao 32 l (aB 34 7 ?_);obtain⟨m,h⟩|⟨m,h⟩:=aj h
     ·exact ao 39 m (ac (ae 0 (df d h)))
     ·refine ao 39 m (aB 41 7 ?_);obtain⟨o,h⟩|⟨o,h⟩:=aj h
      ·exact ao 46 o (ac (ae 0 (df d h)))
      ·refine ao 46 o (aB 48 7 ?_);obtain⟨p,h⟩|⟨p,h⟩:=aj h
       ·exact ao 53 p (ac (ae 0 (df d h)))
       ·refine ao 53 p (aB 55 7 ?_);obtain⟨q,h⟩|⟨q,h⟩:=aj h
        ·exact ao 60 q (ac (ae 0 (df d h)))
        ·refine ao 60 q (aB 62 7 ?_);obtain⟨s,h⟩|⟨s,h⟩:=aj h
         ·exact ao 67 s (ac (ae 0 (df d h)))
         ·refine ao 67 s (aB 69 7 ?_);obtain⟨e,h⟩|⟨e,h⟩:=aj h
          ·exact ao 74 e (ac (ae 0 (df d h)))
          ·refine ao 74 e (aB 76 7 ?_);obtain⟨f,h⟩|⟨f,h⟩:=aj h
           ·exact ao 81 f (ac (ae 0 (df d h)))
           ·refine ao 81 f (aB 83 7 ?_);obtain⟨g,h⟩|⟨g,h⟩:=aj h
            ·exact ao 88 g (ac (ae 0 (df d h)))
            ·exact ao 88 g (aB 85 2 (aM (bP ap a.Kids) (aB 88 2 (aM (bP ap b.Kids) (ac (ae 0 (df d h)))))))
end
section
variable(M:Nat→Prop)(b:aC)(r:Bool)(a c:bY)(d:Nat)(e:Int)(f:Nat)(g:Int→Option Bool)
abbrev nk:Cx:=⟨aT,32,M,b⟩
abbrev l5:=bodyPost aT Try.f56 (bB M b (fun v _=>v=.bool r))
abbrev ve(a:b6)(s:AS):=VE (nk M b) (l5 M b r) a .normal s
abbrev pt(n:Nat):aw:=.c (cat Try.f56 (pn n))
abbrev mZ:b6:=[.b 0,pt 15]
abbrev yO:b6:=kl (nk M b) (l5 M b r) mZ (cat Try.f56 (pn 116)) f::mZ
def qB:AS:=⟨[(1,.sl (lm ap c)),(2,.fn d []),(15,.sl (lm ap a)),(16,iI (a.length:Int)),(17,iI e)],[],[],[]⟩
abbrev pQ:Prop:=∀{e:Int},g e=some r→LP (nk M b) (l5 M b r) mZ (cat Try.f56 (pn 116)) f (qB a c d e)
variable{M b r a c d e f g}{K:Kn}{n:Nat}
def tO(p:au K)(l:pQ M b r a c d f g)(h:lE K n a c d g e=some r):ve M b r (pt 116::yO M b r f) (qB a c d e):=by
 unfold lE at h;refine aA 6 7 3 ?_;obtain⟨k,h⟩|⟨k,h⟩:=aj h
 ·refine ah 18 k (d5 8 9 1 3 5 (am 1 ?_));obtain⟨m,h⟩:=bg h;refine aM (bV ap ak m (dx) (bK)) (ac (aA 2 3 1 (am 2 ?_)));obtain⟨o,h⟩:=bg h;refine aM (bV ap ak o (dx) (bK)) (ac (aA 2 3 1 (am 3 ?_)));obtain⟨q,j,h⟩:=aq h;refine yC (p.gS j) (ac ?_);obtain⟨i,h⟩|⟨i,h⟩:=aj h
  ·refine ah 30 i (aL 9 ?_);cases h;exact aZ
  ·exact ah 30 i (ae 4 (bM (l h)))
 ·refine ah 18 k (aL 8 ?_);cases h;exact aZ
def tm(e:au K)(m:Nat):pQ M b r a c d m (ix K n a c d m):=by
 induction m with
 | zero=>exact fun h=>nomatch h
 | succ m f=>exact fun h=>bH (tO e f h)
def yL(f:au K)(h:f9 K n a c d=some r):aF aT 56 [.sl (lm ap a),.sl (lm ap c),.fn d []] (fun v _=>v=.bool r):=by
 refine bi (cat Try.f56 (pn 1)) Try.func56 Try.ntmps56 fun M b=>(bj ⟨[(0,.sl (lm ap a)),(1,.sl (lm ap c)),(2,.fn d [])],[],[],[]⟩ ?_);unfold f9 at h;refine cr 12 13 7 4 (am 1 (aM (bP ap a) (aB 3 1 (aM (bP ap c) (ac ?_)))));obtain⟨e,h⟩|⟨e,h⟩:=aj h
 ·refine ah 14 e (aL 5 ?_);cases h;exact aZ
 ·exact ah 14 e (pN 4 5 3 4 (am 1 (aM (bP ap a) (ac (ae 1 (dK (p:=pn 58) n (tm f n h)))))))
end
section
variable(M:Nat→Prop)(a:aC)(r:Bool)(b c:aa)(d:Bool)  
abbrev tn(n:Nat):aw:=.c (cat Try.f40 (pn n))
abbrev vD:Cx:=⟨aT,94,M,a⟩
abbrev t8:=bodyPost aT Try.f40 (bB M a (fun v _=>v=.bool r))
abbrev wm(b:b6)(s:AS):=VE (vD M a) (t8 M a r) b .normal s
def yn:AS:=⟨[(4,.bool d)],[],[],[]⟩
variable{M a r b c d}{K:Kn}{n:Nat}
def dk(b:au K)(h:cD K n d=some r):wm M a r [tn 7] (yn d):=by
 unfold cD at h;refine aL 1 ?_;cases h;exact aZ
def eZ(d:au K)(h:cu K n b c=some r):aF aT 40 [.agg (ak b),.agg (ak c)] (fun v _=>v=.bool r):=by
 refine bi (cat Try.f40 (pn 1)) Try.func40 Try.ntmps40 fun M a=>(bj ⟨[(0,.agg (ak b)),(1,.agg (ak c))],[],[],[]⟩ ?_);unfold cu at h;refine aA 6 7 3 (am 6 ?_);obtain⟨i,h⟩|⟨i,h⟩:=aj h
 ·refine ao 10 i (aB 13 7 ?_);obtain⟨k,h⟩|⟨k,h⟩:=aj h
  ·refine ao 17 k (aB 20 7 ?_);obtain⟨l,h⟩|⟨l,h⟩:=aj h
   ·refine ao 24 l (aB 27 7 ?_);obtain⟨m,h⟩|⟨m,h⟩:=aj h
    ·refine ao 31 m (aB 34 7 ?_);obtain⟨o,h⟩|⟨o,h⟩:=aj h
     ·refine ao 38 o (aB 41 7 ?_);obtain⟨p,h⟩|⟨p,h⟩:=aj h
      ·refine ao 45 p (aB 48 7 ?_);obtain⟨q,h⟩|⟨q,h⟩:=aj h
       ·refine ao 52 q (aB 55 7 ?_);obtain⟨s,h⟩|⟨s,h⟩:=aj h
        ·refine ao 59 s (aB 62 7 ?_);obtain⟨t,h⟩|⟨t,h⟩:=aj h
         ·refine ao 66 t (aB 69 7 ?_);obtain⟨e,h⟩|⟨e,h⟩:=aj h
          ·refine ao 73 e (aB 76 7 ?_);obtain⟨f,h⟩|⟨f,h⟩:=aj h
           ·refine ao 80 f (aB 83 7 ?_);obtain⟨g,h⟩|⟨g,h⟩:=aj h
            ·refine ao 87 g (aB 87 4 ?_);obtain⟨u,j,h⟩:=aq h;exact ay (yL d j) (ac (ae 0 (dk d h)))
            ·exact ao 87 g (ac (ae 0 (dk d h)))
           ·exact ao 80 f (ac (ae 0 (dk d h)))
          ·exact ao 73 e (ac (ae 0 (dk d h)))
         ·exact ao 66 t (ac (ae 0 (dk d h)))
        ·exact ao 59 s (ac (ae 0 (dk d h)))
       ·exact ao 52 q (ac (ae 0 (dk d h)))
      ·exact ao 45 p (ac (ae 0 (dk d h)))
     ·exact ao 38 o (ac (ae 0 (dk d h)))
    ·exact ao 31 m (ac (ae 0 (dk d h)))
   ·exact ao 24 l (ac (ae 0 (dk d h)))
  ·exact ao 17 k (ac (ae 0 (dk d h)))
 ·exact ao 10 i (ac (ae 0 (dk d h)))
end
section
variable(M:Nat→Prop)(a:aC)(r:Bool)(b:ai)(c:Bool)  
abbrev xa(n:Nat):aw:=.c (cat Try.f41 (pn n))
abbrev zi:Cx:=⟨aT,12,M,a⟩
abbrev yE:=bodyPost aT Try.f41 (bB M a (fun v _=>v=.bool r))
abbrev tz(b:b6)(s:AS):=VE (zi M a) (yE M a r) b .normal s
def vH:AS:=⟨[(2,.bool c)],[],[],[]⟩
variable{M a r b c}{K:Kn}{n:Nat}
def sr(b:au K)(h:jw K n c=some r):tz M a r [xa 7] (vH c):=by
 unfold jw at h;refine aL 1 ?_;cases h;exact aZ
def xR(d:au K)(h:iT K n b=some r):aF aT 41 [.agg (aY b)] (fun v _=>v=.bool r):=by
 refine bi (cat Try.f41 (pn 1)) Try.func41 Try.ntmps41 fun M a=>(bj ⟨[(0,.agg (aY b))],[],[],[]⟩ ?_);unfold iT at h;refine aA 6 7 3 (am 4 ?_);obtain⟨c,h⟩|⟨c,h⟩:=aj h
 ·exact ao 6 c (ac (ae 0 (sr d h)))
 ·exact ao 6 c (ac (ae 0 (sr d h)))
end
section
variable(M:Nat→Prop)(l:aC)(r:Bool)(q:eq)(k d:Int)(t:Bool)(g:ai×Int)(f:aa)(m:Bool)(a:aa)(o c:bY)(p:Bool)  
abbrev fK(n:Nat):aw:=.c (cat Try.f8 (pn n))
abbrev ui:Cx:=⟨aT,150,M,l⟩
abbrev q8:=bodyPost aT Try.f8 (bB M l (fun v _=>v=.bool r))
abbrev jv(a:b6)(s:AS):=VE (ui M l) (q8 M l r) a .normal s
def uF:AS:=⟨[(6,.bool p)],[],[],[]⟩
def ya:AS:=⟨[(7,.ptr 7 0),(9,.ptr 9 0),(11,.ptr 11 0)],[(7,aY g.1),(9,ak f),(11,List.set (ak ({ a with Kids:=[] }:aa)) 66 (.ref 1066))],[(1066,(bf c))],[7,9,11,1066]⟩
def zr:AS:=⟨[(7,.ptr 7 0),(9,.ptr 9 0),(11,.ptr 11 0)],[(7,aY g.1),(9,ak f),(11,List.set (ak ({ a with Kids:=[] }:aa)) 66 (.ref 1066))],[(1066,(bf o))],[7,9,11,1066]⟩
def vJ:AS:=⟨[(1,iI k),(2,.int .u8 d),(7,.ptr 7 0),(9,.ptr 9 0),(63,.bool m)],[(7,aY g.1),(9,ak f)],[],[7,9]⟩
def xh:AS:=⟨[(0,.sl (lm aJ q)),(1,iI k),(2,.int .u8 d),(22,.bool t)],[],[],[]⟩
variable{M l r q k d t g f m a o c p}{K:Kn}{n:Nat}
def rf(a:au K)(h:jX K n p=some r):jv M l r [fK 2047] (uF p):=by
 unfold jX at h;refine aL 1 ?_;cases h;exact aZ
def pM(m:au K)(h:gZ K n g f a c=some r):jv M l r [fK 1023] (ya g f a c):=by
 unfold gZ at h;refine aA 2 3 1 (ca [7,9,11] [7,9,11] [1066] (zp 1066 ?_));obtain⟨d,k,h⟩:=aq h;obtain⟨i,h⟩|⟨i,h⟩:=aj h
 ·obtain⟨j,o,h⟩:=aq h;exact cI 1 (nu 133 [.agg (ak f),.agg (ak ({ a with Kids:=c }:aa)),.bool d,.ptr 11 66,.sl (lm ap c),iI (c.length:Int),.bool ((c.length:Int) == 0),.bool (d == ((c.length:Int) == 0)),.bool true,.agg (aY g.1),.bool j,.ptr 7 2,.ptr 7 3,iI g.1.Style.Position,.bool (g.1.Style.Position != 2),.bool (j == (g.1.Style.Position != 2)),.bool (j == (g.1.Style.Position != 2))]) [] [] [bv aT 150 Try.f8 (pn 2046) 17] (aN (vz 2) (av (bQ 0 1 135 (eZ m k)) (aN (vz 2) (di (bP ap c) (aN (vz 2) (av (dS 0 141 (e:=(d == ((c.length:Int) == 0))) (b:=true) i) (aN [.v 0 1] (av (bQ 0 1 143 (xR m o)) (aN (vz 6) (av (cH 0) cJ)))))))))) (ae 0 (rf m h))
 ·exact cI 1 (nu 133 [.agg (ak f),.agg (ak ({ a with Kids:=c }:aa)),.bool d,.ptr 11 66,.sl (lm ap c),iI (c.length:Int),.bool ((c.length:Int) == 0),.bool (d == ((c.length:Int) == 0)),.bool false,be,be,be,be,be,be,be,.bool false]) [] [] [bv aT 150 Try.f8 (pn 2046) 17] (aN (vz 2) (av (bQ 0 1 135 (eZ m k)) (aN (vz 2) (di (bP ap c) (aN (vz 2) (av (dS 0 141 (e:=(d == ((c.length:Int) == 0))) (b:=false) i) (av (aQ 0 1) (av (aQ 0 1) (av (aQ 0 1) (av (aQ 0 1) (av (aQ 0 1) (av (aQ 0 1) (av (aQ 0 1) (aN [.v 0 1] (av (cH 0) cJ))))))))))))))) (ae 0 (rf m h))
def jT(b:au K)(h:eB K n g f a o=some r):jv M l r [.b 0,fK 1023] (zr g f a o):=by
 unfold eB at h;exact ae 1 (pM b h)
def lV(s:au K)(h:eS K n k d g f m=some r):jv M l r [fK 509,fK 255] (vJ k d g f m):=by
 unfold eS at h;obtain⟨c,h⟩|⟨c,h⟩:=aj h
 ·refine ah 63 c (aL 5 ?_);cases h;exact aZ
 ·refine ah 63 c (fa 2 3 3 (am 2 ?_));obtain⟨a,t,h⟩:=aq h;refine fy 1066 (mF s t) (jH (i:=66) (by kernel_rfl)) (ac (cr 4 5 3 2 (am 2 (aM (bP ap a.Kids) (ac ?_)))));obtain⟨e,h⟩|⟨e,h⟩:=aj h
  ·refine ah 70 e (aA 4 5 2 (ca [2,7,9,11] [7,9,11] [1066] ?_));obtain⟨u,h⟩:=bg h;obtain⟨b,h⟩:=bg h;refine cI 1 (nu 71 [.ptr 11 66,.ref 1066,.int .u8 d,iI (ab d),.ptr 11 66,.ref 1066,iI (a.Kids.length:Int),iI (Int.tmod (ab d) (a.Kids.length:Int)),.eptr 1066 67 (((Int.tmod (ab d) (a.Kids.length:Int))).toNat) 0]) [] [] [bv aT 150 Try.f8 (pn 8180) 9] (aN (vz 6) (di (bP ap a.Kids) (di (y6 .i64 (ab d) u) (di (mC 1066 67 ap (L:=a.Kids) b) (av (cH 0) cJ))))) (sf 13 0 5 ?_);obtain⟨j,h⟩|⟨j,h⟩:=aj h
   ·exact ah 90 j (bt 2 1 (am 3 (aM (eF 3 5 ap ak (cw b).2 (bK)) (aB 7 3 (aM (ki 1066 60 67 5 ap ak ({ (gD a.Kids ((Int.tmod (ab d) (a.Kids.length:Int))))with H:=(ab (((gD a.Kids ((Int.tmod (ab d) (a.Kids.length:Int)))).H)+1)) }:aa) (cw b).2 (bK)) (ac (ae 0 (jT s h))))))))
   ·refine ah 90 j (bt 7 3 ?_);obtain⟨o,h⟩|⟨o,h⟩:=aj h
    ·refine ah 99 o (bt 2 1 (am 3 (aM (eF 9 7 ap ak (cw b).2 (bK)) ?_)));obtain⟨v,h⟩:=bg h;exact aM (pd v) (aB 7 2 (aM (ki 1066 60 67 7 ap ak ({ (gD a.Kids ((Int.tmod (ab d) (a.Kids.length:Int))))with Text:=(((gD a.Kids ((Int.tmod (ab d) (a.Kids.length:Int)))).Text)++(⟨#[120]⟩:ByteArray)) }:aa) (cw b).2 (bK)) (ac (ae 0 (jT s h)))))
    ·refine ah 99 o (bt 7 3 ?_);obtain⟨p,h⟩|⟨p,h⟩:=aj h
     ·refine ah 108 p (bt 2 1 (am 5 (aM (eF 9 43 ap ak (cw b).2 (bK)) ?_)));obtain⟨w,h⟩:=bg h;exact aM (pd w) (aB 10 3 (aM (ki 1066 60 67 43 ap ak ({ (gD a.Kids ((Int.tmod (ab d) (a.Kids.length:Int))))with Style:=({ ((gD a.Kids ((Int.tmod (ab d) (a.Kids.length:Int)))).Style)with Color:=((⟨#[35]⟩:ByteArray)++(((gD a.Kids ((Int.tmod (ab d) (a.Kids.length:Int)))).Style).Color)) }:aR) }:aa) (cw b).2 (bK)) (ac (ae 0 (jT s h)))))
     ·refine ah 108 p (bt 7 3 ?_);obtain⟨q,h⟩|⟨q,h⟩:=aj h
      ·refine ah 120 q (bt 2 1 (ca [7,9,11,12] [7,9,11] [1066] ?_));obtain⟨x,h⟩:=bg h;exact wx (kd:=.i64) ap (L:=((gD a.Kids ((Int.tmod (ab d) (a.Kids.length:Int)))).Kids)) aS [(122,.eptr 1066 67 (((Int.tmod (ab d) (a.Kids.length:Int))).toNat) 0),(123,.eptr 1066 67 (((Int.tmod (ab d) (a.Kids.length:Int))).toNat) 0),(124,.eptr 1066 67 (((Int.tmod (ab d) (a.Kids.length:Int))).toNat) 66),(125,.sl (lm ap ((gD a.Kids ((Int.tmod (ab d) (a.Kids.length:Int)))).Kids))),(126,.agg (List.set (ak aS) 66 (.nils))),(127,iI (((gD a.Kids ((Int.tmod (ab d) (a.Kids.length:Int)))).Kids).length:Int)),(128,.sl (lm ap [aS]))] 51 60 128 129 130 (.tmp 125) (.tmp 127) (.tmp 126) (qE 1066 ⟨60,67,lm ap (List.set a.Kids ((Int.tmod (ab d) (a.Kids.length:Int))).toNat ({ (gD a.Kids ((Int.tmod (ab d) (a.Kids.length:Int))))with Kids:=(((gD a.Kids ((Int.tmod (ab d) (a.Kids.length:Int)))).Kids)++[aS]) }:aa))⟩) x dx (aN (vz 3) (di (eF 51 66 ap ak (cw b).2 (bK)) (aN [.v 0 1] (di (bP ap ((gD a.Kids ((Int.tmod (ab d) (a.Kids.length:Int)))).Kids)) (di (dY ap ([aS]:bY) (new:=[ak aS]) (by simp only[u5,yk,bK])) (yP)))))) (ki 1066 60 67 66 ap ak ({ (gD a.Kids ((Int.tmod (ab d) (a.Kids.length:Int))))with Kids:=(((gD a.Kids ((Int.tmod (ab d) (a.Kids.length:Int)))).Kids)++[aS]) }:aa) (cw b).2 (bK)) (ae 0 (jT s h))
      ·exact ah 120 q (bt 3 1 (am 4 (aM (eF 4 65 ap ak (cw b).2 (bK)) (aB 8 3 (aM (ki 1066 60 67 65 ap ak ({ (gD a.Kids ((Int.tmod (ab d) (a.Kids.length:Int))))with Empty:=(!(gD a.Kids ((Int.tmod (ab d) (a.Kids.length:Int)))).Empty) }:aa) (cw b).2 (bK)) (ac (ae 0 (jT s h))))))))
  ·exact ah 70 e (ae 2 (pM s h))
def qL(m:au K)(h:jI K n q k d t=some r):jv M l r [fK 29,fK 15] (xh q k d t):=by
 unfold jI at h;obtain⟨B,h⟩|⟨B,h⟩:=aj h
 ·refine ah 22 B (aL 5 ?_);cases h;exact aZ
 ·refine ah 22 B (fa 2 3 3 (am 1 ?_));obtain⟨g,C,h⟩:=aq h;refine fy 1025 (qa m C) (xe (i:=0) (j:=58) rfl (by kernel_rfl)) (ac (aA 2 3 1 (am 2 (kt 1025 ?_))));obtain⟨f,D,h⟩:=aq h;refine fy 1030 (mF m D) (jH (i:=66) (by kernel_rfl)) (ac (aA 2 3 1 (am 2 (kt 1030 ?_))));obtain⟨o,E,h⟩:=aq h;refine ay (vg m E) (ac (cr 4 5 3 2 (ca [1,2,7,9,10] [7,9,10] [] ?_)));obtain⟨w,A,h⟩:=aq h;obtain⟨a,u,h⟩:=aq h;obtain⟨s,h⟩|⟨s,h⟩:=aj h
  ·exact cI 0 (nu 34 [.agg (ak o),.agg (ak f),iI k,.agg (ak w),.bool a,.bool (!a),.bool true,be,be,be,be,.bool true,.bool true,be,be,be,be,be,be,be,be,be,be,be,be,be,be,be,be,.bool true]) [] [] [] (aN (vz 3) (av (bQ 0 1 37 (j3 m A)) (av (bQ 0 1 38 (jD m u)) (aN [.v 0 1] (av (dS 0 40 (e:=(!a)) (b:=true) s) (av (aQ 0 1) (av (aQ 0 1) (av (aQ 0 1) (av (aQ 0 1) (aN (vz 2) (av (aQ 0 1) (av (aQ 0 1) (av (aQ 0 1) (av (aQ 0 1) (av (aQ 0 1) (av (aQ 0 1) (av (aQ 0 1) (av (aQ 0 1) (av (aQ 0 1) (av (aQ 0 1) (av (aQ 0 1) (av (aQ 0 1) (av (aQ 0 1) (av (aQ 0 1) (av (aQ 0 1) (av (aQ 0 1) (aN [.v 0 1] cJ))))))))))))))))))))))))))) (ae 0 (lV m h))
  ·obtain⟨c,x,h⟩:=aq h;obtain⟨v,h⟩|⟨v,h⟩:=aj h
   ·exact cI 0 (nu 34 [.agg (ak o),.agg (ak f),iI k,.agg (ak w),.bool a,.bool (!a),.bool false,.agg (ak f),.agg (ak f),.bool c,.bool (!c),.bool (!c),.bool true,be,be,be,be,be,be,be,be,be,be,be,be,be,be,be,be,.bool true]) [] [] [] (aN (vz 3) (av (bQ 0 1 37 (j3 m A)) (av (bQ 0 1 38 (jD m u)) (aN [.v 0 1] (av (dS 0 40 (e:=(!a)) (b:=false) s) (aN (vz 2) (av (bQ 0 1 43 (eZ m x)) (aN (vz 2) (av (dS 0 46 (e:=(!c)) (b:=true) v) (av (aQ 0 1) (av (aQ 0 1) (av (aQ 0 1) (av (aQ 0 1) (av (aQ 0 1) (av (aQ 0 1) (av (aQ 0 1) (av (aQ 0 1) (av (aQ 0 1) (av (aQ 0 1) (av (aQ 0 1) (av (aQ 0 1) (av (aQ 0 1) (av (aQ 0 1) (av (aQ 0 1) (av (aQ 0 1) (aN [.v 0 1] cJ)))))))))))))))))))))))))) (ae 0 (lV m h))
   ·obtain⟨p,z,h⟩:=aq h;obtain⟨y,h⟩|⟨y,h⟩:=aj h
    ·exact cI 0 (nu 34 [.agg (ak o),.agg (ak f),iI k,.agg (ak w),.bool a,.bool (!a),.bool false,.agg (ak f),.agg (ak f),.bool c,.bool (!c),.bool (!c),.bool false,.agg (ak f),.agg (ak o),.bool p,.ptr 9 2,iI f.X,.ptr 10 2,iI o.X,.bool (f.X == o.X),.bool true,.ptr 9 3,iI f.Y,.ptr 10 3,iI o.Y,.bool (f.Y == o.Y),.bool (f.Y == o.Y),.bool (!(p == (f.Y == o.Y))),.bool (!(p == (f.Y == o.Y)))]) [] [] [] (aN (vz 3) (av (bQ 0 1 37 (j3 m A)) (av (bQ 0 1 38 (jD m u)) (aN [.v 0 1] (av (dS 0 40 (e:=(!a)) (b:=false) s) (aN (vz 2) (av (bQ 0 1 43 (eZ m x)) (aN (vz 2) (av (dS 0 46 (e:=(!c)) (b:=false) v) (aN (vz 2) (av (bQ 0 1 49 (eZ m z)) (aN (vz 5) (av (dS 0 55 (e:=(f.X == o.X)) (b:=true) y) (aN (vz 8) cJ)))))))))))))) (ae 0 (lV m h))
    ·exact cI 0 (nu 34 [.agg (ak o),.agg (ak f),iI k,.agg (ak w),.bool a,.bool (!a),.bool false,.agg (ak f),.agg (ak f),.bool c,.bool (!c),.bool (!c),.bool false,.agg (ak f),.agg (ak o),.bool p,.ptr 9 2,iI f.X,.ptr 10 2,iI o.X,.bool (f.X == o.X),.bool false,be,be,be,be,be,.bool false,.bool (!(p == false)),.bool (!(p == false))]) [] [] [] (aN (vz 3) (av (bQ 0 1 37 (j3 m A)) (av (bQ 0 1 38 (jD m u)) (aN [.v 0 1] (av (dS 0 40 (e:=(!a)) (b:=false) s) (aN (vz 2) (av (bQ 0 1 43 (eZ m x)) (aN (vz 2) (av (dS 0 46 (e:=(!c)) (b:=false) v) (aN (vz 2) (av (bQ 0 1 49 (eZ m z)) (aN (vz 5) (av (dS 0 55 (e:=(f.X == o.X)) (b:=false) y) (av (aQ 0 1) (av (aQ 0 1) (av (aQ 0 1) (av (aQ 0 1) (av (aQ 0 1) (aN (vz 3) cJ))))))))))))))))))) (ae 0 (lV m h))
def wD(a:au K)(h:iP K n q k d=some r):aF aT 8 [.sl (lm aJ q),iI k,.int .u8 d] (fun v _=>v=.bool r):=by
 refine bi (cat Try.f8 (pn 1)) Try.func8 Try.ntmps8 fun M l=>(bj ⟨[(0,.sl (lm aJ q)),(1,iI k),(2,.int .u8 d)],[],[],[]⟩ ?_);unfold iP at h;refine cr 12 13 7 4 (am 0 ?_);obtain⟨g,e,h⟩:=aq h;refine ay (uV a e) (ac ?_);obtain⟨b,h⟩|⟨b,h⟩:=aj h
 ·refine ah 14 b (aL 5 ?_);cases h;exact aZ
 ·refine ah 14 b (pN 4 5 3 4 (am 1 ?_));obtain⟨i,f,h⟩:=aq h;refine ay (yc a f) (aB 4 2 ?_);obtain⟨c,h⟩|⟨c,h⟩:=aj h
  ·exact ao 18 c (ac (ae 0 (qL a h)))
  ·exact ao 18 c (aB 5 1 (aM (bP aJ q) (ac (ae 0 (qL a h)))))
end
end
end Go.Proofs.Ytkciiamllegclaa
