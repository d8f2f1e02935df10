/- The runs of the functions that RelayoutChanged reaches do what their plain forms say, part 1. Made by a program. -/
import Derived.Test.YtocgkfoifehcbaaGreatRcGk
import Derived.Test.YtocgkfoifehcbaaGreatRcP0
namespace Go.Proofs.YtocgkfoifehcbaaGreat
open Go.RowKit
set_option maxRecDepth 20000
set_option linter.all false
set_option linter.unusedVariables false
set_option linter.unusedSimpArgs false
noncomputable section
variable[GS](M:Nat→Prop)(w0:aB)(r:(List aj)×Int×Int×Int×(List aA))(v1:ah)(v2:Int)(v3:bH)(v4 v5:Int)(v6:List aA)(v8:List ah)(v37 v38:Int)(v39:List Int)(v40:List bZ)(v41 v42:(List Int))(v43:List aj)(v44 v45:Int)(v46:List aA)(v47:aj×Int×Int×(List aA))(v49 v52 v53 v55:Int)(v62:List Int)(v66 v67:Int)(v68:List aj)(m1 m2:Nat)(L1:Int→Int→(List Int)→(List bZ)→(List Int)→(List Int)→(List aj)→Int→Int→(List aA)→Option ((List aj)×Int×Int×Int×(List aA)))(L2:Int→Int→(List aj)→Option ((List aj)×Int×Int×Int×(List aA)))
abbrev qN:Cx:=⟨Tryz.prog,170,M,w0⟩
abbrev qU:=bodyPost Tryz.prog Tryz.f80 (bC M w0 (fun v s=>v=.tup [.ref 440010,iI r.2.1]∧bW s.o [(440001,List.set (bt (⟨[],r.2.2.1,r.2.2.2.1⟩:bq)) 0 (.ref 440009))]∧look 440009 s.r=some ⟨64,127,lm aY r.2.2.2.2⟩∧look 440010 s.r=some ⟨44,67,lm aL r.1⟩))
abbrev rO(ks:List ao)(s:AS):=VE (qN M w0) (qU M w0 r) ks .normal s
abbrev du(n:Nat):ao:=.c (cat Tryz.f80 (pn n))
abbrev Ba:List ao:=[.b 2,du 4095]
abbrev ER:List ao:=kl (qN M w0) (qU M w0 r) Ba (cat Tryz.f80 (pn 32756)) m2::Ba
abbrev C4:List ao:=[.b 0,du 511]
abbrev oq:List ao:=kl (qN M w0) (qU M w0 r) C4 (cat Tryz.f80 (pn 4084)) m1::C4
def TM:AS:=⟨[(1,iI v2),(3,.ptr 3 0),(5,.ptr 5 0),(8,.ref 116),(9,.ref 84),(10,.ref 99),(11,.ref 88),(12,iI v37),(13,.ref 28),(16,.ptr 16 0),(18,iI v49),(19,.ptr 19 0),(30,.ref 1030),(31,iI (v8.length:Int)),(32,iI v38)],[(3,ap v1),(5,bG v3),(16,aI v47.1),(19,bV (⟨v55,v52,v53,0,1048576⟩:bZ)),(440001,List.set (bt (⟨[],v47.2.1,v47.2.2.1⟩:bq)) 0 (.ref 440009))],[(28,⟨3,1,lm (af .i64) v39⟩),(84,⟨176,5,lm bV v40⟩),(88,⟨3,1,lm (af .i64) v41⟩),(99,⟨3,1,lm (af .i64) v42⟩),(116,⟨44,67,lm aL v43⟩),(1030,⟨48,59,lm aF v8⟩),(440009,⟨64,127,lm aY v47.2.2.2⟩)],[3,5,16,19,440001,28,84,88,99,116,1030,440009,1440001,440001]⟩
def Ls:AS:=⟨[(8,.ref 116),(10,.ref 99),(11,.ref 88),(13,.ref 1125),(20,iI v66),(127,iI (v43.length:Int)),(128,iI v67)],[(440001,List.set (bt (⟨[],v44,v45⟩:bq)) 0 (.ref 440009))],[(88,⟨3,1,lm (af .i64) v41⟩),(99,⟨3,1,lm (af .i64) v42⟩),(116,⟨44,67,lm aL v68⟩),(1125,⟨3,1,lm (af .i64) v62⟩),(440009,⟨64,127,lm aY v46⟩)],[440001,88,99,116,1125,440009,1440001,440001]⟩
def YG:AS:=⟨[(8,.ref 116),(10,.ref 99),(11,.ref 88),(13,.ref 1125)],[(440001,List.set (bt (⟨[],v44,v45⟩:bq)) 0 (.ref 440009))],[(88,⟨3,1,lm (af .i64) v41⟩),(99,⟨3,1,lm (af .i64) v42⟩),(116,⟨44,67,lm aL v43⟩),(1125,⟨3,1,lm (af .i64) v62⟩),(440009,⟨64,127,lm aY v46⟩)],[440001,88,99,116,1125,440009,1440001,440001]⟩
def JK:AS:=⟨[(1,iI v2),(3,.ptr 3 0),(5,.ptr 5 0),(8,.ref 116),(9,.ref 84),(10,.ref 99),(11,.ref 88),(12,iI v37),(13,.ref 28),(30,.ref 1030),(31,iI (v8.length:Int)),(32,iI v38)],[(3,ap v1),(5,bG v3),(440001,List.set (bt (⟨[],v44,v45⟩:bq)) 0 (.ref 440009))],[(28,⟨3,1,lm (af .i64) v39⟩),(84,⟨176,5,lm bV v40⟩),(88,⟨3,1,lm (af .i64) v41⟩),(99,⟨3,1,lm (af .i64) v42⟩),(116,⟨44,67,lm aL v43⟩),(1030,⟨48,59,lm aF v8⟩),(440009,⟨64,127,lm aY v46⟩)],[3,5,440001,28,84,88,99,116,1030,440009,1440001,440001]⟩
abbrev E8:Prop:=∀{v37:Int} {v38:Int} {v39:(List Int)} {v40:(List bZ)} {v41:(List Int)} {v42:(List Int)} {v43:(List aj)} {v44:Int} {v45:Int} {v46:(List aA)},L1 v37 v38 v39 v40 v41 v42 v43 v44 v45 v46=some r→LP (qN M w0) (qU M w0 r) C4 (cat Tryz.f80 (pn 4084)) m1 (JK v1 v2 v3 v8 v37 v38 v39 v40 v41 v42 v43 v44 v45 v46)
abbrev KB:Prop:=∀{v66:Int} {v67:Int} {v68:(List aj)},L2 v66 v67 v68=some r→LP (qN M w0) (qU M w0 r) Ba (cat Tryz.f80 (pn 32756)) m2 (Ls v41 v42 v43 v44 v45 v46 v62 v66 v67 v68)
variable{M w0 r v1 v2 v3 v4 v5 v6 v8 v37 v38 v39 v40 v41 v42 v43 v44 v45 v46 v47 v49 v52 v53 v55 v62 v66 v67 v68 m1 m2 L1 L2}{K:Kn}{n:Nat}[SG w0]
theorem Nn(hK:ak K)(hL1:E8 M w0 r v1 v2 v3 v8 m1 L1)(h:s4 K n v1 v2 v3 v8 v37 v38 v39 v40 v41 v42 v43 v47 v49 v52 v53 L1 v55=some r):rO M w0 r (du 4182847 :: .b 1::du 32679::oq M w0 r m1) (TM v1 v2 v3 v8 v37 v38 v39 v40 v41 v42 v43 v47 v49 v52 v53 v55):=by
 unfold s4 at h;refine av 2 3 1 (ai 3 ?_);obtain⟨h58,h⟩:=ax h;refine au (cc 84 84 176 5 bV (rfl) (DQ) h58) (ab ?_);obtain⟨v56,h59,h⟩:=bF h;refine bm (ks':=du 16731390::du 16731391 :: .b 1::du 32679::oq M w0 r m1) 1 ⟨[(1,iI v2),(3,.ptr 3 0),(5,.ptr 5 0),(8,.ref 116),(9,.ref 84),(10,.ref 99),(11,.ref 88),(12,iI v37),(13,.ref 28),(16,.ptr 16 0),(18,iI v49),(19,.ptr 19 0),(30,.ref 1030),(31,iI (v8.length:Int)),(32,iI v38)],[(3,ap v1),(5,bG v3),(16,aI v47.1),(19,bV (⟨v55,v52,v53,0,1048576⟩:bZ)),(440001,List.set (bt (⟨[],v47.2.1,v47.2.2.1⟩:bq)) 0 (.ref 440009))],[(28,⟨3,1,lm (af .i64) v39⟩),(84,⟨176,5,lm bV v56⟩),(88,⟨3,1,lm (af .i64) v41⟩),(99,⟨3,1,lm (af .i64) v42⟩),(116,⟨44,67,lm aL v43⟩),(1030,⟨48,59,lm aF v8⟩),(440009,⟨64,127,lm aY v47.2.2.2⟩)],[3,5,16,19,440001,28,84,88,99,116,1030,440009,1440001,440001]⟩ ?_ (by subst h59;kernel_rfl);refine ai 3 ?_;obtain⟨h60,h⟩:=ax h;refine au (cc 88 88 3 1 (af .i64) (rfl) ((fun _=>rfl)) h60) (ab (av 2 3 1 (bA [1,3,5,8,9,10,11,12,13,16,18,19,30,31,32] [3,5,16,19,440001] [28,84,88,99,116,1030,440009] ?_)))
 obtain⟨v57,h61,h⟩:=bind_some h;obtain⟨v58,h62,h⟩:=bind_some h;obtain⟨h63,h⟩:=ax h;refine bw 2 (nu 89 [.ref 99,.ptr 16 61,.agg (cC v47.1.Before),iI v57,.agg (aI v47.1),iI v58,iI (aa (v57+v58)),iI v49,iI (aa ((aa (v57+v58))+v49)),.sl (lm (af .i64) [(aa ((aa (v57+v58))+v49))])]) [] [] [eb 99 99 ⟨3,1,lm (af .i64) (v42++[(aa ((aa (v57+v58))+v49))])⟩,bS Tryz.prog 170 Tryz.f80 (pn 33462782) 11] (aq [.v 0 1,.v 0 2,.v 0 2] (ag (bL 0 2 92 (jl hK h61)) (aq [.v 0 2] (ag (bL 0 1 94 (M9 hK h62)) (aq [.v 0 2,.v 0 2,.v 0 2,.v 0 1] (ag (cy (m:=0) (cc 99 99 3 1 (af .i64) (rfl) ((fun _=>rfl)) h63)) (ag (bU 1) bz))))))) (av 2 3 1 (ai 3 (au (bj (af .i64) (v42++[(aa ((aa (v57+v58))+v49))])) (aO 5 1 ?_))));obtain⟨h64,h⟩:=ax h;refine au (ca 99 1 (af .i64) h64) (au (br 3 0 (af .i64) (af .i64) (bf h64).2 ((fun _=>rfl))) (ab ?_));obtain⟨v59,h65,h⟩:=bF h;refine bm (ks':=du 133851134::du 133851135 :: .b 1::du 32679::oq M w0 r m1) 1 ⟨[(1,iI v2),(3,.ptr 3 0),(5,.ptr 5 0),(8,.ref 116),(9,.ref 84),(10,.ref 99),(11,.ref 88),(12,iI v59),(13,.ref 28),(16,.ptr 16 0),(19,.ptr 19 0),(30,.ref 1030),(31,iI (v8.length:Int)),(32,iI v38)],[(3,ap v1),(5,bG v3),(16,aI v47.1),(19,bV (⟨v55,v52,v53,0,1048576⟩:bZ)),(440001,List.set (bt (⟨[],v47.2.1,v47.2.2.1⟩:bq)) 0 (.ref 440009))],[(28,⟨3,1,lm (af .i64) v39⟩),(84,⟨176,5,lm bV v56⟩),(88,⟨3,1,lm (af .i64) (v41++[v49])⟩),(99,⟨3,1,lm (af .i64) (v42++[(aa ((aa (v57+v58))+v49))])⟩),(116,⟨44,67,lm aL v43⟩),(1030,⟨48,59,lm aF v8⟩),(440009,⟨64,127,lm aY v47.2.2.2⟩)],[3,5,16,19,440001,28,84,88,99,116,1030,440009,1440001,440001]⟩ ?_ (by subst h65;kernel_rfl)
 refine ai 2 ?_;obtain⟨v60,h66,h⟩:=bind_some h;refine aP (EX hK h66) (aO 4 1 ?_);obtain⟨h67,h⟩:=ax h;refine au (cc 112 28 3 1 (af .i64) (rfl) ((fun _=>rfl)) h67) (ab (ai 2 (au (eJ aL ([v47.1]:List aj) (new:=[aI v47.1]) (by simp only[List.map_cons,List.map_nil,c9])) ?_)));obtain⟨h68,h⟩:=ax h;exact au (cc 116 116 44 67 aL (rfl) (hZ) h68) (ab (ac 2 (bc (hL1 h))))
theorem Xi(hK:ak K)(hL2:KB M w0 r v41 v42 v43 v44 v45 v46 v62 m2 L2)(h:uR K n v41 v42 v43 v44 v45 v46 v62 L2 v66 v67 v68=some r):rO M w0 r (du 32756::ER M w0 r m2) (Ls v41 v42 v43 v44 v45 v46 v62 v66 v67 v68):=by
 unfold uR at h;refine av 6 7 3 ?_;obtain⟨h82,h⟩|⟨h82,h⟩:=am h
 ·refine ae 129 h82 (cr 18 19 3 3 7 (bA [8,10,11,13,20,21,127,128] [440001] [88,99,116,1125,440009] ?_));obtain⟨h83,h⟩:=ax h;obtain⟨h84,h⟩:=ax h;obtain⟨h85,h⟩:=ax h;refine bw 1 (nu 131 [.ref 116,iI v67,.ref 1125,iI v67,.eptr 1125 1 (v67.toNat) 0,iI (gD v62 v67),.ref 88,iI v67,.eptr 88 1 (v67.toNat) 0,iI (gD v41 v67),iI (aa ((gD v62 v67)+(gD v41 v67))),.eptr 116 67 (v67.toNat) 0,.eptr 116 67 (v67.toNat) 5]) [] [] [cV 116 ⟨44,67,lm aL (List.set v68 v67.toNat ({ (gD v68 v67)with H:=(aa ((gD v62 v67)+(gD v41 v67))) }:aj))⟩] (aq (vz 4) (aR (bO 1125 1 (af .i64) (L:=v62) h83) (aR (br 3 0 (af .i64) (af .i64) (bf h83).2 ((fun _=>rfl))) (aq (vz 2) (aR (bO 88 1 (af .i64) (L:=v41) h84) (aR (br 3 0 (af .i64) (af .i64) (bf h84).2 ((fun _=>rfl))) (aq [.v 0 1] (ag (dm (lo:=0) (k:=2) (cu ⟨(by kernel_rfl),(cw (bO 116 67 aL (L:=v68) h85) (by kernel_rfl))⟩ (cu ⟨(by kernel_rfl),(cw (bO 116 67 aL (L:=(List.set v68 v67.toNat ({ (gD v68 v67)with H:=(aa ((gD v62 v67)+(gD v41 v67))) }:aj))) h85) (by kernel_rfl))⟩ dp))) (aq [.v 0 1] (ag (cy (m:=0) (cJ 116 44 67 5 aL aI ({ (gD v68 v67)with H:=(aa ((gD v62 v67)+(gD v41 v67))) }:aj) (bf h85).2 (c9))) bz)))))))))) ?_
  obtain⟨v69,h86,h⟩:=bF h;refine bm (ks':=du 4192870::du 4192871 :: .b 3::du 262055::ER M w0 r m2) 1 ⟨[(8,.ref 116),(10,.ref 99),(11,.ref 88),(13,.ref 1125),(20,iI v66),(21,iI v67),(127,iI (v43.length:Int)),(128,iI v67)],[(440001,List.set (bt (⟨[],v44,v45⟩:bq)) 0 (.ref 440009))],[(88,⟨3,1,lm (af .i64) v41⟩),(99,⟨3,1,lm (af .i64) v42⟩),(116,⟨44,67,lm aL v69⟩),(1125,⟨3,1,lm (af .i64) v62⟩),(440009,⟨64,127,lm aY v46⟩)],[440001,88,99,116,1125,440009,1440001,440001]⟩ ?_ (by subst h86;kernel_rfl);refine ai 5 ?_;obtain⟨h87,h⟩:=ax h;refine au (ca 116 67 aL h87) (aO 7 1 (au (br 41 61 aL aI (bf h87).2 (c9)) ?_));obtain⟨v70,h88,h⟩:=bind_some h;refine aP (jl hK h88) (aO 10 1 ?_);obtain⟨h89,h⟩:=ax h;refine au (ca 116 67 aL h89) (aO 12 1 (au (cJ 116 44 67 3 aL aI ({ (gD v69 v67)with Y:=(aa (v66+v70)) }:aj) (bf h89).2 (c9)) (ab ?_)));obtain⟨v71,h90,h⟩:=bF h;refine bm (ks':=du 4192871 :: .b 3::du 262055::ER M w0 r m2) 0 ⟨[(8,.ref 116),(10,.ref 99),(11,.ref 88),(13,.ref 1125),(20,iI v66),(21,iI v67),(127,iI (v43.length:Int)),(128,iI v67)],[(440001,List.set (bt (⟨[],v44,v45⟩:bq)) 0 (.ref 440009))],[(88,⟨3,1,lm (af .i64) v41⟩),(99,⟨3,1,lm (af .i64) v42⟩),(116,⟨44,67,lm aL v71⟩),(1125,⟨3,1,lm (af .i64) v62⟩),(440009,⟨64,127,lm aY v46⟩)],[440001,88,99,116,1125,440009,1440001,440001]⟩ ?_ (by subst h90;kernel_rfl)
  obtain⟨h91,h⟩:=ax h;obtain⟨h92,h⟩:=ax h;exact bw 1 (nu 156 [iI v66,.ref 1125,iI v67,.eptr 1125 1 (v67.toNat) 0,iI (gD v62 v67),.ref 99,iI v67,.eptr 99 1 (v67.toNat) 0,iI (gD v42 v67),iI (aa ((gD v62 v67)+(gD v42 v67))),iI (aa (v66+(aa ((gD v62 v67)+(gD v42 v67)))))]) [] [] [bS Tryz.prog 170 Tryz.f80 (pn 4192871) 11] (aq (vz 3) (aR (bO 1125 1 (af .i64) (L:=v62) h91) (aR (br 3 0 (af .i64) (af .i64) (bf h91).2 ((fun _=>rfl))) (aq (vz 2) (aR (bO 99 1 (af .i64) (L:=v42) h92) (aR (br 3 0 (af .i64) (af .i64) (bf h92).2 ((fun _=>rfl))) (aq (vz 2) (ag (bU 0) bz)))))))) (ac 2 (bc (hL2 h)))
 ·refine ae 129 h82 (aJ 8 (lx 116 440010 ?_));cases h;exact Gk
theorem Sm(hK:ak K)(m:Nat):KB M w0 r v41 v42 v43 v44 v45 v46 v62 m (wO K n v41 v42 v43 v44 v45 v46 v62 m):=by
 induction m with
 | zero=>intro v66 v67 v68 h;cases h
 | succ m ih=>intro v66 v67 v68 h;have h:uR K n v41 v42 v43 v44 v45 v46 v62 (wO K n v41 v42 v43 v44 v45 v46 v62 m) v66 v67 v68=some r:=h;exact aZ (Xi hK ih h)
theorem Me(hK:ak K)(h:y4 K n v41 v42 v43 v44 v45 v46 v62=some r):rO M w0 r [du 1023] (YG v41 v42 v43 v44 v45 v46 v62):=by
 unfold y4 at h;exact bN 12 13 7 4 (ai 1 (au (bj aL v43) (ab (ac 1 (bK (p:=pn 16378) n (Sm hK n h))))))
theorem QJ(hK:ak K)(hL1:E8 M w0 r v1 v2 v3 v8 m1 L1)(h:sN K n v1 v2 v3 v8 L1 v37 v38 v39 v40 v41 v42 v43 v44 v45 v46=some r):rO M w0 r (du 4084::oq M w0 r m1) (JK v1 v2 v3 v8 v37 v38 v39 v40 v41 v42 v43 v44 v45 v46):=by
 unfold sN at h;refine av 6 7 3 ?_;obtain⟨h47,h⟩|⟨h47,h⟩:=am h
 ·refine ae 33 h47 (cr 8 9 1 3 5 (ai 0 ?_));obtain⟨h48,h⟩:=ax h;refine au (ca 1030 59 aF h48) (au (br 48 0 aF ap (bf h48).2 (cX)) (ab (av 2 3 1 (ai 4 ?_))));obtain⟨v47,h49,h⟩:=bind_some h;refine kh (hK.gR h49).2 ?_ (hK.gR h49).1;refine ab (av 2 3 1 (ai 3 ?_));obtain⟨v48,h50,h⟩:=bind_some h;refine aP (iJ hK h50) (ab ?_);obtain⟨v49,h51,h⟩:=bF h;obtain⟨v50,h52,h⟩:=bF h;obtain⟨v51,h53,h⟩:=bF h;obtain⟨v52,h54,h⟩:=bF h;obtain⟨v53,h55,h⟩:=bF h;refine bm (ks':=du 8365693::du 4182847 :: .b 1::du 32679::oq M w0 r m1) 7 ⟨[(1,iI v2),(3,.ptr 3 0),(5,.ptr 5 0),(8,.ref 116),(9,.ref 84),(10,.ref 99),(11,.ref 88),(12,iI v37),(13,.ref 28),(15,.ptr 15 0),(16,.ptr 16 0),(18,iI v49),(19,.ptr 19 0),(30,.ref 1030),(31,iI (v8.length:Int)),(32,iI v38),(75,.bool v50)],[(3,ap v1),(5,bG v3),(15,ap (gD v8 v38)),(16,aI v47.1),(19,bV (⟨v51,v52,v53,0,1048576⟩:bZ)),(440001,List.set (bt (⟨[],v47.2.1,v47.2.2.1⟩:bq)) 0 (.ref 440009))],[(28,⟨3,1,lm (af .i64) v39⟩),(84,⟨176,5,lm bV v40⟩),(88,⟨3,1,lm (af .i64) v41⟩),(99,⟨3,1,lm (af .i64) v42⟩),(116,⟨44,67,lm aL v43⟩),(1030,⟨48,59,lm aF v8⟩),(440009,⟨64,127,lm aY v47.2.2.2⟩)],[3,5,15,16,19,440001,28,84,88,99,116,1030,440009,1440001,440001]⟩ ?_ (by subst h55;subst h54;subst h53;subst h52;subst h51;kernel_rfl)
  obtain⟨h56,h⟩|⟨h56,h⟩:=am h
  ·refine ae 75 h56 (bd 2 1 (ai 3 ?_));obtain⟨v54,h57,h⟩:=bind_some h;exact aP (o8 hK h57) (ab (ac 0 (Nn hK hL1 h)))
  ·exact ae 75 h56 (ac 2 (Nn hK hL1 h))
 ·refine ae 33 h47 (eI 5 3 8 ?_);obtain⟨h69,h⟩|⟨h69,h⟩:=am h
  ·refine ae 122 h69 (bd 2 1 (ai 2 (iV 84 ?_)));obtain⟨v61,h70,h⟩:=bind_some h;exact dI 1125 (Mb hK h70) (dt 143) (ab (ac 0 (Me hK h)))
  ·exact ae 122 h69 (bM (ks':=[du 1023]) 2 (bA [8,10,11,13] [440001] [28,88,99,116,440009] (lx 28 1125 (ac 0 (Me hK h)))))
theorem Wz(hK:ak K)(m:Nat):E8 M w0 r v1 v2 v3 v8 m (wY K n v1 v2 v3 v8 m):=by
 induction m with
 | zero=>intro v37 v38 v39 v40 v41 v42 v43 v44 v45 v46 h;cases h
 | succ m ih=>intro v37 v38 v39 v40 v41 v42 v43 v44 v45 v46 h;have h:sN K n v1 v2 v3 v8 (wY K n v1 v2 v3 v8 m) v37 v38 v39 v40 v41 v42 v43 v44 v45 v46=some r:=h;exact aZ (QJ hK ih h)
theorem RM(hK:ak K)(h:Eh K n v1 v2 v3 v4 v5 v6=some r):dA Tryz.prog 80 [.agg (ap v1),iI v2,.agg (bG v3)] [(440001,List.set (bt (⟨[],v4,v5⟩:bq)) 0 (.ref 440009))] ⟨64,127,lm aY v6⟩ (fun v s=>v=.tup [.ref 440010,iI r.2.1]∧bW s.o [(440001,List.set (bt (⟨[],r.2.2.1,r.2.2.2.1⟩:bq)) 0 (.ref 440009))]∧look 440009 s.r=some ⟨64,127,lm aY r.2.2.2.2⟩∧look 440010 s.r=some ⟨44,67,lm aL r.1⟩):=by
 refine fZ (c:=cat Tryz.f80 []) Tryz.func80 (by kernel_rfl) _ Tryz.ntmps80 (of_decide_eq_true (by kernel_rfl)) fun M w0=>(ba ⟨[(0,.agg (ap v1)),(1,iI v2),(2,.agg (bG v3))],[(440001,List.set (bt (⟨[],v4,v5⟩:bq)) 0 (.ref 440009))],[(440009,⟨64,127,lm aY v6⟩)],[440009,440001,1440001]⟩ ?_);unfold Eh at h;refine bM (ks':=[du 62,du 63]) 9 (ai 3 ?_);obtain⟨v7,h1,h⟩:=bind_some h;refine aP (o8 hK h1) (ab (av 6 7 3 (ai 0 (xO 72 28 (e:=3) (sz:=1) (ab (bN 4 5 3 2 (ai 1 ?_)))))));obtain⟨v8,h2,h⟩:=bind_some h;exact dI 1030 (FH hK h2) (dt 21) (au (bj aF v8) (ab (eW 2 0 1 (bA [1,3,5,8,9,10,11,12,13,30,31,32] [3,5,440001] [28,1030,440009] (dw 116 8 44 67 (dw 84 9 176 5 (dw 99 10 3 1 (dw 88 11 3 1 (ac 0 (bK (p:=pn 2042) n (Wz hK n h)))))))))))
end
noncomputable section
variable[GS](M:Nat→Prop)(w0:aB)(r v1:List Int)(v2 v3 v4:Int)(v5:List Int)(v6:Int)(v7:Bool)(v8:Int)(v9:List Int)(m1:Nat)(L1:Int→Int→(List Int)→Option (List Int))
abbrev CM:Cx:=⟨Tryz.prog,33,M,w0⟩
abbrev CS:=bodyPost Tryz.prog Tryz.f130 (bC M w0 (fun v s=>v=.ref 29∧look 29 s.r=some ⟨3,1,lm (af .i64) r⟩))
abbrev EF(ks:List ao)(s:AS):=VE (CM M w0) (CS M w0 r) ks .normal s
abbrev jA(n:Nat):ao:=.c (cat Tryz.f130 (pn n))
abbrev FA:List ao:=[.b 0,jA 31]
abbrev t6:List ao:=kl (CM M w0) (CS M w0 r) FA (cat Tryz.f130 (pn 244)) m1::FA
def Xm:AS:=⟨[(1,iI v2),(5,.ref 29),(6,iI v8),(9,.sl (lm (af .i64) v1)),(10,iI (v1.length:Int)),(11,iI v4)],[],[(29,⟨3,1,lm (af .i64) v9⟩)],[29]⟩
def VR:AS:=⟨[(1,iI v2),(5,.ref 29),(6,iI v6),(7,iI v4),(8,iI (gD v1 v4)),(9,.sl (lm (af .i64) v1)),(10,iI (v1.length:Int)),(11,iI v4),(25,.bool v7)],[],[(29,⟨3,1,lm (af .i64) v5⟩)],[29]⟩
def Gx:AS:=⟨[(1,iI v2),(5,.ref 29),(6,iI v3),(9,.sl (lm (af .i64) v1)),(10,iI (v1.length:Int)),(11,iI v4)],[],[(29,⟨3,1,lm (af .i64) v5⟩)],[29]⟩
abbrev xN:Prop:=∀{v3:Int} {v4:Int} {v5:(List Int)},L1 v3 v4 v5=some r→LP (CM M w0) (CS M w0 r) FA (cat Tryz.f130 (pn 244)) m1 (Gx v1 v2 v3 v4 v5)
variable{M w0 r v1 v2 v3 v4 v5 v6 v7 v8 v9 m1 L1}{K:Kn}{n:Nat}
theorem JH(hK:ak K)(hL1:xN M w0 r v1 v2 m1 L1)(h:xd K n v1 v2 v4 L1 v8 v9=some r):EF M w0 r (.b 1::jA 1959::t6 M w0 r m1) (Xm v1 v2 v4 v8 v9):=by
 unfold xd at h;exact ac 2 (bc (hL1 h))
theorem It(hK:ak K)(hL1:xN M w0 r v1 v2 m1 L1)(h:y1 K n v1 v2 v4 v5 v6 L1 v7=some r):EF M w0 r (jA 31335 :: .b 1::jA 1959::t6 M w0 r m1) (VR v1 v2 v4 v5 v6 v7):=by
 unfold y1 at h;obtain⟨h11,h⟩|⟨h11,h⟩:=am h
 ·refine ae 25 h11 (av 4 5 2 (ai 3 ?_));obtain⟨h12,h⟩:=ax h;exact au (cc 29 29 3 1 (af .i64) (rfl) ((fun _=>rfl)) h12) (ab (ac 1 (JH hK hL1 h)))
 ·exact ae 25 h11 (ac 2 (JH hK hL1 h))
theorem P4(hK:ak K)(hL1:xN M w0 r v1 v2 m1 L1)(h:yR K n v1 v2 L1 v3 v4 v5=some r):EF M w0 r (jA 244::t6 M w0 r m1) (Gx v1 v2 v3 v4 v5):=by
 unfold yR at h;refine av 6 7 3 ?_;obtain⟨h7,h⟩|⟨h7,h⟩:=am h
 ·refine ae 12 h7 (cr 8 9 1 3 5 (ai 1 ?_));obtain⟨h8,h⟩:=ax h;refine au (bu (af .i64) (af .i64) h8 ((fun _=>rfl)) ((fun _=>rfl))) (ab ?_);obtain⟨v6,h9,h⟩:=bF h;refine bm (ks':=jA 31334::jA 31335 :: .b 1::jA 1959::t6 M w0 r m1) 3 ⟨[(1,iI v2),(5,.ref 29),(6,iI v6),(7,iI v4),(8,iI (gD v1 v4)),(9,.sl (lm (af .i64) v1)),(10,iI (v1.length:Int)),(11,iI v4)],[],[(29,⟨3,1,lm (af .i64) v5⟩)],[29]⟩ ?_ (by subst h9;kernel_rfl);refine ai 3 ?_;obtain⟨h10,h⟩|⟨h10,h⟩:=am h
  ·exact aC 21 h10 (ab (ac 0 (It hK hL1 h)))
  ·exact aC 21 h10 (ab (ac 0 (It hK hL1 h)))
 ·refine ae 12 h7 (aJ 8 ?_);cases h;exact dk
theorem Pg(hK:ak K)(m:Nat):xN M w0 r v1 v2 m (yU K n v1 v2 m):=by
 induction m with
 | zero=>intro v3 v4 v5 h;cases h
 | succ m ih=>intro v3 v4 v5 h;have h:yR K n v1 v2 (yU K n v1 v2 m) v3 v4 v5=some r:=h;exact aZ (P4 hK ih h)
theorem ZL(hK:ak K)(h:Fy K n v1 v2=some r):aW Tryz.prog 130 [.sl (lm (af .i64) v1),iI v2] (fun v s=>v=.ref 29∧look 29 s.r=some ⟨3,1,lm (af .i64) r⟩):=by
 refine bB (cat Tryz.f130 (pn 1)) Tryz.func130 Tryz.ntmps130 fun M w0=>(ba ⟨[(0,.sl (lm (af .i64) v1)),(1,iI v2)],[],[],[]⟩ ?_);unfold Fy at h;exact bN 60 61 31 8 (ai 1 (au (bj (af .i64) v1) (ab (eW 2 0 1 (bA [1,5,6,9,10,11] [] [] (dw 29 5 3 1 (ac 0 (bK (p:=pn 122) n (Pg hK n h)))))))))
end
noncomputable section
variable[GS](M:Nat→Prop)(w0:aB)(r v1:ah)(v2:Int)(v4 v6 v8 v10:(V4 cE))  
abbrev gB(n:Nat):ao:=.c (cat Tryz.f131 (pn n))
abbrev LC:Cx:=⟨Tryz.prog,40,M,w0⟩
abbrev M0:=bodyPost Tryz.prog Tryz.f131 (bC M w0 (fun v _=>v=.agg (ap r)))
abbrev xk(ks:List ao)(s:AS):=VE (LC M w0) (M0 M w0 r) ks .normal s
def Sq:AS:=⟨[(2,.ptr 2 0),(4,.ptr 4 0),(21,.agg ((gU eh) v1.Style.Margin)),(22,iI 3)],[(2,ap ({ v1 with Style:=({ v1.Style with Width:=(⟨1,v2⟩:cE),MinWidth:=cz,MaxWidth:=cz,Margin:=v10 }:aX) }:ah)),(4,List.set (ap cA) 58 (.nils))],[],[2,4]⟩
def Vo:AS:=⟨[(2,.ptr 2 0),(4,.ptr 4 0),(21,.agg ((gU eh) v1.Style.Margin)),(22,iI 2)],[(2,ap ({ v1 with Style:=({ v1.Style with Width:=(⟨1,v2⟩:cE),MinWidth:=cz,MaxWidth:=cz,Margin:=v8 }:aX) }:ah)),(4,List.set (ap cA) 58 (.nils))],[],[2,4]⟩
def OO:AS:=⟨[(2,.ptr 2 0),(4,.ptr 4 0),(21,.agg ((gU eh) v1.Style.Margin)),(22,iI 1)],[(2,ap ({ v1 with Style:=({ v1.Style with Width:=(⟨1,v2⟩:cE),MinWidth:=cz,MaxWidth:=cz,Margin:=v6 }:aX) }:ah)),(4,List.set (ap cA) 58 (.nils))],[],[2,4]⟩
def P6:AS:=⟨[(2,.ptr 2 0),(4,.ptr 4 0),(21,.agg ((gU eh) v1.Style.Margin)),(22,iI 0)],[(2,ap ({ v1 with Style:=({ v1.Style with Width:=(⟨1,v2⟩:cE),MinWidth:=cz,MaxWidth:=cz,Margin:=v4 }:aX) }:ah)),(4,List.set (ap cA) 58 (.nils))],[],[2,4]⟩
abbrev jk(m:Nat):List ao:=kl (LC M w0) (M0 M w0 r) [.b 0,gB 31] (cat Tryz.f131 (pn 244)) m::[.b 0,gB 31]
variable{M w0 r v1 v2 v4 v6 v8 v10}{K:Kn}{n:Nat}
theorem Mq(hK:ak K)(h:rp K n v1 v2 v10=some r):xk M w0 r (.b 1::gB 1959::jk M w0 r 36) (Sq v1 v2 v10):=by
 unfold rp at h;refine bm (ks':=jk M w0 r 36) 2 ⟨[(2,.ptr 2 0),(4,.ptr 4 0),(21,.agg ((gU eh) v1.Style.Margin)),(22,iI 4)],[(2,ap ({ v1 with Style:=({ v1.Style with Width:=(⟨1,v2⟩:cE),MinWidth:=cz,MaxWidth:=cz,Margin:=v10 }:aX) }:ah)),(4,List.set (ap cA) 58 (.nils))],[],[2,4]⟩ (bc (aZ (aJ 11 ?_)));cases h;exact bp
theorem G2(hK:ak K)(h:sx K n v1 v2 v8=some r):xk M w0 r (.b 1::gB 1959::jk M w0 r 37) (Vo v1 v2 v8):=by
 unfold sx at h;refine bm (ks':=jk M w0 r 37) 2 ⟨[(2,.ptr 2 0),(4,.ptr 4 0),(21,.agg ((gU eh) v1.Style.Margin)),(22,iI 3)],[(2,ap ({ v1 with Style:=({ v1.Style with Width:=(⟨1,v2⟩:cE),MinWidth:=cz,MaxWidth:=cz,Margin:=v8 }:aX) }:ah)),(4,List.set (ap cA) 58 (.nils))],[],[2,4]⟩ (bc (aZ (cU 114 115 1 15 10 (ai 1 ?_))));obtain⟨v9,h7,h⟩:=bind_some h;refine aP (di hK h7) (ab (bd 3 2 ?_));obtain⟨h8,h⟩|⟨h8,h⟩:=am h
 ·exact ae 32 h8 (ac 2 (Mq hK h))
 ·exact ae 32 h8 (ac 2 (Mq hK h))
theorem Lb(hK:ak K)(h:yX K n v1 v2 v6=some r):xk M w0 r (.b 1::gB 1959::jk M w0 r 38) (OO v1 v2 v6):=by
 unfold yX at h;refine bm (ks':=jk M w0 r 38) 2 ⟨[(2,.ptr 2 0),(4,.ptr 4 0),(21,.agg ((gU eh) v1.Style.Margin)),(22,iI 2)],[(2,ap ({ v1 with Style:=({ v1.Style with Width:=(⟨1,v2⟩:cE),MinWidth:=cz,MaxWidth:=cz,Margin:=v6 }:aX) }:ah)),(4,List.set (ap cA) 58 (.nils))],[],[2,4]⟩ (bc (aZ (cU 114 115 1 15 10 (ai 1 ?_))));obtain⟨v7,h5,h⟩:=bind_some h;refine aP (di hK h5) (ab (bd 3 2 ?_));obtain⟨h6,h⟩|⟨h6,h⟩:=am h
 ·exact ae 32 h6 (ac 2 (G2 hK h))
 ·exact ae 32 h6 (ac 2 (G2 hK h))
theorem M3(hK:ak K)(h:yg K n v1 v2 v4=some r):xk M w0 r (.b 1::gB 1959::jk M w0 r 39) (P6 v1 v2 v4):=by
 unfold yg at h;refine bm (ks':=jk M w0 r 39) 2 ⟨[(2,.ptr 2 0),(4,.ptr 4 0),(21,.agg ((gU eh) v1.Style.Margin)),(22,iI 1)],[(2,ap ({ v1 with Style:=({ v1.Style with Width:=(⟨1,v2⟩:cE),MinWidth:=cz,MaxWidth:=cz,Margin:=v4 }:aX) }:ah)),(4,List.set (ap cA) 58 (.nils))],[],[2,4]⟩ (bc (aZ (cU 114 115 1 15 10 (ai 1 ?_))));obtain⟨v5,h3,h⟩:=bind_some h;refine aP (di hK h3) (ab (bd 3 2 ?_));obtain⟨h4,h⟩|⟨h4,h⟩:=am h
 ·exact ae 32 h4 (ac 2 (Lb hK h))
 ·exact ae 32 h4 (ac 2 (Lb hK h))
theorem Xu(hK:ak K)(h:Aq K n v1 v2=some r):aW Tryz.prog 131 [.agg (ap v1),iI v2] (fun v _=>v=.agg (ap r)):=by
 refine bB (cat Tryz.f131 (pn 1)) Tryz.func131 Tryz.ntmps131 fun M w0=>(ba ⟨[(0,.agg (ap v1)),(1,iI v2)],[],[],[]⟩ ?_);unfold Aq at h;refine bm (ks':=[gB 122,.b 0,gB 31]) 10 ⟨[(2,.ptr 2 0),(4,.ptr 4 0),(21,.agg ((gU eh) v1.Style.Margin)),(22,iI 0)],[(2,ap ({ v1 with Style:=({ v1.Style with Width:=(⟨1,v2⟩:cE),MinWidth:=cz,MaxWidth:=cz }:aX) }:ah)),(4,List.set (ap cA) 58 (.nils))],[],[2,4]⟩ (jw 40 (c:=cat Tryz.f131 [1,1,1,0,1,0,0]) (by kernel_rfl) (aZ (bM (ks':=gB 15666::gB 15667 :: .b 1::gB 1959::jk M w0 r 39) 10 (ai 1 ?_))));obtain⟨v3,h1,h⟩:=bind_some h;refine aP (di hK h1) (ab (bd 3 2 ?_));obtain⟨h2,h⟩|⟨h2,h⟩:=am h
 ·exact ae 32 h2 (ac 2 (M3 hK h))
 ·exact ae 32 h2 (ac 2 (M3 hK h))
end
noncomputable section
variable[GS](M:Nat→Prop)(w0:aB)(r:(List aj)×Int×Int×Int×(List aA))(v1:ah)(v2:Int)(v3:bH)(v4 v5:Int)(v6:List aA)(v7:List ah)(v27:Int)(v28:List bZ)(v29 v30:(List Int))(v32 v33 v34 v35 v36 v39:Int)(v40:Bool)(v44:Int)(v48:List Int)(v113 v114:Int)(v115:List aj)(v116 v117:Int)(v118:List aA)(v120 v124:Int)(v125:List Int)(v126 v127:Int)(v128:List Int)(v136 v137 v138:Int)(v139:List aj)(v140 v141:Int)(v142:List aA)(m1 m2 m3 m4:Nat)(L1:Int→(List bZ)→(List Int)→(List Int)→Option ((List aj)×Int×Int×Int×(List aA)))(L2:Int→Int→(List aj)→Int→Int→(List aA)→Option ((List aj)×Int×Int×Int×(List aA)))(L3:Int→(List Int)→Int→Int→Option ((List aj)×Int×Int×Int×(List aA)))(L4:Int→Int→Int→(List aj)→Int→Int→(List aA)→Option ((List aj)×Int×Int×Int×(List aA)))
abbrev i0:Cx:=⟨Tryz.prog,228,M,w0⟩
abbrev iR:=bodyPost Tryz.prog Tryz.f81 (bC M w0 (fun v s=>v=.tup [.ref 440010,iI r.2.1]∧bW s.o [(440001,List.set (bt (⟨[],r.2.2.1,r.2.2.2.1⟩:bq)) 0 (.ref 440009))]∧look 440009 s.r=some ⟨64,127,lm aY r.2.2.2.2⟩∧look 440010 s.r=some ⟨44,67,lm aL r.1⟩))
abbrev jZ(ks:List ao)(s:AS):=VE (i0 M w0) (iR M w0 r) ks .normal s
abbrev cM(n:Nat):ao:=.c (cat Tryz.f81 (pn n))
abbrev CC:List ao:=[.b 2,cM 4095]
abbrev oL:List ao:=kl (i0 M w0) (iR M w0 r) CC (cat Tryz.f81 (pn 32756)) m2::CC
abbrev EY:List ao:=[.b 0,cM 127]
abbrev qA:List ao:=kl (i0 M w0) (iR M w0 r) EY (cat Tryz.f81 (pn 1012)) m1::EY
abbrev Fc:List ao:=.b 6::cM 67085951 :: .b 3::cM 262055::oL M w0 r m2
abbrev zY:List ao:=kl (i0 M w0) (iR M w0 r) (Fc M w0 r m2) (cat Tryz.f81 (pn 536687604)) m4::(Fc M w0 r m2)
abbrev Au:List ao:=.b 4::cM 16771487 :: .b 3::cM 262055::oL M w0 r m2
abbrev SJ:List ao:=kl (i0 M w0) (iR M w0 r) (Au M w0 r m2) (cat Tryz.f81 (pn 134171892)) m3::(Au M w0 r m2)
def Y4:AS:=⟨[(1,iI v2),(3,.ptr 3 0),(5,.ptr 5 0),(8,.ref 1035),(9,.ref 38),(10,.ref 41),(11,.ref 44),(12,iI v27),(15,.ptr 15 0),(16,iI v44),(45,.ref 1035),(46,iI (v7.length:Int)),(47,iI v27)],[(3,ap v1),(5,bG v3),(15,bV (⟨0,v35,v36,v33,v34⟩:bZ)),(440001,List.set (bt (⟨[],v4,v5⟩:bq)) 0 (.ref 440009))],[(38,⟨176,5,lm bV v28⟩),(41,⟨3,1,lm (af .i64) (List.set v29 v27.toNat v32)⟩),(44,⟨3,1,lm (af .i64) v30⟩),(1035,⟨48,59,lm aF v7⟩),(440009,⟨64,127,lm aY v6⟩)],[3,5,15,440001,38,41,44,1035,440009,1440001,440001]⟩
def Zt:AS:=⟨[(1,iI v2),(3,.ptr 3 0),(5,.ptr 5 0),(8,.ref 1035),(9,.ref 38),(10,.ref 41),(11,.ref 44),(12,iI v27),(13,.ptr 13 0),(14,.ptr 14 0),(15,.ptr 15 0),(16,iI v39),(17,.bool v40),(45,.ref 1035),(46,iI (v7.length:Int)),(47,iI v27)],[(3,ap v1),(5,bG v3),(13,ap (gD v7 v27)),(14,aE ((gD v7 v27).Style)),(15,bV (⟨0,v35,v36,v33,v34⟩:bZ)),(440001,List.set (bt (⟨[],v4,v5⟩:bq)) 0 (.ref 440009))],[(38,⟨176,5,lm bV v28⟩),(41,⟨3,1,lm (af .i64) (List.set v29 v27.toNat v32)⟩),(44,⟨3,1,lm (af .i64) v30⟩),(1035,⟨48,59,lm aF v7⟩),(440009,⟨64,127,lm aY v6⟩)],[3,5,13,14,15,440001,38,41,44,1035,440009,1440001,440001]⟩
def FW:AS:=⟨[(1,iI v2),(5,.ptr 5 0),(8,.ref 1035),(9,.sl (lm bV v28)),(10,.sl (lm (af .i64) v29)),(20,.sl (lm (af .i64) v48)),(21,.ref 220),(22,iI v113),(24,iI (gD v48 v114)),(29,iI v136),(30,iI v137),(128,.sl (lm (af .i64) v48)),(129,iI (v48.length:Int)),(130,iI v114),(166,.ref 1166),(167,iI (v128.length:Int)),(168,iI v138)],[(5,bG v3),(440001,List.set (bt (⟨[],v140,v141⟩:bq)) 0 (.ref 440009))],[(220,⟨44,67,lm aL v139⟩),(1035,⟨48,59,lm aF v7⟩),(1166,⟨3,1,lm (af .i64) v128⟩),(440009,⟨64,127,lm aY v142⟩)],[5,440001,220,1035,1166,440009,1440001,440001]⟩
def LU:AS:=⟨[(1,iI v2),(5,.ptr 5 0),(8,.ref 1035),(9,.sl (lm bV v28)),(10,.sl (lm (af .i64) v29)),(20,.sl (lm (af .i64) v48)),(21,.ref 220),(22,iI v113),(24,iI (gD v48 v114)),(25,iI v120),(26,iI v124),(128,.sl (lm (af .i64) v48)),(129,iI (v48.length:Int)),(130,iI v114),(151,.sl (lm (af .i64) v125)),(152,iI v126),(153,iI v127)],[(5,bG v3),(440001,List.set (bt (⟨[],v116,v117⟩:bq)) 0 (.ref 440009))],[(220,⟨44,67,lm aL v115⟩),(1035,⟨48,59,lm aF v7⟩),(440009,⟨64,127,lm aY v118⟩)],[5,440001,220,1035,440009,1440001,440001]⟩
def Tu:AS:=⟨[(1,iI v2),(5,.ptr 5 0),(8,.ref 1035),(9,.sl (lm bV v28)),(10,.sl (lm (af .i64) v29)),(20,.sl (lm (af .i64) v48)),(21,.ref 220),(22,iI v113),(24,iI (gD v48 v114)),(25,iI v120),(128,.sl (lm (af .i64) v48)),(129,iI (v48.length:Int)),(130,iI v114)],[(5,bG v3),(440001,List.set (bt (⟨[],v116,v117⟩:bq)) 0 (.ref 440009))],[(220,⟨44,67,lm aL v115⟩),(1035,⟨48,59,lm aF v7⟩),(440009,⟨64,127,lm aY v118⟩)],[5,440001,220,1035,440009,1440001,440001]⟩
def Nb:AS:=⟨[(1,iI v2),(5,.ptr 5 0),(8,.ref 1035),(9,.sl (lm bV v28)),(10,.sl (lm (af .i64) v29)),(20,.sl (lm (af .i64) v48)),(21,.ref 220),(22,iI v113),(128,.sl (lm (af .i64) v48)),(129,iI (v48.length:Int)),(130,iI v114)],[(5,bG v3),(440001,List.set (bt (⟨[],v116,v117⟩:bq)) 0 (.ref 440009))],[(220,⟨44,67,lm aL v115⟩),(1035,⟨48,59,lm aF v7⟩),(440009,⟨64,127,lm aY v118⟩)],[5,440001,220,1035,440009,1440001,440001]⟩
def XV:AS:=⟨[(1,iI v2),(5,.ptr 5 0),(8,.ref 1035),(9,.ref 38),(10,.ref 41),(20,.sl (lm (af .i64) v48))],[(5,bG v3),(440001,List.set (bt (⟨[],v4,v5⟩:bq)) 0 (.ref 440009))],[(38,⟨176,5,lm bV v28⟩),(41,⟨3,1,lm (af .i64) v29⟩),(1035,⟨48,59,lm aF v7⟩),(440009,⟨64,127,lm aY v6⟩)],[5,440001,38,41,1035,440009,1440001,440001]⟩
def JG:AS:=⟨[(1,iI v2),(3,.ptr 3 0),(5,.ptr 5 0),(8,.ref 1035),(9,.ref 38),(10,.ref 41),(11,.ref 44),(45,.ref 1035),(46,iI (v7.length:Int)),(47,iI v27)],[(3,ap v1),(5,bG v3),(440001,List.set (bt (⟨[],v4,v5⟩:bq)) 0 (.ref 440009))],[(38,⟨176,5,lm bV v28⟩),(41,⟨3,1,lm (af .i64) v29⟩),(44,⟨3,1,lm (af .i64) v30⟩),(1035,⟨48,59,lm aF v7⟩),(440009,⟨64,127,lm aY v6⟩)],[3,5,440001,38,41,44,1035,440009,1440001,440001]⟩
abbrev yw:Prop:=∀{v27:Int} {v28:(List bZ)} {v29:(List Int)} {v30:(List Int)},L1 v27 v28 v29 v30=some r→LP (i0 M w0) (iR M w0 r) EY (cat Tryz.f81 (pn 1012)) m1 (JG v1 v2 v3 v4 v5 v6 v7 v27 v28 v29 v30)
abbrev lq:Prop:=∀{v113:Int} {v114:Int} {v115:(List aj)} {v116:Int} {v117:Int} {v118:(List aA)},L2 v113 v114 v115 v116 v117 v118=some r→LP (i0 M w0) (iR M w0 r) CC (cat Tryz.f81 (pn 32756)) m2 (Nb v2 v3 v7 v28 v29 v48 v113 v114 v115 v116 v117 v118)
abbrev Hv:Prop:=∀{v124:Int} {v125:(List Int)} {v126:Int} {v127:Int},L3 v124 v125 v126 v127=some r→LP (i0 M w0) (iR M w0 r) (Au M w0 r m2) (cat Tryz.f81 (pn 134171892)) m3 (LU v2 v3 v7 v28 v29 v48 v113 v114 v115 v116 v117 v118 v120 v124 v125 v126 v127)
abbrev Hr:Prop:=∀{v136:Int} {v137:Int} {v138:Int} {v139:(List aj)} {v140:Int} {v141:Int} {v142:(List aA)},L4 v136 v137 v138 v139 v140 v141 v142=some r→LP (i0 M w0) (iR M w0 r) (Fc M w0 r m2) (cat Tryz.f81 (pn 536687604)) m4 (FW v2 v3 v7 v28 v29 v48 v113 v114 v128 v136 v137 v138 v139 v140 v141 v142)
variable{M w0 r v1 v2 v3 v4 v5 v6 v7 v27 v28 v29 v30 v32 v33 v34 v35 v36 v39 v40 v44 v48 v113 v114 v115 v116 v117 v118 v120 v124 v125 v126 v127 v128 v136 v137 v138 v139 v140 v141 v142 m1 m2 m3 m4 L1 L2 L3 L4}{K:Kn}{n:Nat}[SG w0]
theorem Kh(hK:ak K)(hL1:yw M w0 r v1 v2 v3 v4 v5 v6 v7 m1 L1)(h:tO K n v1 v2 v3 v4 v5 v6 v7 v27 v28 v29 v30 v32 v33 v34 v35 v36 L1 v44=some r):jZ M w0 r (cM 2074239 :: .b 1::cM 8103::qA M w0 r m1) (Y4 v1 v2 v3 v4 v5 v6 v7 v27 v28 v29 v30 v32 v33 v34 v35 v36 v44):=by
 unfold tO at h;refine av 6 7 3 (ai 3 ?_);obtain⟨h45,h⟩:=ax h;refine au (ca 38 5 bV h45) (au (cJ 38 176 5 0 bV bV (⟨v44,v35,v36,v33,v34⟩:bZ) (bf h45).2 ((fun _=>rfl))) (ab ?_));obtain⟨v45,h46,h⟩:=bF h;refine bm (ks':=cM 8296959 :: .b 1::cM 8103::qA M w0 r m1) 0 ⟨[(1,iI v2),(3,.ptr 3 0),(5,.ptr 5 0),(8,.ref 1035),(9,.ref 38),(10,.ref 41),(11,.ref 44),(12,iI v27),(15,.ptr 15 0),(45,.ref 1035),(46,iI (v7.length:Int)),(47,iI v27)],[(3,ap v1),(5,bG v3),(15,bV (⟨v44,v35,v36,v33,v34⟩:bZ)),(440001,List.set (bt (⟨[],v4,v5⟩:bq)) 0 (.ref 440009))],[(38,⟨176,5,lm bV v45⟩),(41,⟨3,1,lm (af .i64) (List.set v29 v27.toNat v32)⟩),(44,⟨3,1,lm (af .i64) v30⟩),(1035,⟨48,59,lm aF v7⟩),(440009,⟨64,127,lm aY v6⟩)],[3,5,15,440001,38,41,44,1035,440009,1440001,440001]⟩ ?_ (by subst h46;kernel_rfl);obtain⟨v46,h47,h⟩:=bind_some h;obtain⟨h48,h⟩:=ax h;obtain⟨h49,h⟩:=ax h;exact bw 1 (nu 110 [.ref 44,iI v27,.agg (bV (⟨v44,v35,v36,v33,v34⟩:bZ)),iI v46,.ref 41,iI v27,.eptr 41 1 (v27.toNat) 0,iI (gD (List.set v29 v27.toNat v32) v27),iI (aa (v46+(gD (List.set v29 v27.toNat v32) v27))),.eptr 44 1 (v27.toNat) 0]) [] [] [cV 44 ⟨3,1,lm (af .i64) (List.set v30 v27.toNat (aa (v46+(gD (List.set v29 v27.toNat v32) v27))))⟩] (aq (vz 3) (ag (bL 0 1 113 (EX hK h47)) (aq (vz 2) (aR (bO 41 1 (af .i64) (L:=(List.set v29 v27.toNat v32)) h48) (aR (br 3 0 (af .i64) (af .i64) (bf h48).2 ((fun _=>rfl))) (aq [.v 0 1] (aR (bO 44 1 (af .i64) (L:=v30) h49) (ag (cy (m:=0) (cJ 44 3 1 0 (af .i64) (af .i64) (aa (v46+(gD (List.set v29 v27.toNat v32) v27))) (bf h49).2 ((fun _=>rfl)))) bz)))))))) (ac 2 (bc (hL1 h)))
theorem Hg(hK:ak K)(hL1:yw M w0 r v1 v2 v3 v4 v5 v6 v7 m1 L1)(h:s8 K n v1 v2 v3 v4 v5 v6 v7 v27 v28 v29 v30 v32 v33 v34 v35 v36 L1 v39 v40=some r):jZ M w0 r (cM 1037119 :: .b 1::cM 8103::qA M w0 r m1) (Zt v1 v2 v3 v4 v5 v6 v7 v27 v28 v29 v30 v32 v33 v34 v35 v36 v39 v40):=by
 unfold s8 at h;refine av 5 3 3 ?_;obtain⟨h41,h⟩|⟨h41,h⟩:=am h
 ·refine ae 91 h41 (av 4 5 2 (ai 3 ?_));obtain⟨v41,h42,h⟩:=bind_some h;refine hF (hK.ii h42) (ab (ai 2 ?_));obtain⟨v42,h43,h⟩:=bind_some h;refine aP (iJ hK h43) ?_;obtain⟨v43,h44,h⟩:=bind_some h;exact aP (jN hK h44) (ab (ac 0 (Kh hK hL1 h)))
 ·exact ae 91 h41 (ac 2 (Kh hK hL1 h))
theorem XB(hK:ak K)(hL2:lq M w0 r v2 v3 v7 v28 v29 v48 m2 L2)(hL4:Hr M w0 r v2 v3 v7 v28 v29 v48 v113 v114 v128 m2 m4 L4)(h:uP K n v2 v3 v7 v28 v29 v48 v113 v114 v128 L2 L4 v136 v137 v138 v139 v140 v141 v142=some r):jZ M w0 r (cM 536687604::zY M w0 r m2 m4) (FW v2 v3 v7 v28 v29 v48 v113 v114 v128 v136 v137 v138 v139 v140 v141 v142):=by
 unfold uP at h;refine av 6 7 3 ?_;obtain⟨h164,h⟩|⟨h164,h⟩:=am h
 ·refine ae 169 h164 (cr 8 9 7 3 5 (ai 1 ?_));obtain⟨h165,h⟩:=ax h;refine au (ca 1166 1 (af .i64) h165) (au (br 3 0 (af .i64) (af .i64) (bf h165).2 ((fun _=>rfl))) (ab (av 2 3 1 (bA [1,5,8,9,10,20,21,22,24,29,30,31,32,128,129,130,166,167,168,169] [5,440001] [220,1035,1166,440009] (Ao 169 ?_)))));obtain⟨h166,h⟩:=ax h;obtain⟨v143,h167,h⟩:=bind_some h;obtain⟨v144,h168,h⟩:=bind_some h;refine bw 2 (nu 173 [.ptr 5 0,.fn v3.Layout.id v3.Layout.aK,.ref 1035,iI (gD v48 v114),iI v138,iI (aa ((gD v48 v114)+v138)),.eptr 1035 59 (((aa ((gD v48 v114)+v138))).toNat) 0,.agg (ap (gD v7 ((aa ((gD v48 v114)+v138))))),iI (gD v128 v138),.agg (ap v143),iI v2]++nu 33 [.ptr 33 0]) [(33,List.set (aI bQ) 66 (.nils))] [] [iK (some 184) ⟨64,127,lm aY v144.2.2.2⟩ [(440001,List.set (bt (⟨[],v144.2.1,v144.2.2.1⟩:bq)) 0 (.ref 440009))] (.agg (aI v144.1)),bS Tryz.prog 228 Tryz.f81 (pn 34348006706) 13] (aq [.v 0 2,.v 0 1,.v 0 2,.v 0 2,.v 0 2,.v 0 2] (ag (dm (lo:=0) (k:=2) (cu ⟨(by kernel_rfl),(cw (bO 1035 59 aF (L:=v7) h166) (by kernel_rfl))⟩ (cu ⟨(by kernel_rfl),(cw (bO 1035 59 aF (L:=v7) h166) (by kernel_rfl))⟩ dp))) (ag (dm (lo:=0) (k:=2) (cu ⟨(by kernel_rfl),(cw (br 48 0 aF ap (bf h166).2 (cX)) (by kernel_rfl))⟩ (cu ⟨(by kernel_rfl),(cw (br 48 0 aF ap (bf h166).2 (cX)) (by kernel_rfl))⟩ dp))) (aq [.v 0 2] (ag (bL 0 1 182 (Xu hK h167)) (aq [.v 0 1] (ag (Ce 0 169 (hK.gR h168).2 (hK.gR h168).1) (ag (i7 0 2 44 33 (List.set (aI bQ) 66 (.nils))) (ag (bU 1) bz))))))))) (av 2 3 1 (bA [1,5,8,9,10,20,21,22,24,29,30,31,32,33,128,129,130,166,167,168] [5,33,440001] [220,1035,1166,440009] ?_))
  obtain⟨v145,h169,h⟩:=bind_some h;obtain⟨v146,h170,h⟩:=bind_some h;refine bw 1 (nu 185 [iI v137,.ptr 33 61,.agg (cC v144.1.Before),iI v145,.ptr 33 5,iI v144.1.H,iI (aa (v145+v144.1.H)),.agg (aI v144.1),iI v146,iI (aa ((aa (v145+v144.1.H))+v146)),iI (max v137 (aa ((aa (v145+v144.1.H))+v146)))]) [] [] [bS Tryz.prog 228 Tryz.f81 (pn 68696013414) 11] (aq (vz 3) (ag (bL 0 1 188 (jl hK h169)) (aq (vz 4) (ag (bL 0 1 193 (M9 hK h170)) (aq (vz 2) (ag (bU 0) bz)))))) ?_;obtain⟨v147,h171,h⟩:=bF h;refine bm (ks':=cM 274784053662::cM 274784053663 :: .b 7::cM 4293500839::zY M w0 r m2 m4) 3 ⟨[(1,iI v2),(5,.ptr 5 0),(8,.ref 1035),(9,.sl (lm bV v28)),(10,.sl (lm (af .i64) v29)),(20,.sl (lm (af .i64) v48)),(21,.ref 220),(22,iI v113),(24,iI (gD v48 v114)),(29,iI v136),(30,iI v147),(31,iI v138),(32,iI (gD v128 v138)),(33,.ptr 33 0),(128,.sl (lm (af .i64) v48)),(129,iI (v48.length:Int)),(130,iI v114),(166,.ref 1166),(167,iI (v128.length:Int)),(168,iI v138)],[(5,bG v3),(33,aI ({ v144.1 with X:=(aa (v144.1.X+v136)) }:aj)),(440001,List.set (bt (⟨[],v144.2.1,v144.2.2.1⟩:bq)) 0 (.ref 440009))],[(220,⟨44,67,lm aL v139⟩),(1035,⟨48,59,lm aF v7⟩),(1166,⟨3,1,lm (af .i64) v128⟩),(440009,⟨64,127,lm aY v144.2.2.2⟩)],[5,33,440001,220,1035,1166,440009,1440001,440001]⟩ ?_ (by subst h171;kernel_rfl)
  refine ai 3 ?_;obtain⟨v148,h172,h⟩:=bind_some h;refine aP (jl hK h172) (ab (av 2 3 1 (ai 6 ?_)));obtain⟨h173,h⟩:=ax h;refine au (bu (af .i64) (af .i64) h173 ((fun _=>rfl)) ((fun _=>rfl))) (ab ?_);obtain⟨v149,h174,h⟩:=bF h;refine bm (ks':=cM 549568107327 :: .b 7::cM 4293500839::zY M w0 r m2 m4) 0 ⟨[(1,iI v2),(5,.ptr 5 0),(8,.ref 1035),(9,.sl (lm bV v28)),(10,.sl (lm (af .i64) v29)),(20,.sl (lm (af .i64) v48)),(21,.ref 220),(22,iI v113),(24,iI (gD v48 v114)),(29,iI v149),(30,iI v147),(33,.ptr 33 0),(128,.sl (lm (af .i64) v48)),(129,iI (v48.length:Int)),(130,iI v114),(166,.ref 1166),(167,iI (v128.length:Int)),(168,iI v138)],[(5,bG v3),(33,aI ({ v144.1 with X:=(aa (v144.1.X+v136)),Y:=(aa (v113+v148)) }:aj)),(440001,List.set (bt (⟨[],v144.2.1,v144.2.2.1⟩:bq)) 0 (.ref 440009))],[(220,⟨44,67,lm aL v139⟩),(1035,⟨48,59,lm aF v7⟩),(1166,⟨3,1,lm (af .i64) v128⟩),(440009,⟨64,127,lm aY v144.2.2.2⟩)],[5,33,440001,220,1035,1166,440009,1440001,440001]⟩ ?_ (by subst h174;kernel_rfl)
  refine ai 2 (au (eJ aL ([({ v144.1 with X:=(aa (v144.1.X+v136)),Y:=(aa (v113+v148)) }:aj)]:List aj) (new:=[aI ({ v144.1 with X:=(aa (v144.1.X+v136)),Y:=(aa (v113+v148)) }:aj)]) (by simp only[List.map_cons,List.map_nil,c9])) ?_);obtain⟨h175,h⟩:=ax h;exact au (cc 220 220 44 67 aL (rfl) (hZ) h175) (ab (ac 2 (bc (hL4 h))))
 ·exact ae 169 h164 (ac 8 (bc (hL2 h)))
theorem O8(hK:ak K)(hL2:lq M w0 r v2 v3 v7 v28 v29 v48 m2 L2)(m:Nat):Hr M w0 r v2 v3 v7 v28 v29 v48 v113 v114 v128 m2 m (sd K n v2 v3 v7 v28 v29 v48 v113 v114 v128 L2 m):=by
 induction m with
 | zero=>intro v136 v137 v138 v139 v140 v141 v142 h;cases h
 | succ m ih=>intro v136 v137 v138 v139 v140 v141 v142 h;have h:uP K n v2 v3 v7 v28 v29 v48 v113 v114 v128 L2 (sd K n v2 v3 v7 v28 v29 v48 v113 v114 v128 L2 m) v136 v137 v138 v139 v140 v141 v142=some r:=h;exact aZ (XB hK hL2 ih h)
theorem XD(hK:ak K)(hL2:lq M w0 r v2 v3 v7 v28 v29 v48 m2 L2)(hL3:Hv M w0 r v2 v3 v7 v28 v29 v48 v113 v114 v115 v116 v117 v118 v120 m2 m3 L3)(h:wH K n v2 v3 v7 v28 v29 v48 v113 v114 v115 v116 v117 v118 v120 L2 L3 v124 v125 v126 v127=some r):jZ M w0 r (cM 134171892::SJ M w0 r m2 m3) (LU v2 v3 v7 v28 v29 v48 v113 v114 v115 v116 v117 v118 v120 v124 v125 v126 v127):=by
 unfold wH at h;refine av 6 7 3 ?_;obtain⟨h148,h⟩|⟨h148,h⟩:=am h
 ·refine ae 154 h148 (cr 8 9 5 3 5 (ai 0 ?_));obtain⟨h149,h⟩:=ax h;exact au (bu (af .i64) (af .i64) h149 ((fun _=>rfl)) ((fun _=>rfl))) (ab (ac 3 (bc (hL3 h))))
 ·refine ae 154 h148 (mj 12 13 7 9 (ai 3 ?_));obtain⟨h150,h⟩:=ax h;refine au (fF bV v28 (gD v48 v114) v120 174 (.tmp 161) (some (.tmp 162)) (some (.tmp 163)) 164 (e:=176) (sz:=5) (by kernel_rfl) (by kernel_rfl) (by kernel_rfl) (by kernel_rfl) (by kernel_rfl) (by kernel_rfl) (DQ) (fun k hk=>by subst hk;kernel_rfl) h150) (aO 5 1 ?_);obtain⟨v128,h151,h⟩:=bind_some h;exact dI 1166 (Mb hK h151) (dt 143) (au (bj (af .i64) v128) (ab (ac 1 (bK (p:=pn 268343802) n (O8 hK hL2 n h)))))
theorem Qv(hK:ak K)(hL2:lq M w0 r v2 v3 v7 v28 v29 v48 m2 L2)(m:Nat):Hv M w0 r v2 v3 v7 v28 v29 v48 v113 v114 v115 v116 v117 v118 v120 m2 m (sH K n v2 v3 v7 v28 v29 v48 v113 v114 v115 v116 v117 v118 v120 L2 m):=by
 induction m with
 | zero=>intro v124 v125 v126 v127 h;cases h
 | succ m ih=>intro v124 v125 v126 v127 h;have h:wH K n v2 v3 v7 v28 v29 v48 v113 v114 v115 v116 v117 v118 v120 L2 (sH K n v2 v3 v7 v28 v29 v48 v113 v114 v115 v116 v117 v118 v120 L2 m) v124 v125 v126 v127=some r:=h;exact aZ (XD hK hL2 ih h)
theorem HQ(hK:ak K)(hL2:lq M w0 r v2 v3 v7 v28 v29 v48 m2 L2)(h:rt K n v2 v3 v7 v28 v29 v48 v113 v114 v115 v116 v117 v118 L2 v120=some r):jZ M w0 r (cM 4192871 :: .b 3::cM 262055::oL M w0 r m2) (Tu v2 v3 v7 v28 v29 v48 v113 v114 v115 v116 v117 v118 v120):=by
 unfold rt at h;refine bN 12 13 7 4 (ai 3 ?_);obtain⟨h142,h⟩:=ax h;exact au (fF (af .i64) v29 (gD v48 v114) v120 72 (.tmp 148) (some (.tmp 149)) (some (.tmp 150)) 151 (e:=3) (sz:=1) (by kernel_rfl) (by kernel_rfl) (by kernel_rfl) (by kernel_rfl) (by kernel_rfl) (by kernel_rfl) ((fun _=>rfl)) (fun k hk=>by subst hk;kernel_rfl) h142) (au (bj (af .i64) (List.drop ((gD v48 v114)).toNat (List.take v120.toNat v29))) (ab (ac 1 (bK (p:=pn 67085946) n (Qv hK hL2 n h)))))
theorem Uy(hK:ak K)(hL2:lq M w0 r v2 v3 v7 v28 v29 v48 m2 L2)(h:uq K n v2 v3 v7 v28 v29 v48 L2 v113 v114 v115 v116 v117 v118=some r):jZ M w0 r (cM 32756::oL M w0 r m2) (Nb v2 v3 v7 v28 v29 v48 v113 v114 v115 v116 v117 v118):=by
 unfold uq at h;refine av 6 7 3 ?_;obtain⟨h137,h⟩|⟨h137,h⟩:=am h
 ·refine ae 131 h137 (cr 8 9 3 3 5 (ai 1 ?_));obtain⟨h138,h⟩:=ax h;refine au (bu (af .i64) (af .i64) h138 ((fun _=>rfl)) ((fun _=>rfl))) (ab (av 2 3 1 (ai 1 (au (bj aF v7) (ab (bN 4 5 3 2 (ai 3 (au (bj (af .i64) v48) (ab ?_)))))))));obtain⟨v119,h139,h⟩:=bF h;refine bm (ks':=cM 8385741::cM 4192871 :: .b 3::cM 262055::oL M w0 r m2) 0 ⟨[(1,iI v2),(5,.ptr 5 0),(8,.ref 1035),(9,.sl (lm bV v28)),(10,.sl (lm (af .i64) v29)),(20,.sl (lm (af .i64) v48)),(21,.ref 220),(22,iI v113),(23,iI v114),(24,iI (gD v48 v114)),(25,iI (v7.length:Int)),(128,.sl (lm (af .i64) v48)),(129,iI (v48.length:Int)),(130,iI v114),(141,.bool v119)],[(5,bG v3),(440001,List.set (bt (⟨[],v116,v117⟩:bq)) 0 (.ref 440009))],[(220,⟨44,67,lm aL v115⟩),(1035,⟨48,59,lm aF v7⟩),(440009,⟨64,127,lm aY v118⟩)],[5,440001,220,1035,440009,1440001,440001]⟩ ?_ (by subst h139;kernel_rfl);obtain⟨h140,h⟩|⟨h140,h⟩:=am h
  ·refine ae 141 h140 (bd 2 1 (ai 3 ?_));obtain⟨h141,h⟩:=ax h;exact au (bu (af .i64) (af .i64) h141 ((fun _=>rfl)) ((fun _=>rfl))) (ab (ac 0 (HQ hK hL2 h)))
  ·exact ae 141 h140 (ac 2 (HQ hK hL2 h))
 ·refine ae 131 h137 (aJ 8 (lx 220 440010 ?_));cases h;exact Gk
theorem XI(hK:ak K)(m:Nat):lq M w0 r v2 v3 v7 v28 v29 v48 m (yd K n v2 v3 v7 v28 v29 v48 m):=by
 induction m with
 | zero=>intro v113 v114 v115 v116 v117 v118 h;cases h
 | succ m ih=>intro v113 v114 v115 v116 v117 v118 h;have h:uq K n v2 v3 v7 v28 v29 v48 (yd K n v2 v3 v7 v28 v29 v48 m) v113 v114 v115 v116 v117 v118=some r:=h;exact aZ (Uy hK ih h)
theorem H8(hK:ak K)(h:uV K n v2 v3 v4 v5 v6 v7 v28 v29 v48=some r):jZ M w0 r [cM 511] (XV v2 v3 v4 v5 v6 v7 v28 v29 v48):=by
 unfold uV at h;exact bN 28 29 15 6 (ai 1 (au (bj (af .i64) v48) (ab (eW 2 2 1 (bA [1,5,8,9,10,20,21,22,128,129,130] [5,440001] [38,41,1035,440009] (eX 38 (eX 41 (dw 220 21 44 67 (ac 0 (bK (p:=pn 16378) n (XI hK n h)))))))))))
theorem Xx(hK:ak K)(hL1:yw M w0 r v1 v2 v3 v4 v5 v6 v7 m1 L1)(h:uy K n v1 v2 v3 v4 v5 v6 v7 L1 v27 v28 v29 v30=some r):jZ M w0 r (cM 1012::qA M w0 r m1) (JG v1 v2 v3 v4 v5 v6 v7 v27 v28 v29 v30):=by
 unfold uy at h;refine av 6 7 3 ?_;obtain⟨h29,h⟩|⟨h29,h⟩:=am h
 ·refine ae 48 h29 (cr 8 9 1 3 5 (ai 1 ?_));obtain⟨h30,h⟩:=ax h;refine au (ca 1035 59 aF h30) (au (br 48 0 aF ap (bf h30).2 (cX)) (ab (av 6 7 3 (ai 4 ?_))));obtain⟨v31,h31,h⟩:=bind_some h;refine aP (iJ hK h31) ?_;obtain⟨v32,h32,h⟩:=bind_some h;refine aP (jN hK h32) ?_;obtain⟨h33,h⟩:=ax h;refine au (ca 41 1 (af .i64) h33) (au (cJ 41 3 1 0 (af .i64) (af .i64) v32 (bf h33).2 ((fun _=>rfl))) (ab (av 2 3 1 (bA [1,3,5,8,9,10,11,12,13,14,45,46,47] [3,5,13,14,440001] [38,41,44,1035,440009] ?_))));obtain⟨v33,h34,h⟩:=bind_some h;obtain⟨v34,h35,h⟩:=bind_some h;refine bw 1 (nu 61 [.ptr 14 44,iI (((gD v7 v27).Style).Grow),.ptr 14 45,iI (((gD v7 v27).Style).Shrink),.ptr 14 10,.agg (eh (((gD v7 v27).Style).MinWidth)),iI v2,iI v33,.ptr 14 12,.agg (eh (((gD v7 v27).Style).MaxWidth)),iI v2,iI v34,.agg (bV (⟨0,((gD v7 v27).Style).Grow,((gD v7 v27).Style).Shrink,v33,v34⟩:bZ))]++nu 15 [.ptr 15 0]) [(15,bV mK)] [] [bS Tryz.prog 228 Tryz.f81 (pn 259278) 14] (aq (vz 7) (ag (bL 0 1 68 (o8 hK h34)) (aq (vz 3) (ag (bL 0 1 72 (o8 hK h35)) (aq [.v 0 1] (ag (i7 0 1 176 15 (bV mK)) (ag (bU 0) bz))))))) ?_
  obtain⟨v35,h36,h⟩:=bF h;obtain⟨v36,h37,h⟩:=bF h;refine bm (ks':=cM 518558::cM 518559 :: .b 1::cM 8103::qA M w0 r m1) 1 ⟨[(1,iI v2),(3,.ptr 3 0),(5,.ptr 5 0),(8,.ref 1035),(9,.ref 38),(10,.ref 41),(11,.ref 44),(12,iI v27),(13,.ptr 13 0),(14,.ptr 14 0),(15,.ptr 15 0),(45,.ref 1035),(46,iI (v7.length:Int)),(47,iI v27)],[(3,ap v1),(5,bG v3),(13,ap (gD v7 v27)),(14,aE ((gD v7 v27).Style)),(15,bV (⟨0,v35,v36,v33,v34⟩:bZ)),(440001,List.set (bt (⟨[],v4,v5⟩:bq)) 0 (.ref 440009))],[(38,⟨176,5,lm bV v28⟩),(41,⟨3,1,lm (af .i64) (List.set v29 v27.toNat v32)⟩),(44,⟨3,1,lm (af .i64) v30⟩),(1035,⟨48,59,lm aF v7⟩),(440009,⟨64,127,lm aY v6⟩)],[3,5,13,14,15,440001,38,41,44,1035,440009,1440001,440001]⟩ ?_ (by subst h37;subst h36;kernel_rfl);refine ai 3 ?_;obtain⟨v37,h38,h⟩:=bind_some h;refine aP (di hK h38) (ab (av 5 3 3 ?_));obtain⟨h39,h⟩|⟨h39,h⟩:=am h
  ·refine ae 82 h39 (bd 2 1 (ai 3 ?_));obtain⟨v38,h40,h⟩:=bind_some h;exact aP (di hK h40) (ab (ac 0 (Hg hK hL1 h)))
  ·exact ae 82 h39 (ac 2 (Hg hK hL1 h))
 ·refine ae 48 h29 (eI 13 7 10 ?_);obtain⟨h50,h⟩|⟨h50,h⟩:=am h
  ·refine ae 124 h50 (bd 2 1 (ai 2 (iV 44 ?_)));obtain⟨v47,h51,h⟩:=bind_some h;exact dI 1127 (ZL hK h51) (dt 29) (ab (eX 1127 (ac 0 (H8 hK h))))
  ·exact ae 124 h50 (ac 2 (H8 hK h))
theorem WJ(hK:ak K)(m:Nat):yw M w0 r v1 v2 v3 v4 v5 v6 v7 m (wW K n v1 v2 v3 v4 v5 v6 v7 m):=by
 induction m with
 | zero=>intro v27 v28 v29 v30 h;cases h
 | succ m ih=>intro v27 v28 v29 v30 h;have h:uy K n v1 v2 v3 v4 v5 v6 v7 (wW K n v1 v2 v3 v4 v5 v6 v7 m) v27 v28 v29 v30=some r:=h;exact aZ (Xx hK ih h)
theorem Wt(hK:ak K)(h:D4 K n v1 v2 v3 v4 v5 v6=some r):dA Tryz.prog 81 [.agg (ap v1),iI v2,.agg (bG v3)] [(440001,List.set (bt (⟨[],v4,v5⟩:bq)) 0 (.ref 440009))] ⟨64,127,lm aY v6⟩ (fun v s=>v=.tup [.ref 440010,iI r.2.1]∧bW s.o [(440001,List.set (bt (⟨[],r.2.2.1,r.2.2.2.1⟩:bq)) 0 (.ref 440009))]∧look 440009 s.r=some ⟨64,127,lm aY r.2.2.2.2⟩∧look 440010 s.r=some ⟨44,67,lm aL r.1⟩):=by
 refine fZ (c:=cat Tryz.f81 []) Tryz.func81 (by kernel_rfl) _ Tryz.ntmps81 (of_decide_eq_true (by kernel_rfl)) fun M w0=>(ba ⟨[(0,.agg (ap v1)),(1,iI v2),(2,.agg (bG v3))],[(440001,List.set (bt (⟨[],v4,v5⟩:bq)) 0 (.ref 440009))],[(440009,⟨64,127,lm aY v6⟩)],[440009,440001,1440001]⟩ ?_);unfold D4 at h;refine bM (ks':=[cM 6,cM 7]) 3 (ai 1 ?_);obtain⟨v7,h1,h⟩:=bind_some h;refine dI 1035 (FH hK h1) (dt 21) (ab (av 2 3 1 (ai 1 (au (bj aF v7) ?_))));obtain⟨h2,h⟩:=ax h;refine jQ bV (mK:bZ) 174 (.tmp 37) (.tmp 37) 38 (e:=176) (sz:=5) (zc:=bV mK) (kd:=.i64) (kd':=.i64) h2 (ab ?_);obtain⟨v8,h3,h⟩:=bF h;refine bm (ks':=[cM 30,cM 31]) 1 ⟨[(1,iI v2),(3,.ptr 3 0),(5,.ptr 5 0),(8,.ref 1035),(9,.ref 38)],[(3,ap v1),(5,bG v3),(440001,List.set (bt (⟨[],v4,v5⟩:bq)) 0 (.ref 440009))],[(38,⟨176,5,lm bV v8⟩),(1035,⟨48,59,lm aF v7⟩),(440009,⟨64,127,lm aY v6⟩)],[3,5,440001,38,1035,440009,1440001,440001]⟩ ?_ (by subst h3;kernel_rfl)
 refine ai 1 (au (bj aF v7) ?_);obtain⟨h4,h⟩:=ax h;refine jQ (af .i64) (0:Int) 72 (.tmp 40) (.tmp 40) 41 (e:=3) (sz:=1) (zc:=[iI 0]) (kd:=.i64) (kd':=.i64) h4 (ab ?_);obtain⟨v9,h5,h⟩:=bF h;refine bm (ks':=[cM 62,cM 63]) 1 ⟨[(1,iI v2),(3,.ptr 3 0),(5,.ptr 5 0),(8,.ref 1035),(9,.ref 38),(10,.ref 41)],[(3,ap v1),(5,bG v3),(440001,List.set (bt (⟨[],v4,v5⟩:bq)) 0 (.ref 440009))],[(38,⟨176,5,lm bV v8⟩),(41,⟨3,1,lm (af .i64) v9⟩),(1035,⟨48,59,lm aF v7⟩),(440009,⟨64,127,lm aY v6⟩)],[3,5,440001,38,41,1035,440009,1440001,440001]⟩ ?_ (by subst h5;kernel_rfl);refine ai 1 (au (bj aF v7) ?_);obtain⟨h6,h⟩:=ax h;refine jQ (af .i64) (0:Int) 72 (.tmp 43) (.tmp 43) 44 (e:=3) (sz:=1) (zc:=[iI 0]) (kd:=.i64) (kd':=.i64) h6 (ab ?_);obtain⟨v10,h7,h⟩:=bF h;refine bm (ks':=[cM 252,cM 253,cM 127]) 2 ⟨[(1,iI v2),(3,.ptr 3 0),(5,.ptr 5 0),(8,.ref 1035),(9,.ref 38),(10,.ref 41),(11,.ref 44)],[(3,ap v1),(5,bG v3),(440001,List.set (bt (⟨[],v4,v5⟩:bq)) 0 (.ref 440009))],[(38,⟨176,5,lm bV v8⟩),(41,⟨3,1,lm (af .i64) v9⟩),(44,⟨3,1,lm (af .i64) v10⟩),(1035,⟨48,59,lm aF v7⟩),(440009,⟨64,127,lm aY v6⟩)],[3,5,440001,38,41,44,1035,440009,1440001,440001]⟩ ?_ (by subst h7;kernel_rfl)
 exact ai 1 (au (bj aF v7) (ab (ac 1 (bK (p:=pn 506) n (WJ hK n h)))))
end
noncomputable section
variable[GS](M:Nat→Prop)(w0:aB)(r v1:aj)(v2:Int)(v3:Int×Bool)(v5:Int)  
abbrev V9(n:Nat):ao:=.c (cat Tryz.f83 (pn n))
abbrev Ww:Cx:=⟨Tryz.prog,45,M,w0⟩
abbrev S0:=bodyPost Tryz.prog Tryz.f83 (bC M w0 (fun v _=>v=.agg (aI r)))
abbrev UJ(ks:List ao)(s:AS):=VE (Ww M w0) (S0 M w0 r) ks .normal s
def Sn:AS:=⟨[(2,.ptr 2 0),(4,.ptr 4 0)],[(2,aI ({ v1 with X:=(aa (v1.X+v3.1)),Y:=v5 }:aj)),(4,List.set (aI bQ) 66 (.nils))],[],[2,4]⟩
variable{M w0 r v1 v2 v3 v5}{K:Kn}{n:Nat}
theorem NY(hK:ak K)(h:vN K n v1 v3 v5=some r):UJ M w0 r [V9 63] (Sn v1 v3 v5):=by
 unfold vN at h;refine aJ 3 ?_;cases h;exact bp
theorem Oy(hK:ak K)(h:wU K n v1 v2=some r):aW Tryz.prog 83 [.agg (aI v1),iI v2] (fun v _=>v=.agg (aI r)):=by
 refine bB (cat Tryz.f83 (pn 1)) Tryz.func83 Tryz.ntmps83 fun M w0=>(ba ⟨[(0,.agg (aI v1)),(1,iI v2)],[],[],[]⟩ ?_);unfold wU at h;refine av 13 7 5 ?_;obtain⟨h1,h⟩|⟨h1,h⟩:=am h
 ·refine ae 12 h1 (aJ 5 ?_);cases h;exact bp
 ·refine ae 12 h1 (dQ 2 3 3 (ai 4 ?_));obtain⟨v3,h2,h⟩:=bind_some h;refine aP (di hK h2) (ab (av 13 7 5 ?_));obtain⟨h3,h⟩|⟨h3,h⟩:=am h
  ·refine ae 31 h3 (av 4 5 2 (ai 3 ?_));obtain⟨v4,h4,h⟩:=bind_some h;exact aP (di hK h4) (ab (ac 1 (NY hK h)))
  ·exact ae 31 h3 (ac 2 (NY hK h))
end
noncomputable section
variable[GS](M:Nat→Prop)(w0:aB)(r:aj×Int×Int×(List aA))(v1:ah)(v2:Int)(v3:bH)(v4 v5:Int)(v6:List aA)(v7:cj)(v8 v9:bn)(v12:Int)(v13:List aj)(v14 v15:Int)(v16:List aA)(v18 v19 v20 v24:Int)(v25:List aj)(m1:Nat)(L1:Int→(List aj)→Option (aj×Int×Int×(List aA)))
abbrev EE:Cx:=⟨Tryz.prog,154,M,w0⟩
abbrev Dp:=bodyPost Tryz.prog Tryz.f44 (bC M w0 (fun v s=>v=.agg (aI r.1)∧bW s.o [(440001,List.set (bt (⟨[],r.2.1,r.2.2.1⟩:bq)) 0 (.ref 440009))]∧look 440009 s.r=some ⟨64,127,lm aY r.2.2.2⟩))
abbrev BS(ks:List ao)(s:AS):=VE (EE M w0) (Dp M w0 r) ks .normal s
abbrev fI(n:Nat):ao:=.c (cat Tryz.f44 (pn n))
abbrev Fj:List ao:=[.b 0,fI 2047]
abbrev Fq:List ao:=kl (EE M w0) (Dp M w0 r) Fj (cat Tryz.f44 (pn 16372)) m1::Fj
def Kb:AS:=⟨[(6,.ptr 6 0),(7,.ptr 7 0),(8,.ptr 8 0),(104,iI (v13.length:Int)),(105,iI v24)],[(6,List.set (aI bQ) 66 (.nils)),(7,cb v7),(8,List.set (aI (⟨1,v1.Node,v7.Margin.a3,0,v19,v20,0,⟨#[]⟩,v1.Style,v8,v9,false,[]⟩:aj)) 66 (.ref 1040)),(440001,List.set (bt (⟨[],v14,v15⟩:bq)) 0 (.ref 440009))],[(1040,⟨44,67,lm aL v25⟩),(440009,⟨64,127,lm aY v16⟩)],[6,7,8,440001,1040,440009,1440001,440001]⟩
def Y5:AS:=⟨[(6,.ptr 6 0),(7,.ptr 7 0),(8,.ptr 8 0),(9,iI v18)],[(6,List.set (aI bQ) 66 (.nils)),(7,cb v7),(8,List.set (aI ({ bQ with Kind:=1,Node:=v1.Node,X:=v7.Margin.a3,Style:=v1.Style,Before:=v8,After:=v9 }:aj)) 66 (.ref 1040)),(440001,List.set (bt (⟨[],v14,v15⟩:bq)) 0 (.ref 440009))],[(1040,⟨44,67,lm aL v13⟩),(440009,⟨64,127,lm aY v16⟩)],[6,7,8,440001,1040,440009,1440001,440001]⟩
def XY:AS:=⟨[(3,.ptr 3 0),(6,.ptr 6 0),(7,.ptr 7 0),(8,.ptr 8 0),(9,iI v12)],[(3,ap v1),(6,List.set (aI bQ) 66 (.nils)),(7,cb v7),(8,List.set (aI ({ bQ with Kind:=1,Node:=v1.Node,X:=v7.Margin.a3,Style:=v1.Style,Before:=v8,After:=v9 }:aj)) 66 (.ref 1040)),(440001,List.set (bt (⟨[],v14,v15⟩:bq)) 0 (.ref 440009))],[(1040,⟨44,67,lm aL v13⟩),(440009,⟨64,127,lm aY v16⟩)],[3,6,7,8,440001,1040,440009,1440001,440001]⟩
abbrev Ga:Prop:=∀{v24:Int} {v25:(List aj)},L1 v24 v25=some r→LP (EE M w0) (Dp M w0 r) Fj (cat Tryz.f44 (pn 16372)) m1 (Kb v1 v7 v8 v9 v13 v14 v15 v16 v19 v20 v24 v25)
variable{M w0 r v1 v2 v3 v4 v5 v6 v7 v8 v9 v12 v13 v14 v15 v16 v18 v19 v20 v24 v25 m1 L1}{K:Kn}{n:Nat}[SG w0]
theorem UF(hK:ak K)(hL1:Ga M w0 r v1 v7 v8 v9 v13 v14 v15 v16 v19 v20 m1 L1)(h:xH K n v1 v7 v8 v9 v13 v14 v15 v16 v19 v20 L1 v24 v25=some r):BS M w0 r (fI 16372::Fq M w0 r m1) (Kb v1 v7 v8 v9 v13 v14 v15 v16 v19 v20 v24 v25):=by
 unfold xH at h;refine av 6 7 3 ?_;obtain⟨h21,h⟩|⟨h21,h⟩:=am h
 ·refine ae 106 h21 (cr 18 19 1 3 7 (bA [6,7,8,10,104,105] [6,7,8,440001] [1040,440009] ?_));obtain⟨h22,h⟩:=ax h;obtain⟨h23,h⟩:=ax h;refine bw 1 (nu 108 [.ptr 8 66,.ref 1040,iI v24,.eptr 1040 67 (v24.toNat) 0,.eptr 1040 67 (v24.toNat) 2,iI ((gD v25 v24).X),.ptr 7 4,.ptr 7 7,iI v7.Border.a3,.ptr 7 8,.ptr 7 11,iI v7.Padding.a3,iI (aa (v7.Border.a3+v7.Padding.a3)),iI (aa (((gD v25 v24).X)+(aa (v7.Border.a3+v7.Padding.a3)))),.eptr 1040 67 (v24.toNat) 0,.eptr 1040 67 (v24.toNat) 2]) [] [] [cV 1040 ⟨44,67,lm aL (List.set v25 v24.toNat ({ (gD v25 v24)with X:=(aa (((gD v25 v24).X)+(aa (v7.Border.a3+v7.Padding.a3)))) }:aj))⟩] (aq (vz 3) (aR (bO 1040 67 aL (L:=v25) h22) (aq [.v 0 1] (aR (br 3 2 aL aI (bf h23).2 (c9)) (aq (vz 8) (ag (dm (lo:=0) (k:=2) (cu ⟨(by kernel_rfl),(cw (bO 1040 67 aL (L:=v25) h23) (by kernel_rfl))⟩ (cu ⟨(by kernel_rfl),(cw (bO 1040 67 aL (L:=(List.set v25 v24.toNat ({ (gD v25 v24)with X:=(aa (((gD v25 v24).X)+(aa (v7.Border.a3+v7.Padding.a3)))) }:aj))) h23) (by kernel_rfl))⟩ dp))) (aq [.v 0 1] (ag (cy (m:=0) (cJ 1040 44 67 2 aL aI ({ (gD v25 v24)with X:=(aa (((gD v25 v24).X)+(aa (v7.Border.a3+v7.Padding.a3)))) }:aj) (bf h23).2 (c9))) bz)))))))) ?_
  obtain⟨v26,h24,h⟩:=bF h;refine bm (ks':=fI 2095718::fI 2095719 :: .b 1::fI 130983::Fq M w0 r m1) 1 ⟨[(6,.ptr 6 0),(7,.ptr 7 0),(8,.ptr 8 0),(10,iI v24),(104,iI (v13.length:Int)),(105,iI v24)],[(6,List.set (aI bQ) 66 (.nils)),(7,cb v7),(8,List.set (aI (⟨1,v1.Node,v7.Margin.a3,0,v19,v20,0,⟨#[]⟩,v1.Style,v8,v9,false,[]⟩:aj)) 66 (.ref 1040)),(440001,List.set (bt (⟨[],v14,v15⟩:bq)) 0 (.ref 440009))],[(1040,⟨44,67,lm aL v26⟩),(440009,⟨64,127,lm aY v16⟩)],[6,7,8,440001,1040,440009,1440001,440001]⟩ ?_ (by subst h24;kernel_rfl);obtain⟨h25,h⟩:=ax h;obtain⟨h26,h⟩:=ax h;refine bw 1 (nu 124 [.ptr 8 66,.ref 1040,iI v24,.eptr 1040 67 (v24.toNat) 0,.eptr 1040 67 (v24.toNat) 3,iI ((gD v26 v24).Y),.ptr 7 4,.ptr 7 4,iI v7.Border.a0,.ptr 7 8,.ptr 7 8,iI v7.Padding.a0,iI (aa (v7.Border.a0+v7.Padding.a0)),iI (aa (((gD v26 v24).Y)+(aa (v7.Border.a0+v7.Padding.a0)))),.eptr 1040 67 (v24.toNat) 0,.eptr 1040 67 (v24.toNat) 3]) [] [] [cV 1040 ⟨44,67,lm aL (List.set v26 v24.toNat ({ (gD v26 v24)with Y:=(aa (((gD v26 v24).Y)+(aa (v7.Border.a0+v7.Padding.a0)))) }:aj))⟩] (aq (vz 3) (aR (bO 1040 67 aL (L:=v26) h25) (aq [.v 0 1] (aR (br 3 3 aL aI (bf h26).2 (c9)) (aq (vz 8) (ag (dm (lo:=0) (k:=2) (cu ⟨(by kernel_rfl),(cw (bO 1040 67 aL (L:=v26) h26) (by kernel_rfl))⟩ (cu ⟨(by kernel_rfl),(cw (bO 1040 67 aL (L:=(List.set v26 v24.toNat ({ (gD v26 v24)with Y:=(aa (((gD v26 v24).Y)+(aa (v7.Border.a0+v7.Padding.a0)))) }:aj))) h26) (by kernel_rfl))⟩ dp))) (aq [.v 0 1] (ag (cy (m:=0) (cJ 1040 44 67 3 aL aI ({ (gD v26 v24)with Y:=(aa (((gD v26 v24).Y)+(aa (v7.Border.a0+v7.Padding.a0)))) }:aj) (bf h26).2 (c9))) bz)))))))) ?_
  obtain⟨v27,h27,h⟩:=bF h;refine bm (ks':=fI 2095719 :: .b 1::fI 130983::Fq M w0 r m1) 0 ⟨[(6,.ptr 6 0),(7,.ptr 7 0),(8,.ptr 8 0),(10,iI v24),(104,iI (v13.length:Int)),(105,iI v24)],[(6,List.set (aI bQ) 66 (.nils)),(7,cb v7),(8,List.set (aI (⟨1,v1.Node,v7.Margin.a3,0,v19,v20,0,⟨#[]⟩,v1.Style,v8,v9,false,[]⟩:aj)) 66 (.ref 1040)),(440001,List.set (bt (⟨[],v14,v15⟩:bq)) 0 (.ref 440009))],[(1040,⟨44,67,lm aL v27⟩),(440009,⟨64,127,lm aY v16⟩)],[6,7,8,440001,1040,440009,1440001,440001]⟩ ?_ (by subst h27;kernel_rfl);obtain⟨h28,h⟩:=ax h;obtain⟨v28,h29,h⟩:=bind_some h;obtain⟨h30,h⟩:=ax h;exact bw 1 (nu 140 [.ptr 8 66,.ref 1040,iI v24,.ptr 8 66,.ref 1040,iI v24,.eptr 1040 67 (v24.toNat) 0,.agg (aI (gD v27 v24)),.ptr 7 12,iI v7.Content,.agg (aI v28),.eptr 1040 67 (v24.toNat) 0]) [] [] [cV 1040 ⟨44,67,lm aL (List.set v27 v24.toNat v28)⟩] (aq (vz 6) (aR (bO 1040 67 aL (L:=v27) h28) (aR (br 44 0 aL aI (bf h30).2 (c9)) (aq (vz 2) (ag (bL 0 1 150 (Oy hK h29)) (aR (bO 1040 67 aL (L:=v27) h30) (ag (cy (m:=0) (cJ 1040 44 67 0 aL aI v28 (bf h30).2 (c9))) bz))))))) (ac 2 (bc (hL1 h)))
 ·refine ae 106 h21 (aJ 8 (eX 1040 ?_));cases h;exact dD
theorem P3(hK:ak K)(m:Nat):Ga M w0 r v1 v7 v8 v9 v13 v14 v15 v16 v19 v20 m (xb K n v1 v7 v8 v9 v13 v14 v15 v16 v19 v20 m):=by
 induction m with
 | zero=>intro v24 v25 h;cases h
 | succ m ih=>intro v24 v25 h;have h:xH K n v1 v7 v8 v9 v13 v14 v15 v16 v19 v20 (xb K n v1 v7 v8 v9 v13 v14 v15 v16 v19 v20 m) v24 v25=some r:=h;exact aZ (UF hK ih h)
theorem GB(hK:ak K)(h:w8 K n v1 v7 v8 v9 v13 v14 v15 v16 v18=some r):BS M w0 r [fI 255] (Y5 v1 v7 v8 v9 v13 v14 v15 v16 v18):=by
 unfold w8 at h;obtain⟨v19,h9,h⟩:=bF h;obtain⟨v20,h10,h⟩:=bF h;refine bm (ks':=[fI 4092,fI 4093,fI 2047]) 6 ⟨[(6,.ptr 6 0),(7,.ptr 7 0),(8,.ptr 8 0)],[(6,List.set (aI bQ) 66 (.nils)),(7,cb v7),(8,List.set (aI (⟨1,v1.Node,v7.Margin.a3,0,v19,v20,0,⟨#[]⟩,v1.Style,v8,v9,false,[]⟩:aj)) 66 (.ref 1040)),(440001,List.set (bt (⟨[],v14,v15⟩:bq)) 0 (.ref 440009))],[(1040,⟨44,67,lm aL v13⟩),(440009,⟨64,127,lm aY v16⟩)],[6,7,8,440001,1040,440009,1440001,440001]⟩ ?_ (by subst h10;subst h9;kernel_rfl);exact ai 2 (au (bj aL v13) (ab (ac 1 (bK (p:=pn 8186) n (P3 hK n h)))))
theorem Nx(hK:ak K)(h:tP K n v1 v7 v8 v9 v12 v13 v14 v15 v16=some r):BS M w0 r [fI 63] (XY v1 v7 v8 v9 v12 v13 v14 v15 v16):=by
 unfold tP at h;refine av 13 7 5 ?_;obtain⟨h7,h⟩|⟨h7,h⟩:=am h
 ·refine ae 59 h7 (bd 2 1 (ai 3 ?_));obtain⟨v17,h8,h⟩:=bind_some h;exact aP (o8 hK h8) (ab (ac 0 (GB hK h)))
 ·exact ae 59 h7 (ac 2 (GB hK h))
theorem X2(hK:ak K)(h:zl K n v1 v2 v3 v4 v5 v6=some r):dA Tryz.prog 44 [.agg (ap v1),iI v2,.agg (bG v3)] [(440001,List.set (bt (⟨[],v4,v5⟩:bq)) 0 (.ref 440009))] ⟨64,127,lm aY v6⟩ (fun v s=>v=.agg (aI r.1)∧bW s.o [(440001,List.set (bt (⟨[],r.2.1,r.2.2.1⟩:bq)) 0 (.ref 440009))]∧look 440009 s.r=some ⟨64,127,lm aY r.2.2.2⟩):=by
 refine fZ (c:=cat Tryz.f44 []) Tryz.func44 (by kernel_rfl) _ Tryz.ntmps44 (of_decide_eq_true (by kernel_rfl)) fun M w0=>(ba ⟨[(0,.agg (ap v1)),(1,iI v2),(2,.agg (bG v3))],[(440001,List.set (bt (⟨[],v4,v5⟩:bq)) 0 (.ref 440009))],[(440009,⟨64,127,lm aY v6⟩)],[440009,440001,1440001]⟩ ?_);unfold zl at h;refine bM (ks':=[fI 6,fI 7]) 3 (ai 3 ?_);obtain⟨v7,h1,h⟩:=bind_some h;refine aP (AD hK h1) (ab (av 2 3 1 (bA [3,5,6,7] [3,5,6,7,440001] [440009] ?_)));obtain⟨v8,h2,h⟩:=bind_some h;obtain⟨v9,h3,h⟩:=bind_some h;refine bw 1 (nu 15 [.ptr 3 1,iI v1.Node,.ptr 3 2,.agg (aE v1.Style),.ptr 7 0,.ptr 7 3,iI v7.Margin.a3,.ptr 7 0,.ptr 7 0,iI v7.Margin.a0,.agg (cC v8),.ptr 7 0,.ptr 7 2,iI v7.Margin.a2,.agg (cC v9),.agg (List.set (aI ({ bQ with Kind:=1,Node:=v1.Node,X:=v7.Margin.a3,Style:=v1.Style,Before:=v8,After:=v9 }:aj)) 66 (.nils))]++nu 8 [.ptr 8 0]) [(8,List.set (aI bQ) 66 (.nils))] [] [bS Tryz.prog 154 Tryz.f44 (pn 14) 17] (aq (vz 10) (ag (bL 0 1 25 (uG hK h2)) (aq (vz 3) (ag (bL 0 1 29 (uG hK h3)) (aq [.v 0 1] (ag (i7 0 1 44 8 (List.set (aI bQ) 66 (.nils))) (ag (bU 0) bz))))))) (av 13 7 5 ?_)
 obtain⟨h4,h⟩|⟨h4,h⟩:=am h
 ·refine ae 34 h4 (bd 2 1 (ai 4 ?_));obtain⟨v10,h5,h⟩:=bind_some h;exact JF 1040 (RM hK h5) (vq (i:=0) rfl) (ab (ac 0 (Nx hK h)))
 ·refine ae 34 h4 (bd 3 1 (ai 4 ?_));obtain⟨v11,h6,h⟩:=bind_some h;exact JF 1049 (Wt hK h6) (vq (i:=0) rfl) (ab (bA [3,6,7,8,9] [3,6,7,8,440001] [1049,440009] (lx 1049 1040 (ac 0 (Nx hK h)))))
end
noncomputable section
variable[GS](M:Nat→Prop)(w0:aB)(r:Int)(v1:List ah)(v2:Fv)(v4:Int)(m1:Nat)(L1:Int→Option Int)
abbrev ES:Cx:=⟨Tryz.prog,19,M,w0⟩
abbrev Ef:=bodyPost Tryz.prog Tryz.f119 (bC M w0 (fun v _=>v=iI r))
abbrev Q3(ks:List ao)(s:AS):=VE (ES M w0) (Ef M w0 r) ks .normal s
abbrev Kr(n:Nat):ao:=.c (cat Tryz.f119 (pn n))
abbrev DU:List ao:=[.b 0,Kr 7]
abbrev R3:List ao:=kl (ES M w0) (Ef M w0 r) DU (cat Tryz.f119 (pn 52)) m1::DU
def M7:AS:=⟨[(0,.sl (lm aF v1)),(1,.fn v2.id v2.aK),(7,iI (v1.length:Int)),(8,iI v4)],[],[],[]⟩
abbrev KS:Prop:=∀{v4:Int},L1 v4=some r→LP (ES M w0) (Ef M w0 r) DU (cat Tryz.f119 (pn 52)) m1 (M7 v1 v2 v4)
variable{M w0 r v1 v2 v4 m1 L1}{K:Kn}{n:Nat}
theorem Yu(hK:ak K)(hL1:KS M w0 r v1 v2 m1 L1)(h:n6 K n v1 v2 L1 v4=some r):Q3 M w0 r (Kr 52::R3 M w0 r m1) (M7 v1 v2 v4):=by
 unfold n6 at h;refine av 6 7 3 ?_;obtain⟨h5,h⟩|⟨h5,h⟩:=am h
 ·refine ae 9 h5 (cr 18 19 1 3 7 (ai 3 ?_));obtain⟨h6,h⟩:=ax h;refine au (bu aF ap h6 (dE) (cX)) (aO 5 1 ?_);obtain⟨v5,h7,h⟩:=bind_some h;refine hF (hK.mF h7) (ab ?_);obtain⟨h8,h⟩|⟨h8,h⟩:=am h
  ·refine ae 16 h8 (aJ 9 ?_);cases h;exact bp
  ·exact ae 16 h8 (ac 4 (bc (hL1 h)))
 ·refine ae 9 h5 (aJ 8 ?_);cases h;exact bp
theorem UM(hK:ak K)(m:Nat):KS M w0 r v1 v2 m (kL K n v1 v2 m):=by
 induction m with
 | zero=>intro v4 h;cases h
 | succ m ih=>intro v4 h;have h:n6 K n v1 v2 (kL K n v1 v2 m) v4=some r:=h;exact aZ (Yu hK ih h)
theorem ZR(hK:ak K)(h:uA K n v1 v2=some r):aW Tryz.prog 119 [.sl (lm aF v1),.fn v2.id v2.aK] (fun v _=>v=iI r):=by
 refine bB (cat Tryz.f119 (pn 1)) Tryz.func119 Tryz.ntmps119 fun M w0=>(ba ⟨[(0,.sl (lm aF v1)),(1,.fn v2.id v2.aK)],[],[],[]⟩ ?_);unfold uA at h;exact bN 12 13 7 4 (ai 1 (au (bj aF v1) (ab (ac 1 (bK (p:=pn 26) n (UM hK n h))))))
end
noncomputable section
variable[GS](M:Nat→Prop)(w0:aB)(r:Bool)(v1:List ah)(v2:Fv)  
variable{M w0 r v1 v2}{K:Kn}{n:Nat}
theorem Ht(hK:ak K)(h:py K n v1 v2=some r):aW Tryz.prog 64 [.sl (lm aF v1),.fn v2.id v2.aK] (fun v _=>v=.bool r):=by
 refine bB (cat Tryz.f64 (pn 1)) Tryz.func64 Tryz.ntmps64 fun M w0=>(ba ⟨[(0,.sl (lm aF v1)),(1,.fn v2.id v2.aK)],[],[],[]⟩ ?_);unfold py at h;refine av 6 7 3 (ai 2 ?_);obtain⟨v3,h1,h⟩:=bind_some h;refine aP (ZR hK h1) (ab (aJ 1 ?_));cases h;exact bp
end
noncomputable section
variable[GS](M:Nat→Prop)(w0:aB)(r:(List ah)×Bool)(v1:ah)(v8:Int)(v9 v11:(List ah))(m1:Nat)(L1:Int→(List ah)→Option ((List ah)×Bool))
abbrev DY:Cx:=⟨Tryz.prog,24,M,w0⟩
abbrev zJ:=bodyPost Tryz.prog Tryz.f141 (bC M w0 (fun v _=>v=.tup [.sl (lm aF r.1),.bool r.2]))
abbrev Oq(ks:List ao)(s:AS):=VE (DY M w0) (zJ M w0 r) ks .normal s
abbrev BN(n:Nat):ao:=.c (cat Tryz.f141 (pn n))
abbrev E5:List ao:=[.b 0,BN 15]
abbrev HD:List ao:=kl (DY M w0) (zJ M w0 r) E5 (cat Tryz.f141 (pn 116)) m1::E5
def Tb:AS:=⟨[(4,.ref 19),(8,.sl (lm aF v1.Kids)),(9,iI (v1.Kids.length:Int)),(10,iI v8)],[],[(19,⟨48,59,lm aF v11⟩)],[19]⟩
def LM:AS:=⟨[(4,.ref 19),(8,.sl (lm aF v1.Kids)),(9,iI (v1.Kids.length:Int)),(10,iI v8)],[],[(19,⟨48,59,lm aF v9⟩)],[19]⟩
abbrev A3:Prop:=∀{v8:Int} {v9:(List ah)},L1 v8 v9=some r→LP (DY M w0) (zJ M w0 r) E5 (cat Tryz.f141 (pn 116)) m1 (LM v1 v8 v9)
variable{M w0 r v1 v8 v9 v11 m1 L1}{K:Kn}{n:Nat}
theorem Gh(hK:ak K)(hL1:A3 M w0 r v1 m1 L1)(h:xZ K n v1 v8 L1 v11=some r):Oq M w0 r (.b 1::BN 935::HD M w0 r m1) (Tb v1 v8 v11):=by
 unfold xZ at h;exact ac 2 (bc (hL1 h))
theorem QE(hK:ak K)(hL1:A3 M w0 r v1 m1 L1)(h:tX K n v1 L1 v8 v9=some r):Oq M w0 r (BN 116::HD M w0 r m1) (LM v1 v8 v9):=by
 unfold tX at h;refine av 6 7 3 ?_;obtain⟨h13,h⟩|⟨h13,h⟩:=am h
 ·refine ae 11 h13 (cr 8 9 1 3 5 (ai 0 ?_));obtain⟨h14,h⟩:=ax h;refine au (bu aF ap h14 (dE) (cX)) (ab (av 2 3 1 (ai 1 ?_)));obtain⟨v10,h15,h⟩:=bind_some h;refine aP (CI hK h15) (ab ?_);obtain⟨h16,h⟩|⟨h16,h⟩:=am h
  ·refine ae 15 h16 (bd 2 1 (ai 2 (au (eJ aF ([(gD v1.Kids v8)]:List ah) (new:=[ap (gD v1.Kids v8)]) (by simp only[List.map_cons,List.map_nil,cX])) ?_)));obtain⟨h17,h⟩:=ax h;exact au (cc 19 19 48 59 aF (rfl) (dE) h17) (ab (ac 0 (Gh hK hL1 h)))
  ·exact ae 15 h16 (ac 2 (Gh hK hL1 h))
 ·refine ae 11 h13 (eI 2 3 6 (ai 2 (iV 19 ?_)));obtain⟨v12,h18,h⟩:=bind_some h;refine aP (Ht hK h18) (ab (aJ 1 ?_));cases h;exact fL
theorem Vq(hK:ak K)(m:Nat):A3 M w0 r v1 m (tF K n v1 m):=by
 induction m with
 | zero=>intro v8 v9 h;cases h
 | succ m ih=>intro v8 v9 h;have h:tX K n v1 (tF K n v1 m) v8 v9=some r:=h;exact aZ (QE hK ih h)
theorem HP(hK:ak K)(h:rE K n v1=some r):aW Tryz.prog 141 [.agg (ap v1)] (fun v _=>v=.tup [.sl (lm aF r.1),.bool r.2]):=by
 refine bB (cat Tryz.f141 (pn 1)) Tryz.func141 Tryz.ntmps141 fun M w0=>(ba ⟨[(0,.agg (ap v1))],[],[],[]⟩ ?_);unfold rE at h;exact bN 28 29 15 6 (ai 2 (au (bj aF v1.Kids) (ab (eW 2 0 1 (bA [4,8,9,10] [] [] (dw 19 4 48 59 (ac 0 (bK (p:=pn 58) n (Vq hK n h)))))))))
end
noncomputable section
variable[GS](M:Nat→Prop)(w0:aB)(r:bn)(v1 v2:bn)  
variable{M w0 r v1 v2}{K:Kn}{n:Nat}
theorem nR(hK:ak K)(h:kT K n v1 v2=some r):aW Tryz.prog 143 [.agg (cC v1),.agg (cC v2)] (fun v _=>v=.agg (cC r)):=by
 refine bB (cat Tryz.f143 (pn 1)) Tryz.func143 Tryz.ntmps143 fun M w0=>(ba ⟨[(0,.agg (cC v1)),(1,.agg (cC v2))],[],[],[]⟩ ?_);unfold kT at h;refine aJ 5 ?_;cases h;exact bp
end
noncomputable section
variable[GS](M:Nat→Prop)(w0:aB)(r:(List aj)×Int×bn×bn×Bool)(v1:List aj)(v16:Int)(v17:Bool)(v18:Int)(v19 v20:bn)(v21:List aj)(v22:bn)(v24:Int)(v25:bn)(v26:Int)(v27:Bool)(v28 v29 v30:bn)(m1:Nat)(L1:Int→Bool→Int→bn→bn→(List aj)→Option ((List aj)×Int×bn×bn×Bool))
abbrev C3:Cx:=⟨Tryz.prog,52,M,w0⟩
abbrev CK:=bodyPost Tryz.prog Tryz.f142 (bC M w0 (fun v s=>v=.tup [.ref 43,iI r.2.1,.agg (cC r.2.2.1),.agg (cC r.2.2.2.1),.bool r.2.2.2.2]∧look 43 s.r=some ⟨44,67,lm aL r.1⟩))
abbrev pJ(ks:List ao)(s:AS):=VE (C3 M w0) (CK M w0 r) ks .normal s
abbrev ir(n:Nat):ao:=.c (cat Tryz.f142 (pn n))
abbrev C9:List ao:=[.b 0,ir 31]
abbrev ss:List ao:=kl (C3 M w0) (CK M w0 r) C9 (cat Tryz.f142 (pn 244)) m1::C9
def T2:AS:=⟨[(2,.ref 43),(3,iI v26),(4,.ptr 4 0),(5,.ptr 5 0),(6,.bool v27),(7,.ptr 7 0),(9,.ptr 9 0),(10,.sl (lm aL v1)),(11,iI (v1.length:Int)),(12,iI v18)],[(4,cC v28),(5,cC dg),(7,cC v29),(9,aI ({ (gD v1 v18)with Y:=v24 }:aj))],[(43,⟨44,67,lm aL v21⟩)],[4,5,7,9,43]⟩
def aaa:AS:=⟨[(2,.ref 43),(4,.ptr 4 0),(5,.ptr 5 0),(7,.ptr 7 0),(9,.ptr 9 0),(10,.sl (lm aL v1)),(11,iI (v1.length:Int)),(12,iI v18)],[(4,cC v25),(5,cC dg),(7,cC v22),(9,aI ({ (gD v1 v18)with Y:=v24 }:aj))],[(43,⟨44,67,lm aL v21⟩)],[4,5,7,9,43]⟩
def Ta:AS:=⟨[(2,.ref 43),(3,iI v16),(4,.ptr 4 0),(5,.ptr 5 0),(6,.bool v17),(7,.ptr 7 0),(9,.ptr 9 0),(10,.sl (lm aL v1)),(11,iI (v1.length:Int)),(12,iI v18)],[(4,cC v19),(5,cC dg),(7,cC v22),(9,aI ({ (gD v1 v18)with Y:=v24 }:aj))],[(43,⟨44,67,lm aL v21⟩)],[4,5,7,9,43]⟩
def Sx:AS:=⟨[(2,.ref 43),(3,iI v16),(4,.ptr 4 0),(5,.ptr 5 0),(6,.bool v17),(7,.ptr 7 0)],[(4,cC v30),(5,cC dg),(7,cC v20)],[(43,⟨44,67,lm aL v21⟩)],[4,5,7,43]⟩
def GZ:AS:=⟨[(2,.ref 43),(3,iI v16),(4,.ptr 4 0),(5,.ptr 5 0),(6,.bool v17),(7,.ptr 7 0),(10,.sl (lm aL v1)),(11,iI (v1.length:Int)),(12,iI v18)],[(4,cC v19),(5,cC dg),(7,cC v20)],[(43,⟨44,67,lm aL v21⟩)],[4,5,7,43]⟩
abbrev ql:Prop:=∀{v16:Int} {v17:Bool} {v18:Int} {v19:bn} {v20:bn} {v21:(List aj)},L1 v16 v17 v18 v19 v20 v21=some r→LP (C3 M w0) (CK M w0 r) C9 (cat Tryz.f142 (pn 244)) m1 (GZ v1 v16 v17 v18 v19 v20 v21)
variable{M w0 r v1 v16 v17 v18 v19 v20 v21 v22 v24 v25 v26 v27 v28 v29 v30 m1 L1}{K:Kn}{n:Nat}
theorem Od(hK:ak K)(hL1:ql M w0 r v1 m1 L1)(h:uF K n v1 v18 v21 v24 L1 v26 v27 v28 v29=some r):pJ M w0 r (ir 125343 :: .b 1::ir 1959::ss M w0 r m1) (T2 v1 v18 v21 v24 v26 v27 v28 v29):=by
 unfold uF at h;refine ai 2 (au (eJ aL ([({ (gD v1 v18)with Y:=v24 }:aj)]:List aj) (new:=[aI ({ (gD v1 v18)with Y:=v24 }:aj)]) (by simp only[List.map_cons,List.map_nil,c9])) ?_);obtain⟨h22,h⟩:=ax h;exact au (cc 43 43 44 67 aL (rfl) (hZ) h22) (ab (ac 2 (bc (hL1 h))))
theorem FT(hK:ak K)(hL1:ql M w0 r v1 m1 L1)(h:wi K n v1 v18 v21 v22 v24 L1 v25=some r):pJ M w0 r (ir 1002741::ir 125343 :: .b 1::ir 1959::ss M w0 r m1) (aaa v1 v18 v21 v22 v24 v25):=by
 unfold wi at h;exact ac 5 (Od hK hL1 h)
theorem Lg(hK:ak K)(hL1:ql M w0 r v1 m1 L1)(h:xV K n v1 v16 v17 v18 v19 v21 v22 L1 v24=some r):pJ M w0 r (ir 62671 :: .b 1::ir 1959::ss M w0 r m1) (Ta v1 v16 v17 v18 v19 v21 v22 v24):=by
 unfold xV at h;refine av 5 3 3 ?_;obtain⟨h20,h⟩|⟨h20,h⟩:=am h
 ·refine ae 30 h20 (av 9 5 4 ?_);obtain⟨h21,h⟩|⟨h21,h⟩:=am h
  ·exact ae 31 h21 (ac 2 (FT hK hL1 h))
  ·exact ae 31 h21 (ac 2 (FT hK hL1 h))
 ·exact ae 30 h20 (ac 2 (Od hK hL1 h))
theorem IZ(hK:ak K)(h:tJ K n v16 v17 v20 v21 v30=some r):pJ M w0 r [ir 63] (Sx v16 v17 v20 v21 v30):=by
 unfold tJ at h;refine av 2 3 1 (bA [2,3,4,5,6,7] [4,5,7] [43] (bw 5 (nu 47 [.ref 43,iI v16,.agg (cC v30),.agg (cC v20),.bool v17]) [] [] [bS Tryz.prog 52 Tryz.f142 (pn 126) 5,bS Tryz.prog 52 Tryz.f142 (pn 126) 6,bS Tryz.prog 52 Tryz.f142 (pn 126) 7,bS Tryz.prog 52 Tryz.f142 (pn 126) 8,bS Tryz.prog 52 Tryz.f142 (pn 126) 9] (aq [.v 0 1,.v 0 2,.v 0 3,.v 0 4,.v 0 5] (ag (bU 0) (ag (bU 1) (ag (bU 2) (ag (bU 3) (ag (bU 4) bz)))))) (aJ 1 ?_)));cases h;exact gc
theorem Xs(hK:ak K)(hL1:ql M w0 r v1 m1 L1)(h:sO K n v1 L1 v16 v17 v18 v19 v20 v21=some r):pJ M w0 r (ir 244::ss M w0 r m1) (GZ v1 v16 v17 v18 v19 v20 v21):=by
 unfold sO at h;refine av 6 7 3 ?_;obtain⟨h15,h⟩|⟨h15,h⟩:=am h
 ·refine ae 13 h15 (cr 8 9 1 3 5 (ai 0 ?_));obtain⟨h16,h⟩:=ax h;refine au (bu aL aI h16 (hZ) (c9)) (ab (av 2 3 1 (ai 3 ?_)));obtain⟨v22,h17,h⟩:=bind_some h;refine aP (nR hK h17) (ab (av 13 7 5 ?_));obtain⟨h18,h⟩|⟨h18,h⟩:=am h
  ·refine ae 22 h18 (bd 2 1 (ai 2 ?_));obtain⟨v23,h19,h⟩:=bind_some h;exact aP (jl hK h19) (ab (ac 0 (Lg hK hL1 h)))
  ·exact ae 22 h18 (ac 2 (Lg hK hL1 h))
 ·refine ae 13 h15 (eI 5 3 8 ?_);obtain⟨h23,h⟩|⟨h23,h⟩:=am h
  ·exact ae 45 h23 (ac 2 (IZ hK h))
  ·exact ae 45 h23 (ac 2 (IZ hK h))
theorem aaA(hK:ak K)(m:Nat):ql M w0 r v1 m (xr K n v1 m):=by
 induction m with
 | zero=>intro v16 v17 v18 v19 v20 v21 h;cases h
 | succ m ih=>intro v16 v17 v18 v19 v20 v21 h;have h:sO K n v1 (xr K n v1 m) v16 v17 v18 v19 v20 v21=some r:=h;exact aZ (Xs hK ih h)
theorem S4(hK:ak K)(h:Ah K n v1=some r):aW Tryz.prog 142 [.sl (lm aL v1)] (fun v s=>v=.tup [.ref 43,iI r.2.1,.agg (cC r.2.2.1),.agg (cC r.2.2.2.1),.bool r.2.2.2.2]∧look 43 s.r=some ⟨44,67,lm aL r.1⟩):=by
 refine bB (cat Tryz.f142 (pn 1)) Tryz.func142 Tryz.ntmps142 fun M w0=>(ba ⟨[(0,.sl (lm aL v1))],[],[],[]⟩ ?_);unfold Ah at h;exact bN 60 61 31 8 (ai 1 (au (bj aL v1) (ab (eW 2 0 1 (bA [2,3,4,5,6,7,10,11,12] [4,5,7] [] (dw 43 2 44 67 (ac 0 (bK (p:=pn 122) n (aaA hK n h)))))))))
end
noncomputable section
variable[GS](M:Nat→Prop)(w0:aB)(r:Int)(v1:cj)  
variable{M w0 r v1}{K:Kn}{n:Nat}
theorem aal(hK:ak K)(h:z2 K n v1=some r):aW Tryz.prog 144 [.agg (cb v1)] (fun v _=>v=iI r):=by
 refine bB (cat Tryz.f144 (pn 1)) Tryz.func144 Tryz.ntmps144 fun M w0=>(ba ⟨[(0,.agg (cb v1))],[],[],[]⟩ ?_);unfold z2 at h;refine aJ 5 ?_;cases h;exact bp
end
noncomputable section
variable[GS](M:Nat→Prop)(w0:aB)(r:Bool)(v1:ah)(v2:Bool)  
abbrev SB(n:Nat):ao:=.c (cat Tryz.f145 (pn n))
abbrev QH:Cx:=⟨Tryz.prog,16,M,w0⟩
abbrev O4:=bodyPost Tryz.prog Tryz.f145 (bC M w0 (fun v _=>v=.bool r))
abbrev Z5(ks:List ao)(s:AS):=VE (QH M w0) (O4 M w0 r) ks .normal s
def Te:AS:=⟨[(2,.bool v2)],[],[],[]⟩
variable{M w0 r v1 v2}{K:Kn}{n:Nat}
theorem ET(hK:ak K)(h:n8 K n v2=some r):Z5 M w0 r [SB 7] (Te v2):=by
 unfold n8 at h;refine aJ 1 ?_;cases h;exact bp
theorem Md(hK:ak K)(h:yP K n v1=some r):aW Tryz.prog 145 [.agg (ap v1)] (fun v _=>v=.bool r):=by
 refine bB (cat Tryz.f145 (pn 1)) Tryz.func145 Tryz.ntmps145 fun M w0=>(ba ⟨[(0,.agg (ap v1))],[],[],[]⟩ ?_);unfold yP at h;refine av 6 7 3 (ai 4 ?_);obtain⟨h1,h⟩|⟨h1,h⟩:=am h
 ·exact aC 6 h1 (ab (ac 0 (ET hK h)))
 ·refine aC 6 h1 (aO 9 5 ?_);obtain⟨h2,h⟩|⟨h2,h⟩:=am h
  ·exact aC 11 h2 (ab (ac 0 (ET hK h)))
  ·exact aC 11 h2 (ab (ac 0 (ET hK h)))
end
noncomputable section
variable[GS](M:Nat→Prop)(w0:aB)(r:aj×Int×Int×(List aA))(v1:ah)(v2:cj)(v3 v4:Bool)(v5:bH)(v6 v7:Int)(v8:List aA)(v9:(List ah)×Bool)(v12:Int)(v13:List aj)(v14 v15:Int)(v16:List aA)(v21:Int)(v22:Bool)(v23 v24:bn)(v25:List aj)(v26 v27:Int)(v28:List aA)(v29 v30:bn)(v32:Bool)(v34:Int)(v35:bn)(v36:Bool)(v41:Int)(v42 v43:bn)(v44:Bool)(v45:Int×Bool)(v46:Bool)(v47 v48 v49 v56:Int)(v57 v59:(List aj))(v61:Bool)(v63:List aj)(m1 m2:Nat)(L1:Int→(List aj)→Int→Int→(List aA)→Option (aj×Int×Int×(List aA)))(L2:Int→(List aj)→Option (aj×Int×Int×(List aA)))
abbrev pL:Cx:=⟨Tryz.prog,259,M,w0⟩
abbrev oK:=bodyPost Tryz.prog Tryz.f100 (bC M w0 (fun v s=>v=.agg (aI r.1)∧bW s.o [(440001,List.set (bt (⟨[],r.2.1,r.2.2.1⟩:bq)) 0 (.ref 440009))]∧look 440009 s.r=some ⟨64,127,lm aY r.2.2.2⟩))
abbrev gK(ks:List ao)(s:AS):=VE (pL M w0) (oK M w0 r) ks .normal s
abbrev cY(n:Nat):ao:=.c (cat Tryz.f100 (pn n))
abbrev Ed:List ao:=[.b 4,cY 131071]
abbrev pu:List ao:=kl (pL M w0) (oK M w0 r) Ed (cat Tryz.f100 (pn 1048564)) m2::Ed
abbrev A8:List ao:=[.b 0,cY 4075,cY 255]
abbrev ZQ:List ao:=kl (pL M w0) (oK M w0 r) A8 (cat Tryz.f100 (pn 32596)) m1::A8
def Yg:AS:=⟨[(6,.ptr 6 0),(10,.ptr 10 0),(11,.ptr 11 0),(12,.sl (lm aF v9.1)),(13,.bool v9.2),(15,iI v34),(199,iI (v25.length:Int)),(200,iI v56)],[(6,cb v2),(10,List.set (aI bQ) 66 (.nils)),(11,List.set (aI (⟨1,v1.Node,v2.Margin.a3,0,(aa (v2.Content+v48)),v49,0,⟨#[]⟩,v1.Style,v42,v43,v44,[]⟩:aj)) 66 (.ref 1054)),(440001,List.set (bt (⟨[],v26,v27⟩:bq)) 0 (.ref 440009))],[(1054,⟨44,67,lm aL v63⟩),(440009,⟨64,127,lm aY v28⟩)],[6,10,11,440001,1054,440009,1440001,440001]⟩
def aag:AS:=⟨[(6,.ptr 6 0),(10,.ptr 10 0),(11,.ptr 11 0),(12,.sl (lm aF v9.1)),(13,.bool v9.2),(15,iI v34),(24,iI v56),(199,iI (v25.length:Int)),(200,iI v56),(244,.bool v61)],[(6,cb v2),(10,List.set (aI bQ) 66 (.nils)),(11,List.set (aI (⟨1,v1.Node,v2.Margin.a3,0,(aa (v2.Content+v48)),v49,0,⟨#[]⟩,v1.Style,v42,v43,v44,[]⟩:aj)) 66 (.ref 1054)),(440001,List.set (bt (⟨[],v26,v27⟩:bq)) 0 (.ref 440009))],[(1054,⟨44,67,lm aL v59⟩),(440009,⟨64,127,lm aY v28⟩)],[6,10,11,440001,1054,440009,1440001,440001]⟩
def MS:AS:=⟨[(6,.ptr 6 0),(10,.ptr 10 0),(11,.ptr 11 0),(12,.sl (lm aF v9.1)),(13,.bool v9.2),(15,iI v34),(199,iI (v25.length:Int)),(200,iI v56)],[(6,cb v2),(10,List.set (aI bQ) 66 (.nils)),(11,List.set (aI (⟨1,v1.Node,v2.Margin.a3,0,(aa (v2.Content+v48)),v49,0,⟨#[]⟩,v1.Style,v42,v43,v44,[]⟩:aj)) 66 (.ref 1054)),(440001,List.set (bt (⟨[],v26,v27⟩:bq)) 0 (.ref 440009))],[(1054,⟨44,67,lm aL v57⟩),(440009,⟨64,127,lm aY v28⟩)],[6,10,11,440001,1054,440009,1440001,440001]⟩
def PE:AS:=⟨[(6,.ptr 6 0),(10,.ptr 10 0),(11,.ptr 11 0),(12,.sl (lm aF v9.1)),(13,.bool v9.2),(14,iI v47),(15,iI v34)],[(6,cb v2),(10,List.set (aI bQ) 66 (.nils)),(11,List.set (aI ({ bQ with Kind:=1,Node:=v1.Node,Style:=v1.Style,Before:=v42,After:=v43,Empty:=v44 }:aj)) 66 (.ref 1054)),(440001,List.set (bt (⟨[],v26,v27⟩:bq)) 0 (.ref 440009))],[(1054,⟨44,67,lm aL v25⟩),(440009,⟨64,127,lm aY v28⟩)],[6,10,11,440001,1054,440009,1440001,440001]⟩
def Zh:AS:=⟨[(6,.ptr 6 0),(10,.ptr 10 0),(11,.ptr 11 0),(12,.sl (lm aF v9.1)),(13,.bool v9.2),(14,iI (max v41 0)),(15,iI v34),(22,iI v45.1),(166,.bool v46)],[(6,cb v2),(10,List.set (aI bQ) 66 (.nils)),(11,List.set (aI ({ bQ with Kind:=1,Node:=v1.Node,Style:=v1.Style,Before:=v42,After:=v43,Empty:=v44 }:aj)) 66 (.ref 1054)),(440001,List.set (bt (⟨[],v26,v27⟩:bq)) 0 (.ref 440009))],[(1054,⟨44,67,lm aL v25⟩),(440009,⟨64,127,lm aY v28⟩)],[6,10,11,440001,1054,440009,1440001,440001]⟩
def Vd:AS:=⟨[(5,.ptr 5 0),(6,.ptr 6 0),(10,.ptr 10 0),(11,.ptr 11 0),(12,.sl (lm aF v9.1)),(13,.bool v9.2),(14,iI v41),(15,iI v34)],[(5,ap v1),(6,cb v2),(10,List.set (aI bQ) 66 (.nils)),(11,List.set (aI ({ bQ with Kind:=1,Node:=v1.Node,Style:=v1.Style,Before:=v42,After:=v43,Empty:=v44 }:aj)) 66 (.ref 1054)),(440001,List.set (bt (⟨[],v26,v27⟩:bq)) 0 (.ref 440009))],[(1054,⟨44,67,lm aL v25⟩),(440009,⟨64,127,lm aY v28⟩)],[5,6,10,11,440001,1054,440009,1440001,440001]⟩
def S2:AS:=⟨[(3,.bool v4),(5,.ptr 5 0),(6,.ptr 6 0),(10,.ptr 10 0),(11,.ptr 11 0),(12,.sl (lm aF v9.1)),(13,.bool v9.2),(14,iI v21),(15,iI v34),(16,.ptr 16 0),(17,.ptr 17 0),(18,.bool v22),(113,.bool v36)],[(5,ap v1),(6,cb v2),(10,List.set (aI bQ) 66 (.nils)),(11,List.set (aI ({ bQ with Kind:=1,Node:=v1.Node,Style:=v1.Style,Before:=v35,After:=v30 }:aj)) 66 (.ref 1054)),(16,cC v23),(17,cC v24),(440001,List.set (bt (⟨[],v26,v27⟩:bq)) 0 (.ref 440009))],[(1054,⟨44,67,lm aL v25⟩),(440009,⟨64,127,lm aY v28⟩)],[5,6,10,11,16,17,440001,1054,440009,1440001,440001]⟩
def So:AS:=⟨[(2,.bool v3),(3,.bool v4),(5,.ptr 5 0),(6,.ptr 6 0),(10,.ptr 10 0),(11,.ptr 11 0),(12,.sl (lm aF v9.1)),(13,.bool v9.2),(14,iI v21),(15,iI v34),(16,.ptr 16 0),(17,.ptr 17 0),(18,.bool v22)],[(5,ap v1),(6,cb v2),(10,List.set (aI bQ) 66 (.nils)),(11,List.set (aI ({ bQ with Kind:=1,Node:=v1.Node,Style:=v1.Style,Before:=v35,After:=v30 }:aj)) 66 (.ref 1054)),(16,cC v23),(17,cC v24),(440001,List.set (bt (⟨[],v26,v27⟩:bq)) 0 (.ref 440009))],[(1054,⟨44,67,lm aL v25⟩),(440009,⟨64,127,lm aY v28⟩)],[5,6,10,11,16,17,440001,1054,440009,1440001,440001]⟩
def Pb:AS:=⟨[(2,.bool v3),(3,.bool v4),(5,.ptr 5 0),(6,.ptr 6 0),(10,.ptr 10 0),(11,.ptr 11 0),(12,.sl (lm aF v9.1)),(13,.bool v9.2),(14,iI v21),(15,iI 0),(16,.ptr 16 0),(17,.ptr 17 0),(18,.bool v22),(98,.bool v32)],[(5,ap v1),(6,cb v2),(10,List.set (aI bQ) 66 (.nils)),(11,List.set (aI ({ bQ with Kind:=1,Node:=v1.Node,Style:=v1.Style,Before:=v29,After:=v30 }:aj)) 66 (.ref 1054)),(16,cC v23),(17,cC v24),(440001,List.set (bt (⟨[],v26,v27⟩:bq)) 0 (.ref 440009))],[(1054,⟨44,67,lm aL v25⟩),(440009,⟨64,127,lm aY v28⟩)],[5,6,10,11,16,17,440001,1054,440009,1440001,440001]⟩
def Vf:AS:=⟨[(2,.bool v3),(3,.bool v4),(5,.ptr 5 0),(6,.ptr 6 0),(10,.ptr 10 0),(11,.ptr 11 0),(12,.sl (lm aF v9.1)),(13,.bool v9.2),(14,iI v21),(15,iI 0),(16,.ptr 16 0),(17,.ptr 17 0),(18,.bool v22)],[(5,ap v1),(6,cb v2),(10,List.set (aI bQ) 66 (.nils)),(11,List.set (aI ({ bQ with Kind:=1,Node:=v1.Node,Style:=v1.Style }:aj)) 66 (.ref 1054)),(16,cC v23),(17,cC v24),(440001,List.set (bt (⟨[],v26,v27⟩:bq)) 0 (.ref 440009))],[(1054,⟨44,67,lm aL v25⟩),(440009,⟨64,127,lm aY v28⟩)],[5,6,10,11,16,17,440001,1054,440009,1440001,440001]⟩
def ID:AS:=⟨[(2,.bool v3),(3,.bool v4),(5,.ptr 5 0),(6,.ptr 6 0),(9,.ptr 9 0),(10,.ptr 10 0),(11,.ptr 11 0),(12,.sl (lm aF v9.1)),(13,.bool v9.2),(15,iI 0),(16,.ptr 16 0),(17,.ptr 17 0),(19,.ref 50),(36,.sl (lm aF v9.1)),(37,iI (v9.1.length:Int)),(38,iI v12)],[(5,ap v1),(6,cb v2),(9,bG v5),(10,List.set (aI bQ) 66 (.nils)),(11,List.set (aI ({ bQ with Kind:=1,Node:=v1.Node,Style:=v1.Style }:aj)) 66 (.nils)),(16,cC dg),(17,cC dg),(440001,List.set (bt (⟨[],v14,v15⟩:bq)) 0 (.ref 440009))],[(50,⟨44,67,lm aL v13⟩),(440009,⟨64,127,lm aY v16⟩)],[5,6,9,10,11,16,17,440001,50,440009,1440001,440001]⟩
abbrev Hm:Prop:=∀{v12:Int} {v13:(List aj)} {v14:Int} {v15:Int} {v16:(List aA)},L1 v12 v13 v14 v15 v16=some r→LP (pL M w0) (oK M w0 r) A8 (cat Tryz.f100 (pn 32596)) m1 (ID v1 v2 v3 v4 v5 v9 v12 v13 v14 v15 v16)
abbrev wm:Prop:=∀{v56:Int} {v57:(List aj)},L2 v56 v57=some r→LP (pL M w0) (oK M w0 r) Ed (cat Tryz.f100 (pn 1048564)) m2 (MS v1 v2 v9 v25 v26 v27 v28 v34 v42 v43 v44 v48 v49 v56 v57)
variable{M w0 r v1 v2 v3 v4 v5 v6 v7 v8 v9 v12 v13 v14 v15 v16 v21 v22 v23 v24 v25 v26 v27 v28 v29 v30 v32 v34 v35 v36 v41 v42 v43 v44 v45 v46 v47 v48 v49 v56 v57 v59 v61 v63 m1 m2 L1 L2}{K:Kn}{n:Nat}[SG w0]
theorem FO(hK:ak K)(hL2:wm M w0 r v1 v2 v9 v25 v26 v27 v28 v34 v42 v43 v44 v48 v49 m2 L2)(h:sq K n v1 v2 v9 v25 v26 v27 v28 v34 v42 v43 v44 v48 v49 v56 L2 v63=some r):gK M w0 r (.b 5::cY 8388519::pu M w0 r m2) (Yg v1 v2 v9 v25 v26 v27 v28 v34 v42 v43 v44 v48 v49 v56 v63):=by
 unfold sq at h;exact ac 2 (bc (hL2 h))
theorem MA(hK:ak K)(hL2:wm M w0 r v1 v2 v9 v25 v26 v27 v28 v34 v42 v43 v44 v48 v49 m2 L2)(h:xA K n v1 v2 v9 v25 v26 v27 v28 v34 v42 v43 v44 v48 v49 v56 v59 L2 v61=some r):gK M w0 r (cY 268432591 :: .b 5::cY 8388519::pu M w0 r m2) (aag v1 v2 v9 v25 v26 v27 v28 v34 v42 v43 v44 v48 v49 v56 v59 v61):=by
 unfold xA at h;obtain⟨h64,h⟩|⟨h64,h⟩:=am h
 ·refine ae 244 h64 (bd 2 1 (bA [6,10,11,12,13,15,24,199,200] [6,10,11,440001] [1054,440009] ?_));obtain⟨h65,h⟩:=ax h;obtain⟨v62,h66,h⟩:=bind_some h;obtain⟨h67,h⟩:=ax h;exact bw 1 (nu 245 [.ptr 11 66,.ref 1054,iI v56,.ptr 11 66,.ref 1054,iI v56,.eptr 1054 67 (v56.toNat) 0,.agg (aI (gD v59 v56)),.ptr 6 12,iI v2.Content,.agg (aI v62),.eptr 1054 67 (v56.toNat) 0]) [] [] [cV 1054 ⟨44,67,lm aL (List.set v59 v56.toNat v62)⟩] (aq (vz 6) (aR (bO 1054 67 aL (L:=v59) h65) (aR (br 44 0 aL aI (bf h67).2 (c9)) (aq (vz 2) (ag (bL 0 1 255 (Oy hK h66)) (aR (bO 1054 67 aL (L:=v59) h67) (ag (cy (m:=0) (cJ 1054 44 67 0 aL aI v62 (bf h67).2 (c9))) bz))))))) (ac 0 (FO hK hL2 h))
 ·exact ae 244 h64 (ac 2 (FO hK hL2 h))
theorem Rf(hK:ak K)(hL2:wm M w0 r v1 v2 v9 v25 v26 v27 v28 v34 v42 v43 v44 v48 v49 m2 L2)(h:sX K n v1 v2 v9 v25 v26 v27 v28 v34 v42 v43 v44 v48 v49 L2 v56 v57=some r):gK M w0 r (cY 1048564::pu M w0 r m2) (MS v1 v2 v9 v25 v26 v27 v28 v34 v42 v43 v44 v48 v49 v56 v57):=by
 unfold sX at h;refine av 6 7 3 ?_;obtain⟨h54,h⟩|⟨h54,h⟩:=am h
 ·refine ae 201 h54 (cr 18 19 5 3 7 (bA [6,10,11,12,13,15,24,199,200] [6,10,11,440001] [1054,440009] ?_));obtain⟨h55,h⟩:=ax h;obtain⟨h56,h⟩:=ax h;refine bw 1 (nu 203 [.ptr 11 66,.ref 1054,iI v56,.eptr 1054 67 (v56.toNat) 0,.eptr 1054 67 (v56.toNat) 2,iI ((gD v57 v56).X),.ptr 6 4,.ptr 6 7,iI v2.Border.a3,.ptr 6 8,.ptr 6 11,iI v2.Padding.a3,iI (aa (v2.Border.a3+v2.Padding.a3)),iI (aa (((gD v57 v56).X)+(aa (v2.Border.a3+v2.Padding.a3)))),.eptr 1054 67 (v56.toNat) 0,.eptr 1054 67 (v56.toNat) 2]) [] [] [cV 1054 ⟨44,67,lm aL (List.set v57 v56.toNat ({ (gD v57 v56)with X:=(aa (((gD v57 v56).X)+(aa (v2.Border.a3+v2.Padding.a3)))) }:aj))⟩] (aq (vz 3) (aR (bO 1054 67 aL (L:=v57) h55) (aq [.v 0 1] (aR (br 3 2 aL aI (bf h56).2 (c9)) (aq (vz 8) (ag (dm (lo:=0) (k:=2) (cu ⟨(by kernel_rfl),(cw (bO 1054 67 aL (L:=v57) h56) (by kernel_rfl))⟩ (cu ⟨(by kernel_rfl),(cw (bO 1054 67 aL (L:=(List.set v57 v56.toNat ({ (gD v57 v56)with X:=(aa (((gD v57 v56).X)+(aa (v2.Border.a3+v2.Padding.a3)))) }:aj))) h56) (by kernel_rfl))⟩ dp))) (aq [.v 0 1] (ag (cy (m:=0) (cJ 1054 44 67 2 aL aI ({ (gD v57 v56)with X:=(aa (((gD v57 v56).X)+(aa (v2.Border.a3+v2.Padding.a3)))) }:aj) (bf h56).2 (c9))) bz)))))))) ?_
  obtain⟨v58,h57,h⟩:=bF h;refine bm (ks':=cY 134216294::cY 134216295 :: .b 5::cY 8388519::pu M w0 r m2) 1 ⟨[(6,.ptr 6 0),(10,.ptr 10 0),(11,.ptr 11 0),(12,.sl (lm aF v9.1)),(13,.bool v9.2),(15,iI v34),(24,iI v56),(199,iI (v25.length:Int)),(200,iI v56)],[(6,cb v2),(10,List.set (aI bQ) 66 (.nils)),(11,List.set (aI (⟨1,v1.Node,v2.Margin.a3,0,(aa (v2.Content+v48)),v49,0,⟨#[]⟩,v1.Style,v42,v43,v44,[]⟩:aj)) 66 (.ref 1054)),(440001,List.set (bt (⟨[],v26,v27⟩:bq)) 0 (.ref 440009))],[(1054,⟨44,67,lm aL v58⟩),(440009,⟨64,127,lm aY v28⟩)],[6,10,11,440001,1054,440009,1440001,440001]⟩ ?_ (by subst h57;kernel_rfl);obtain⟨h58,h⟩:=ax h;obtain⟨h59,h⟩:=ax h;refine bw 1 (nu 219 [.ptr 11 66,.ref 1054,iI v56,.eptr 1054 67 (v56.toNat) 0,.eptr 1054 67 (v56.toNat) 3,iI ((gD v58 v56).Y),.ptr 6 4,.ptr 6 4,iI v2.Border.a0,.ptr 6 8,.ptr 6 8,iI v2.Padding.a0,iI (aa (v2.Border.a0+v2.Padding.a0)),iI v34,iI (aa ((aa (v2.Border.a0+v2.Padding.a0))+v34)),iI (aa (((gD v58 v56).Y)+(aa ((aa (v2.Border.a0+v2.Padding.a0))+v34)))),.eptr 1054 67 (v56.toNat) 0,.eptr 1054 67 (v56.toNat) 3]) [] [] [cV 1054 ⟨44,67,lm aL (List.set v58 v56.toNat ({ (gD v58 v56)with Y:=(aa (((gD v58 v56).Y)+(aa ((aa (v2.Border.a0+v2.Padding.a0))+v34)))) }:aj))⟩] (aq (vz 3) (aR (bO 1054 67 aL (L:=v58) h58) (aq [.v 0 1] (aR (br 3 3 aL aI (bf h59).2 (c9)) (aq (vz 10) (ag (dm (lo:=0) (k:=2) (cu ⟨(by kernel_rfl),(cw (bO 1054 67 aL (L:=v58) h59) (by kernel_rfl))⟩ (cu ⟨(by kernel_rfl),(cw (bO 1054 67 aL (L:=(List.set v58 v56.toNat ({ (gD v58 v56)with Y:=(aa (((gD v58 v56).Y)+(aa ((aa (v2.Border.a0+v2.Padding.a0))+v34)))) }:aj))) h59) (by kernel_rfl))⟩ dp))) (aq [.v 0 1] (ag (cy (m:=0) (cJ 1054 44 67 3 aL aI ({ (gD v58 v56)with Y:=(aa (((gD v58 v56).Y)+(aa ((aa (v2.Border.a0+v2.Padding.a0))+v34)))) }:aj) (bf h59).2 (c9))) bz)))))))) ?_
  obtain⟨v59,h60,h⟩:=bF h;refine bm (ks':=cY 268432590::cY 268432591 :: .b 5::cY 8388519::pu M w0 r m2) 1 ⟨[(6,.ptr 6 0),(10,.ptr 10 0),(11,.ptr 11 0),(12,.sl (lm aF v9.1)),(13,.bool v9.2),(15,iI v34),(24,iI v56),(199,iI (v25.length:Int)),(200,iI v56)],[(6,cb v2),(10,List.set (aI bQ) 66 (.nils)),(11,List.set (aI (⟨1,v1.Node,v2.Margin.a3,0,(aa (v2.Content+v48)),v49,0,⟨#[]⟩,v1.Style,v42,v43,v44,[]⟩:aj)) 66 (.ref 1054)),(440001,List.set (bt (⟨[],v26,v27⟩:bq)) 0 (.ref 440009))],[(1054,⟨44,67,lm aL v59⟩),(440009,⟨64,127,lm aY v28⟩)],[6,10,11,440001,1054,440009,1440001,440001]⟩ ?_ (by subst h60;kernel_rfl);refine ai 2 ?_;obtain⟨h61,h⟩|⟨h61,h⟩:=am h
  ·refine aC 238 h61 (aO 4 2 ?_);obtain⟨h62,h⟩:=ax h;refine au (bu aF ap h62 (dE) (cX)) (aO 6 1 ?_);obtain⟨v60,h63,h⟩:=bind_some h;exact aP (Md hK h63) (ab (ac 0 (MA hK hL2 h)))
  ·exact aC 238 h61 (ab (ac 0 (MA hK hL2 h)))
 ·refine ae 201 h54 (aJ 8 (eX 1054 ?_));cases h;exact dD
theorem W7(hK:ak K)(m:Nat):wm M w0 r v1 v2 v9 v25 v26 v27 v28 v34 v42 v43 v44 v48 v49 m (vJ K n v1 v2 v9 v25 v26 v27 v28 v34 v42 v43 v44 v48 v49 m):=by
 induction m with
 | zero=>intro v56 v57 h;cases h
 | succ m ih=>intro v56 v57 h;have h:sX K n v1 v2 v9 v25 v26 v27 v28 v34 v42 v43 v44 v48 v49 (vJ K n v1 v2 v9 v25 v26 v27 v28 v34 v42 v43 v44 v48 v49 m) v56 v57=some r:=h;exact aZ (Rf hK ih h)
theorem JE(hK:ak K)(h:th K n v1 v2 v9 v25 v26 v27 v28 v34 v42 v43 v44 v47=some r):gK M w0 r [cY 8191] (PE v1 v2 v9 v25 v26 v27 v28 v34 v42 v43 v44 v47):=by
 unfold th at h;refine av 6 7 3 (bA [6,10,11,12,13,14,15] [6,10,11,440001] [1054,440009] ?_);obtain⟨v48,h38,h⟩:=bind_some h;refine bw 1 (nu 173 [.ptr 6 12,iI v2.Content,.agg (cb v2),iI v48,iI (aa (v2.Content+v48)),.ptr 11 4]) [] [] [bS Tryz.prog 259 Tryz.f100 (pn 32766) 6] (aq (vz 3) (ag (bL 0 1 176 (aal hK h38)) (aq (vz 2) (ag (bU 0) bz)))) ?_;obtain⟨v49,h39,h⟩:=bF h;refine bm (ks':=[cY 262140,cY 262141,cY 131071]) 4 ⟨[(6,.ptr 6 0),(10,.ptr 10 0),(11,.ptr 11 0),(12,.sl (lm aF v9.1)),(13,.bool v9.2),(15,iI v34)],[(6,cb v2),(10,List.set (aI bQ) 66 (.nils)),(11,List.set (aI (⟨1,v1.Node,v2.Margin.a3,0,(aa (v2.Content+v48)),v49,0,⟨#[]⟩,v1.Style,v42,v43,v44,[]⟩:aj)) 66 (.ref 1054)),(440001,List.set (bt (⟨[],v26,v27⟩:bq)) 0 (.ref 440009))],[(1054,⟨44,67,lm aL v25⟩),(440009,⟨64,127,lm aY v28⟩)],[6,10,11,440001,1054,440009,1440001,440001]⟩ ?_ (by subst h39;kernel_rfl);exact ai 2 (au (bj aL v25) (ab (ac 1 (bK (p:=pn 524282) n (W7 hK n h)))))
theorem IG(hK:ak K)(h:vr K n v1 v2 v9 v25 v26 v27 v28 v34 v41 v42 v43 v44 v45 v46=some r):gK M w0 r [cY 32763,cY 8191] (Zh v1 v2 v9 v25 v26 v27 v28 v34 v41 v42 v43 v44 v45 v46):=by
 unfold vr at h;obtain⟨h37,h⟩|⟨h37,h⟩:=am h
 ·exact ae 166 h37 (ac 2 (JE hK h))
 ·exact ae 166 h37 (ac 2 (JE hK h))
theorem pK(hK:ak K)(h:lG K n v1 v2 v9 v25 v26 v27 v28 v34 v41 v42 v43 v44=some r):gK M w0 r [.b 3,cY 2047] (Vd v1 v2 v9 v25 v26 v27 v28 v34 v41 v42 v43 v44):=by
 unfold lG at h;refine ju 12 13 7 5 (ai 3 ?_);obtain⟨v45,h35,h⟩:=bind_some h;refine aP (di hK h35) (ab (av 2 3 1 (ai 2 ?_)));obtain⟨h36,h⟩|⟨h36,h⟩:=am h
 ·exact aC 160 h36 (ab (ac 0 (IG hK h)))
 ·exact aC 160 h36 (ab (ac 0 (IG hK h)))
theorem Bg(hK:ak K)(h:ph K n v1 v2 v4 v9 v21 v22 v23 v24 v25 v26 v27 v28 v30 v34 v35 v36=some r):gK M w0 r [cY 8185,.b 3,cY 2047] (S2 v1 v2 v4 v9 v21 v22 v23 v24 v25 v26 v27 v28 v30 v34 v35 v36):=by
 unfold ph at h;obtain⟨h27,h⟩|⟨h27,h⟩:=am h
 ·refine ae 113 h27 (av 4 5 2 (ai 4 ?_));obtain⟨v37,h28,h⟩:=bind_some h;exact aP (nR hK h28) (ab (ac 5 (pK hK h)))
 ·refine ae 113 h27 (bd 7 3 ?_);obtain⟨h29,h⟩|⟨h29,h⟩:=am h
  ·refine ae 131 h29 (bd 11 5 ?_);obtain⟨h30,h⟩|⟨h30,h⟩:=am h
   ·refine ae 134 h30 (bd 2 1 (ai 3 ?_));obtain⟨v38,h31,h⟩:=bind_some h;exact aP (nR hK h31) (ab (ac 0 (pK hK h)))
   ·exact ae 134 h30 (ac 2 (pK hK h))
  ·refine ae 131 h29 (bd 7 3 ?_);obtain⟨h32,h⟩|⟨h32,h⟩:=am h
   ·refine ae 140 h32 (av 4 5 2 (ai 3 ?_));obtain⟨v39,h33,h⟩:=bind_some h;exact aP (nR hK h33) (ab (ac 1 (pK hK h)))
   ·refine ae 140 h32 (bd 3 1 (ai 3 ?_));obtain⟨v40,h34,h⟩:=bind_some h;exact aP (jl hK h34) (ab (ac 0 (pK hK h)))
theorem Ew(hK:ak K)(h:ow K n v1 v2 v3 v4 v9 v21 v22 v23 v24 v25 v26 v27 v28 v30 v34 v35=some r):gK M w0 r [.b 2,cY 1023] (So v1 v2 v3 v4 v9 v21 v22 v23 v24 v25 v26 v27 v28 v30 v34 v35):=by
 unfold ow at h;refine cr 8 9 3 3 4 (ai 2 ?_);obtain⟨h25,h⟩|⟨h25,h⟩:=am h
 ·refine aC 115 h25 (aO 5 3 ?_);obtain⟨h26,h⟩|⟨h26,h⟩:=am h
  ·exact aC 118 h26 (ab (ac 0 (Bg hK h)))
  ·exact aC 118 h26 (ab (ac 0 (Bg hK h)))
 ·exact aC 115 h25 (ab (ac 0 (Bg hK h)))
theorem Hz(hK:ak K)(h:vK K n v1 v2 v3 v4 v9 v21 v22 v23 v24 v25 v26 v27 v28 v29 v30 v32=some r):gK M w0 r [cY 16359,.b 2,cY 1023] (Pb v1 v2 v3 v4 v9 v21 v22 v23 v24 v25 v26 v27 v28 v29 v30 v32):=by
 unfold vK at h;obtain⟨h23,h⟩|⟨h23,h⟩:=am h
 ·refine ae 98 h23 (bd 2 1 (ai 1 ?_));obtain⟨v33,h24,h⟩:=bind_some h;exact aP (jl hK h24) (ab (ac 0 (Ew hK h)))
 ·exact ae 98 h23 (ac 2 (Ew hK h))
theorem G3(hK:ak K)(h:wQ K n v1 v2 v3 v4 v9 v21 v22 v23 v24 v25 v26 v27 v28=some r):gK M w0 r [cY 255] (Vf v1 v2 v3 v4 v9 v21 v22 v23 v24 v25 v26 v27 v28):=by
 unfold wQ at h;refine av 2 3 1 (bA [2,3,5,6,10,11,12,13,14,15,16,17,18] [5,6,10,11,16,17,440001] [1054,440009] ?_);obtain⟨v29,h18,h⟩:=bind_some h;obtain⟨v30,h19,h⟩:=bind_some h;refine bw 2 (nu 81 [.ptr 6 0,.ptr 6 0,iI v2.Margin.a0,.agg (cC v29),.ptr 6 0,.ptr 6 2,iI v2.Margin.a2,.agg (cC v30),.ptr 11 61,.ptr 11 63]) [] [] [bS Tryz.prog 259 Tryz.f100 (pn 510) 9,bS Tryz.prog 259 Tryz.f100 (pn 510) 11] (aq (vz 3) (ag (bL 0 1 84 (uG hK h18)) (aq [.v 0 2,.v 0 2,.v 0 2] (ag (bL 0 1 88 (uG hK h19)) (aq [.v 0 1] (ag (bU 0) (aq [.v 1 1] (ag (bU 1) bz)))))))) (eU 9 2 3 4 ?_);obtain⟨h20,h⟩|⟨h20,h⟩:=am h
 ·refine ae 91 h20 (bd 2 1 (ai 3 ?_));obtain⟨v31,h21,h⟩:=bind_some h;exact aP (nR hK h21) (ab (ac 0 (Ew hK h)))
 ·refine ae 91 h20 (av 6 7 2 (ai 3 ?_));obtain⟨h22,h⟩|⟨h22,h⟩:=am h
  ·exact aC 101 h22 (ab (ac 0 (Hz hK h)))
  ·exact aC 101 h22 (ab (ac 0 (Hz hK h)))
theorem Qx(hK:ak K)(hL1:Hm M w0 r v1 v2 v3 v4 v5 v9 m1 L1)(h:xv K n v1 v2 v3 v4 v5 v9 L1 v12 v13 v14 v15 v16=some r):gK M w0 r (cY 32596::ZQ M w0 r m1) (ID v1 v2 v3 v4 v5 v9 v12 v13 v14 v15 v16):=by
 unfold xv at h;refine av 6 7 3 ?_;obtain⟨h11,h⟩|⟨h11,h⟩:=am h
 ·refine ae 39 h11 (cr 8 9 1 3 5 (ai 0 ?_));obtain⟨h12,h⟩:=ax h;refine au (bu aF ap h12 (dE) (cX)) (ab (ai 6 ?_));obtain⟨v17,h13,h⟩:=bind_some h;refine kh (hK.gR h13).2 ?_ (hK.gR h13).1;refine au (eJ aL ([v17.1]:List aj) (new:=[aI v17.1]) (by simp only[List.map_cons,List.map_nil,c9])) ?_;obtain⟨h14,h⟩:=ax h;exact au (cc 50 50 44 67 aL (rfl) (hZ) h14) (ab (ac 2 (bc (hL1 h))))
 ·refine ae 39 h11 (bM (ks':=[cY 4075,cY 255]) 5 (ai 1 (iV 50 ?_)));obtain⟨v18,h15,h⟩:=bind_some h;exact dI 1054 (S4 hK h15) (vq (i:=0) rfl) (ab (ac 0 (G3 hK h)))
theorem Ux(hK:ak K)(m:Nat):Hm M w0 r v1 v2 v3 v4 v5 v9 m (vM K n v1 v2 v3 v4 v5 v9 m):=by
 induction m with
 | zero=>intro v12 v13 v14 v15 v16 h;cases h
 | succ m ih=>intro v12 v13 v14 v15 v16 h;have h:xv K n v1 v2 v3 v4 v5 v9 (vM K n v1 v2 v3 v4 v5 v9 m) v12 v13 v14 v15 v16=some r:=h;exact aZ (Qx hK ih h)
theorem K8(hK:ak K)(h:vk K n v1 v2 v3 v4 v5 v6 v7 v8=some r):dA Tryz.prog 100 [.agg (ap v1),.agg (cb v2),.bool v3,.bool v4,.agg (bG v5)] [(440001,List.set (bt (⟨[],v6,v7⟩:bq)) 0 (.ref 440009))] ⟨64,127,lm aY v8⟩ (fun v s=>v=.agg (aI r.1)∧bW s.o [(440001,List.set (bt (⟨[],r.2.1,r.2.2.1⟩:bq)) 0 (.ref 440009))]∧look 440009 s.r=some ⟨64,127,lm aY r.2.2.2⟩):=by
 refine fZ (c:=cat Tryz.f100 []) Tryz.func100 (by kernel_rfl) _ Tryz.ntmps100 (of_decide_eq_true (by kernel_rfl)) fun M w0=>(ba ⟨[(0,.agg (ap v1)),(1,.agg (cb v2)),(2,.bool v3),(3,.bool v4),(4,.agg (bG v5))],[(440001,List.set (bt (⟨[],v6,v7⟩:bq)) 0 (.ref 440009))],[(440009,⟨64,127,lm aY v8⟩)],[440009,440001,1440001]⟩ ?_);unfold vk at h;refine bM (ks':=[cY 14,cY 15]) 5 (ai 1 ?_);obtain⟨v9,h1,h⟩:=bind_some h;refine aP (HP hK h1) (ab (av 61 31 9 ?_));obtain⟨h2,h⟩|⟨h2,h⟩:=am h
 ·exact ae 35 h2 (bN 20 21 11 5 (ai 1 (au (bj aF v9.1) (ab (eW 2 0 1 (bA [2,3,5,6,9,10,11,12,13,15,16,17,19,36,37,38] [5,6,9,10,11,16,17,440001] [440009] (dw 50 19 44 67 (ac 0 (bK (p:=pn 16298) n (Ux hK n h))))))))))
 ·refine ae 35 h2 (av 6 7 2 (ai 7 ?_));obtain⟨v19,h16,h⟩:=bind_some h;refine hF (hK.yv h16) (ab (av 2 3 1 (ai 2 ?_)));obtain⟨v20,h17,h⟩:=bind_some h;exact dI 1075 (zC hK h17) (dt 5) (ab (ai 2 (au (bj aL v20) (ab (bA [2,3,5,6,10,11,12,13,14,15,16,17,18] [5,6,10,11,16,17,440001] [1075,440009] (lx 1075 1054 (ac 0 (G3 hK h))))))))
end
noncomputable section
variable[GS](M:Nat→Prop)(w0:aB)(r:aj×Int×Int×(List aA))(v1:ah)(v2:Int)(v3:bH)(v4 v5:Int)(v6:List aA)(v7:cj)(v8 v9:Bool)  
abbrev yH(n:Nat):ao:=.c (cat Tryz.f47 (pn n))
abbrev Vj:Cx:=⟨Tryz.prog,58,M,w0⟩
abbrev Wq:=bodyPost Tryz.prog Tryz.f47 (bC M w0 (fun v s=>v=.agg (aI r.1)∧bW s.o [(440001,List.set (bt (⟨[],r.2.1,r.2.2.1⟩:bq)) 0 (.ref 440009))]∧look 440009 s.r=some ⟨64,127,lm aY r.2.2.2⟩))
abbrev HW(ks:List ao)(s:AS):=VE (Vj M w0) (Wq M w0 r) ks .normal s
def ZN:AS:=⟨[(3,.ptr 3 0),(5,.ptr 5 0),(6,.ptr 6 0),(7,.ptr 7 0),(9,.bool v8),(10,.bool v9)],[(3,ap v1),(5,bG v3),(6,List.set (aI bQ) 66 (.nils)),(7,cb v7),(440001,List.set (bt (⟨[],v4,v5⟩:bq)) 0 (.ref 440009))],[(440009,⟨64,127,lm aY v6⟩)],[3,5,6,7,440001,440009,1440001,440001]⟩
def YX:AS:=⟨[(3,.ptr 3 0),(5,.ptr 5 0),(6,.ptr 6 0),(7,.ptr 7 0),(8,.bool (v1.Style.Overflow == 0)),(9,.bool v8)],[(3,ap v1),(5,bG v3),(6,List.set (aI bQ) 66 (.nils)),(7,cb v7),(440001,List.set (bt (⟨[],v4,v5⟩:bq)) 0 (.ref 440009))],[(440009,⟨64,127,lm aY v6⟩)],[3,5,6,7,440001,440009,1440001,440001]⟩
variable{M w0 r v1 v2 v3 v4 v5 v6 v7 v8 v9}{K:Kn}{n:Nat}[SG w0]
theorem y3(hK:ak K)(h:nF K n v1 v3 v4 v5 v6 v7 v8 v9=some r):HW M w0 r [yH 63] (ZN v1 v3 v4 v5 v6 v7 v8 v9):=by
 unfold nF at h;refine av 2 3 1 (ai 5 ?_);obtain⟨v10,h7,h⟩:=bind_some h;refine kh (K8 hK h7) (ab (aJ 1 ?_));cases h;exact dD
theorem D8(hK:ak K)(h:ol K n v1 v3 v4 v5 v6 v7 v8=some r):HW M w0 r [yH 31] (YX v1 v3 v4 v5 v6 v7 v8):=by
 unfold ol at h;refine av 2 3 1 (ai 2 ?_);obtain⟨h4,h⟩|⟨h4,h⟩:=am h
 ·refine aC 33 h4 (aO 8 6 ?_);obtain⟨h5,h⟩|⟨h5,h⟩:=am h
  ·refine aC 39 h5 (aO 14 6 ?_);obtain⟨h6,h⟩|⟨h6,h⟩:=am h
   ·exact aC 45 h6 (ab (ac 0 (y3 hK h)))
   ·exact aC 45 h6 (ab (ac 0 (y3 hK h)))
  ·exact aC 39 h5 (ab (ac 0 (y3 hK h)))
 ·exact aC 33 h4 (ab (ac 0 (y3 hK h)))
theorem Xj(hK:ak K)(h:AF K n v1 v2 v3 v4 v5 v6=some r):dA Tryz.prog 47 [.agg (ap v1),iI v2,.agg (bG v3)] [(440001,List.set (bt (⟨[],v4,v5⟩:bq)) 0 (.ref 440009))] ⟨64,127,lm aY v6⟩ (fun v s=>v=.agg (aI r.1)∧bW s.o [(440001,List.set (bt (⟨[],r.2.1,r.2.2.1⟩:bq)) 0 (.ref 440009))]∧look 440009 s.r=some ⟨64,127,lm aY r.2.2.2⟩):=by
 refine fZ (c:=cat Tryz.f47 []) Tryz.func47 (by kernel_rfl) _ Tryz.ntmps47 (of_decide_eq_true (by kernel_rfl)) fun M w0=>(ba ⟨[(0,.agg (ap v1)),(1,iI v2),(2,.agg (bG v3))],[(440001,List.set (bt (⟨[],v4,v5⟩:bq)) 0 (.ref 440009))],[(440009,⟨64,127,lm aY v6⟩)],[440009,440001,1440001]⟩ ?_);unfold AF at h;refine bM (ks':=[yH 6,yH 7]) 3 (ai 3 ?_);obtain⟨v7,h1,h⟩:=bind_some h;refine aP (AD hK h1) (ab (av 6 7 3 (ai 2 ?_)));obtain⟨h2,h⟩|⟨h2,h⟩:=am h
 ·refine aC 20 h2 (aO 8 6 ?_);obtain⟨h3,h⟩|⟨h3,h⟩:=am h
  ·exact aC 26 h3 (ab (ac 0 (D8 hK h)))
  ·exact aC 26 h3 (ab (ac 0 (D8 hK h)))
 ·exact aC 20 h2 (ab (ac 0 (D8 hK h)))
end
noncomputable section
variable[GS](M:Nat→Prop)(w0:aB)(r:aj×Int×Int×(List aA))(v1:ah)(v2:Int)(v3:Bool)(v4:bH)(v5:Bool)(v6 v7:Int)(v8:List aA)(v10 v11:Int)(v12:List aA)(v15:aj)(v16 v17:Int)(v18:List aA)(v20 v21:Int)(v22:List aA)  
abbrev lW(n:Nat):ao:=.c (cat Tryz.f43 (pn n))
abbrev UL:Cx:=⟨Tryz.prog,54,M,w0⟩
abbrev Sl:=bodyPost Tryz.prog Tryz.f43 (bC M w0 (fun v s=>v=.agg (aI r.1)∧bW s.o [(440001,List.set (bt (⟨[],r.2.1,r.2.2.1⟩:bq)) 0 (.ref 440009))]∧look 440009 s.r=some ⟨64,127,lm aY r.2.2.2⟩))
abbrev BL(ks:List ao)(s:AS):=VE (UL M w0) (Sl M w0 r) ks .normal s
def Zi:AS:=⟨[(7,.ptr 7 0),(10,.ptr 10 0)],[(7,List.set (aI bQ) 66 (.nils)),(10,aI v15),(440001,List.set (bt (⟨[],v20,v21⟩:bq)) 0 (.ref 440009))],[(440009,⟨64,127,lm aY v22⟩)],[7,10,440001,440009,1440001,440001]⟩
def aau:AS:=⟨[(1,iI v2),(4,.cptr ([dj 37 v5])),(5,.ptr 5 0),(7,.ptr 7 0),(10,.ptr 10 0)],[(5,ap v1),(7,List.set (aI bQ) 66 (.nils)),(10,aI v15),(440001,List.set (bt (⟨[],v16,v17⟩:bq)) 0 (.ref 440009))],[(440009,⟨64,127,lm aY v18⟩)],[5,7,10,440001,440009,1440001,440001]⟩
def QB:AS:=⟨[(1,iI v2),(3,.cptr (bG v4)),(4,.cptr ([dj 37 v5])),(5,.ptr 5 0),(7,.ptr 7 0)],[(5,ap v1),(7,List.set (aI bQ) 66 (.nils)),(440001,List.set (bt (⟨[],v10,v11⟩:bq)) 0 (.ref 440009))],[(440009,⟨64,127,lm aY v12⟩)],[5,7,440001,440009,1440001,440001]⟩
variable{M w0 r v1 v2 v3 v4 v5 v6 v7 v8 v10 v11 v12 v15 v16 v17 v18 v20 v21 v22}{K:Kn}{n:Nat}[SG w0]
theorem Ni(hK:ak K)(h:ux K n v15 v20 v21 v22=some r):BL M w0 r [lW 63] (Zi v15 v20 v21 v22):=by
 unfold ux at h;refine aJ 3 ?_;cases h;exact dD
theorem IW(hK:ak K)(h:tq K n v1 v2 v5 v15 v16 v17 v18=some r):BL M w0 r [.b 0,lW 31] (aau v1 v2 v5 v15 v16 v17 v18):=by
 unfold tq at h;refine ju 4 5 3 3 (ai 1 (IY 37 v5 .neq 89 89 (.tmp 46) (.const .nilFunc) 47 (ab ?_)));obtain⟨h10,h⟩|⟨h10,h⟩:=am h
 ·refine ae 47 h10 (bd 2 1 (ai 4 ?_));obtain⟨h12,h⟩:=ax h;obtain⟨v19,h11,h⟩:=bind_some h;exact y7 48 (v:=dj 37 v5) (v':=.vv (fz 37 GS.g)) (by kernel_rfl) (by rw[h12];rfl) rfl (I7 (Xw hK h11) (ab (ac 0 (Ni hK h))))
 ·exact ae 47 h10 (ac 2 (Ni hK h))
theorem Nr(hK:ak K)(h:uB K n v1 v2 v4 v5 v10 v11 v12=some r):BL M w0 r [lW 7] (QB v1 v2 v4 v5 v10 v11 v12):=by
 unfold uB at h;refine eU 53 0 7 8 ?_;obtain⟨h5,h⟩|⟨h5,h⟩:=am h
 ·refine ae 28 h5 (bd 2 1 (ai 3 ?_));obtain⟨v13,h6,h⟩:=bind_some h;exact kh (X2 hK h6) (ab (ac 0 (IW hK h)))
 ·refine ae 28 h5 (bd 7 3 ?_);obtain⟨h7,h⟩|⟨h7,h⟩:=am h
  ·refine ae 34 h7 ?_;cases h
  ·refine ae 34 h7 (bd 7 3 ?_);obtain⟨h8,h⟩|⟨h8,h⟩:=am h
   ·refine ae 40 h8 ?_;cases h
   ·refine ae 40 h8 (bd 3 1 (ai 3 ?_));obtain⟨v14,h9,h⟩:=bind_some h;exact kh (Xj hK h9) (ab (ac 0 (IW hK h)))
theorem QL(hK:ak K)(h:BP K n v1 v2 v3 v4 v5 v6 v7 v8=some r):dA Tryz.prog 43 [.agg (ap v1),iI v2,.cptr ([dj 36 v3]),.cptr (bG v4),.cptr ([dj 37 v5])] [(440001,List.set (bt (⟨[],v6,v7⟩:bq)) 0 (.ref 440009))] ⟨64,127,lm aY v8⟩ (fun v s=>v=.agg (aI r.1)∧bW s.o [(440001,List.set (bt (⟨[],r.2.1,r.2.2.1⟩:bq)) 0 (.ref 440009))]∧look 440009 s.r=some ⟨64,127,lm aY r.2.2.2⟩):=by
 refine fZ (c:=cat Tryz.f43 []) Tryz.func43 (by kernel_rfl) _ Tryz.ntmps43 (of_decide_eq_true (by kernel_rfl)) fun M w0=>(ba ⟨[(0,.agg (ap v1)),(1,iI v2),(2,.cptr ([dj 36 v3])),(3,.cptr (bG v4)),(4,.cptr ([dj 37 v5]))],[(440001,List.set (bt (⟨[],v6,v7⟩:bq)) 0 (.ref 440009))],[(440009,⟨64,127,lm aY v8⟩)],[440009,440001,1440001]⟩ ?_);unfold BP at h;refine bM (ks':=[lW 12,lW 13,lW 7]) 4 (ai 1 (IY 36 v3 .neq 66 66 (.tmp 11) (.const .nilFunc) 12 (ab ?_)));obtain⟨h1,h⟩|⟨h1,h⟩:=am h
 ·refine ae 12 h1 (av 4 5 2 (ai 3 ?_));obtain⟨h3,h⟩:=ax h;obtain⟨v9,h2,h⟩:=bind_some h;refine y7 14 (v:=dj 36 v3) (v':=.vv (fz 36 GS.g)) (by kernel_rfl) (by rw[h3];rfl) rfl (I7 (Vk hK h2) (ab (bd 3 2 ?_)));obtain⟨h4,h⟩|⟨h4,h⟩:=am h
  ·refine ae 20 h4 (aJ 5 ?_);cases h;exact dD
  ·exact ae 20 h4 (ac 2 (Nr hK h))
 ·exact ae 12 h1 (ac 2 (Nr hK h))
end
noncomputable section
variable[GS](M:Nat→Prop)(w0:aB)(r v1:aX)(v2:Nat)(v3 v4 v5 v6 v7 v8 v9 v10 v11 v12 v13:aX)  
abbrev dv(n:Nat):ao:=.c (cat Tryz.f101 (pn n))
abbrev DL:Cx:=⟨Tryz.prog,40,M,w0⟩
abbrev BF:=bodyPost Tryz.prog Tryz.f101 (bC M w0 (fun v _=>v=.agg (aE r)))
abbrev gM(ks:List ao)(s:AS):=VE (DL M w0) (BF M w0 r) ks .normal s
def aaq:AS:=⟨[(1,.pp 1 v2 0),(2,.ptr 2 0),(24,.ref 10),(25,iI 11),(26,iI 10)],[(1,aE v13),(2,aE cg)],[(10,⟨201,1,lm aV [(v2,6),(v2,10),(v2,12),(v2,14),(v2,22),(v2,16),(v2,24),(v2,18),(v2,26),(v2,20),(v2,28)]⟩)],[1,2,10]⟩
def TP:AS:=⟨[(1,.pp 1 v2 0),(2,.ptr 2 0),(24,.ref 10),(25,iI 11),(26,iI 9)],[(1,aE v12),(2,aE cg)],[(10,⟨201,1,lm aV [(v2,6),(v2,10),(v2,12),(v2,14),(v2,22),(v2,16),(v2,24),(v2,18),(v2,26),(v2,20),(v2,28)]⟩)],[1,2,10]⟩
def Se:AS:=⟨[(1,.pp 1 v2 0),(2,.ptr 2 0),(24,.ref 10),(25,iI 11),(26,iI 8)],[(1,aE v11),(2,aE cg)],[(10,⟨201,1,lm aV [(v2,6),(v2,10),(v2,12),(v2,14),(v2,22),(v2,16),(v2,24),(v2,18),(v2,26),(v2,20),(v2,28)]⟩)],[1,2,10]⟩
def RI:AS:=⟨[(1,.pp 1 v2 0),(2,.ptr 2 0),(24,.ref 10),(25,iI 11),(26,iI 7)],[(1,aE v10),(2,aE cg)],[(10,⟨201,1,lm aV [(v2,6),(v2,10),(v2,12),(v2,14),(v2,22),(v2,16),(v2,24),(v2,18),(v2,26),(v2,20),(v2,28)]⟩)],[1,2,10]⟩
def ZB:AS:=⟨[(1,.pp 1 v2 0),(2,.ptr 2 0),(24,.ref 10),(25,iI 11),(26,iI 6)],[(1,aE v9),(2,aE cg)],[(10,⟨201,1,lm aV [(v2,6),(v2,10),(v2,12),(v2,14),(v2,22),(v2,16),(v2,24),(v2,18),(v2,26),(v2,20),(v2,28)]⟩)],[1,2,10]⟩
def OJ:AS:=⟨[(1,.pp 1 v2 0),(2,.ptr 2 0),(24,.ref 10),(25,iI 11),(26,iI 5)],[(1,aE v8),(2,aE cg)],[(10,⟨201,1,lm aV [(v2,6),(v2,10),(v2,12),(v2,14),(v2,22),(v2,16),(v2,24),(v2,18),(v2,26),(v2,20),(v2,28)]⟩)],[1,2,10]⟩
def SO:AS:=⟨[(1,.pp 1 v2 0),(2,.ptr 2 0),(24,.ref 10),(25,iI 11),(26,iI 4)],[(1,aE v7),(2,aE cg)],[(10,⟨201,1,lm aV [(v2,6),(v2,10),(v2,12),(v2,14),(v2,22),(v2,16),(v2,24),(v2,18),(v2,26),(v2,20),(v2,28)]⟩)],[1,2,10]⟩
def QN:AS:=⟨[(1,.pp 1 v2 0),(2,.ptr 2 0),(24,.ref 10),(25,iI 11),(26,iI 3)],[(1,aE v6),(2,aE cg)],[(10,⟨201,1,lm aV [(v2,6),(v2,10),(v2,12),(v2,14),(v2,22),(v2,16),(v2,24),(v2,18),(v2,26),(v2,20),(v2,28)]⟩)],[1,2,10]⟩
def Sr:AS:=⟨[(1,.pp 1 v2 0),(2,.ptr 2 0),(24,.ref 10),(25,iI 11),(26,iI 2)],[(1,aE v5),(2,aE cg)],[(10,⟨201,1,lm aV [(v2,6),(v2,10),(v2,12),(v2,14),(v2,22),(v2,16),(v2,24),(v2,18),(v2,26),(v2,20),(v2,28)]⟩)],[1,2,10]⟩
def Ue:AS:=⟨[(1,.pp 1 v2 0),(2,.ptr 2 0),(24,.ref 10),(25,iI 11),(26,iI 1)],[(1,aE v4),(2,aE cg)],[(10,⟨201,1,lm aV [(v2,6),(v2,10),(v2,12),(v2,14),(v2,22),(v2,16),(v2,24),(v2,18),(v2,26),(v2,20),(v2,28)]⟩)],[1,2,10]⟩
def Pf:AS:=⟨[(1,.pp 1 v2 0),(2,.ptr 2 0),(24,.ref 10),(25,iI 11),(26,iI 0)],[(1,aE v3),(2,aE cg)],[(10,⟨201,1,lm aV [(v2,6),(v2,10),(v2,12),(v2,14),(v2,22),(v2,16),(v2,24),(v2,18),(v2,26),(v2,20),(v2,28)]⟩)],[1,2,10]⟩
abbrev dK(m:Nat):List ao:=kl (DL M w0) (BF M w0 r) [.b 2,dv 31] (cat Tryz.f101 (pn 244)) m::[.b 2,dv 31]
abbrev oZ(m:Nat):List ao:=kl (DL M w0) (BF M w0 r) [.b 0,dv 15] (cat Tryz.f101 (pn 116)) m::[.b 0,dv 15]
variable{M w0 r v1 v2 v3 v4 v5 v6 v7 v8 v9 v10 v11 v12 v13}{K:Kn}{n:Nat}
theorem Jc(hK:ak K)(h:xK K n v13=some r):gM M w0 r (.b 3::dv 1959::dK M w0 r 29) (aaq v2 v13):=by
 unfold xK at h;refine bm (ks':=dK M w0 r 29) 2 ⟨[(1,.pp 1 v2 0),(2,.ptr 2 0),(24,.ref 10),(25,iI 11),(26,iI 11)],[(1,aE v13),(2,aE cg)],[(10,⟨201,1,lm aV [(v2,6),(v2,10),(v2,12),(v2,14),(v2,22),(v2,16),(v2,24),(v2,18),(v2,26),(v2,20),(v2,28)]⟩)],[1,2,10]⟩ (bc (aZ (aJ 11 ?_)));cases h;exact bp
theorem I1(hK:ak K)(h:uw K n v12=some r):gM M w0 r (.b 3::dv 1959::dK M w0 r 30) (TP v2 v12):=by
 unfold uw at h;refine bm (ks':=dK M w0 r 30) 2 ⟨[(1,.pp 1 v2 0),(2,.ptr 2 0),(24,.ref 10),(25,iI 11),(26,iI 10)],[(1,aE v12),(2,aE cg)],[(10,⟨201,1,lm aV [(v2,6),(v2,10),(v2,12),(v2,14),(v2,22),(v2,16),(v2,24),(v2,18),(v2,26),(v2,20),(v2,28)]⟩)],[1,2,10]⟩ (bc (aZ (cU 56 57 3 15 8 (ai 0 (au (ca 10 1 aV (L:=([(v2,6),(v2,10),(v2,12),(v2,14),(v2,22),(v2,16),(v2,24),(v2,18),(v2,26),(v2,20),(v2,28)]:List (Nat×Nat))) (i:=(10:Int)) (by kernel_rfl)) (au (br 201 0 aV aV (L:=([(v2,6),(v2,10),(v2,12),(v2,14),(v2,22),(v2,16),(v2,24),(v2,18),(v2,26),(v2,20),(v2,28)]:List (Nat×Nat))) (j:=(10:Int).toNat) (of_decide_eq_true (by kernel_rfl)) ((fun _=>rfl))) (ab (av 2 3 1 (ai 3 (cF 32 1 1 v2 28 0 (ab ?_)))))))))));obtain⟨h11,h⟩|⟨h11,h⟩:=am h
 ·exact ae 34 h11 (bd 2 1 (ai 3 (cF 37 1 1 v2 28 0 (ab (ac 0 (Jc hK (v2:=v2) h))))))
 ·exact ae 34 h11 (ac 2 (Jc hK (v2:=v2) h))
theorem H7(hK:ak K)(h:sQ K n v11=some r):gM M w0 r (.b 3::dv 1959::dK M w0 r 31) (Se v2 v11):=by
 unfold sQ at h;refine bm (ks':=dK M w0 r 31) 2 ⟨[(1,.pp 1 v2 0),(2,.ptr 2 0),(24,.ref 10),(25,iI 11),(26,iI 9)],[(1,aE v11),(2,aE cg)],[(10,⟨201,1,lm aV [(v2,6),(v2,10),(v2,12),(v2,14),(v2,22),(v2,16),(v2,24),(v2,18),(v2,26),(v2,20),(v2,28)]⟩)],[1,2,10]⟩ (bc (aZ (cU 56 57 3 15 8 (ai 0 (au (ca 10 1 aV (L:=([(v2,6),(v2,10),(v2,12),(v2,14),(v2,22),(v2,16),(v2,24),(v2,18),(v2,26),(v2,20),(v2,28)]:List (Nat×Nat))) (i:=(9:Int)) (by kernel_rfl)) (au (br 201 0 aV aV (L:=([(v2,6),(v2,10),(v2,12),(v2,14),(v2,22),(v2,16),(v2,24),(v2,18),(v2,26),(v2,20),(v2,28)]:List (Nat×Nat))) (j:=(9:Int).toNat) (of_decide_eq_true (by kernel_rfl)) ((fun _=>rfl))) (ab (av 2 3 1 (ai 3 (cF 32 1 1 v2 20 0 (ab ?_)))))))))));obtain⟨h10,h⟩|⟨h10,h⟩:=am h
 ·exact ae 34 h10 (bd 2 1 (ai 3 (cF 37 1 1 v2 20 0 (ab (ac 0 (I1 hK (v2:=v2) h))))))
 ·exact ae 34 h10 (ac 2 (I1 hK (v2:=v2) h))
theorem H9(hK:ak K)(h:vV K n v10=some r):gM M w0 r (.b 3::dv 1959::dK M w0 r 32) (RI v2 v10):=by
 unfold vV at h;refine bm (ks':=dK M w0 r 32) 2 ⟨[(1,.pp 1 v2 0),(2,.ptr 2 0),(24,.ref 10),(25,iI 11),(26,iI 8)],[(1,aE v10),(2,aE cg)],[(10,⟨201,1,lm aV [(v2,6),(v2,10),(v2,12),(v2,14),(v2,22),(v2,16),(v2,24),(v2,18),(v2,26),(v2,20),(v2,28)]⟩)],[1,2,10]⟩ (bc (aZ (cU 56 57 3 15 8 (ai 0 (au (ca 10 1 aV (L:=([(v2,6),(v2,10),(v2,12),(v2,14),(v2,22),(v2,16),(v2,24),(v2,18),(v2,26),(v2,20),(v2,28)]:List (Nat×Nat))) (i:=(8:Int)) (by kernel_rfl)) (au (br 201 0 aV aV (L:=([(v2,6),(v2,10),(v2,12),(v2,14),(v2,22),(v2,16),(v2,24),(v2,18),(v2,26),(v2,20),(v2,28)]:List (Nat×Nat))) (j:=(8:Int).toNat) (of_decide_eq_true (by kernel_rfl)) ((fun _=>rfl))) (ab (av 2 3 1 (ai 3 (cF 32 1 1 v2 26 0 (ab ?_)))))))))));obtain⟨h9,h⟩|⟨h9,h⟩:=am h
 ·exact ae 34 h9 (bd 2 1 (ai 3 (cF 37 1 1 v2 26 0 (ab (ac 0 (H7 hK (v2:=v2) h))))))
 ·exact ae 34 h9 (ac 2 (H7 hK (v2:=v2) h))
theorem GH(hK:ak K)(h:xn K n v9=some r):gM M w0 r (.b 3::dv 1959::dK M w0 r 33) (ZB v2 v9):=by
 unfold xn at h;refine bm (ks':=dK M w0 r 33) 2 ⟨[(1,.pp 1 v2 0),(2,.ptr 2 0),(24,.ref 10),(25,iI 11),(26,iI 7)],[(1,aE v9),(2,aE cg)],[(10,⟨201,1,lm aV [(v2,6),(v2,10),(v2,12),(v2,14),(v2,22),(v2,16),(v2,24),(v2,18),(v2,26),(v2,20),(v2,28)]⟩)],[1,2,10]⟩ (bc (aZ (cU 56 57 3 15 8 (ai 0 (au (ca 10 1 aV (L:=([(v2,6),(v2,10),(v2,12),(v2,14),(v2,22),(v2,16),(v2,24),(v2,18),(v2,26),(v2,20),(v2,28)]:List (Nat×Nat))) (i:=(7:Int)) (by kernel_rfl)) (au (br 201 0 aV aV (L:=([(v2,6),(v2,10),(v2,12),(v2,14),(v2,22),(v2,16),(v2,24),(v2,18),(v2,26),(v2,20),(v2,28)]:List (Nat×Nat))) (j:=(7:Int).toNat) (of_decide_eq_true (by kernel_rfl)) ((fun _=>rfl))) (ab (av 2 3 1 (ai 3 (cF 32 1 1 v2 18 0 (ab ?_)))))))))));obtain⟨h8,h⟩|⟨h8,h⟩:=am h
 ·exact ae 34 h8 (bd 2 1 (ai 3 (cF 37 1 1 v2 18 0 (ab (ac 0 (H9 hK (v2:=v2) h))))))
 ·exact ae 34 h8 (ac 2 (H9 hK (v2:=v2) h))
theorem Jy(hK:ak K)(h:sY K n v8=some r):gM M w0 r (.b 3::dv 1959::dK M w0 r 34) (OJ v2 v8):=by
 unfold sY at h;refine bm (ks':=dK M w0 r 34) 2 ⟨[(1,.pp 1 v2 0),(2,.ptr 2 0),(24,.ref 10),(25,iI 11),(26,iI 6)],[(1,aE v8),(2,aE cg)],[(10,⟨201,1,lm aV [(v2,6),(v2,10),(v2,12),(v2,14),(v2,22),(v2,16),(v2,24),(v2,18),(v2,26),(v2,20),(v2,28)]⟩)],[1,2,10]⟩ (bc (aZ (cU 56 57 3 15 8 (ai 0 (au (ca 10 1 aV (L:=([(v2,6),(v2,10),(v2,12),(v2,14),(v2,22),(v2,16),(v2,24),(v2,18),(v2,26),(v2,20),(v2,28)]:List (Nat×Nat))) (i:=(6:Int)) (by kernel_rfl)) (au (br 201 0 aV aV (L:=([(v2,6),(v2,10),(v2,12),(v2,14),(v2,22),(v2,16),(v2,24),(v2,18),(v2,26),(v2,20),(v2,28)]:List (Nat×Nat))) (j:=(6:Int).toNat) (of_decide_eq_true (by kernel_rfl)) ((fun _=>rfl))) (ab (av 2 3 1 (ai 3 (cF 32 1 1 v2 24 0 (ab ?_)))))))))));obtain⟨h7,h⟩|⟨h7,h⟩:=am h
 ·exact ae 34 h7 (bd 2 1 (ai 3 (cF 37 1 1 v2 24 0 (ab (ac 0 (GH hK (v2:=v2) h))))))
 ·exact ae 34 h7 (ac 2 (GH hK (v2:=v2) h))
theorem KX(hK:ak K)(h:vW K n v7=some r):gM M w0 r (.b 3::dv 1959::dK M w0 r 35) (SO v2 v7):=by
 unfold vW at h;refine bm (ks':=dK M w0 r 35) 2 ⟨[(1,.pp 1 v2 0),(2,.ptr 2 0),(24,.ref 10),(25,iI 11),(26,iI 5)],[(1,aE v7),(2,aE cg)],[(10,⟨201,1,lm aV [(v2,6),(v2,10),(v2,12),(v2,14),(v2,22),(v2,16),(v2,24),(v2,18),(v2,26),(v2,20),(v2,28)]⟩)],[1,2,10]⟩ (bc (aZ (cU 56 57 3 15 8 (ai 0 (au (ca 10 1 aV (L:=([(v2,6),(v2,10),(v2,12),(v2,14),(v2,22),(v2,16),(v2,24),(v2,18),(v2,26),(v2,20),(v2,28)]:List (Nat×Nat))) (i:=(5:Int)) (by kernel_rfl)) (au (br 201 0 aV aV (L:=([(v2,6),(v2,10),(v2,12),(v2,14),(v2,22),(v2,16),(v2,24),(v2,18),(v2,26),(v2,20),(v2,28)]:List (Nat×Nat))) (j:=(5:Int).toNat) (of_decide_eq_true (by kernel_rfl)) ((fun _=>rfl))) (ab (av 2 3 1 (ai 3 (cF 32 1 1 v2 16 0 (ab ?_)))))))))));obtain⟨h6,h⟩|⟨h6,h⟩:=am h
 ·exact ae 34 h6 (bd 2 1 (ai 3 (cF 37 1 1 v2 16 0 (ab (ac 0 (Jy hK (v2:=v2) h))))))
 ·exact ae 34 h6 (ac 2 (Jy hK (v2:=v2) h))
theorem HO(hK:ak K)(h:tv K n v6=some r):gM M w0 r (.b 3::dv 1959::dK M w0 r 36) (QN v2 v6):=by
 unfold tv at h;refine bm (ks':=dK M w0 r 36) 2 ⟨[(1,.pp 1 v2 0),(2,.ptr 2 0),(24,.ref 10),(25,iI 11),(26,iI 4)],[(1,aE v6),(2,aE cg)],[(10,⟨201,1,lm aV [(v2,6),(v2,10),(v2,12),(v2,14),(v2,22),(v2,16),(v2,24),(v2,18),(v2,26),(v2,20),(v2,28)]⟩)],[1,2,10]⟩ (bc (aZ (cU 56 57 3 15 8 (ai 0 (au (ca 10 1 aV (L:=([(v2,6),(v2,10),(v2,12),(v2,14),(v2,22),(v2,16),(v2,24),(v2,18),(v2,26),(v2,20),(v2,28)]:List (Nat×Nat))) (i:=(4:Int)) (by kernel_rfl)) (au (br 201 0 aV aV (L:=([(v2,6),(v2,10),(v2,12),(v2,14),(v2,22),(v2,16),(v2,24),(v2,18),(v2,26),(v2,20),(v2,28)]:List (Nat×Nat))) (j:=(4:Int).toNat) (of_decide_eq_true (by kernel_rfl)) ((fun _=>rfl))) (ab (av 2 3 1 (ai 3 (cF 32 1 1 v2 22 0 (ab ?_)))))))))));obtain⟨h5,h⟩|⟨h5,h⟩:=am h
 ·exact ae 34 h5 (bd 2 1 (ai 3 (cF 37 1 1 v2 22 0 (ab (ac 0 (KX hK (v2:=v2) h))))))
 ·exact ae 34 h5 (ac 2 (KX hK (v2:=v2) h))
theorem KK(hK:ak K)(h:ya K n v5=some r):gM M w0 r (.b 3::dv 1959::dK M w0 r 37) (Sr v2 v5):=by
 unfold ya at h;refine bm (ks':=dK M w0 r 37) 2 ⟨[(1,.pp 1 v2 0),(2,.ptr 2 0),(24,.ref 10),(25,iI 11),(26,iI 3)],[(1,aE v5),(2,aE cg)],[(10,⟨201,1,lm aV [(v2,6),(v2,10),(v2,12),(v2,14),(v2,22),(v2,16),(v2,24),(v2,18),(v2,26),(v2,20),(v2,28)]⟩)],[1,2,10]⟩ (bc (aZ (cU 56 57 3 15 8 (ai 0 (au (ca 10 1 aV (L:=([(v2,6),(v2,10),(v2,12),(v2,14),(v2,22),(v2,16),(v2,24),(v2,18),(v2,26),(v2,20),(v2,28)]:List (Nat×Nat))) (i:=(3:Int)) (by kernel_rfl)) (au (br 201 0 aV aV (L:=([(v2,6),(v2,10),(v2,12),(v2,14),(v2,22),(v2,16),(v2,24),(v2,18),(v2,26),(v2,20),(v2,28)]:List (Nat×Nat))) (j:=(3:Int).toNat) (of_decide_eq_true (by kernel_rfl)) ((fun _=>rfl))) (ab (av 2 3 1 (ai 3 (cF 32 1 1 v2 14 0 (ab ?_)))))))))));obtain⟨h4,h⟩|⟨h4,h⟩:=am h
 ·exact ae 34 h4 (bd 2 1 (ai 3 (cF 37 1 1 v2 14 0 (ab (ac 0 (HO hK (v2:=v2) h))))))
 ·exact ae 34 h4 (ac 2 (HO hK (v2:=v2) h))
theorem Nw(hK:ak K)(h:ru K n v4=some r):gM M w0 r (.b 3::dv 1959::dK M w0 r 38) (Ue v2 v4):=by
 unfold ru at h;refine bm (ks':=dK M w0 r 38) 2 ⟨[(1,.pp 1 v2 0),(2,.ptr 2 0),(24,.ref 10),(25,iI 11),(26,iI 2)],[(1,aE v4),(2,aE cg)],[(10,⟨201,1,lm aV [(v2,6),(v2,10),(v2,12),(v2,14),(v2,22),(v2,16),(v2,24),(v2,18),(v2,26),(v2,20),(v2,28)]⟩)],[1,2,10]⟩ (bc (aZ (cU 56 57 3 15 8 (ai 0 (au (ca 10 1 aV (L:=([(v2,6),(v2,10),(v2,12),(v2,14),(v2,22),(v2,16),(v2,24),(v2,18),(v2,26),(v2,20),(v2,28)]:List (Nat×Nat))) (i:=(2:Int)) (by kernel_rfl)) (au (br 201 0 aV aV (L:=([(v2,6),(v2,10),(v2,12),(v2,14),(v2,22),(v2,16),(v2,24),(v2,18),(v2,26),(v2,20),(v2,28)]:List (Nat×Nat))) (j:=(2:Int).toNat) (of_decide_eq_true (by kernel_rfl)) ((fun _=>rfl))) (ab (av 2 3 1 (ai 3 (cF 32 1 1 v2 12 0 (ab ?_)))))))))));obtain⟨h3,h⟩|⟨h3,h⟩:=am h
 ·exact ae 34 h3 (bd 2 1 (ai 3 (cF 37 1 1 v2 12 0 (ab (ac 0 (KK hK (v2:=v2) h))))))
 ·exact ae 34 h3 (ac 2 (KK hK (v2:=v2) h))
theorem L7(hK:ak K)(h:yZ K n v3=some r):gM M w0 r (.b 3::dv 1959::dK M w0 r 39) (Pf v2 v3):=by
 unfold yZ at h;refine bm (ks':=dK M w0 r 39) 2 ⟨[(1,.pp 1 v2 0),(2,.ptr 2 0),(24,.ref 10),(25,iI 11),(26,iI 1)],[(1,aE v3),(2,aE cg)],[(10,⟨201,1,lm aV [(v2,6),(v2,10),(v2,12),(v2,14),(v2,22),(v2,16),(v2,24),(v2,18),(v2,26),(v2,20),(v2,28)]⟩)],[1,2,10]⟩ (bc (aZ (cU 56 57 3 15 8 (ai 0 (au (ca 10 1 aV (L:=([(v2,6),(v2,10),(v2,12),(v2,14),(v2,22),(v2,16),(v2,24),(v2,18),(v2,26),(v2,20),(v2,28)]:List (Nat×Nat))) (i:=(1:Int)) (by kernel_rfl)) (au (br 201 0 aV aV (L:=([(v2,6),(v2,10),(v2,12),(v2,14),(v2,22),(v2,16),(v2,24),(v2,18),(v2,26),(v2,20),(v2,28)]:List (Nat×Nat))) (j:=(1:Int).toNat) (of_decide_eq_true (by kernel_rfl)) ((fun _=>rfl))) (ab (av 2 3 1 (ai 3 (cF 32 1 1 v2 10 0 (ab ?_)))))))))));obtain⟨h2,h⟩|⟨h2,h⟩:=am h
 ·exact ae 34 h2 (bd 2 1 (ai 3 (cF 37 1 1 v2 10 0 (ab (ac 0 (Nw hK (v2:=v2) h))))))
 ·exact ae 34 h2 (ac 2 (Nw hK (v2:=v2) h))
theorem X1(hK:ak K)(h:D0 K n v1=some r):aW Tryz.prog 101 [.agg (aE v1)] (fun v _=>v=.agg (aE r)):=by
 refine bB (cat Tryz.f101 (pn 1)) Tryz.func101 Tryz.ntmps101 fun M w0=>(ba ⟨[(0,.agg (aE v1))],[],[],[]⟩ ?_);unfold D0 at h;refine av 6 7 3 (Mv 1 1 0 fun v2=>(ai 3 (JU 202 3 #[(0,(.tmp 7)),(1,(.tmp 8)),(2,(.tmp 9))] 10 (e:=201) (sz:=1) (l:=lm aV [(v2,6),(v2,10),(v2,12)]) (ab (bm (ks':=[dv 58,.b 0,dv 15]) 4 ⟨[(1,.pp 1 v2 0),(2,.ptr 2 0),(3,.ref 10),(11,iI 0)],[(1,aE v1),(2,aE cg)],[(10,⟨201,1,lm aV [(v2,6),(v2,10),(v2,12)]⟩)],[1,2,10]⟩ (jw 40 (c:=cat Tryz.f101 [1,1,0,1,0,0]) (by kernel_rfl) (aZ (bM (ks':=dv 3737 :: .b 1::dv 935::oZ M w0 r 39) 9 (bA [1,2,3,4,11] [1,2] [10] (bw 2 (nu 14 [.ref 10,iI 0,.adr v2 14,.adr v2 14,iI 0,.adr v2 22,.adr v2 22,.sl (lm aV [(v2,14),(v2,22)])]) [] [] [eb 22 10 ⟨201,1,lm aV [(v2,6),(v2,10),(v2,12),(v2,14),(v2,22)]⟩,bS Tryz.prog 40 Tryz.f101 (pn 3737) 9] (aq [.v 0 1,.v 0 2,.v 0 2,.v 0 2,.v 0 2,.v 0 2,.v 0 2,.v 0 1] (ag (cy (m:=0) (cc 22 10 201 1 aV (L:=([(v2,6),(v2,10),(v2,12)]:List (Nat×Nat))) (M:=([(v2,14),(v2,22)]:(List (Nat×Nat)))) (bytes:=8) (rfl) (fun _=>rfl) (by kernel_rfl))) (ag (bU 1) bz))) (bm (ks':=oZ M w0 r 39) 2 ⟨[(1,.pp 1 v2 0),(2,.ptr 2 0),(3,.ref 10),(11,iI 1)],[(1,aE v1),(2,aE cg)],[(10,⟨201,1,lm aV [(v2,6),(v2,10),(v2,12),(v2,14),(v2,22)]⟩)],[1,2,10]⟩ (bc (aZ (eU 57 1 15 9 (bA [1,2,3,4,11] [1,2] [10] (bw 2 (nu 14 [.ref 10,iI 1,.adr v2 14,.adr v2 16,iI 1,.adr v2 22,.adr v2 24,.sl (lm aV [(v2,16),(v2,24)])]) [] [] [eb 22 10 ⟨201,1,lm aV [(v2,6),(v2,10),(v2,12),(v2,14),(v2,22),(v2,16),(v2,24)]⟩,bS Tryz.prog 40 Tryz.f101 (pn 3737) 9] (aq [.v 0 1,.v 0 2,.v 0 2,.v 0 2,.v 0 2,.v 0 2,.v 0 2,.v 0 1] (ag (cy (m:=0) (cc 22 10 201 1 aV (L:=([(v2,6),(v2,10),(v2,12),(v2,14),(v2,22)]:List (Nat×Nat))) (M:=([(v2,16),(v2,24)]:(List (Nat×Nat)))) (bytes:=8) (rfl) (fun _=>rfl) (by kernel_rfl))) (ag (bU 1) bz))) (bm (ks':=oZ M w0 r 38) 2 ⟨[(1,.pp 1 v2 0),(2,.ptr 2 0),(3,.ref 10),(11,iI 2)],[(1,aE v1),(2,aE cg)],[(10,⟨201,1,lm aV [(v2,6),(v2,10),(v2,12),(v2,14),(v2,22),(v2,16),(v2,24)]⟩)],[1,2,10]⟩ (bc (aZ (eU 57 1 15 9 (bA [1,2,3,4,11] [1,2] [10] (bw 2 (nu 14 [.ref 10,iI 2,.adr v2 14,.adr v2 18,iI 2,.adr v2 22,.adr v2 26,.sl (lm aV [(v2,18),(v2,26)])]) [] [] [eb 22 10 ⟨201,1,lm aV [(v2,6),(v2,10),(v2,12),(v2,14),(v2,22),(v2,16),(v2,24),(v2,18),(v2,26)]⟩,bS Tryz.prog 40 Tryz.f101 (pn 3737) 9] (aq [.v 0 1,.v 0 2,.v 0 2,.v 0 2,.v 0 2,.v 0 2,.v 0 2,.v 0 1] (ag (cy (m:=0) (cc 22 10 201 1 aV (L:=([(v2,6),(v2,10),(v2,12),(v2,14),(v2,22),(v2,16),(v2,24)]:List (Nat×Nat))) (M:=([(v2,18),(v2,26)]:(List (Nat×Nat)))) (bytes:=8) (rfl) (fun _=>rfl) (by kernel_rfl))) (ag (bU 1) bz))) (bm (ks':=oZ M w0 r 37) 2 ⟨[(1,.pp 1 v2 0),(2,.ptr 2 0),(3,.ref 10),(11,iI 3)],[(1,aE v1),(2,aE cg)],[(10,⟨201,1,lm aV [(v2,6),(v2,10),(v2,12),(v2,14),(v2,22),(v2,16),(v2,24),(v2,18),(v2,26)]⟩)],[1,2,10]⟩ ?_)))))))))))))))))))))))
 refine bc (aZ (eU 57 1 15 9 (bA [1,2,3,4,11] [1,2] [10] (bw 2 (nu 14 [.ref 10,iI 3,.adr v2 14,.adr v2 20,iI 3,.adr v2 22,.adr v2 28,.sl (lm aV [(v2,20),(v2,28)])]) [] [] [eb 22 10 ⟨201,1,lm aV [(v2,6),(v2,10),(v2,12),(v2,14),(v2,22),(v2,16),(v2,24),(v2,18),(v2,26),(v2,20),(v2,28)]⟩,bS Tryz.prog 40 Tryz.f101 (pn 3737) 9] (aq [.v 0 1,.v 0 2,.v 0 2,.v 0 2,.v 0 2,.v 0 2,.v 0 2,.v 0 1] (ag (cy (m:=0) (cc 22 10 201 1 aV (L:=([(v2,6),(v2,10),(v2,12),(v2,14),(v2,22),(v2,16),(v2,24),(v2,18),(v2,26)]:List (Nat×Nat))) (M:=([(v2,20),(v2,28)]:(List (Nat×Nat)))) (bytes:=8) (rfl) (fun _=>rfl) (by kernel_rfl))) (ag (bU 1) bz))) (bm (ks':=oZ M w0 r 36) 2 ⟨[(1,.pp 1 v2 0),(2,.ptr 2 0),(3,.ref 10),(11,iI 4)],[(1,aE v1),(2,aE cg)],[(10,⟨201,1,lm aV [(v2,6),(v2,10),(v2,12),(v2,14),(v2,22),(v2,16),(v2,24),(v2,18),(v2,26),(v2,20),(v2,28)]⟩)],[1,2,10]⟩ (bc (aZ (KL 4 5 3 10 (ai 1 (au (bj aV ([(v2,6),(v2,10),(v2,12),(v2,14),(v2,22),(v2,16),(v2,24),(v2,18),(v2,26),(v2,20),(v2,28)]:List (Nat×Nat))) (ab (bm (ks':=[dv 122,.b 2,dv 31]) 1 ⟨[(1,.pp 1 v2 0),(2,.ptr 2 0),(24,.ref 10),(25,iI 11),(26,iI 0)],[(1,aE v1),(2,aE cg)],[(10,⟨201,1,lm aV [(v2,6),(v2,10),(v2,12),(v2,14),(v2,22),(v2,16),(v2,24),(v2,18),(v2,26),(v2,20),(v2,28)]⟩)],[1,2,10]⟩ (jw 40 (c:=cat Tryz.f101 [1,1,1,0,1,0,0]) (by kernel_rfl) (aZ (bM (ks':=dv 7832::dv 7833 :: .b 3::dv 1959::dK M w0 r 39) 8 (ai 0 (au (ca 10 1 aV (L:=([(v2,6),(v2,10),(v2,12),(v2,14),(v2,22),(v2,16),(v2,24),(v2,18),(v2,26),(v2,20),(v2,28)]:List (Nat×Nat))) (i:=(0:Int)) (by kernel_rfl)) (au (br 201 0 aV aV (L:=([(v2,6),(v2,10),(v2,12),(v2,14),(v2,22),(v2,16),(v2,24),(v2,18),(v2,26),(v2,20),(v2,28)]:List (Nat×Nat))) (j:=(0:Int).toNat) (of_decide_eq_true (by kernel_rfl)) ((fun _=>rfl))) (ab (av 2 3 1 (ai 3 (cF 32 1 1 v2 6 0 (ab ?_)))))))))))))))))))))))
 obtain⟨h1,h⟩|⟨h1,h⟩:=am h
 ·exact ae 34 h1 (bd 2 1 (ai 3 (cF 37 1 1 v2 6 0 (ab (ac 0 (L7 hK (v2:=v2) h))))))
 ·exact ae 34 h1 (ac 2 (L7 hK (v2:=v2) h))
end
noncomputable section
variable[GS](M:Nat→Prop)(w0:aB)(r v1:Int)(v2:aX)  
variable{M w0 r v1 v2}{K:Kn}{n:Nat}
theorem LZ(hK:ak K)(h:xS K n v1 v2=some r):aW Tryz.prog 103 [iI v1,.cptr (aE v2)] (fun v _=>v=iI r):=by
 refine bB (cat Tryz.f103 (pn 1)) Tryz.func103 Tryz.ntmps103 fun M w0=>(ba ⟨[(0,iI v1),(1,.cptr (aE v2))],[],[],[]⟩ ?_);unfold xS at h;refine av 6 7 3 (bA [0,1] [] [] ?_);obtain⟨v3,h1,h⟩:=bind_some h;obtain⟨v4,h2,h⟩:=bind_some h;obtain⟨v5,h3,h⟩:=bind_some h;obtain⟨v6,h4,h⟩:=bind_some h;refine bw 1 (nu 4 [.agg (aE v2),.agg (aE v2),iI v1,iI v3,iI v4,.agg (cb v5),iI v6]) [] [] [bS Tryz.prog 11 Tryz.f103 (pn 6) 7] (aq (vz 3) (ag (bL 0 1 7 (iM hK h1)) (ag (bL 0 1 8 (oW hK h2)) (ag (bL 0 1 9 (iJ hK h3)) (ag (bL 0 1 10 (jN hK h4)) (ag (bU 0) bz)))))) (aJ 1 ?_);cases h;exact bp
end
noncomputable section
variable[GS](M:Nat→Prop)(w0:aB)(r:Int×Int)(v1:ah)(v2:bH)(v3:aX)(v5:List ah)(v10 v11 v12:Int)(v13:Int×Int)(v14 v15 v16 v17 v18:Int)(m1:Nat)(L1:Int→Int→Int→Option (Int×Int))
abbrev Bf:Cx:=⟨Tryz.prog,70,M,w0⟩
abbrev B0:=bodyPost Tryz.prog Tryz.f49 (bC M w0 (fun v _=>v=.tup [iI r.1,iI r.2]))
abbrev sy(ks:List ao)(s:AS):=VE (Bf M w0) (B0 M w0 r) ks .normal s
abbrev k8(n:Nat):ao:=.c (cat Tryz.f49 (pn n))
abbrev FG:List ao:=[.b 0,k8 15]
abbrev vy:List ao:=kl (Bf M w0) (B0 M w0 r) FG (cat Tryz.f49 (pn 956)) m1::FG
def R4:AS:=⟨[(2,.ptr 2 0),(3,.ptr 3 0),(4,iI v15),(5,iI v16),(6,.ptr 6 0),(27,.ref 1027),(28,iI (v5.length:Int)),(29,iI v12)],[(2,ap v1),(3,bG v2),(6,aE v3)],[(1027,⟨48,59,lm aF v5⟩)],[2,3,6,1027]⟩
def Rq:AS:=⟨[(2,.ptr 2 0),(3,.ptr 3 0),(4,iI v14),(5,iI (aa (v11+v13.2))),(6,.ptr 6 0),(27,.ref 1027),(28,iI (v5.length:Int)),(29,iI v12)],[(2,ap v1),(3,bG v2),(6,aE v3)],[(1027,⟨48,59,lm aF v5⟩)],[2,3,6,1027]⟩
def X0:AS:=⟨[(4,iI v17),(5,iI v18),(6,.ptr 6 0)],[(6,aE v3)],[],[6]⟩
def GL:AS:=⟨[(2,.ptr 2 0),(3,.ptr 3 0),(4,iI v10),(5,iI v11),(6,.ptr 6 0),(27,.ref 1027),(28,iI (v5.length:Int)),(29,iI v12)],[(2,ap v1),(3,bG v2),(6,aE v3)],[(1027,⟨48,59,lm aF v5⟩)],[2,3,6,1027]⟩
abbrev xE:Prop:=∀{v10:Int} {v11:Int} {v12:Int},L1 v10 v11 v12=some r→LP (Bf M w0) (B0 M w0 r) FG (cat Tryz.f49 (pn 956)) m1 (GL v1 v2 v3 v5 v10 v11 v12)
variable{M w0 r v1 v2 v3 v5 v10 v11 v12 v13 v14 v15 v16 v17 v18 m1 L1}{K:Kn}{n:Nat}
theorem IU(hK:ak K)(hL1:xE M w0 r v1 v2 v3 v5 m1 L1)(h:xz K n v1 v2 v3 v5 v12 L1 v15 v16=some r):sy M w0 r (k8 7655::vy M w0 r m1) (R4 v1 v2 v3 v5 v12 v15 v16):=by
 unfold xz at h;exact ac 1 (bc (hL1 h))
theorem Km(hK:ak K)(hL1:xE M w0 r v1 v2 v3 v5 m1 L1)(h:uN K n v1 v2 v3 v5 v11 v12 v13 L1 v14=some r):sy M w0 r (.b 1::k8 7655::vy M w0 r m1) (Rq v1 v2 v3 v5 v11 v12 v13 v14):=by
 unfold uN at h;exact ac 1 (IU hK hL1 h)
theorem F8(hK:ak K)(h:vT K n v3 v17 v18=some r):sy M w0 r [k8 15] (X0 v3 v17 v18):=by
 unfold vT at h;refine av 2 3 1 (ai 0 (jU 6 6 (aE v3) (mS 103 #[(.tmp 6)] [.cptr (aE v3)] (ab (av 2 3 1 (ai 2 ?_))))));obtain⟨v19,h15,h⟩:=bind_some h;refine aP (LZ hK h15) (aO 5 2 ?_);obtain⟨v20,h16,h⟩:=bind_some h;refine aP (LZ hK h16) (ab (aJ 1 ?_));cases h;exact fL
theorem PM(hK:ak K)(hL1:xE M w0 r v1 v2 v3 v5 m1 L1)(h:yj K n v1 v2 v3 v5 L1 v10 v11 v12=some r):sy M w0 r (k8 956::vy M w0 r m1) (GL v1 v2 v3 v5 v10 v11 v12):=by
 unfold yj at h;refine av 6 7 3 ?_;obtain⟨h10,h⟩|⟨h10,h⟩:=am h
 ·refine ae 30 h10 (cr 8 9 1 3 5 (ai 0 ?_));obtain⟨h11,h⟩:=ax h;refine au (ca 1027 59 aF h11) (au (br 48 0 aF ap (bf h11).2 (cX)) (ab (av 2 3 1 (ai 3 ?_))));obtain⟨v13,h12,h⟩:=bind_some h;refine hF (hK.ii h12) (ab (av 5 3 3 ?_));obtain⟨h13,h⟩|⟨h13,h⟩:=am h
  ·exact ae 43 h13 (ac 6 (IU hK hL1 h))
  ·refine ae 43 h13 (bM (ks':=k8 489887 :: .b 1::k8 7655::vy M w0 r m1) 6 ?_);obtain⟨h14,h⟩|⟨h14,h⟩:=am h
   ·exact ae 55 h14 (ac 2 (Km hK hL1 h))
   ·exact ae 55 h14 (ac 2 (Km hK hL1 h))
 ·exact ae 30 h10 (ac 5 (F8 hK h))
theorem Zz(hK:ak K)(m:Nat):xE M w0 r v1 v2 v3 v5 m (ur K n v1 v2 v3 v5 m):=by
 induction m with
 | zero=>intro v10 v11 v12 h;cases h
 | succ m ih=>intro v10 v11 v12 h;have h:yj K n v1 v2 v3 v5 (ur K n v1 v2 v3 v5 m) v10 v11 v12=some r:=h;exact aZ (PM hK ih h)
theorem ZA(hK:ak K)(h:z6 K n v1 v2=some r):aW Tryz.prog 49 [.agg (ap v1),.agg (bG v2)] (fun v _=>v=.tup [iI r.1,iI r.2]):=by
 refine bB (cat Tryz.f49 (pn 1)) Tryz.func49 Tryz.ntmps49 fun M w0=>(ba ⟨[(0,.agg (ap v1)),(1,.agg (bG v2))],[],[],[]⟩ ?_);unfold z6 at h;refine av 6 7 3 (ai 2 ?_);obtain⟨v3,h1,h⟩:=bind_some h;refine aP (X1 hK h1) (ab (bN 4 5 3 2 (ai 2 ?_)));obtain⟨v4,h2,h⟩:=bind_some h;refine aP (di hK h2) (ab (bd 3 2 ?_));obtain⟨h3,h⟩|⟨h3,h⟩:=am h
 ·exact ae 23 h3 (ac 2 (F8 hK h))
 ·refine ae 23 h3 (av 6 7 2 (ai 1 ?_));obtain⟨v5,h4,h⟩:=bind_some h;exact dI 1027 (FH hK h4) (dt 21) (au (bj aF v5) (ab (ac 1 (bK (p:=pn 478) n (Zz hK n h)))))
end
end Go.Proofs.YtocgkfoifehcbaaGreat
