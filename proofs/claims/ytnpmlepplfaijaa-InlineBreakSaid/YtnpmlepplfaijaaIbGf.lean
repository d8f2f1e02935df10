/- Layer 18's functions as plain Lean functions: K stands for calls that come back, n bounds the rounds of loops. Made by a program. -/
import Derived.Test.YtnpmlepplfaijaaIbGt
namespace Go.Proofs.Ytnpmlepplfaijaa
open Go.RowKit
set_option maxRecDepth 20000
set_option linter.all false
set_option linter.unusedVariables false
set_option linter.unusedSimpArgs false
noncomputable section
def gH(K:Kn)(n:Nat)(v1:Int):Option Int:=some (min (max v1 0) 1048576)
def mP(K:Kn)(n:Nat)(v1:Int):Option Int:=(gH K n v1).bind fun v2=>some v2
def mO(K:Kn)(n:Nat)(v1:Int):Option Int:=(gH K n v1).bind fun v2=>(gH K n v1).bind fun v3=>some (af (v2+(af (Int.tdiv (af (v3+3)) 4))))
def gN(K:Kn)(n:Nat)(v1:aK):Option (Int×Int):=(mP K n v1.FontSize).bind fun v2=>(mO K n v1.FontSize).bind fun v3=>some ((af (v2+((af ((max v1.LineHeight 0)-v3)) / 2))),(af ((max v1.LineHeight 0)-(af (v2+((af ((max v1.LineHeight 0)-v3)) / 2))))))
def iR(K:Kn)(n:Nat)(v1:List av)(v4:Int)(L1:Int→Option Int)(v5:Bool):Option Int:=if v5 then L1 (af (v4+1)) else some v4
def gZ(K:Kn)(n:Nat)(v1:List av)(L1:Int→Option Int)(v4:Int):Option Int:=if (decide (v4<(v1.length:Int))) then aM (aZ v4 v1.length) (iR K n v1 v4 L1 ((List.getD v1 v4.toNat default).Glued)) else iR K n v1 v4 L1 false
def iM(K:Kn)(n:Nat)(v1:List av):Nat→Int→Option Int
 | 0=>fun _=>none
 | m+1=>gZ K n v1 (iM K n v1 m)
def iu(K:Kn)(n:Nat)(v1:List av)(v2:Int):Option Int:=iM K n v1 n (af (v2+1))
def iw(K:Kn)(n:Nat)(v1:List av)(L1:Int→Option Int)(v3:Int):Option Int:=if (decide (v3≥0)) then aM (aZ v3 v1.length) (if (!(List.getD v1 v3.toNat default).Forced) then some v3 else L1 (af (v3-1))) else some (-1)
def gK(K:Kn)(n:Nat)(v1:List av):Nat→Int→Option Int
 | 0=>fun _=>none
 | m+1=>iw K n v1 (gK K n v1 m)
def iz(K:Kn)(n:Nat)(v1:List av):Option Int:=gK K n v1 n (af ((v1.length:Int)-1))
def j2(K:Kn)(n:Nat)(v5:Int):Option Int:=some v5
def ib(K:Kn)(n:Nat)(v1:List av)(L1:Int→Int→Option Int)(v2 v3:Int):Option Int:=if (decide (v3<(v1.length:Int))) then aM (aZ v3 v1.length) (L1 (af (v2+(af (((List.getD v1 v3.toNat default).Width)+((List.getD v1 v3.toNat default).Space))))) (af (v3+1))) else (iz K n v1).bind fun v4=>if (decide (v4≥0)) then aM (aZ v4 v1.length) (j2 K n (af (v2-((List.getD v1 v4.toNat default).Space)))) else j2 K n v2
def gL(K:Kn)(n:Nat)(v1:List av):Nat→Int→Int→Option Int
 | 0=>fun _ _=>none
 | m+1=>ib K n v1 (gL K n v1 m)
def iy(K:Kn)(n:Nat)(v1:List av):Option Int:=gL K n v1 n 0 0
def l8(K:Kn)(n:Nat)(v1:List av)(v2 v19:Int)(v20:List Int)(v25:Int)(L1:Int→(List Int)→Option (List Int)):Option (List Int):=L1 v25 (v20++[v19])
def iY(K:Kn)(n:Nat)(v1:List av)(v2 v19:Int)(v20:List Int)(v25:Int)(L1:Int→(List Int)→Option (List Int))(L2:Int→Option (List Int))(v26:Bool):Option (List Int):=if v26 then (iu K n v1 v25).bind fun v27=>aM (db v19 v27 v1.length) ((iy K n (List.drop v19.toNat (List.take v27.toNat v1))).bind fun v28=>if (decide (v28>v2)) then l8 K n v1 v2 v19 v20 v25 L1 else L2 v27) else l8 K n v1 v2 v19 v20 v25 L1
def iJ(K:Kn)(n:Nat)(v1:List av)(v2 v19:Int)(v20:List Int)(L1:Int→(List Int)→Option (List Int))(L2:Int→Option (List Int))(v25:Int):Option (List Int):=if (decide (v25<(v1.length:Int))) then aM (aZ (af (v25-1)) v1.length) (iY K n v1 v2 v19 v20 v25 L1 L2 (!(List.getD v1 ((af (v25-1))).toNat default).Forced)) else iY K n v1 v2 v19 v20 v25 L1 L2 false
def gA(K:Kn)(n:Nat)(v1:List av)(v2 v19:Int)(v20:List Int)(L1:Int→(List Int)→Option (List Int)):Nat→Int→Option (List Int)
 | 0=>fun _=>none
 | m+1=>iJ K n v1 v2 v19 v20 L1 (gA K n v1 v2 v19 v20 L1 m)
def iW(K:Kn)(n:Nat)(v1:List av)(v2:Int)(L1:Int→(List Int)→Option (List Int))(v19:Int)(v20:List Int):Option (List Int):=if (decide (v19<(v1.length:Int))) then aM (fits (v20.length+([v19]:(List Int)).length) 8) ((iu K n v1 v19).bind fun v21=>gA K n v1 v2 v19 v20 L1 n v21) else some v20
def gE(K:Kn)(n:Nat)(v1:List av)(v2:Int):Nat→Int→(List Int)→Option (List Int)
 | 0=>fun _ _=>none
 | m+1=>iW K n v1 v2 (gE K n v1 v2 m)
def ic(K:Kn)(n:Nat)(v1:List av)(v2:Int):Option (List Int):=gE K n v1 v2 n 0 []
def nW(K:Kn)(n:Nat)(v2:Bool):Option Bool:=some v2
def oc(K:Kn)(n:Nat)(v1:aq):Option Bool:=if (v1.Kind == 3) then nW K n true else nW K n (v1.Style.Position != 2)
def jB(K:Kn)(n:Nat)(v2:List aC)(v7:aC):Option (List aC):=aM (fits (v2.length+([({ v7 with Char:=32 }:aC)]:(List aC)).length) 32) (some (v2++[({ v7 with Char:=32 }:aC)]))
def kF(K:Kn)(n:Nat)(v1:aC)(v2:List aC)(v6:Bool):Option (List aC):=if v6 then some v2 else jB K n v2 ({ v1 with Soft:=true }:aC)
def ne(K:Kn)(n:Nat)(v1:aC)(v2:List aC)(v5:Bool):Option (List aC):=if v5 then some v2 else if (!(v1.Box.Style.WhiteSpace == 2)) then if ((v2.length:Int) == 0) then kF K n v1 v2 true else aM (aZ (af ((v2.length:Int)-1)) v2.length) (if (List.getD v2 ((af ((v2.length:Int)-1))).toNat default).Soft=true then kF K n v1 v2 true else aM (aZ (af ((v2.length:Int)-1)) v2.length) (kF K n v1 v2 (((List.getD v2 ((af ((v2.length:Int)-1))).toNat default).Kind) == 2))) else jB K n v2 v1
def me(K:Kn)(n:Nat)(v1:aC)(v2:List aC)(v4:Bool):Option (List aC):=if v4 then jB K n v2 ({ v1 with Kind:=2 }:aC) else if (v1.Box.Style.WhiteSpace == 2) then ne K n v1 v2 (v1.Char == 13) else ne K n v1 v2 false
def gV(K:Kn)(n:Nat)(v1:aC)(v2:List aC)(v3:Bool):Option (List aC):=if v3 then if (v1.Box.Style.WhiteSpace == 2) then me K n v1 v2 (v1.Char == 10) else me K n v1 v2 false else aM (fits (v2.length+([v1]:(List aC)).length) 32) (some (v2++[v1]))
def rJ(K:Kn)(n:Nat)(v1:aC)(v2:List aC):Option (List aC):=if (v1.Char == 9) then gV K n v1 v2 true else if (v1.Char == 10) then gV K n v1 v2 true else if (v1.Char == 13) then gV K n v1 v2 true else gV K n v1 v2 (v1.Char == 32)
def nT(K:Kn)(n:Nat)(v1:List aq)(v23:Int)(L1:Int→Int→(List aC)→Option (Int×(List aC)))(v43:Int)(v44:List aC):Option (Int×(List aC)):=L1 (af (v23+1)) v43 v44
def fI(K:Kn)(n:Nat)(v1:List aq)(v23:Int)(L1:Int→Int→(List aC)→Option (Int×(List aC)))(v41:Int)(v42:List aC):Option (Int×(List aC)):=nT K n v1 v23 L1 v41 v42
def lG(K:Kn)(n:Nat)(v1:List aq)(v23 v24:Int)(L1:Int→Int→(List aC)→Option (Int×(List aC)))(L2:Nat→(List aC)→Option (Int×(List aC)))(v36:Nat)(v37:List aC):Option (Int×(List aC)):=if decide (v36<((List.getD v1 v23.toNat default).Text).size)=true then (some ((Utf8.decode ((List.getD v1 v23.toNat default).Text) v36).1:Int)).bind fun v38=>(some (v36+(Utf8.decode ((List.getD v1 v23.toNat default).Text) v36).2)).bind fun v39=>(rJ K n (⟨1,(af (v24+1)),v38,false,(List.getD v1 v23.toNat default)⟩:aC) v37).bind fun v40=>L2 v39 v40 else fI K n v1 v23 L1 (af (v24+1)) v37
def mF(K:Kn)(n:Nat)(v1:List aq)(v23 v24:Int)(L1:Int→Int→(List aC)→Option (Int×(List aC))):Nat→Nat→(List aC)→Option (Int×(List aC))
 | 0=>fun _ _=>none
 | m+1=>lG K n v1 v23 v24 L1 (mF K n v1 v23 v24 L1 m)
def nA(K:Kn)(n:Nat)(v1:List aq)(L1:Int→Int→(List aC)→Option (Int×(List aC)))(v23 v24:Int)(v25:List aC):Option (Int×(List aC)):=if (decide (v23<(v1.length:Int))) then aM (aZ v23 v1.length) ((oc K n (List.getD v1 v23.toNat default)).bind fun v26=>if (!v26) then nT K n v1 v23 L1 v24 v25 else (some (((List.getD v1 v23.toNat default).Kind) == 2)).bind fun v27=>if v27 then (K.mK ((List.getD v1 v23.toNat default).Kids) (af (v24+1)) v25).bind fun v28=>fI K n v1 v23 L1 v28.1 v28.2 else (some (((List.getD v1 v23.toNat default).Kind) == 4)).bind fun v29=>if v29 then aM (fits (v25.length+([(⟨2,(af (v24+1)),0,false,(List.getD v1 v23.toNat default)⟩:aC)]:(List aC)).length) 32) (fI K n v1 v23 L1 (af (v24+1)) (v25++[(⟨2,(af (v24+1)),0,false,(List.getD v1 v23.toNat default)⟩:aC)])) else (some (((List.getD v1 v23.toNat default).Kind) == 5)).bind fun v30=>if v30 then aM (fits (v25.length+([(⟨3,(af (v24+1)),0,false,(List.getD v1 v23.toNat default)⟩:aC)]:(List aC)).length) 32) (fI K n v1 v23 L1 (af (v24+1)) (v25++[(⟨3,(af (v24+1)),0,false,(List.getD v1 v23.toNat default)⟩:aC)])) else (some (((List.getD v1 v23.toNat default).Kind) == 3)).bind fun v31=>if v31 then mF K n v1 v23 v24 L1 n 0 v25 else fI K n v1 v23 L1 (af (v24+1)) v25) else some (v24,v25)
def mS(K:Kn)(n:Nat)(v1:List aq):Nat→Int→Int→(List aC)→Option (Int×(List aC))
 | 0=>fun _ _ _=>none
 | m+1=>nA K n v1 (mS K n v1 m)
def mc(K:Kn)(n:Nat)(v1:List aq)(v2:Int)(v3:List aC):Option (Int×(List aC)):=mS K n v1 n 0 v2 v3
def q0(K:Kn)(n:Nat)(v1:List aq):Option (List aC):=(mc K n v1 0 ([]:List aC)).bind fun v2=>some v2.2
def kq(K:Kn)(n:Nat)(v2:Bool):Option Bool:=some v2
def gu(K:Kn)(n:Nat)(v1:aC):Option Bool:=if (v1.Kind == 1) then if (v1.Box.Style.WhiteSpace != 1) then kq K n (v1.Box.Style.WhiteSpace != 2) else kq K n false else kq K n false
def mi(K:Kn)(n:Nat)(v6:Bool):Option Int:=if v6 then some 10 else some 8
def ff(K:Kn)(n:Nat)(v1:Int)(v5:Bool):Option Int:=if v5 then some 14 else if (decide (v1≥65)) then mi K n (decide (v1≤90)) else mi K n false
def cQ(K:Kn)(n:Nat)(v1:Int)(v4:Bool):Option Int:=if v4 then some 6 else if (v1 == 37) then ff K n v1 true else if (v1 == 64) then ff K n v1 true else if (v1 == 77) then ff K n v1 true else if (v1 == 87) then ff K n v1 true else if (v1 == 109) then ff K n v1 true else ff K n v1 (v1 == 119)
def df(K:Kn)(n:Nat)(v1:Int)(v3:Bool):Option Int:=if v3 then some 4 else if (v1 == 34) then cQ K n v1 true else if (v1 == 40) then cQ K n v1 true else if (v1 == 41) then cQ K n v1 true else if (v1 == 42) then cQ K n v1 true else if (v1 == 45) then cQ K n v1 true else if (v1 == 47) then cQ K n v1 true else if (v1 == 91) then cQ K n v1 true else if (v1 == 92) then cQ K n v1 true else if (v1 == 93) then cQ K n v1 true else if (v1 == 94) then cQ K n v1 true else if (v1 == 102) then cQ K n v1 true else if (v1 == 114) then cQ K n v1 true else if (v1 == 116) then cQ K n v1 true else if (v1 == 123) then cQ K n v1 true else cQ K n v1 (v1 == 125)
def eC(K:Kn)(n:Nat)(v1:Int)(v2:Bool):Option Int:=if v2 then some 0 else if (decide (v1≥4352)) then some 16 else if (v1 == 32) then df K n v1 true else if (v1 == 160) then df K n v1 true else if (v1 == 33) then df K n v1 true else if (v1 == 39) then df K n v1 true else if (v1 == 44) then df K n v1 true else if (v1 == 46) then df K n v1 true else if (v1 == 58) then df K n v1 true else if (v1 == 59) then df K n v1 true else if (v1 == 73) then df K n v1 true else if (v1 == 105) then df K n v1 true else if (v1 == 106) then df K n v1 true else if (v1 == 108) then df K n v1 true else df K n v1 (v1 == 124)
def mJ(K:Kn)(n:Nat)(v1:Int):Option Int:=if (decide (v1<32)) then eC K n v1 true else if (decide (v1>1114111)) then eC K n v1 true else if (decide (v1≥127)) then if (decide (v1≤159)) then eC K n v1 true else if (decide (v1≥768)) then eC K n v1 (decide (v1≤879)) else eC K n v1 false else if (decide (v1≥768)) then eC K n v1 (decide (v1≤879)) else eC K n v1 false
def iP(K:Kn)(n:Nat)(v2:Bool):Option Bool:=if v2 then some true else some false
def le(K:Kn)(n:Nat)(v1:Int):Option Bool:=if (v1 == 9) then iP K n true else if (v1 == 10) then iP K n true else if (v1 == 13) then iP K n true else iP K n (v1 == 32)
def oh(K:Kn)(n:Nat)(v8:Bool):Option Bool:=some v8
def kV(K:Kn)(n:Nat)(v1 v2:Int)(v7:Bool):Option Bool:=if v7 then some true else if (decide (v1≥11904)) then oh K n true else oh K n (decide (v2≥11904))
def n7(K:Kn)(n:Nat)(v1 v2:Int)(v5:Bool):Option Bool:=if v5 then some false else (le K n v1).bind fun v6=>if v6 then some true else if (v1 == 45) then kV K n v1 v2 (v2 != 45) else kV K n v1 v2 false
def oS(K:Kn)(n:Nat)(v1 v2:Int):Option Bool:=(le K n v2).bind fun v3=>if v3 then n7 K n v1 v2 true else (mJ K n v2).bind fun v4=>n7 K n v1 v2 (v4 == 0)
def kU(K:Kn)(n:Nat)(v1:ByteArray)(v10:Nat)(L1:Int→Nat→(List Int)→Option (List Int))(v14:List Int):Option (List Int):=L1 ((Utf8.decode v1 v10).1:Int) (v10+(Utf8.decode v1 v10).2) v14
def lL(K:Kn)(n:Nat)(v1:ByteArray)(v10:Nat)(v11:List Int)(L1:Int→Nat→(List Int)→Option (List Int))(v13:Bool):Option (List Int):=if v13 then aM (fits (v11.length+([((v10:Nat):Int)]:(List Int)).length) 8) (kU K n v1 v10 L1 (v11++[((v10:Nat):Int)])) else kU K n v1 v10 L1 v11
def ox(K:Kn)(n:Nat)(v1:ByteArray)(L1:Int→Nat→(List Int)→Option (List Int))(v9:Int)(v10:Nat)(v11:List Int):Option (List Int):=if decide (v10<v1.size)=true then if (decide (((v10:Nat):Int)>0)) then (oS K n v9 ((Utf8.decode v1 v10).1:Int)).bind fun v12=>lL K n v1 v10 v11 L1 v12 else lL K n v1 v10 v11 L1 false else some v11
def nq(K:Kn)(n:Nat)(v1:ByteArray):Nat→Int→Nat→(List Int)→Option (List Int)
 | 0=>fun _ _ _=>none
 | m+1=>ox K n v1 (nq K n v1 m)
def ro(K:Kn)(n:Nat)(v1:ByteArray):Option (List Int):=nq K n v1 n 0 0 []
def gv(K:Kn)(n:Nat)(v7:Bool):Option Bool:=some v7
def fX(K:Kn)(n:Nat)(v1 v2:aC)(v10:Bool):Option Bool:=if v10 then some false else (ro K n (runesBytes [v1.Char,v2.Char])).bind fun v11=>some (decide ((v11.length:Int)>0))
def ly(K:Kn)(n:Nat)(v1 v2:aC)(v3:Bool):Option Bool:=if v3 then if (v1.Kind == 3) then if (v2.Kind == 3) then gv K n true else (gu K n v2).bind fun v4=>gv K n v4 else (gu K n v1).bind fun v5=>if v5 then if (v2.Kind == 3) then gv K n true else (gu K n v2).bind fun v6=>gv K n v6 else gv K n false else if (v1.Kind != 1) then fX K n v1 v2 true else if (v2.Kind != 1) then fX K n v1 v2 true else (gu K n v1).bind fun v8=>if (!v8) then fX K n v1 v2 true else if (v1.Char != 32) then (gu K n v2).bind fun v9=>fX K n v1 v2 (!v9) else fX K n v1 v2 false
def my(K:Kn)(n:Nat)(v1 v2:aC):Option Bool:=if (v1.Kind == 3) then ly K n v1 v2 true else ly K n v1 v2 (v2.Kind == 3)
def lK(K:Kn)(n:Nat)(v1:Int)(v2:List Int)(v4:Bool):Option (List Int):=if v4 then aM (fits (v2.length+([(cA .u8 240 (IntKind.wrap .u8 (v1 / 262144))),(cA .u8 128 (dn .u8 (IntKind.wrap .u8 (v1 / 4096)) 63)),(cA .u8 128 (dn .u8 (IntKind.wrap .u8 (v1 / 64)) 63)),(cA .u8 128 (dn .u8 (IntKind.wrap .u8 v1) 63))]:(List Int)).length) 1) (some (v2++[(cA .u8 240 (IntKind.wrap .u8 (v1 / 262144))),(cA .u8 128 (dn .u8 (IntKind.wrap .u8 (v1 / 4096)) 63)),(cA .u8 128 (dn .u8 (IntKind.wrap .u8 (v1 / 64)) 63)),(cA .u8 128 (dn .u8 (IntKind.wrap .u8 v1) 63))])) else aM (fits (v2.length+([239,191,189]:(List Int)).length) 1) (some (v2++[239,191,189]))
def jR(K:Kn)(n:Nat)(v1:Int)(v2:List Int)(v3:Bool):Option (List Int):=if v3 then aM (fits (v2.length+([(cA .u8 224 (IntKind.wrap .u8 (v1 / 4096))),(cA .u8 128 (dn .u8 (IntKind.wrap .u8 (v1 / 64)) 63)),(cA .u8 128 (dn .u8 (IntKind.wrap .u8 v1) 63))]:(List Int)).length) 1) (some (v2++[(cA .u8 224 (IntKind.wrap .u8 (v1 / 4096))),(cA .u8 128 (dn .u8 (IntKind.wrap .u8 (v1 / 64)) 63)),(cA .u8 128 (dn .u8 (IntKind.wrap .u8 v1) 63))])) else if (decide ((IntKind.wrap .u32 v1)>65535)) then lK K n v1 v2 (decide ((IntKind.wrap .u32 v1)≤1114111)) else lK K n v1 v2 false
def oF(K:Kn)(n:Nat)(v1:Int)(v2:List Int):Option (List Int):=if (decide ((IntKind.wrap .u32 v1)≤2047)) then aM (fits (v2.length+([(cA .u8 192 (IntKind.wrap .u8 (v1 / 64))),(cA .u8 128 (dn .u8 (IntKind.wrap .u8 v1) 63))]:(List Int)).length) 1) (some (v2++[(cA .u8 192 (IntKind.wrap .u8 (v1 / 64))),(cA .u8 128 (dn .u8 (IntKind.wrap .u8 v1) 63))])) else if (decide ((IntKind.wrap .u32 v1)<55296)) then jR K n v1 v2 true else if (decide ((57343:Int)<(IntKind.wrap .u32 v1))) then jR K n v1 v2 (decide ((IntKind.wrap .u32 v1)≤65535)) else jR K n v1 v2 false
def oi(K:Kn)(n:Nat)(v1:Int)(v2:List Int):Option (List Int):=if (decide ((IntKind.wrap .u32 v1)≤127)) then aM (fits (v2.length+([(IntKind.wrap .u8 v1)]:(List Int)).length) 1) (some (v2++[(IntKind.wrap .u8 v1)])) else (oF K n v1 v2).bind fun v3=>some v3
def kX(K:Kn)(n:Nat)(v1:Int)(v2:Bool)(v3:List Int):Option (Int×Unit×(List Int)):=if v2 then (oi K n v1 v3).bind fun v4=>some ((af ((v4.length:Int)-(v3.length:Int))),(),v4) else (oi K n v1 v3).bind fun v5=>some ((af ((v5.length:Int)-(v3.length:Int))),(),v5)
def jI(K:Kn)(n:Nat)(v1 v2:Int):Option Int:=(mJ K n v1).bind fun v3=>(gH K n v2).bind fun v4=>some (af (Int.tdiv (af ((af (v3*v4))+15)) 16))
def nF(K:Kn)(n:Nat)(v1:ByteArray)(v2:Int)(L1:Int→Nat→Option Int)(v5:Int)(v6:Nat):Option Int:=if decide (v6<v1.size)=true then (jI K n ((Utf8.decode v1 v6).1:Int) v2).bind fun v7=>L1 (af (v5+v7)) (v6+(Utf8.decode v1 v6).2) else some v5
def ou(K:Kn)(n:Nat)(v1:ByteArray)(v2:Int):Nat→Int→Nat→Option Int
 | 0=>fun _ _=>none
 | m+1=>nF K n v1 v2 (ou K n v1 v2 m)
def lg(K:Kn)(n:Nat)(v1:ByteArray)(v2:Int):Option Int:=ou K n v1 v2 n 0 0
def oB(K:Kn)(n:Nat)(v6:List Int)(v10:aK)(v14:ByteArray)(v15:Int):Option av:=(lg K n v14 v10.FontSize).bind fun v16=>(gN K n v10).bind fun v17=>some ({ cf with Text:=(bytesOf v6),Width:=v16,Space:=v15,Above:=v17.1,Below:=v17.2 }:av)
def m9(K:Kn)(n:Nat)(v6:List Int)(v18:aK)(v22:ByteArray)(v23:Int):Option av:=(lg K n v22 v18.FontSize).bind fun v24=>(gN K n v18).bind fun v25=>some ({ cf with Text:=(bytesOf v6),Width:=v24,Space:=v23,Above:=v25.1,Below:=v25.2 }:av)
def mh(K:Kn)(n:Nat)(v1:List aC)(v6:List Int)(v9:Bool):Option av:=if v9 then aM (aZ (0:Int) v1.length) ((some (((List.getD v1 (0:Int).toNat default).Box).Style)).bind fun v10=>aM (lH v6) (aM (aZ (af ((v1.length:Int)-1)) v1.length) ((some ((List.getD v1 ((af ((v1.length:Int)-1))).toNat default).Soft)).bind fun v11=>if v11 then aM (db (0:Int) (af (((bytesOf v6).size:Int)-1)) (bytesOf v6).size) ((some (ByteArray.extract (bytesOf v6) (0:Int).toNat ((af (((bytesOf v6).size:Int)-1))).toNat)).bind fun v12=>(jI K n 32 v10.FontSize).bind fun v13=>oB K n v6 v10 v12 v13) else oB K n v6 v10 (bytesOf v6) 0))) else aM (aZ (0:Int) v1.length) ((some (((List.getD v1 (0:Int).toNat default).Box).Style)).bind fun v18=>aM (lH v6) (aM (aZ (af ((v1.length:Int)-1)) v1.length) ((some ((List.getD v1 ((af ((v1.length:Int)-1))).toNat default).Soft)).bind fun v19=>if v19 then aM (db (0:Int) (af (((bytesOf v6).size:Int)-1)) (bytesOf v6).size) ((some (ByteArray.extract (bytesOf v6) (0:Int).toNat ((af (((bytesOf v6).size:Int)-1))).toNat)).bind fun v20=>(jI K n 32 v18.FontSize).bind fun v21=>m9 K n v6 v18 v20 v21) else m9 K n v6 v18 (bytesOf v6) 0)))
def lR(K:Kn)(n:Nat)(v1:List aC)(L1:Int→Bool→(List Int)→Option av)(v4:Int)(v5:Bool)(v6:List Int):Option av:=if v5 then if (decide (v4<(v1.length:Int))) then aM (aZ v4 v1.length) ((kX K n ((List.getD v1 v4.toNat default).Char) true v6).bind fun v7=>L1 (af (v4+1)) true v7.2.2) else mh K n v1 v6 true else if (decide (v4<(v1.length:Int))) then aM (aZ v4 v1.length) ((kX K n ((List.getD v1 v4.toNat default).Char) false v6).bind fun v8=>L1 (af (v4+1)) true v8.2.2) else mh K n v1 v6 false
def oy(K:Kn)(n:Nat)(v1:List aC):Nat→Int→Bool→(List Int)→Option av
 | 0=>fun _ _ _=>none
 | m+1=>lR K n v1 (oy K n v1 m)
def po(K:Kn)(n:Nat)(v1:List aC):Option av:=oy K n v1 n 0 false []
def j1(K:Kn)(n:Nat)(v2:Fv)(v3:List aC)(v30:Int)(v31:List av)(v33:Bool)(L1:Int→(List av)→Option (List av))(v43:Int)(v44:av):Option (List av):=(some (((List.getD v3 v30.toNat default).Box).Node)).bind fun v45=>(some (((List.getD v3 v30.toNat default).Box).Style)).bind fun v46=>aM (fits (v31.length+([({ v44 with Node:=v45,Style:=v46,Glued:=v33 }:av)]:(List av)).length) 536) (L1 v43 (v31++[({ v44 with Node:=v45,Style:=v46,Glued:=v33 }:av)]))
def gI(K:Kn)(n:Nat)(v2:Fv)(v3:List aC)(v30:Int)(v31:List av)(v33:Bool)(v39:Int)(L1:Int→(List av)→Option (List av))(L2:Int→Option (List av))(v41:Bool):Option (List av):=if v41 then L2 (af (v39+1)) else aM (db v30 v39 v3.length) ((po K n (List.drop v30.toNat (List.take v39.toNat v3))).bind fun v42=>j1 K n v2 v3 v30 v31 v33 L1 v39 v42)
def mg(K:Kn)(n:Nat)(v2:Fv)(v3:List aC)(v30:Int)(v31:List av)(v33:Bool)(L1:Int→(List av)→Option (List av))(L2:Int→Option (List av))(v39:Int):Option (List av):=if (decide (v39<(v3.length:Int))) then aM (aZ v39 v3.length) (if (((List.getD v3 v39.toNat default).Kind) == 1) then aM (aZ v39 v3.length) (if (((List.getD v3 v39.toNat default).Of) == ((List.getD v3 v30.toNat default).Of)) then aM (aZ (af (v39-1)) v3.length) (aM (aZ v39 v3.length) ((my K n (List.getD v3 ((af (v39-1))).toNat default) (List.getD v3 v39.toNat default)).bind fun v40=>gI K n v2 v3 v30 v31 v33 v39 L1 L2 (!v40))) else gI K n v2 v3 v30 v31 v33 v39 L1 L2 false) else gI K n v2 v3 v30 v31 v33 v39 L1 L2 false) else gI K n v2 v3 v30 v31 v33 v39 L1 L2 false
def mu(K:Kn)(n:Nat)(v2:Fv)(v3:List aC)(v30:Int)(v31:List av)(v33:Bool)(L1:Int→(List av)→Option (List av)):Nat→Int→Option (List av)
 | 0=>fun _=>none
 | m+1=>mg K n v2 v3 v30 v31 v33 L1 (mu K n v2 v3 v30 v31 v33 L1 m)
def jq(K:Kn)(n:Nat)(v2:Fv)(v3:List aC)(v30:Int)(v31:List av)(L1:Int→(List av)→Option (List av))(v33:Bool):Option (List av):=(some (((List.getD v3 v30.toNat default).Kind) == 2)).bind fun v34=>if v34 then j1 K n v2 v3 v30 v31 v33 L1 (af (v30+1)) ({ cf with Forced:=true }:av) else (some (((List.getD v3 v30.toNat default).Kind) == 3)).bind fun v35=>if v35 then (K.nX v2 ((List.getD v3 v30.toNat default).Box)).bind fun v36=>j1 K n v2 v3 v30 v31 v33 L1 (af (v30+1)) v36 else mu K n v2 v3 v30 v31 v33 L1 n (af (v30+1))
def kM(K:Kn)(n:Nat)(v2:Fv)(v3:List aC)(L1:Int→(List av)→Option (List av))(v30:Int)(v31:List av):Option (List av):=if (decide (v30<(v3.length:Int))) then aM (aZ v30 v3.length) (if (decide (v30>0)) then aM (aZ (af (v30-1)) v3.length) (if (((List.getD v3 ((af (v30-1))).toNat default).Kind) != 2) then aM (aZ (af (v30-1)) v3.length) ((my K n (List.getD v3 ((af (v30-1))).toNat default) (List.getD v3 v30.toNat default)).bind fun v32=>jq K n v2 v3 v30 v31 L1 (!v32)) else jq K n v2 v3 v30 v31 L1 false) else jq K n v2 v3 v30 v31 L1 false) else some v31
def nK(K:Kn)(n:Nat)(v2:Fv)(v3:List aC):Nat→Int→(List av)→Option (List av)
 | 0=>fun _ _=>none
 | m+1=>kM K n v2 v3 (nK K n v2 v3 m)
def pP(K:Kn)(n:Nat)(v1:List aq)(v2:Fv):Option (List av):=(q0 K n v1).bind fun v3=>nK K n v2 v3 n 0 []
def dm(K:Kn)(n:Nat)(v1:Int):Option Int:=some (min (max v1 0) 1048576)
def oe(K:Kn)(n:Nat)(v4:Int):Option (Int×Bool):=some ((min (max v4 (-1048576)) 1048576),true)
def cC(K:Kn)(n:Nat)(v1:c6)(v2:Int):Option (Int×Bool):=if (v1.Kind == 1) then oe K n v1.Value else if (v1.Kind == 2) then (dm K n v2).bind fun v3=>oe K n (af (Int.tdiv (af (v3*(min (max v1.Value (-1000000)) 1000000))) 10000)) else some (0,false)
def gg(K:Kn)(n:Nat)(v1:aK)(v2 v3:Int):Option bq:=(cC K n v1.Margin.a0 v2).bind fun v4=>(dm K n v1.Border.a0).bind fun v5=>(cC K n v1.Padding.a0 v2).bind fun v6=>(cC K n v1.Margin.a1 v2).bind fun v7=>(dm K n v1.Border.a1).bind fun v8=>(cC K n v1.Padding.a1 v2).bind fun v9=>(cC K n v1.Margin.a2 v2).bind fun v10=>(dm K n v1.Border.a2).bind fun v11=>(cC K n v1.Padding.a2 v2).bind fun v12=>(cC K n v1.Margin.a3 v2).bind fun v13=>(dm K n v1.Border.a3).bind fun v14=>(cC K n v1.Padding.a3 v2).bind fun v15=>some (⟨⟨v4.1,v7.1,v10.1,v13.1⟩,⟨v5,v8,v11,v14⟩,⟨(max v6.1 0),(max v9.1 0),(max v12.1 0),(max v15.1 0)⟩,v3⟩:bq)
def fz(K:Kn)(n:Nat)(v1:bq):Option Int:=some (af ((af ((af ((af ((af ((af (v1.Content+v1.Margin.a1))+v1.Margin.a3))+v1.Border.a1))+v1.Border.a3))+v1.Padding.a1))+v1.Padding.a3))
def l5(K:Kn)(n:Nat)(v13:aK):Option aK:=some v13
def mf(K:Kn)(n:Nat)(v12:aK):Option aK:=if (v12.Padding.a3.Kind == 2) then l5 K n ({ v12 with Padding:=⟨v12.Padding.a0,v12.Padding.a1,v12.Padding.a2,dH⟩ }:aK) else l5 K n v12
def ms(K:Kn)(n:Nat)(v11:aK):Option aK:=if (v11.Margin.a3.Kind == 2) then mf K n ({ v11 with Margin:=⟨v11.Margin.a0,v11.Margin.a1,v11.Margin.a2,dH⟩ }:aK) else mf K n v11
def kO(K:Kn)(n:Nat)(v10:aK):Option aK:=if (v10.Padding.a2.Kind == 2) then ms K n ({ v10 with Padding:=⟨v10.Padding.a0,v10.Padding.a1,dH,v10.Padding.a3⟩ }:aK) else ms K n v10
def oa(K:Kn)(n:Nat)(v9:aK):Option aK:=if (v9.Margin.a2.Kind == 2) then kO K n ({ v9 with Margin:=⟨v9.Margin.a0,v9.Margin.a1,dH,v9.Margin.a3⟩ }:aK) else kO K n v9
def n6(K:Kn)(n:Nat)(v8:aK):Option aK:=if (v8.Padding.a1.Kind == 2) then oa K n ({ v8 with Padding:=⟨v8.Padding.a0,dH,v8.Padding.a2,v8.Padding.a3⟩ }:aK) else oa K n v8
def l4(K:Kn)(n:Nat)(v7:aK):Option aK:=if (v7.Margin.a1.Kind == 2) then n6 K n ({ v7 with Margin:=⟨v7.Margin.a0,dH,v7.Margin.a2,v7.Margin.a3⟩ }:aK) else n6 K n v7
def mD(K:Kn)(n:Nat)(v6:aK):Option aK:=if (v6.Padding.a0.Kind == 2) then l4 K n ({ v6 with Padding:=⟨dH,v6.Padding.a1,v6.Padding.a2,v6.Padding.a3⟩ }:aK) else l4 K n v6
def mw(K:Kn)(n:Nat)(v5:aK):Option aK:=if (v5.Margin.a0.Kind == 2) then mD K n ({ v5 with Margin:=⟨dH,v5.Margin.a1,v5.Margin.a2,v5.Margin.a3⟩ }:aK) else mD K n v5
def lM(K:Kn)(n:Nat)(v4:aK):Option aK:=if (v4.MaxWidth.Kind == 2) then mw K n ({ v4 with MaxWidth:=dH }:aK) else mw K n v4
def lU(K:Kn)(n:Nat)(v3:aK):Option aK:=if (v3.MinWidth.Kind == 2) then lM K n ({ v3 with MinWidth:=dH }:aK) else lM K n v3
def mV(K:Kn)(n:Nat)(v1:aK):Option aK:=if (v1.Width.Kind == 2) then lU K n ({ v1 with Width:=dH }:aK) else lU K n v1
def lD(K:Kn)(n:Nat)(v1:List aq)(v2:Fv)(L1:Int→Option Int)(v4:Int):Option Int:=if (decide (v4<(v1.length:Int))) then aM (aZ v4 v1.length) ((K.ny v2 (List.getD v1 v4.toNat default)).bind fun v5=>if v5 then some v4 else L1 (af (v4+1))) else some (-1)
def nx(K:Kn)(n:Nat)(v1:List aq)(v2:Fv):Nat→Int→Option Int
 | 0=>fun _=>none
 | m+1=>lD K n v1 v2 (nx K n v1 v2 m)
def qx(K:Kn)(n:Nat)(v1:List aq)(v2:Fv):Option Int:=nx K n v1 v2 n 0
def sd(K:Kn)(n:Nat)(v1:List aq)(v2:Fv):Option Bool:=(qx K n v1 v2).bind fun v3=>some (decide (v3≥0))
def nG(K:Kn)(n:Nat)(v1:aq)(v8:Int)(L1:Int→(List aq)→Option ((List aq)×Bool))(v11:List aq):Option ((List aq)×Bool):=L1 (af (v8+1)) v11
def m7(K:Kn)(n:Nat)(v1:aq)(L1:Int→(List aq)→Option ((List aq)×Bool))(v8:Int)(v9:List aq):Option ((List aq)×Bool):=if (decide (v8<(v1.Kids.length:Int))) then aM (aZ v8 v1.Kids.length) ((oc K n (List.getD v1.Kids v8.toNat default)).bind fun v10=>if v10 then aM (fits (v9.length+([(List.getD v1.Kids v8.toNat default)]:(List aq)).length) 520) (nG K n v1 v8 L1 (v9++[(List.getD v1.Kids v8.toNat default)])) else nG K n v1 v8 L1 v9) else (sd K n v9 (Fv.fn 81)).bind fun v12=>some (v9,v12)
def nf(K:Kn)(n:Nat)(v1:aq):Nat→Int→(List aq)→Option ((List aq)×Bool)
 | 0=>fun _ _=>none
 | m+1=>m7 K n v1 (nf K n v1 m)
def l7(K:Kn)(n:Nat)(v1:aq):Option ((List aq)×Bool):=nf K n v1 n 0 []
def lh(K:Kn)(n:Nat)(v2:bU)(v6:(List aq)×Bool)(L1:Int→Int→Int→Option (Int×Int))(v11 v12 v13:Int):Option (Int×Int):=if (decide (v13<(v6.1.length:Int))) then aM (aZ v13 v6.1.length) ((K.nL v2.Widths (List.getD v6.1 v13.toNat default)).bind fun v14=>L1 (max v11 v14.1) (max v12 v14.2) (af (v13+1))) else (dm K n v11).bind fun v15=>(dm K n v12).bind fun v16=>some (v15,v16)
def m8(K:Kn)(n:Nat)(v2:bU)(v6:(List aq)×Bool):Nat→Int→Int→Int→Option (Int×Int)
 | 0=>fun _ _ _=>none
 | m+1=>lh K n v2 v6 (m8 K n v2 v6 m)
def nU(K:Kn)(n:Nat)(v1:aq)(v2:bU):Option (Int×Int):=(mV K n v1.Style).bind fun v3=>(cC K n v3.Width 0).bind fun v4=>if v4.2=true then (dm K n v4.1).bind fun v5=>some (v5,v5) else (l7 K n v1).bind fun v6=>if (!v6.2) then (K.nI v2.Spread v6.1 v1.Style).bind fun v7=>(dm K n v7.1).bind fun v8=>(dm K n v7.2).bind fun v9=>some (v8,v9) else m8 K n v2 v6 n 0 0 0
def nO(K:Kn)(n:Nat)(v7:Int):Option Int:=some v7
def mZ(K:Kn)(n:Nat)(v1:aK)(v2 v5:Int):Option Int:=(cC K n v1.MinWidth v2).bind fun v6=>if v6.2=true then nO K n (max v5 v6.1) else nO K n v5
def iD(K:Kn)(n:Nat)(v1:aK)(v2 v3:Int):Option Int:=(cC K n v1.MaxWidth v2).bind fun v4=>if v4.2=true then mZ K n v1 v2 (min (max v3 0) (max v4.1 0)) else mZ K n v1 v2 (max v3 0)
def mR(K:Kn)(n:Nat)(v1:aq)(v2 v9:Int):Option Int:=(iD K n v1.Style v2 v9).bind fun v10=>some v10
def pT(K:Kn)(n:Nat)(v1:aq)(v2:Int)(v3:bU):Option Int:=(cC K n v1.Style.Width v2).bind fun v4=>if (!v4.2) then (nU K n v1 v3).bind fun v5=>(dm K n v2).bind fun v6=>(gg K n v1.Style v2 0).bind fun v7=>(fz K n v7).bind fun v8=>mR K n v1 v2 (min (max (af (v6-v8)) v5.1) v5.2) else mR K n v1 v2 v4.1
def mE(K:Kn)(n:Nat)(v1:ae)(v3:Int×Bool)(v5:Int):Option ae:=some ({ v1 with X:=(af (v1.X+v3.1)),Y:=v5 }:ae)
def lw(K:Kn)(n:Nat)(v1:ae)(v2:Int):Option ae:=if (v1.Style.Position != 1) then some v1 else (cC K n v1.Style.Left v2).bind fun v3=>if (v1.Style.Top.Kind == 1) then (cC K n v1.Style.Top 0).bind fun v4=>mE K n v1 v3 (af (v1.Y+v4.1)) else mE K n v1 v3 v1.Y
def eW(K:Kn)(n:Nat)(v1:aE):Option Int:=some (af (v1.Pos+v1.Neg))
def fQ(K:Kn)(n:Nat)(v1 v2:aE):Option aE:=some (⟨(max v1.Pos v2.Pos),(min v1.Neg v2.Neg)⟩:aE)
def nd(K:Kn)(n:Nat)(v1:List ae)(v18:Int)(v21:List ae)(v24:Int)(L1:Int→Bool→Int→aE→aE→(List ae)→Option ((List ae)×Int×aE×aE×Bool))(v26:Int)(v27:Bool)(v28 v29:aE):Option ((List ae)×Int×aE×aE×Bool):=aM (fits (v21.length+([({ (List.getD v1 v18.toNat default)with Y:=v24 }:ae)]:(List ae)).length) 584) (L1 v26 v27 (af (v18+1)) v28 v29 (v21++[({ (List.getD v1 v18.toNat default)with Y:=v24 }:ae)]))
def nj(K:Kn)(n:Nat)(v1:List ae)(v18:Int)(v21:List ae)(v22:aE)(v24:Int)(L1:Int→Bool→Int→aE→aE→(List ae)→Option ((List ae)×Int×aE×aE×Bool))(v25:aE):Option ((List ae)×Int×aE×aE×Bool):=nd K n v1 v18 v21 v24 L1 (af (v24+((List.getD v1 v18.toNat default).H))) false v25 ((List.getD v1 v18.toNat default).After)
def lz(K:Kn)(n:Nat)(v1:List ae)(v16:Int)(v17:Bool)(v18:Int)(v19:aE)(v21:List ae)(v22:aE)(L1:Int→Bool→Int→aE→aE→(List ae)→Option ((List ae)×Int×aE×aE×Bool))(v24:Int):Option ((List ae)×Int×aE×aE×Bool):=if (!(List.getD v1 v18.toNat default).Empty) then if v17 then nj K n v1 v18 v21 v22 v24 L1 v22 else nj K n v1 v18 v21 v22 v24 L1 v19 else nd K n v1 v18 v21 v24 L1 v16 v17 v19 v22
def li(K:Kn)(n:Nat)(v16:Int)(v17:Bool)(v20:aE)(v21:List ae)(v30:aE):Option ((List ae)×Int×aE×aE×Bool):=some (v21,v16,v30,v20,v17)
def mW(K:Kn)(n:Nat)(v1:List ae)(L1:Int→Bool→Int→aE→aE→(List ae)→Option ((List ae)×Int×aE×aE×Bool))(v16:Int)(v17:Bool)(v18:Int)(v19 v20:aE)(v21:List ae):Option ((List ae)×Int×aE×aE×Bool):=if (decide (v18<(v1.length:Int))) then aM (aZ v18 v1.length) ((fQ K n v20 ((List.getD v1 v18.toNat default).Before)).bind fun v22=>if (!v17) then (eW K n v22).bind fun v23=>lz K n v1 v16 v17 v18 v19 v21 v22 L1 (af (v16+v23)) else lz K n v1 v16 v17 v18 v19 v21 v22 L1 0) else if v17 then li K n v16 v17 v20 v21 v20 else li K n v16 v17 v20 v21 v19
def mm(K:Kn)(n:Nat)(v1:List ae):Nat→Int→Bool→Int→aE→aE→(List ae)→Option ((List ae)×Int×aE×aE×Bool)
 | 0=>fun _ _ _ _ _ _=>none
 | m+1=>mW K n v1 (mm K n v1 m)
def o8(K:Kn)(n:Nat)(v1:List ae):Option ((List ae)×Int×aE×aE×Bool):=mm K n v1 n 0 true 0 cb cb []
def sC(K:Kn)(n:Nat)(v1:List ae):Option (List ae):=both (List.isEmpty v1) (some []) (aM (fits (([]:List ae).length+v1.length) 584) (some (([]:List ae)++v1)))
def mG(K:Kn)(n:Nat)(v1:Int):Option aE:=some (⟨(max v1 0),(min v1 0)⟩:aE)
def pZ(K:Kn)(n:Nat)(v1:bq):Option Int:=some (af ((af ((af (v1.Border.a3+v1.Padding.a3))+v1.Border.a1))+v1.Padding.a1))
def j5(K:Kn)(n:Nat)(v2:Bool):Option Bool:=some v2
def mN(K:Kn)(n:Nat)(v1:aq):Option Bool:=if (v1.Kind == 1) then j5 K n true else if (v1.Kind == 6) then j5 K n true else j5 K n (v1.Kind == 7)
def nC(K:Kn)(n:Nat)(v1:aq)(v2:bq)(v6:(List aq)×Bool)(v19:List ae)(v25:Int)(v33 v34:aE)(v35:Bool)(v39 v40 v47:Int)(L2:Int→(List ae)→Option ae)(v54:List ae):Option ae:=L2 (af (v47+1)) v54
def kN(K:Kn)(n:Nat)(v1:aq)(v2:bq)(v6:(List aq)×Bool)(v19:List ae)(v25:Int)(v33 v34:aE)(v35:Bool)(v39 v40 v47:Int)(v50:List ae)(L2:Int→(List ae)→Option ae)(v52:Bool):Option ae:=if v52 then aM (aZ v47 v50.length) ((lw K n (List.getD v50 v47.toNat default) v2.Content).bind fun v53=>aM (aZ v47 v50.length) (nC K n v1 v2 v6 v19 v25 v33 v34 v35 v39 v40 v47 L2 (List.set v50 v47.toNat v53))) else nC K n v1 v2 v6 v19 v25 v33 v34 v35 v39 v40 v47 L2 v50
def l9(K:Kn)(n:Nat)(v1:aq)(v2:bq)(v6:(List aq)×Bool)(v19:List ae)(v25:Int)(v33 v34:aE)(v35:Bool)(v39 v40:Int)(L2:Int→(List ae)→Option ae)(v47:Int)(v48:List ae):Option ae:=if (decide (v47<(v19.length:Int))) then aM (aZ v47 v48.length) (aM (aZ v47 v48.length) ((some (List.set v48 v47.toNat ({ (List.getD v48 v47.toNat default)with X:=(af (((List.getD v48 v47.toNat default).X)+(af (v2.Border.a3+v2.Padding.a3)))) }:ae))).bind fun v49=>aM (aZ v47 v49.length) (aM (aZ v47 v49.length) ((some (List.set v49 v47.toNat ({ (List.getD v49 v47.toNat default)with Y:=(af (((List.getD v49 v47.toNat default).Y)+(af ((af (v2.Border.a0+v2.Padding.a0))+v25)))) }:ae))).bind fun v50=>if v6.2=true then aM (aZ v47 v6.1.length) ((mN K n (List.getD v6.1 v47.toNat default)).bind fun v51=>kN K n v1 v2 v6 v19 v25 v33 v34 v35 v39 v40 v47 v50 L2 v51) else kN K n v1 v2 v6 v19 v25 v33 v34 v35 v39 v40 v47 v50 L2 false)))) else some (⟨1,v1.Node,v2.Margin.a3,0,(af (v2.Content+v39)),v40,0,⟨#[]⟩,v1.Style,v33,v34,v35,v48⟩:ae)
def kL(K:Kn)(n:Nat)(v1:aq)(v2:bq)(v6:(List aq)×Bool)(v19:List ae)(v25:Int)(v33 v34:aE)(v35:Bool)(v39 v40:Int):Nat→Int→(List ae)→Option ae
 | 0=>fun _ _=>none
 | m+1=>l9 K n v1 v2 v6 v19 v25 v33 v34 v35 v39 v40 (kL K n v1 v2 v6 v19 v25 v33 v34 v35 v39 v40 m)
def kT(K:Kn)(n:Nat)(v1:aq)(v2:bq)(v6:(List aq)×Bool)(v19:List ae)(v25:Int)(v33 v34:aE)(v35:Bool)(v38:Int):Option ae:=(pZ K n v2).bind fun v39=>(some (af ((af ((af ((af (v38+v2.Border.a0))+v2.Padding.a0))+v2.Border.a2))+v2.Padding.a2))).bind fun v40=>kL K n v1 v2 v6 v19 v25 v33 v34 v35 v39 v40 n 0 v19
def nc(K:Kn)(n:Nat)(v1:aq)(v2:bq)(v6:(List aq)×Bool)(v19:List ae)(v25 v32:Int)(v33 v34:aE)(v35:Bool)(v36:Int×Bool)(v37:Bool):Option ae:=if v37 then kT K n v1 v2 v6 v19 v25 v33 v34 v35 (max v36.1 0) else kT K n v1 v2 v6 v19 v25 v33 v34 v35 (max v32 0)
def gt(K:Kn)(n:Nat)(v1:aq)(v2:bq)(v6:(List aq)×Bool)(v19:List ae)(v25 v32:Int)(v33 v34:aE)(v35:Bool):Option ae:=(cC K n v1.Style.Height 0).bind fun v36=>if v36.2=true then nc K n v1 v2 v6 v19 v25 v32 v33 v34 v35 v36 (v1.Style.Height.Kind == 1) else nc K n v1 v2 v6 v19 v25 v32 v33 v34 v35 v36 false
def jD(K:Kn)(n:Nat)(v1:aq)(v2:bq)(v4:Bool)(v6:(List aq)×Bool)(v15:Int)(v16:Bool)(v17 v18:aE)(v19:List ae)(v21:aE)(v25:Int)(v26:aE)(v27:Bool):Option ae:=if v27 then (fQ K n v26 v21).bind fun v28=>gt K n v1 v2 v6 v19 v25 0 v28 v28 true else if v16 then if v4 then (fQ K n v21 v17).bind fun v29=>gt K n v1 v2 v6 v19 v25 v25 v26 v29 false else gt K n v1 v2 v6 v19 v25 v25 v26 v21 false else if v4 then (fQ K n v21 v18).bind fun v30=>gt K n v1 v2 v6 v19 v25 (af (v15+v25)) v26 v30 false else (eW K n v18).bind fun v31=>gt K n v1 v2 v6 v19 v25 (af (v15+(af (v25+v31)))) v26 v21 false
def jG(K:Kn)(n:Nat)(v1:aq)(v2:bq)(v3 v4:Bool)(v6:(List aq)×Bool)(v15:Int)(v16:Bool)(v17 v18:aE)(v19:List ae)(v21:aE)(v25:Int)(v26:aE):Option ae:=if v16 then if v3 then jD K n v1 v2 v4 v6 v15 v16 v17 v18 v19 v21 v25 v26 v4 else jD K n v1 v2 v4 v6 v15 v16 v17 v18 v19 v21 v25 v26 false else jD K n v1 v2 v4 v6 v15 v16 v17 v18 v19 v21 v25 v26 false
def nP(K:Kn)(n:Nat)(v1:aq)(v2:bq)(v3 v4:Bool)(v6:(List aq)×Bool)(v15:Int)(v16:Bool)(v17 v18:aE)(v19:List ae)(v20 v21:aE)(v23:Bool):Option ae:=if v23 then (eW K n v17).bind fun v24=>jG K n v1 v2 v3 v4 v6 v15 v16 v17 v18 v19 v21 v24 v20 else jG K n v1 v2 v3 v4 v6 v15 v16 v17 v18 v19 v21 0 v20
def nh(K:Kn)(n:Nat)(v1:aq)(v2:bq)(v3 v4:Bool)(v6:(List aq)×Bool)(v15:Int)(v16:Bool)(v17 v18:aE)(v19:List ae):Option ae:=(mG K n v2.Margin.a0).bind fun v20=>(mG K n v2.Margin.a2).bind fun v21=>if v3 then (fQ K n v20 v17).bind fun v22=>jG K n v1 v2 v3 v4 v6 v15 v16 v17 v18 v19 v21 0 v22 else if (!v16) then nP K n v1 v2 v3 v4 v6 v15 v16 v17 v18 v19 v20 v21 true else nP K n v1 v2 v3 v4 v6 v15 v16 v17 v18 v19 v20 v21 (!v4)
def lQ(K:Kn)(n:Nat)(v1:aq)(v2:bq)(v3 v4:Bool)(v5:bU)(v6:(List aq)×Bool)(L1:Int→(List ae)→Option ae)(v9:Int)(v10:List ae):Option ae:=if (decide (v9<(v6.1.length:Int))) then aM (aZ v9 v6.1.length) ((K.lF v5.Layout (List.getD v6.1 v9.toNat default) v2.Content).bind fun v11=>aM (fits (v10.length+([v11]:(List ae)).length) 584) (L1 (af (v9+1)) (v10++[v11]))) else (o8 K n v10).bind fun v12=>nh K n v1 v2 v3 v4 v6 v12.2.1 v12.2.2.2.2 v12.2.2.1 v12.2.2.2.1 v12.1
def lC(K:Kn)(n:Nat)(v1:aq)(v2:bq)(v3 v4:Bool)(v5:bU)(v6:(List aq)×Bool):Nat→Int→(List ae)→Option ae
 | 0=>fun _ _=>none
 | m+1=>lQ K n v1 v2 v3 v4 v5 v6 (lC K n v1 v2 v3 v4 v5 v6 m)
def ln(K:Kn)(n:Nat)(v1:aq)(v2:bq)(v3 v4:Bool)(v5:bU):Option ae:=(l7 K n v1).bind fun v6=>if v6.2=true then lC K n v1 v2 v3 v4 v5 v6 n 0 [] else (K.lc v5.Lines v6.1 v1.Style v2.Content).bind fun v13=>(sC K n v13.1).bind fun v14=>nh K n v1 v2 v3 v4 v6 v13.2 ((v14.length:Int) == 0) cb cb v14
def pS(K:Kn)(n:Nat)(v1:aq)(v2:bq)(v3:bU):Option ae:=(ln K n v1 v2 false false v3).bind fun v4=>some v4
def pB(K:Kn)(n:Nat)(v1:aq)(v2:Int)(v3:bU):Option av:=(pT K n v1 v2 v3).bind fun v4=>(gg K n v1.Style v2 v4).bind fun v5=>(pS K n v1 v5 v3).bind fun v7=>(lw K n v7 v2).bind fun v8=>(fz K n v5).bind fun v9=>(eW K n v8.Before).bind fun v10=>(eW K n v8.After).bind fun v11=>some ({ cf with Width:=v9,Above:=(af ((af (v8.H+v10))+v11)),Box:=[v8] }:av)
def sB(K:Kn)(n:Nat)(v1:List aq)(v2:Int)(v3:bU):Option (List av):=(pP K n v1 (Fv.c42 v2 v3.Layout v3.Widths v3.Lines v3.Spread)).bind fun v4=>some v4
def oQ(K:Kn)(n:Nat)(v1:aK)(v2 v3:Int):Option Int:=if (decide (v3≥v2)) then some 0 else if (v1.TextAlign == 1) then some (af (Int.tdiv (af (v2-v3)) 2)) else if (v1.TextAlign == 2) then some (af (v2-v3)) else some 0
def ni(K:Kn)(n:Nat)(v3:Bool):Option Bool:=some v3
def pa(K:Kn)(n:Nat)(v1 v2:ByteArray):Option Bool:=if (decide ((v1.size:Int)≥(v2.size:Int))) then aM (db (af ((v1.size:Int)-(v2.size:Int))) (v1.size:Int) v1.size) (ni K n ((ByteArray.extract v1 ((af ((v1.size:Int)-(v2.size:Int)))).toNat ((v1.size:Int)).toNat).toList == v2.toList)) else ni K n false
def pK(K:Kn)(n:Nat)(v1 v2:ByteArray):Option Bool:=(pa K n v1 v2).bind fun v3=>some v3
def kW(K:Kn)(n:Nat)(v1:List av)(v2:aK)(v3 v10:Int)(L1:Int→Int→Int→Option ae)(v11 v12:Int):Option ae:=L1 v11 v12 (af (v10+1))
def m5(K:Kn)(n:Nat)(v1:List av)(v2:aK)(v3 v8 v9 v15 v78 v79:Int)(v83:av)(L2:Int→Int→(List ae)→Option ae)(L3:Int→(List ae)→Option ae)(v104:Int)(v105:List ae):Option ae:=if (decide (v104<(v83.Box.length:Int))) then aM (aZ v104 v83.Box.length) ((some ((List.getD v83.Box v104.toNat default).Kind)).bind fun v106=>(some ((List.getD v83.Box v104.toNat default).Node)).bind fun v107=>(some (af (((List.getD v83.Box v104.toNat default).X)+v78))).bind fun v108=>(some ((List.getD v83.Box v104.toNat default).aw)).bind fun v109=>(some ((List.getD v83.Box v104.toNat default).Text)).bind fun v110=>(some ((List.getD v83.Box v104.toNat default).Style)).bind fun v111=>(some ((List.getD v83.Box v104.toNat default).Before)).bind fun v112=>(some ((List.getD v83.Box v104.toNat default).After)).bind fun v113=>(some ((List.getD v83.Box v104.toNat default).Empty)).bind fun v114=>(some ((List.getD v83.Box v104.toNat default).Kids)).bind fun v115=>(eW K n v113).bind fun v116=>(some (af (((List.getD v83.Box v104.toNat default).Y)+(af ((af (v8-((List.getD v83.Box v104.toNat default).H)))-v116))))).bind fun v117=>aM (fits (v105.length+([(⟨v106,v107,v108,v117,(List.getD v83.Box v104.toNat default).W,(List.getD v83.Box v104.toNat default).H,v109,v110,v111,v112,v113,v114,v115⟩:ae)]:(List ae)).length) 584) (L3 (af (v104+1)) (v105++[(⟨v106,v107,v108,v117,(List.getD v83.Box v104.toNat default).W,(List.getD v83.Box v104.toNat default).H,v109,v110,v111,v112,v113,v114,v115⟩:ae)]))) else L2 (af (v78+(af (v83.Width+v83.Space)))) (af (v79+1)) v105
def ng(K:Kn)(n:Nat)(v1:List av)(v2:aK)(v3 v8 v9 v15 v78 v79:Int)(v83:av)(L2:Int→Int→(List ae)→Option ae):Nat→Int→(List ae)→Option ae
 | 0=>fun _ _=>none
 | m+1=>m5 K n v1 v2 v3 v8 v9 v15 v78 v79 v83 L2 (ng K n v1 v2 v3 v8 v9 v15 v78 v79 v83 L2 m)
def mA(K:Kn)(n:Nat)(v1:List av)(v2:aK)(v3 v8 v9 v15 v78 v79:Int)(v83:av)(L2:Int→Int→(List ae)→Option ae)(v87:List ae):Option ae:=ng K n v1 v2 v3 v8 v9 v15 v78 v79 v83 L2 n 0 v87
def lv(K:Kn)(n:Nat)(v1:List av)(v2:aK)(v3 v8 v9 v15 v78 v79:Int)(v80:List ae)(L2:Int→Int→(List ae)→Option ae)(v83:av):Option ae:=(some (!(v83.Text.toList == (⟨#[]⟩:ByteArray).toList))).bind fun v84=>if v84 then (mP K n v83.Style.FontSize).bind fun v85=>(mO K n v83.Style.FontSize).bind fun v86=>aM (fits (v80.length+([(⟨3,v83.Node,v78,(af (v8-v85)),(af (v83.Width+v83.Space)),v86,0,v83.Text,v83.Style,cb,cb,false,[]⟩:ae)]:(List ae)).length) 584) (mA K n v1 v2 v3 v8 v9 v15 v78 v79 v83 L2 (v80++[(⟨3,v83.Node,v78,(af (v8-v85)),(af (v83.Width+v83.Space)),v86,0,v83.Text,v83.Style,cb,cb,false,[]⟩:ae)])) else mA K n v1 v2 v3 v8 v9 v15 v78 v79 v83 L2 v80
def jr(K:Kn)(n:Nat)(v1:List av)(v2:aK)(v3 v8 v9 v15 v78 v79:Int)(v80:List ae)(L2:Int→Int→(List ae)→Option ae)(v82:Bool):Option ae:=if v82 then aM (db (0:Int) (af ((((List.getD v1 v79.toNat default).Text).size:Int)-1)) ((List.getD v1 v79.toNat default).Text).size) (lv K n v1 v2 v3 v8 v9 v15 v78 v79 v80 L2 ({ (List.getD v1 v79.toNat default)with Text:=(ByteArray.extract ((List.getD v1 v79.toNat default).Text) (0:Int).toNat ((af ((((List.getD v1 v79.toNat default).Text).size:Int)-1))).toNat),Space:=0 }:av)) else lv K n v1 v2 v3 v8 v9 v15 v78 v79 v80 L2 (List.getD v1 v79.toNat default)
def lX(K:Kn)(n:Nat)(v1:List av)(v2:aK)(v3 v8 v9 v15:Int)(L2:Int→Int→(List ae)→Option ae)(v78 v79:Int)(v80:List ae):Option ae:=if (decide (v79<(v1.length:Int))) then aM (aZ v79 v1.length) (if (v79 == v15) then (pK K n ((List.getD v1 v79.toNat default).Text) (⟨#[32]⟩)).bind fun v81=>if v81 then jr K n v1 v2 v3 v8 v9 v15 v78 v79 v80 L2 ((((List.getD v1 v79.toNat default).Style).WhiteSpace) != 2) else jr K n v1 v2 v3 v8 v9 v15 v78 v79 v80 L2 false else jr K n v1 v2 v3 v8 v9 v15 v78 v79 v80 L2 false) else some ({ bh with Kind:=2,W:=v3,H:=(af (v8+v9)),aw:=v8,Style:=v2,Kids:=v80 }:ae)
def lY(K:Kn)(n:Nat)(v1:List av)(v2:aK)(v3 v8 v9 v15:Int):Nat→Int→Int→(List ae)→Option ae
 | 0=>fun _ _ _=>none
 | m+1=>lX K n v1 v2 v3 v8 v9 v15 (lY K n v1 v2 v3 v8 v9 v15 m)
def nN(K:Kn)(n:Nat)(v1:List av)(v2:aK)(v3:Int)(L1:Int→Int→Int→Option ae)(v8 v9 v10:Int):Option ae:=if (decide (v10<(v1.length:Int))) then aM (aZ v10 v1.length) (if (!(List.getD v1 v10.toNat default).Forced) then kW K n v1 v2 v3 v10 L1 (max v8 ((List.getD v1 v10.toNat default).Above)) (max v9 ((List.getD v1 v10.toNat default).Below)) else kW K n v1 v2 v3 v10 L1 v8 v9) else (iy K n v1).bind fun v13=>(oQ K n v2 v3 v13).bind fun v14=>(iz K n v1).bind fun v15=>lY K n v1 v2 v3 v8 v9 v15 n v14 0 []
def nn(K:Kn)(n:Nat)(v1:List av)(v2:aK)(v3:Int):Nat→Int→Int→Int→Option ae
 | 0=>fun _ _ _=>none
 | m+1=>nN K n v1 v2 v3 (nn K n v1 v2 v3 m)
def oE(K:Kn)(n:Nat)(v1:List av)(v2:aK)(v3:Int):Option ae:=(gN K n v2).bind fun v4=>nn K n v1 v2 v3 n v4.1 v4.2 0
def l3(K:Kn)(n:Nat)(v2:aK)(v3:Int)(v5:List av)(v6:List Int)(L1:Int→Int→Int→(List ae)→Option ((List ae)×Int))(v13 v14 v15:Int)(v16:List ae):Option ((List ae)×Int):=if (decide (v15<v14)) then aM (aZ v15 (v6++[(v5.length:Int)]).length) (aM (aZ (af (v15+1)) (v6++[(v5.length:Int)]).length) (aM (db (List.getD (v6++[(v5.length:Int)]) v15.toNat default) (List.getD (v6++[(v5.length:Int)]) ((af (v15+1))).toNat default) v5.length) ((oE K n (List.drop ((List.getD (v6++[(v5.length:Int)]) v15.toNat default)).toNat (List.take ((List.getD (v6++[(v5.length:Int)]) ((af (v15+1))).toNat default)).toNat v5)) v2 (min (max v3 0) 1048576)).bind fun v17=>aM (fits (v16.length+([({ v17 with Y:=v13 }:ae)]:(List ae)).length) 584) (L1 (af (v13+v17.H)) v14 (af (v15+1)) (v16++[({ v17 with Y:=v13 }:ae)]))))) else some (v16,v13)
def nz(K:Kn)(n:Nat)(v2:aK)(v3:Int)(v5:List av)(v6:List Int):Nat→Int→Int→Int→(List ae)→Option ((List ae)×Int)
 | 0=>fun _ _ _ _=>none
 | m+1=>l3 K n v2 v3 v5 v6 (nz K n v2 v3 v5 v6 m)
def sq(K:Kn)(n:Nat)(v1:List aq)(v2:aK)(v3:Int)(v4:bU):Option ((List ae)×Int):=(sB K n v1 (min (max v3 0) 1048576) v4).bind fun v5=>(ic K n v5 (min (max v3 0) 1048576)).bind fun v6=>aM (fits (v6.length+([(v5.length:Int)]:(List Int)).length) 8) (nz K n v2 v3 v5 v6 n 0 (af (((v6++[(v5.length:Int)]).length:Int)-1)) 0 [])
def jS(K:Kn)(n:Nat):Option bU:=some (⟨(Fv.fn 36),(Fv.fn 37),(Fv.fn 38),(Fv.fn 39)⟩:bU)
def eI(K:Kn)(n:Nat)(v4:Bool):Option Bool:=some v4
def nl(K:Kn)(n:Nat):Option Bool:=(gN K n ({ bG with FontSize:=16,LineHeight:=30 }:aK)).bind fun v1=>(jS K n ).bind fun v2=>(sq K n [({ gq with Kind:=3,Style:=({ bG with FontSize:=16,LineHeight:=30 }:aK),Text:=⟨#[97,98,32,32,99,100]⟩ }:aq)] ({ bG with FontSize:=16,LineHeight:=30 }:aK) 20 v2).bind fun v3=>if (v1.1 == 21) then if (v1.2 == 9) then if ((v3.1.length:Int) == 2) then if (v3.2 == 60) then aM (aZ (0:Int) v3.1.length) (if ((((List.getD v3.1 (0:Int).toNat default).Kids).length:Int) == 1) then aM (aZ (0:Int) v3.1.length) (aM (aZ (0:Int) ((List.getD v3.1 (0:Int).toNat default).Kids).length) (if (((List.getD ((List.getD v3.1 (0:Int).toNat default).Kids) (0:Int).toNat default).Text).toList == (⟨#[97,98]⟩:ByteArray).toList) then aM (aZ (1:Int) v3.1.length) (aM (aZ (0:Int) ((List.getD v3.1 (1:Int).toNat default).Kids).length) (eI K n (((List.getD ((List.getD v3.1 (1:Int).toNat default).Kids) (0:Int).toNat default).W) == 16))) else eI K n false)) else eI K n false) else eI K n false else eI K n false else eI K n false else eI K n false
def iV(K:Kn)(n:Nat)(v1:List bJ)(v4:Int)(L1:Int→Option Int)(v5:Bool):Option Int:=if v5 then L1 (af (v4+1)) else some v4
def iC(K:Kn)(n:Nat)(v1:List bJ)(L1:Int→Option Int)(v4:Int):Option Int:=if (decide (v4<(v1.length:Int))) then aM (aZ v4 v1.length) (iV K n v1 v4 L1 ((List.getD v1 v4.toNat default).Glued)) else iV K n v1 v4 L1 false
def g0(K:Kn)(n:Nat)(v1:List bJ):Nat→Int→Option Int
 | 0=>fun _=>none
 | m+1=>iC K n v1 (g0 K n v1 m)
def fW(K:Kn)(n:Nat)(v1:List bJ)(v2:Int):Option Int:=g0 K n v1 n (af (v2+1))
def jy(K:Kn)(n:Nat)(v1:List bJ)(v7 v8:Int)(L1:Int→Int→Int→Option Int)(v9:Int):Option Int:=L1 v8 v9 (af (v7+1))
def iU(K:Kn)(n:Nat)(v1:List bJ)(L1:Int→Int→Int→Option Int)(v5 v6 v7:Int):Option Int:=if (decide (v7<(v1.length:Int))) then aM (aZ v7 v1.length) (aM (aZ v7 v1.length) ((some (af (v5+(af (((List.getD v1 v7.toNat default).Width)+((List.getD v1 v7.toNat default).Space)))))).bind fun v8=>aM (aZ v7 v1.length) (if (!(List.getD v1 v7.toNat default).Forced) then aM (aZ v7 v1.length) (jy K n v1 v7 v8 L1 ((List.getD v1 v7.toNat default).Space)) else jy K n v1 v7 v8 L1 v6))) else some (af (v5-v6))
def gC(K:Kn)(n:Nat)(v1:List bJ):Nat→Int→Int→Int→Option Int
 | 0=>fun _ _ _=>none
 | m+1=>iU K n v1 (gC K n v1 m)
def jJ(K:Kn)(n:Nat)(v1:List bJ):Option Int:=gC K n v1 n 0 0 0
def fw(K:Kn)(n:Nat)(v1:List bJ)(v2 v23:Int)(v24:List Int)(v30:Int)(L1:Int→(List Int)→Option (List Int))(L2:Int→Option (List Int))(v33:Bool):Option (List Int):=if v33 then (fW K n v1 v30).bind fun v34=>L2 v34 else L1 v30 (v24++[v23])
def iL(K:Kn)(n:Nat)(v1:List bJ)(v2 v23:Int)(v24:List Int)(L1:Int→(List Int)→Option (List Int))(L2:Int→Option (List Int))(v30:Int):Option (List Int):=if (decide (v30<(v1.length:Int))) then aM (aZ (af (v30-1)) v1.length) (if (!(List.getD v1 ((af (v30-1))).toNat default).Forced) then (fW K n v1 v30).bind fun v31=>aM (db v23 v31 v1.length) ((jJ K n (List.drop v23.toNat (List.take v31.toNat v1))).bind fun v32=>fw K n v1 v2 v23 v24 v30 L1 L2 (decide (v32≤v2))) else fw K n v1 v2 v23 v24 v30 L1 L2 false) else fw K n v1 v2 v23 v24 v30 L1 L2 false
def iX(K:Kn)(n:Nat)(v1:List bJ)(v2 v23:Int)(v24:List Int)(L1:Int→(List Int)→Option (List Int)):Nat→Int→Option (List Int)
 | 0=>fun _=>none
 | m+1=>iL K n v1 v2 v23 v24 L1 (iX K n v1 v2 v23 v24 L1 m)
def gO(K:Kn)(n:Nat)(v1:List bJ)(v2:Int)(L1:Int→(List Int)→Option (List Int))(v23:Int)(v24:List Int):Option (List Int):=if (decide (v23<(v1.length:Int))) then aM (fits (v24.length+([v23]:(List Int)).length) 8) ((fW K n v1 v23).bind fun v25=>iX K n v1 v2 v23 v24 L1 n v25) else some v24
def ik(K:Kn)(n:Nat)(v1:List bJ)(v2:Int):Nat→Int→(List Int)→Option (List Int)
 | 0=>fun _ _=>none
 | m+1=>gO K n v1 v2 (ik K n v1 v2 m)
def km(K:Kn)(n:Nat)(v1:List bJ)(v2:Int):Option (List Int):=ik K n v1 v2 n 0 []
def ee(K:Kn)(n:Nat)(v1:List av)(v2 v6:Int)(v7:List bJ)(L1:Int→(List bJ)→Option Bool)(v8:Bool):Option Bool:=if v8 then some true else aM (fits (v7.length+([({ sO with Width:=(List.getD v1 v6.toNat default).Width,Space:=(List.getD v1 v6.toNat default).Space,Glued:=(List.getD v1 v6.toNat default).Glued,Forced:=(List.getD v1 v6.toNat default).Forced }:bJ)]:(List bJ)).length) 104) (L1 (af (v6+1)) (v7++[({ sO with Width:=(List.getD v1 v6.toNat default).Width,Space:=(List.getD v1 v6.toNat default).Space,Glued:=(List.getD v1 v6.toNat default).Glued,Forced:=(List.getD v1 v6.toNat default).Forced }:bJ)]))
def iq(K:Kn)(n:Nat)(v9 v10:List Int)(L2:Int→Option Bool)(v12:Int):Option Bool:=if (decide (v12<(v9.length:Int))) then aM (aZ v12 v9.length) (aM (aZ v12 v10.length) ((some ((List.getD v9 v12.toNat default) != (List.getD v10 v12.toNat default))).bind fun v13=>if v13 then some false else L2 (af (v12+1)))) else some true
def iA(K:Kn)(n:Nat)(v9 v10:List Int):Nat→Int→Option Bool
 | 0=>fun _=>none
 | m+1=>iq K n v9 v10 (iA K n v9 v10 m)
def iS(K:Kn)(n:Nat)(v1:List av)(v2:Int)(L1:Int→(List bJ)→Option Bool)(v6:Int)(v7:List bJ):Option Bool:=if (decide (v6<(v1.length:Int))) then aM (aZ v6 v1.length) (if (decide (((List.getD v1 v6.toNat default).Width)>1099511627776)) then ee K n v1 v2 v6 v7 L1 true else if (decide (((List.getD v1 v6.toNat default).Width)<(-1099511627776))) then ee K n v1 v2 v6 v7 L1 true else if (decide (((List.getD v1 v6.toNat default).Space)>1099511627776)) then ee K n v1 v2 v6 v7 L1 true else ee K n v1 v2 v6 v7 L1 (decide (((List.getD v1 v6.toNat default).Space)<(-1099511627776)))) else (ic K n v1 v2).bind fun v9=>(km K n v7 v2).bind fun v10=>if ((v9.length:Int) != (v10.length:Int)) then some false else iA K n v9 v10 n 0
def eP(K:Kn)(n:Nat)(v1:List av)(v2:Int):Nat→Int→(List bJ)→Option Bool
 | 0=>fun _ _=>none
 | m+1=>iS K n v1 v2 (eP K n v1 v2 m)
def nk(K:Kn)(n:Nat)(v1:List av)(v2:Int):Option Bool:=(nl K n ).bind fun v3=>if (!v3) then some false else if (decide ((v1.length:Int)>40)) then some true else eP K n v1 v2 n 0 []
def il(K:Kn)(n:Nat)(v4:bq)(v8:Int)(v13:V4 Int):Option bq:=some ({ v4 with Margin:=v13,Content:=v8 }:bq)
def lp(K:Kn)(n:Nat)(v3:Int)(v4:bq)(v8 v9:Int)(v10 v11:Int×Bool)(v12:Bool):Option bq:=if v12 then il K n v4 v8 ⟨v4.Margin.a0,(af ((af (v3-v9))-(af (Int.tdiv (af (v3-v9)) 2)))),v4.Margin.a2,(af (Int.tdiv (af (v3-v9)) 2))⟩ else if (!v10.2) then il K n v4 v8 ⟨v4.Margin.a0,v4.Margin.a1,v4.Margin.a2,(af (v3-v9))⟩ else if (!v11.2) then il K n v4 v8 ⟨v4.Margin.a0,(af (v3-v9)),v4.Margin.a2,v4.Margin.a3⟩ else il K n v4 v8 v4.Margin
def ow(K:Kn)(n:Nat)(v1:aK)(v3:Int)(v4:bq)(v7:Int):Option bq:=(iD K n v1 v3 v7).bind fun v8=>(fz K n ({ v4 with Content:=v8 }:bq)).bind fun v9=>if (decide ((af (v3-v9))≤0)) then some ({ v4 with Content:=v8 }:bq) else (cC K n v1.Margin.a3 v3).bind fun v10=>(cC K n v1.Margin.a1 v3).bind fun v11=>if (!v10.2) then lp K n v3 v4 v8 v9 v10 v11 (!v11.2) else lp K n v3 v4 v8 v9 v10 v11 false
def sM(K:Kn)(n:Nat)(v1:aK)(v2:Int):Option bq:=(dm K n v2).bind fun v3=>(gg K n v1 v3 0).bind fun v4=>(cC K n v1.Width v3).bind fun v5=>if (!v5.2) then (fz K n v4).bind fun v6=>ow K n v1 v3 v4 (af (v3-v6)) else ow K n v1 v3 v4 v5.1
def i0(K:Kn)(n:Nat)(v1:aq)(v3:bU)(v4:bq)(v5 v6:Bool):Option ae:=(ln K n v1 v4 v5 v6 v3).bind fun v7=>some v7
def kz(K:Kn)(n:Nat)(v1:aq)(v3:bU)(v4:bq)(v5:Bool):Option ae:=if (v1.Style.Overflow == 0) then if (v4.Border.a2 == 0) then if (v4.Padding.a2 == 0) then i0 K n v1 v3 v4 v5 (v1.Style.Height.Kind != 1) else i0 K n v1 v3 v4 v5 false else i0 K n v1 v3 v4 v5 false else i0 K n v1 v3 v4 v5 false
def qd(K:Kn)(n:Nat)(v1:aq)(v2:Int)(v3:bU):Option ae:=(sM K n v1.Style v2).bind fun v4=>if (v1.Style.Overflow == 0) then if (v4.Border.a0 == 0) then kz K n v1 v3 v4 (v4.Padding.a0 == 0) else kz K n v1 v3 v4 false else kz K n v1 v3 v4 false
def qw(K:Kn)(n:Nat)(v1:aq)(v2:Int):Option ae:=(jS K n ).bind fun v3=>(qd K n v1 v2 v3).bind fun v4=>some v4
def pA(K:Kn)(n:Nat)(v1:aq)(v2:bU):Option (Int×Int):=(nU K n v1 v2).bind fun v3=>(mV K n v1.Style).bind fun v4=>(iD K n v4 0 v3.1).bind fun v5=>(gg K n v4 0 v5).bind fun v6=>(fz K n v6).bind fun v7=>(iD K n v4 0 v3.2).bind fun v8=>(gg K n v4 0 v8).bind fun v9=>(fz K n v9).bind fun v10=>some (v7,v10)
def o1(K:Kn)(n:Nat)(v1:aq):Option (Int×Int):=(jS K n ).bind fun v2=>(pA K n v1 v2).bind fun v3=>some (v3.1,v3.2)
def mT(K:Kn)(n:Nat)(v1:List aq)(v2:aK)(v3 v11:Int)(L1:Int→Int→(List ae)→Option ((List ae)×Int))(v14:Int)(v15:List ae):Option ((List ae)×Int):=L1 v14 (af (v11+1)) v15
def md(K:Kn)(n:Nat)(v1:List aq)(v2:aK)(v3:Int)(L1:Int→Int→(List ae)→Option ((List ae)×Int))(v10 v11:Int)(v12:List ae):Option ((List ae)×Int):=if (decide (v11<(v1.length:Int))) then aM (aZ v11 v1.length) ((some (!(((List.getD v1 v11.toNat default).Text).toList == (⟨#[]⟩:ByteArray).toList))).bind fun v13=>if v13 then aM (aZ v11 v1.length) (aM (fits (v12.length+([({ bh with Kind:=2,Y:=v10,W:=v3,H:=v2.LineHeight,Text:=(List.getD v1 v11.toNat default).Text }:ae)]:(List ae)).length) 584) (mT K n v1 v2 v3 v11 L1 (af (v10+v2.LineHeight)) (v12++[({ bh with Kind:=2,Y:=v10,W:=v3,H:=v2.LineHeight,Text:=(List.getD v1 v11.toNat default).Text }:ae)]))) else mT K n v1 v2 v3 v11 L1 v10 v12) else some (v12,v10)
def lf(K:Kn)(n:Nat)(v1:List aq)(v2:aK)(v3:Int):Nat→Int→Int→(List ae)→Option ((List ae)×Int)
 | 0=>fun _ _ _=>none
 | m+1=>md K n v1 v2 v3 (lf K n v1 v2 v3 m)
def rZ(K:Kn)(n:Nat)(v1:List aq)(v2:aK)(v3:Int):Option ((List ae)×Int):=lf K n v1 v2 v3 n 0 0 []
def nJ(K:Kn)(n:Nat)(v1:List aq)(L1:Int→Int→Int→Option (Int×Int))(v3 v4 v5:Int):Option (Int×Int):=if (decide (v5<(v1.length:Int))) then aM (aZ v5 v1.length) (L1 (max v3 (af (8*(((List.getD v1 v5.toNat default).Text).size:Int)))) (af (v4+(af (8*(((List.getD v1 v5.toNat default).Text).size:Int))))) (af (v5+1))) else some (v3,v4)
def lI(K:Kn)(n:Nat)(v1:List aq):Nat→Int→Int→Int→Option (Int×Int)
 | 0=>fun _ _ _=>none
 | m+1=>nJ K n v1 (lI K n v1 m)
def pX(K:Kn)(n:Nat)(v1:List aq)(v2:aK):Option (Int×Int):=lI K n v1 n 0 0 0
def KN:Nat→Kn
 | 0=>⟨fun _ _ _=>none,fun _ _ _ _=>none,fun _ _ _=>none,fun _ _ _=>none,fun _ _=>none,fun _ _=>none,fun _ _=>none⟩
 | n+1=>⟨fun a0 a1 a2=>mc (KN n) n a0 a1 a2, fun f a0 a1 a2=>match f with|.fn i=>if Nat.beq i 38=true then rZ (KN n) n a0 a1 a2 else none|.c42 x0 x1_0 x1_1 x1_2 x1_3=>none, fun f a0 a1=>match f with|.fn i=>if Nat.beq i 39=true then pX (KN n) n a0 a1 else none|.c42 x0 x1_0 x1_1 x1_2 x1_3=>none, fun f a0 a1=>match f with|.fn i=>if Nat.beq i 36=true then qw (KN n) n a0 a1 else none|.c42 x0 x1_0 x1_1 x1_2 x1_3=>none, fun f a0=>match f with|.fn i=>if Nat.beq i 81=true then mN (KN n) n a0 else none|.c42 x0 x1_0 x1_1 x1_2 x1_3=>none, fun f a0=>match f with|.fn i=>if Nat.beq i 37=true then o1 (KN n) n a0 else none|.c42 x0 x1_0 x1_1 x1_2 x1_3=>none, fun f a0=>match f with|.fn i=>none|.c42 x0 x1_0 x1_1 x1_2 x1_3=>pB (KN n) n a0 x0 (⟨x1_0,x1_1,x1_2,x1_3⟩:bU)⟩
end
end Go.Proofs.Ytnpmlepplfaijaa
