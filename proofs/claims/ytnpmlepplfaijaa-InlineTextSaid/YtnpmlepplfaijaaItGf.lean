/- Layer 18's functions as plain Lean functions: K stands for calls that come back, n bounds the rounds of loops. Made by a program. -/
import Derived.Test.YtnpmlepplfaijaaItGt
namespace Go.Proofs.Ytnpmlepplfaijaa
open Go.RowKit
set_option maxRecDepth 20000
set_option linter.all false
set_option linter.unusedVariables false
set_option linter.unusedSimpArgs false
noncomputable section
def jI(K:Kn)(n:Nat)(v1:Int):Option Int:=some (min (max v1 0) 1048576)
def nI(K:Kn)(n:Nat)(v1:Int):Option Int:=(jI K n v1).bind fun v2=>some v2
def pr(K:Kn)(n:Nat)(v1:Int):Option Int:=(jI K n v1).bind fun v2=>(jI K n v1).bind fun v3=>some (aa (v2+(aa (Int.tdiv (aa (v3+3)) 4))))
def g7(K:Kn)(n:Nat)(v1:aB):Option (Int×Int):=(nI K n v1.FontSize).bind fun v2=>(pr K n v1.FontSize).bind fun v3=>some ((aa (v2+((aa ((max v1.LineHeight 0)-v3)) / 2))),(aa ((max v1.LineHeight 0)-(aa (v2+((aa ((max v1.LineHeight 0)-v3)) / 2))))))
def md(K:Kn)(n:Nat)(v1:List aq)(v4:Int)(L1:Int→Option Int)(v5:Bool):Option Int:=if v5 then L1 (aa (v4+1)) else some v4
def lQ(K:Kn)(n:Nat)(v1:List aq)(L1:Int→Option Int)(v4:Int):Option Int:=if (decide (v4<(v1.length:Int))) then aP (bd v4 v1.length) (md K n v1 v4 L1 ((List.getD v1 v4.toNat default).Glued)) else md K n v1 v4 L1 false
def mC(K:Kn)(n:Nat)(v1:List aq):Nat→Int→Option Int
 | 0=>fun _=>none
 | m+1=>lQ K n v1 (mC K n v1 m)
def kG(K:Kn)(n:Nat)(v1:List aq)(v2:Int):Option Int:=mC K n v1 n (aa (v2+1))
def im(K:Kn)(n:Nat)(v1:List aq)(L1:Int→Option Int)(v3:Int):Option Int:=if (decide (v3≥0)) then aP (bd v3 v1.length) (if (!(List.getD v1 v3.toNat default).Forced) then some v3 else L1 (aa (v3-1))) else some (-1)
def ji(K:Kn)(n:Nat)(v1:List aq):Nat→Int→Option Int
 | 0=>fun _=>none
 | m+1=>im K n v1 (ji K n v1 m)
def jg(K:Kn)(n:Nat)(v1:List aq):Option Int:=ji K n v1 n (aa ((v1.length:Int)-1))
def nz(K:Kn)(n:Nat)(v5:Int):Option Int:=some v5
def lI(K:Kn)(n:Nat)(v1:List aq)(L1:Int→Int→Option Int)(v2 v3:Int):Option Int:=if (decide (v3<(v1.length:Int))) then aP (bd v3 v1.length) (L1 (aa (v2+(aa (((List.getD v1 v3.toNat default).Width)+((List.getD v1 v3.toNat default).Space))))) (aa (v3+1))) else (jg K n v1).bind fun v4=>if (decide (v4≥0)) then aP (bd v4 v1.length) (nz K n (aa (v2-((List.getD v1 v4.toNat default).Space)))) else nz K n v2
def lM(K:Kn)(n:Nat)(v1:List aq):Nat→Int→Int→Option Int
 | 0=>fun _ _=>none
 | m+1=>lI K n v1 (lM K n v1 m)
def l5(K:Kn)(n:Nat)(v1:List aq):Option Int:=lM K n v1 n 0 0
def rZ(K:Kn)(n:Nat)(v1:List aq)(v2 v19:Int)(v20:List Int)(v25:Int)(L1:Int→(List Int)→Option (List Int)):Option (List Int):=L1 v25 (v20++[v19])
def kS(K:Kn)(n:Nat)(v1:List aq)(v2 v19:Int)(v20:List Int)(v25:Int)(L1:Int→(List Int)→Option (List Int))(L2:Int→Option (List Int))(v26:Bool):Option (List Int):=if v26 then (kG K n v1 v25).bind fun v27=>aP (cH v19 v27 v1.length) ((l5 K n (List.drop v19.toNat (List.take v27.toNat v1))).bind fun v28=>if (decide (v28>v2)) then rZ K n v1 v2 v19 v20 v25 L1 else L2 v27) else rZ K n v1 v2 v19 v20 v25 L1
def kx(K:Kn)(n:Nat)(v1:List aq)(v2 v19:Int)(v20:List Int)(L1:Int→(List Int)→Option (List Int))(L2:Int→Option (List Int))(v25:Int):Option (List Int):=if (decide (v25<(v1.length:Int))) then aP (bd (aa (v25-1)) v1.length) (kS K n v1 v2 v19 v20 v25 L1 L2 (!(List.getD v1 ((aa (v25-1))).toNat default).Forced)) else kS K n v1 v2 v19 v20 v25 L1 L2 false
def lZ(K:Kn)(n:Nat)(v1:List aq)(v2 v19:Int)(v20:List Int)(L1:Int→(List Int)→Option (List Int)):Nat→Int→Option (List Int)
 | 0=>fun _=>none
 | m+1=>kx K n v1 v2 v19 v20 L1 (lZ K n v1 v2 v19 v20 L1 m)
def kT(K:Kn)(n:Nat)(v1:List aq)(v2:Int)(L1:Int→(List Int)→Option (List Int))(v19:Int)(v20:List Int):Option (List Int):=if (decide (v19<(v1.length:Int))) then aP (fits (v20.length+([v19]:(List Int)).length) 8) ((kG K n v1 v19).bind fun v21=>lZ K n v1 v2 v19 v20 L1 n v21) else some v20
def lU(K:Kn)(n:Nat)(v1:List aq)(v2:Int):Nat→Int→(List Int)→Option (List Int)
 | 0=>fun _ _=>none
 | m+1=>kT K n v1 v2 (lU K n v1 v2 m)
def nt(K:Kn)(n:Nat)(v1:List aq)(v2:Int):Option (List Int):=lU K n v1 v2 n 0 []
def rJ(K:Kn)(n:Nat)(v2:Bool):Option Bool:=some v2
def fc(K:Kn)(n:Nat)(v1:ag):Option Bool:=if (v1.Kind == 3) then rJ K n true else rJ K n (v1.Style.Position != 2)
def jY(K:Kn)(n:Nat)(v2:List aj)(v7:aj):Option (List aj):=aP (fits (v2.length+([({ v7 with Char:=32 }:aj)]:(List aj)).length) 32) (some (v2++[({ v7 with Char:=32 }:aj)]))
def gJ(K:Kn)(n:Nat)(v1:aj)(v2:List aj)(v6:Bool):Option (List aj):=if v6 then some v2 else jY K n v2 ({ v1 with Soft:=true }:aj)
def mm(K:Kn)(n:Nat)(v1:aj)(v2:List aj)(v5:Bool):Option (List aj):=if v5 then some v2 else if (!(v1.Box.Style.WhiteSpace == 2)) then if ((v2.length:Int) == 0) then gJ K n v1 v2 true else aP (bd (aa ((v2.length:Int)-1)) v2.length) (if (List.getD v2 ((aa ((v2.length:Int)-1))).toNat default).Soft=true then gJ K n v1 v2 true else aP (bd (aa ((v2.length:Int)-1)) v2.length) (gJ K n v1 v2 (((List.getD v2 ((aa ((v2.length:Int)-1))).toNat default).Kind) == 2))) else jY K n v2 v1
def kR(K:Kn)(n:Nat)(v1:aj)(v2:List aj)(v4:Bool):Option (List aj):=if v4 then jY K n v2 ({ v1 with Kind:=2 }:aj) else if (v1.Box.Style.WhiteSpace == 2) then mm K n v1 v2 (v1.Char == 13) else mm K n v1 v2 false
def fY(K:Kn)(n:Nat)(v1:aj)(v2:List aj)(v3:Bool):Option (List aj):=if v3 then if (v1.Box.Style.WhiteSpace == 2) then kR K n v1 v2 (v1.Char == 10) else kR K n v1 v2 false else aP (fits (v2.length+([v1]:(List aj)).length) 32) (some (v2++[v1]))
def pN(K:Kn)(n:Nat)(v1:aj)(v2:List aj):Option (List aj):=if (v1.Char == 9) then fY K n v1 v2 true else if (v1.Char == 10) then fY K n v1 v2 true else if (v1.Char == 13) then fY K n v1 v2 true else fY K n v1 v2 (v1.Char == 32)
def gB(K:Kn)(n:Nat)(v1:List ag)(v23:Int)(L1:Int→Int→(List aj)→Option (Int×(List aj)))(v43:Int)(v44:List aj):Option (Int×(List aj)):=L1 (aa (v23+1)) v43 v44
def fx(K:Kn)(n:Nat)(v1:List ag)(v23:Int)(L1:Int→Int→(List aj)→Option (Int×(List aj)))(v41:Int)(v42:List aj):Option (Int×(List aj)):=gB K n v1 v23 L1 v41 v42
def mE(K:Kn)(n:Nat)(v1:List ag)(v23 v24:Int)(L1:Int→Int→(List aj)→Option (Int×(List aj)))(L2:Nat→(List aj)→Option (Int×(List aj)))(v36:Nat)(v37:List aj):Option (Int×(List aj)):=if decide (v36<((List.getD v1 v23.toNat default).Text).size)=true then (some ((Utf8.decode ((List.getD v1 v23.toNat default).Text) v36).1:Int)).bind fun v38=>(some (v36+(Utf8.decode ((List.getD v1 v23.toNat default).Text) v36).2)).bind fun v39=>(pN K n (⟨1,(aa (v24+1)),v38,false,(List.getD v1 v23.toNat default)⟩:aj) v37).bind fun v40=>L2 v39 v40 else fx K n v1 v23 L1 (aa (v24+1)) v37
def mD(K:Kn)(n:Nat)(v1:List ag)(v23 v24:Int)(L1:Int→Int→(List aj)→Option (Int×(List aj))):Nat→Nat→(List aj)→Option (Int×(List aj))
 | 0=>fun _ _=>none
 | m+1=>mE K n v1 v23 v24 L1 (mD K n v1 v23 v24 L1 m)
def ly(K:Kn)(n:Nat)(v1:List ag)(L1:Int→Int→(List aj)→Option (Int×(List aj)))(v23 v24:Int)(v25:List aj):Option (Int×(List aj)):=if (decide (v23<(v1.length:Int))) then aP (bd v23 v1.length) ((fc K n (List.getD v1 v23.toNat default)).bind fun v26=>if (!v26) then gB K n v1 v23 L1 v24 v25 else (some (((List.getD v1 v23.toNat default).Kind) == 2)).bind fun v27=>if v27 then (K.qz ((List.getD v1 v23.toNat default).Kids) (aa (v24+1)) v25).bind fun v28=>fx K n v1 v23 L1 v28.1 v28.2 else (some (((List.getD v1 v23.toNat default).Kind) == 4)).bind fun v29=>if v29 then aP (fits (v25.length+([(⟨2,(aa (v24+1)),0,false,(List.getD v1 v23.toNat default)⟩:aj)]:(List aj)).length) 32) (fx K n v1 v23 L1 (aa (v24+1)) (v25++[(⟨2,(aa (v24+1)),0,false,(List.getD v1 v23.toNat default)⟩:aj)])) else (some (((List.getD v1 v23.toNat default).Kind) == 5)).bind fun v30=>if v30 then aP (fits (v25.length+([(⟨3,(aa (v24+1)),0,false,(List.getD v1 v23.toNat default)⟩:aj)]:(List aj)).length) 32) (fx K n v1 v23 L1 (aa (v24+1)) (v25++[(⟨3,(aa (v24+1)),0,false,(List.getD v1 v23.toNat default)⟩:aj)])) else (some (((List.getD v1 v23.toNat default).Kind) == 3)).bind fun v31=>if v31 then mD K n v1 v23 v24 L1 n 0 v25 else fx K n v1 v23 L1 (aa (v24+1)) v25) else some (v24,v25)
def kj(K:Kn)(n:Nat)(v1:List ag):Nat→Int→Int→(List aj)→Option (Int×(List aj))
 | 0=>fun _ _ _=>none
 | m+1=>ly K n v1 (kj K n v1 m)
def gp(K:Kn)(n:Nat)(v1:List ag)(v2:Int)(v3:List aj):Option (Int×(List aj)):=kj K n v1 n 0 v2 v3
def ph(K:Kn)(n:Nat)(v1:List ag):Option (List aj):=(gp K n v1 0 ([]:List aj)).bind fun v2=>some v2.2
def lC(K:Kn)(n:Nat)(v2:Bool):Option Bool:=some v2
def gW(K:Kn)(n:Nat)(v1:aj):Option Bool:=if (v1.Kind == 1) then if (v1.Box.Style.WhiteSpace != 1) then lC K n (v1.Box.Style.WhiteSpace != 2) else lC K n false else lC K n false
def oM(K:Kn)(n:Nat)(v6:Bool):Option Int:=if v6 then some 10 else some 8
def gI(K:Kn)(n:Nat)(v1:Int)(v5:Bool):Option Int:=if v5 then some 14 else if (decide (v1≥65)) then oM K n (decide (v1≤90)) else oM K n false
def dA(K:Kn)(n:Nat)(v1:Int)(v4:Bool):Option Int:=if v4 then some 6 else if (v1 == 37) then gI K n v1 true else if (v1 == 64) then gI K n v1 true else if (v1 == 77) then gI K n v1 true else if (v1 == 87) then gI K n v1 true else if (v1 == 109) then gI K n v1 true else gI K n v1 (v1 == 119)
def dZ(K:Kn)(n:Nat)(v1:Int)(v3:Bool):Option Int:=if v3 then some 4 else if (v1 == 34) then dA K n v1 true else if (v1 == 40) then dA K n v1 true else if (v1 == 41) then dA K n v1 true else if (v1 == 42) then dA K n v1 true else if (v1 == 45) then dA K n v1 true else if (v1 == 47) then dA K n v1 true else if (v1 == 91) then dA K n v1 true else if (v1 == 92) then dA K n v1 true else if (v1 == 93) then dA K n v1 true else if (v1 == 94) then dA K n v1 true else if (v1 == 102) then dA K n v1 true else if (v1 == 114) then dA K n v1 true else if (v1 == 116) then dA K n v1 true else if (v1 == 123) then dA K n v1 true else dA K n v1 (v1 == 125)
def fX(K:Kn)(n:Nat)(v1:Int)(v2:Bool):Option Int:=if v2 then some 0 else if (decide (v1≥4352)) then some 16 else if (v1 == 32) then dZ K n v1 true else if (v1 == 160) then dZ K n v1 true else if (v1 == 33) then dZ K n v1 true else if (v1 == 39) then dZ K n v1 true else if (v1 == 44) then dZ K n v1 true else if (v1 == 46) then dZ K n v1 true else if (v1 == 58) then dZ K n v1 true else if (v1 == 59) then dZ K n v1 true else if (v1 == 73) then dZ K n v1 true else if (v1 == 105) then dZ K n v1 true else if (v1 == 106) then dZ K n v1 true else if (v1 == 108) then dZ K n v1 true else dZ K n v1 (v1 == 124)
def fV(K:Kn)(n:Nat)(v1:Int):Option Int:=if (decide (v1<32)) then fX K n v1 true else if (decide (v1>1114111)) then fX K n v1 true else if (decide (v1≥127)) then if (decide (v1≤159)) then fX K n v1 true else if (decide (v1≥768)) then fX K n v1 (decide (v1≤879)) else fX K n v1 false else if (decide (v1≥768)) then fX K n v1 (decide (v1≤879)) else fX K n v1 false
def jK(K:Kn)(n:Nat)(v2:Bool):Option Bool:=if v2 then some true else some false
def mi(K:Kn)(n:Nat)(v1:Int):Option Bool:=if (v1 == 9) then jK K n true else if (v1 == 10) then jK K n true else if (v1 == 13) then jK K n true else jK K n (v1 == 32)
def o6(K:Kn)(n:Nat)(v8:Bool):Option Bool:=some v8
def oo(K:Kn)(n:Nat)(v1 v2:Int)(v7:Bool):Option Bool:=if v7 then some true else if (decide (v1≥11904)) then o6 K n true else o6 K n (decide (v2≥11904))
def j0(K:Kn)(n:Nat)(v1 v2:Int)(v5:Bool):Option Bool:=if v5 then some false else (mi K n v1).bind fun v6=>if v6 then some true else if (v1 == 45) then oo K n v1 v2 (v2 != 45) else oo K n v1 v2 false
def n8(K:Kn)(n:Nat)(v1 v2:Int):Option Bool:=(mi K n v2).bind fun v3=>if v3 then j0 K n v1 v2 true else (fV K n v2).bind fun v4=>j0 K n v1 v2 (v4 == 0)
def jE(K:Kn)(n:Nat)(v1:ByteArray)(v10:Nat)(L1:Int→Nat→(List Int)→Option (List Int))(v14:List Int):Option (List Int):=L1 ((Utf8.decode v1 v10).1:Int) (v10+(Utf8.decode v1 v10).2) v14
def kh(K:Kn)(n:Nat)(v1:ByteArray)(v10:Nat)(v11:List Int)(L1:Int→Nat→(List Int)→Option (List Int))(v13:Bool):Option (List Int):=if v13 then aP (fits (v11.length+([((v10:Nat):Int)]:(List Int)).length) 8) (jE K n v1 v10 L1 (v11++[((v10:Nat):Int)])) else jE K n v1 v10 L1 v11
def fQ(K:Kn)(n:Nat)(v1:ByteArray)(L1:Int→Nat→(List Int)→Option (List Int))(v9:Int)(v10:Nat)(v11:List Int):Option (List Int):=if decide (v10<v1.size)=true then if (decide (((v10:Nat):Int)>0)) then (n8 K n v9 ((Utf8.decode v1 v10).1:Int)).bind fun v12=>kh K n v1 v10 v11 L1 v12 else kh K n v1 v10 v11 L1 false else some v11
def iw(K:Kn)(n:Nat)(v1:ByteArray):Nat→Int→Nat→(List Int)→Option (List Int)
 | 0=>fun _ _ _=>none
 | m+1=>fQ K n v1 (iw K n v1 m)
def oT(K:Kn)(n:Nat)(v1:ByteArray):Option (List Int):=iw K n v1 n 0 0 []
def ja(K:Kn)(n:Nat)(v7:Bool):Option Bool:=some v7
def fI(K:Kn)(n:Nat)(v1 v2:aj)(v10:Bool):Option Bool:=if v10 then some false else (oT K n (runesBytes [v1.Char,v2.Char])).bind fun v11=>some (decide ((v11.length:Int)>0))
def jj(K:Kn)(n:Nat)(v1 v2:aj)(v3:Bool):Option Bool:=if v3 then if (v1.Kind == 3) then if (v2.Kind == 3) then ja K n true else (gW K n v2).bind fun v4=>ja K n v4 else (gW K n v1).bind fun v5=>if v5 then if (v2.Kind == 3) then ja K n true else (gW K n v2).bind fun v6=>ja K n v6 else ja K n false else if (v1.Kind != 1) then fI K n v1 v2 true else if (v2.Kind != 1) then fI K n v1 v2 true else (gW K n v1).bind fun v8=>if (!v8) then fI K n v1 v2 true else if (v1.Char != 32) then (gW K n v2).bind fun v9=>fI K n v1 v2 (!v9) else fI K n v1 v2 false
def lK(K:Kn)(n:Nat)(v1 v2:aj):Option Bool:=if (v1.Kind == 3) then jj K n v1 v2 true else jj K n v1 v2 (v2.Kind == 3)
def ni(K:Kn)(n:Nat)(v1:Int)(v2:List Int)(v4:Bool):Option (List Int):=if v4 then aP (fits (v2.length+([(cT .u8 240 (IntKind.wrap .u8 (v1 / 262144))),(cT .u8 128 (dV .u8 (IntKind.wrap .u8 (v1 / 4096)) 63)),(cT .u8 128 (dV .u8 (IntKind.wrap .u8 (v1 / 64)) 63)),(cT .u8 128 (dV .u8 (IntKind.wrap .u8 v1) 63))]:(List Int)).length) 1) (some (v2++[(cT .u8 240 (IntKind.wrap .u8 (v1 / 262144))),(cT .u8 128 (dV .u8 (IntKind.wrap .u8 (v1 / 4096)) 63)),(cT .u8 128 (dV .u8 (IntKind.wrap .u8 (v1 / 64)) 63)),(cT .u8 128 (dV .u8 (IntKind.wrap .u8 v1) 63))])) else aP (fits (v2.length+([239,191,189]:(List Int)).length) 1) (some (v2++[239,191,189]))
def ii(K:Kn)(n:Nat)(v1:Int)(v2:List Int)(v3:Bool):Option (List Int):=if v3 then aP (fits (v2.length+([(cT .u8 224 (IntKind.wrap .u8 (v1 / 4096))),(cT .u8 128 (dV .u8 (IntKind.wrap .u8 (v1 / 64)) 63)),(cT .u8 128 (dV .u8 (IntKind.wrap .u8 v1) 63))]:(List Int)).length) 1) (some (v2++[(cT .u8 224 (IntKind.wrap .u8 (v1 / 4096))),(cT .u8 128 (dV .u8 (IntKind.wrap .u8 (v1 / 64)) 63)),(cT .u8 128 (dV .u8 (IntKind.wrap .u8 v1) 63))])) else if (decide ((IntKind.wrap .u32 v1)>65535)) then ni K n v1 v2 (decide ((IntKind.wrap .u32 v1)≤1114111)) else ni K n v1 v2 false
def mo(K:Kn)(n:Nat)(v1:Int)(v2:List Int):Option (List Int):=if (decide ((IntKind.wrap .u32 v1)≤2047)) then aP (fits (v2.length+([(cT .u8 192 (IntKind.wrap .u8 (v1 / 64))),(cT .u8 128 (dV .u8 (IntKind.wrap .u8 v1) 63))]:(List Int)).length) 1) (some (v2++[(cT .u8 192 (IntKind.wrap .u8 (v1 / 64))),(cT .u8 128 (dV .u8 (IntKind.wrap .u8 v1) 63))])) else if (decide ((IntKind.wrap .u32 v1)<55296)) then ii K n v1 v2 true else if (decide ((57343:Int)<(IntKind.wrap .u32 v1))) then ii K n v1 v2 (decide ((IntKind.wrap .u32 v1)≤65535)) else ii K n v1 v2 false
def mG(K:Kn)(n:Nat)(v1:Int)(v2:List Int):Option (List Int):=if (decide ((IntKind.wrap .u32 v1)≤127)) then aP (fits (v2.length+([(IntKind.wrap .u8 v1)]:(List Int)).length) 1) (some (v2++[(IntKind.wrap .u8 v1)])) else (mo K n v1 v2).bind fun v3=>some v3
def jU(K:Kn)(n:Nat)(v1:Int)(v2:Bool)(v3:List Int):Option (Int×Unit×(List Int)):=if v2 then (mG K n v1 v3).bind fun v4=>some ((aa ((v4.length:Int)-(v3.length:Int))),(),v4) else (mG K n v1 v3).bind fun v5=>some ((aa ((v5.length:Int)-(v3.length:Int))),(),v5)
def ic(K:Kn)(n:Nat)(v1 v2:Int):Option Int:=(fV K n v1).bind fun v3=>(jI K n v2).bind fun v4=>some (aa (Int.tdiv (aa ((aa (v3*v4))+15)) 16))
def lF(K:Kn)(n:Nat)(v1:ByteArray)(v2:Int)(L1:Int→Nat→Option Int)(v5:Int)(v6:Nat):Option Int:=if decide (v6<v1.size)=true then (ic K n ((Utf8.decode v1 v6).1:Int) v2).bind fun v7=>L1 (aa (v5+v7)) (v6+(Utf8.decode v1 v6).2) else some v5
def my(K:Kn)(n:Nat)(v1:ByteArray)(v2:Int):Nat→Int→Nat→Option Int
 | 0=>fun _ _=>none
 | m+1=>lF K n v1 v2 (my K n v1 v2 m)
def kp(K:Kn)(n:Nat)(v1:ByteArray)(v2:Int):Option Int:=my K n v1 v2 n 0 0
def oy(K:Kn)(n:Nat)(v6:List Int)(v10:aB)(v14:ByteArray)(v15:Int):Option aq:=(kp K n v14 v10.FontSize).bind fun v16=>(g7 K n v10).bind fun v17=>some ({ co with Text:=(bytesOf v6),Width:=v16,Space:=v15,Above:=v17.1,Below:=v17.2 }:aq)
def pE(K:Kn)(n:Nat)(v6:List Int)(v18:aB)(v22:ByteArray)(v23:Int):Option aq:=(kp K n v22 v18.FontSize).bind fun v24=>(g7 K n v18).bind fun v25=>some ({ co with Text:=(bytesOf v6),Width:=v24,Space:=v23,Above:=v25.1,Below:=v25.2 }:aq)
def kB(K:Kn)(n:Nat)(v1:List aj)(v6:List Int)(v9:Bool):Option aq:=if v9 then aP (bd (0:Int) v1.length) ((some (((List.getD v1 (0:Int).toNat default).Box).Style)).bind fun v10=>aP (jS v6) (aP (bd (aa ((v1.length:Int)-1)) v1.length) ((some ((List.getD v1 ((aa ((v1.length:Int)-1))).toNat default).Soft)).bind fun v11=>if v11 then aP (cH (0:Int) (aa (((bytesOf v6).size:Int)-1)) (bytesOf v6).size) ((some (ByteArray.extract (bytesOf v6) (0:Int).toNat ((aa (((bytesOf v6).size:Int)-1))).toNat)).bind fun v12=>(ic K n 32 v10.FontSize).bind fun v13=>oy K n v6 v10 v12 v13) else oy K n v6 v10 (bytesOf v6) 0))) else aP (bd (0:Int) v1.length) ((some (((List.getD v1 (0:Int).toNat default).Box).Style)).bind fun v18=>aP (jS v6) (aP (bd (aa ((v1.length:Int)-1)) v1.length) ((some ((List.getD v1 ((aa ((v1.length:Int)-1))).toNat default).Soft)).bind fun v19=>if v19 then aP (cH (0:Int) (aa (((bytesOf v6).size:Int)-1)) (bytesOf v6).size) ((some (ByteArray.extract (bytesOf v6) (0:Int).toNat ((aa (((bytesOf v6).size:Int)-1))).toNat)).bind fun v20=>(ic K n 32 v18.FontSize).bind fun v21=>pE K n v6 v18 v20 v21) else pE K n v6 v18 (bytesOf v6) 0)))
def mL(K:Kn)(n:Nat)(v1:List aj)(L1:Int→Bool→(List Int)→Option aq)(v4:Int)(v5:Bool)(v6:List Int):Option aq:=if v5 then if (decide (v4<(v1.length:Int))) then aP (bd v4 v1.length) ((jU K n ((List.getD v1 v4.toNat default).Char) true v6).bind fun v7=>L1 (aa (v4+1)) true v7.2.2) else kB K n v1 v6 true else if (decide (v4<(v1.length:Int))) then aP (bd v4 v1.length) ((jU K n ((List.getD v1 v4.toNat default).Char) false v6).bind fun v8=>L1 (aa (v4+1)) true v8.2.2) else kB K n v1 v6 false
def jo(K:Kn)(n:Nat)(v1:List aj):Nat→Int→Bool→(List Int)→Option aq
 | 0=>fun _ _ _=>none
 | m+1=>mL K n v1 (jo K n v1 m)
def nn(K:Kn)(n:Nat)(v1:List aj):Option aq:=jo K n v1 n 0 false []
def fS(K:Kn)(n:Nat)(v2:Fv)(v3:List aj)(v30:Int)(v31:List aq)(v33:Bool)(L1:Int→(List aq)→Option (List aq))(v43:Int)(v44:aq):Option (List aq):=(some (((List.getD v3 v30.toNat default).Box).Node)).bind fun v45=>(some (((List.getD v3 v30.toNat default).Box).Style)).bind fun v46=>aP (fits (v31.length+([({ v44 with Node:=v45,Style:=v46,Glued:=v33 }:aq)]:(List aq)).length) 536) (L1 v43 (v31++[({ v44 with Node:=v45,Style:=v46,Glued:=v33 }:aq)]))
def gg(K:Kn)(n:Nat)(v2:Fv)(v3:List aj)(v30:Int)(v31:List aq)(v33:Bool)(v39:Int)(L1:Int→(List aq)→Option (List aq))(L2:Int→Option (List aq))(v41:Bool):Option (List aq):=if v41 then L2 (aa (v39+1)) else aP (cH v30 v39 v3.length) ((nn K n (List.drop v30.toNat (List.take v39.toNat v3))).bind fun v42=>fS K n v2 v3 v30 v31 v33 L1 v39 v42)
def mN(K:Kn)(n:Nat)(v2:Fv)(v3:List aj)(v30:Int)(v31:List aq)(v33:Bool)(L1:Int→(List aq)→Option (List aq))(L2:Int→Option (List aq))(v39:Int):Option (List aq):=if (decide (v39<(v3.length:Int))) then aP (bd v39 v3.length) (if (((List.getD v3 v39.toNat default).Kind) == 1) then aP (bd v39 v3.length) (if (((List.getD v3 v39.toNat default).Of) == ((List.getD v3 v30.toNat default).Of)) then aP (bd (aa (v39-1)) v3.length) (aP (bd v39 v3.length) ((lK K n (List.getD v3 ((aa (v39-1))).toNat default) (List.getD v3 v39.toNat default)).bind fun v40=>gg K n v2 v3 v30 v31 v33 v39 L1 L2 (!v40))) else gg K n v2 v3 v30 v31 v33 v39 L1 L2 false) else gg K n v2 v3 v30 v31 v33 v39 L1 L2 false) else gg K n v2 v3 v30 v31 v33 v39 L1 L2 false
def jn(K:Kn)(n:Nat)(v2:Fv)(v3:List aj)(v30:Int)(v31:List aq)(v33:Bool)(L1:Int→(List aq)→Option (List aq)):Nat→Int→Option (List aq)
 | 0=>fun _=>none
 | m+1=>mN K n v2 v3 v30 v31 v33 L1 (jn K n v2 v3 v30 v31 v33 L1 m)
def jN(K:Kn)(n:Nat)(v2:Fv)(v3:List aj)(v30:Int)(v31:List aq)(L1:Int→(List aq)→Option (List aq))(v33:Bool):Option (List aq):=(some (((List.getD v3 v30.toNat default).Kind) == 2)).bind fun v34=>if v34 then fS K n v2 v3 v30 v31 v33 L1 (aa (v30+1)) ({ co with Forced:=true }:aq) else (some (((List.getD v3 v30.toNat default).Kind) == 3)).bind fun v35=>if v35 then (K.kD v2 ((List.getD v3 v30.toNat default).Box)).bind fun v36=>fS K n v2 v3 v30 v31 v33 L1 (aa (v30+1)) v36 else jn K n v2 v3 v30 v31 v33 L1 n (aa (v30+1))
def kw(K:Kn)(n:Nat)(v2:Fv)(v3:List aj)(L1:Int→(List aq)→Option (List aq))(v30:Int)(v31:List aq):Option (List aq):=if (decide (v30<(v3.length:Int))) then aP (bd v30 v3.length) (if (decide (v30>0)) then aP (bd (aa (v30-1)) v3.length) (if (((List.getD v3 ((aa (v30-1))).toNat default).Kind) != 2) then aP (bd (aa (v30-1)) v3.length) ((lK K n (List.getD v3 ((aa (v30-1))).toNat default) (List.getD v3 v30.toNat default)).bind fun v32=>jN K n v2 v3 v30 v31 L1 (!v32)) else jN K n v2 v3 v30 v31 L1 false) else jN K n v2 v3 v30 v31 L1 false) else some v31
def kt(K:Kn)(n:Nat)(v2:Fv)(v3:List aj):Nat→Int→(List aq)→Option (List aq)
 | 0=>fun _ _=>none
 | m+1=>kw K n v2 v3 (kt K n v2 v3 m)
def mB(K:Kn)(n:Nat)(v1:List ag)(v2:Fv):Option (List aq):=(ph K n v1).bind fun v3=>kt K n v2 v3 n 0 []
def dQ(K:Kn)(n:Nat)(v1:Int):Option Int:=some (min (max v1 0) 1048576)
def lA(K:Kn)(n:Nat)(v4:Int):Option (Int×Bool):=some ((min (max v4 (-1048576)) 1048576),true)
def cS(K:Kn)(n:Nat)(v1:cV)(v2:Int):Option (Int×Bool):=if (v1.Kind == 1) then lA K n v1.Value else if (v1.Kind == 2) then (dQ K n v2).bind fun v3=>lA K n (aa (Int.tdiv (aa (v3*(min (max v1.Value (-1000000)) 1000000))) 10000)) else some (0,false)
def gt(K:Kn)(n:Nat)(v1:aB)(v2 v3:Int):Option bt:=(cS K n v1.Margin.a0 v2).bind fun v4=>(dQ K n v1.Border.a0).bind fun v5=>(cS K n v1.Padding.a0 v2).bind fun v6=>(cS K n v1.Margin.a1 v2).bind fun v7=>(dQ K n v1.Border.a1).bind fun v8=>(cS K n v1.Padding.a1 v2).bind fun v9=>(cS K n v1.Margin.a2 v2).bind fun v10=>(dQ K n v1.Border.a2).bind fun v11=>(cS K n v1.Padding.a2 v2).bind fun v12=>(cS K n v1.Margin.a3 v2).bind fun v13=>(dQ K n v1.Border.a3).bind fun v14=>(cS K n v1.Padding.a3 v2).bind fun v15=>some (⟨⟨v4.1,v7.1,v10.1,v13.1⟩,⟨v5,v8,v11,v14⟩,⟨(max v6.1 0),(max v9.1 0),(max v12.1 0),(max v15.1 0)⟩,v3⟩:bt)
def gw(K:Kn)(n:Nat)(v1:bt):Option Int:=some (aa ((aa ((aa ((aa ((aa ((aa (v1.Content+v1.Margin.a1))+v1.Margin.a3))+v1.Border.a1))+v1.Border.a3))+v1.Padding.a1))+v1.Padding.a3))
def m6(K:Kn)(n:Nat)(v13:aB):Option aB:=some v13
def oC(K:Kn)(n:Nat)(v12:aB):Option aB:=if (v12.Padding.a3.Kind == 2) then m6 K n ({ v12 with Padding:=⟨v12.Padding.a0,v12.Padding.a1,v12.Padding.a2,eU⟩ }:aB) else m6 K n v12
def n0(K:Kn)(n:Nat)(v11:aB):Option aB:=if (v11.Margin.a3.Kind == 2) then oC K n ({ v11 with Margin:=⟨v11.Margin.a0,v11.Margin.a1,v11.Margin.a2,eU⟩ }:aB) else oC K n v11
def pF(K:Kn)(n:Nat)(v10:aB):Option aB:=if (v10.Padding.a2.Kind == 2) then n0 K n ({ v10 with Padding:=⟨v10.Padding.a0,v10.Padding.a1,eU,v10.Padding.a3⟩ }:aB) else n0 K n v10
def o7(K:Kn)(n:Nat)(v9:aB):Option aB:=if (v9.Margin.a2.Kind == 2) then pF K n ({ v9 with Margin:=⟨v9.Margin.a0,v9.Margin.a1,eU,v9.Margin.a3⟩ }:aB) else pF K n v9
def nf(K:Kn)(n:Nat)(v8:aB):Option aB:=if (v8.Padding.a1.Kind == 2) then o7 K n ({ v8 with Padding:=⟨v8.Padding.a0,eU,v8.Padding.a2,v8.Padding.a3⟩ }:aB) else o7 K n v8
def pH(K:Kn)(n:Nat)(v7:aB):Option aB:=if (v7.Margin.a1.Kind == 2) then nf K n ({ v7 with Margin:=⟨v7.Margin.a0,eU,v7.Margin.a2,v7.Margin.a3⟩ }:aB) else nf K n v7
def nU(K:Kn)(n:Nat)(v6:aB):Option aB:=if (v6.Padding.a0.Kind == 2) then pH K n ({ v6 with Padding:=⟨eU,v6.Padding.a1,v6.Padding.a2,v6.Padding.a3⟩ }:aB) else pH K n v6
def pI(K:Kn)(n:Nat)(v5:aB):Option aB:=if (v5.Margin.a0.Kind == 2) then nU K n ({ v5 with Margin:=⟨eU,v5.Margin.a1,v5.Margin.a2,v5.Margin.a3⟩ }:aB) else nU K n v5
def o5(K:Kn)(n:Nat)(v4:aB):Option aB:=if (v4.MaxWidth.Kind == 2) then pI K n ({ v4 with MaxWidth:=eU }:aB) else pI K n v4
def pm(K:Kn)(n:Nat)(v3:aB):Option aB:=if (v3.MinWidth.Kind == 2) then o5 K n ({ v3 with MinWidth:=eU }:aB) else o5 K n v3
def kO(K:Kn)(n:Nat)(v1:aB):Option aB:=if (v1.Width.Kind == 2) then pm K n ({ v1 with Width:=eU }:aB) else pm K n v1
def iL(K:Kn)(n:Nat)(v1:List ag)(v2:Fv)(L1:Int→Option Int)(v4:Int):Option Int:=if (decide (v4<(v1.length:Int))) then aP (bd v4 v1.length) ((K.ob v2 (List.getD v1 v4.toNat default)).bind fun v5=>if v5 then some v4 else L1 (aa (v4+1))) else some (-1)
def kA(K:Kn)(n:Nat)(v1:List ag)(v2:Fv):Nat→Int→Option Int
 | 0=>fun _=>none
 | m+1=>iL K n v1 v2 (kA K n v1 v2 m)
def sy(K:Kn)(n:Nat)(v1:List ag)(v2:Fv):Option Int:=kA K n v1 v2 n 0
def oG(K:Kn)(n:Nat)(v1:List ag)(v2:Fv):Option Bool:=(sy K n v1 v2).bind fun v3=>some (decide (v3≥0))
def m4(K:Kn)(n:Nat)(v1:ag)(v8:Int)(L1:Int→(List ag)→Option ((List ag)×Bool))(v11:List ag):Option ((List ag)×Bool):=L1 (aa (v8+1)) v11
def hH(K:Kn)(n:Nat)(v1:ag)(L1:Int→(List ag)→Option ((List ag)×Bool))(v8:Int)(v9:List ag):Option ((List ag)×Bool):=if (decide (v8<(v1.Kids.length:Int))) then aP (bd v8 v1.Kids.length) ((fc K n (List.getD v1.Kids v8.toNat default)).bind fun v10=>if v10 then aP (fits (v9.length+([(List.getD v1.Kids v8.toNat default)]:(List ag)).length) 520) (m4 K n v1 v8 L1 (v9++[(List.getD v1.Kids v8.toNat default)])) else m4 K n v1 v8 L1 v9) else (oG K n v9 (Fv.fn 81)).bind fun v12=>some (v9,v12)
def kH(K:Kn)(n:Nat)(v1:ag):Nat→Int→(List ag)→Option ((List ag)×Bool)
 | 0=>fun _ _=>none
 | m+1=>hH K n v1 (kH K n v1 m)
def hI(K:Kn)(n:Nat)(v1:ag):Option ((List ag)×Bool):=kH K n v1 n 0 []
def pU(K:Kn)(n:Nat)(v2:ca)(v6:(List ag)×Bool)(L1:Int→Int→Int→Option (Int×Int))(v11 v12 v13:Int):Option (Int×Int):=if (decide (v13<(v6.1.length:Int))) then aP (bd v13 v6.1.length) ((K.sd v2.Widths (List.getD v6.1 v13.toNat default)).bind fun v14=>L1 (max v11 v14.1) (max v12 v14.2) (aa (v13+1))) else (dQ K n v11).bind fun v15=>(dQ K n v12).bind fun v16=>some (v15,v16)
def sD(K:Kn)(n:Nat)(v2:ca)(v6:(List ag)×Bool):Nat→Int→Int→Int→Option (Int×Int)
 | 0=>fun _ _ _=>none
 | m+1=>pU K n v2 v6 (sD K n v2 v6 m)
def l7(K:Kn)(n:Nat)(v1:ag)(v2:ca):Option (Int×Int):=(kO K n v1.Style).bind fun v3=>(cS K n v3.Width 0).bind fun v4=>if v4.2=true then (dQ K n v4.1).bind fun v5=>some (v5,v5) else (hI K n v1).bind fun v6=>if (!v6.2) then (K.rY v2.Spread v6.1 v1.Style).bind fun v7=>(dQ K n v7.1).bind fun v8=>(dQ K n v7.2).bind fun v9=>some (v8,v9) else sD K n v2 v6 n 0 0 0
def pL(K:Kn)(n:Nat)(v7:Int):Option Int:=some v7
def px(K:Kn)(n:Nat)(v1:aB)(v2 v5:Int):Option Int:=(cS K n v1.MinWidth v2).bind fun v6=>if v6.2=true then pL K n (max v5 v6.1) else pL K n v5
def iT(K:Kn)(n:Nat)(v1:aB)(v2 v3:Int):Option Int:=(cS K n v1.MaxWidth v2).bind fun v4=>if v4.2=true then px K n v1 v2 (min (max v3 0) (max v4.1 0)) else px K n v1 v2 (max v3 0)
def nF(K:Kn)(n:Nat)(v1:ag)(v2 v9:Int):Option Int:=(iT K n v1.Style v2 v9).bind fun v10=>some v10
def oI(K:Kn)(n:Nat)(v1:ag)(v2:Int)(v3:ca):Option Int:=(cS K n v1.Style.Width v2).bind fun v4=>if (!v4.2) then (l7 K n v1 v3).bind fun v5=>(dQ K n v2).bind fun v6=>(gt K n v1.Style v2 0).bind fun v7=>(gw K n v7).bind fun v8=>nF K n v1 v2 (min (max (aa (v6-v8)) v5.1) v5.2) else nF K n v1 v2 v4.1
def m7(K:Kn)(n:Nat)(v1:af)(v3:Int×Bool)(v5:Int):Option af:=some ({ v1 with X:=(aa (v1.X+v3.1)),Y:=v5 }:af)
def ms(K:Kn)(n:Nat)(v1:af)(v2:Int):Option af:=if (v1.Style.Position != 1) then some v1 else (cS K n v1.Style.Left v2).bind fun v3=>if (v1.Style.Top.Kind == 1) then (cS K n v1.Style.Top 0).bind fun v4=>m7 K n v1 v3 (aa (v1.Y+v4.1)) else m7 K n v1 v3 v1.Y
def gb(K:Kn)(n:Nat)(v1:aM):Option Int:=some (aa (v1.Pos+v1.Neg))
def jb(K:Kn)(n:Nat)(v1 v2:aM):Option aM:=some (⟨(max v1.Pos v2.Pos),(min v1.Neg v2.Neg)⟩:aM)
def su(K:Kn)(n:Nat)(v1:List af)(v18:Int)(v21:List af)(v24:Int)(L1:Int→Bool→Int→aM→aM→(List af)→Option ((List af)×Int×aM×aM×Bool))(v26:Int)(v27:Bool)(v28 v29:aM):Option ((List af)×Int×aM×aM×Bool):=aP (fits (v21.length+([({ (List.getD v1 v18.toNat default)with Y:=v24 }:af)]:(List af)).length) 584) (L1 v26 v27 (aa (v18+1)) v28 v29 (v21++[({ (List.getD v1 v18.toNat default)with Y:=v24 }:af)]))
def rF(K:Kn)(n:Nat)(v1:List af)(v18:Int)(v21:List af)(v22:aM)(v24:Int)(L1:Int→Bool→Int→aM→aM→(List af)→Option ((List af)×Int×aM×aM×Bool))(v25:aM):Option ((List af)×Int×aM×aM×Bool):=su K n v1 v18 v21 v24 L1 (aa (v24+((List.getD v1 v18.toNat default).H))) false v25 ((List.getD v1 v18.toNat default).After)
def qB(K:Kn)(n:Nat)(v1:List af)(v16:Int)(v17:Bool)(v18:Int)(v19:aM)(v21:List af)(v22:aM)(L1:Int→Bool→Int→aM→aM→(List af)→Option ((List af)×Int×aM×aM×Bool))(v24:Int):Option ((List af)×Int×aM×aM×Bool):=if (!(List.getD v1 v18.toNat default).Empty) then if v17 then rF K n v1 v18 v21 v22 v24 L1 v22 else rF K n v1 v18 v21 v22 v24 L1 v19 else su K n v1 v18 v21 v24 L1 v16 v17 v19 v22
def sB(K:Kn)(n:Nat)(v16:Int)(v17:Bool)(v20:aM)(v21:List af)(v30:aM):Option ((List af)×Int×aM×aM×Bool):=some (v21,v16,v30,v20,v17)
def sv(K:Kn)(n:Nat)(v1:List af)(L1:Int→Bool→Int→aM→aM→(List af)→Option ((List af)×Int×aM×aM×Bool))(v16:Int)(v17:Bool)(v18:Int)(v19 v20:aM)(v21:List af):Option ((List af)×Int×aM×aM×Bool):=if (decide (v18<(v1.length:Int))) then aP (bd v18 v1.length) ((jb K n v20 ((List.getD v1 v18.toNat default).Before)).bind fun v22=>if (!v17) then (gb K n v22).bind fun v23=>qB K n v1 v16 v17 v18 v19 v21 v22 L1 (aa (v16+v23)) else qB K n v1 v16 v17 v18 v19 v21 v22 L1 0) else if v17 then sB K n v16 v17 v20 v21 v20 else sB K n v16 v17 v20 v21 v19
def qm(K:Kn)(n:Nat)(v1:List af):Nat→Int→Bool→Int→aM→aM→(List af)→Option ((List af)×Int×aM×aM×Bool)
 | 0=>fun _ _ _ _ _ _=>none
 | m+1=>sv K n v1 (qm K n v1 m)
def uh(K:Kn)(n:Nat)(v1:List af):Option ((List af)×Int×aM×aM×Bool):=qm K n v1 n 0 true 0 cy cy []
def nW(K:Kn)(n:Nat)(v1:List af):Option (List af):=both (List.isEmpty v1) (some []) (aP (fits (([]:List af).length+v1.length) 584) (some (([]:List af)++v1)))
def nG(K:Kn)(n:Nat)(v1:Int):Option aM:=some (⟨(max v1 0),(min v1 0)⟩:aM)
def wB(K:Kn)(n:Nat)(v1:bt):Option Int:=some (aa ((aa ((aa (v1.Border.a3+v1.Padding.a3))+v1.Border.a1))+v1.Padding.a1))
def lc(K:Kn)(n:Nat)(v2:Bool):Option Bool:=some v2
def lr(K:Kn)(n:Nat)(v1:ag):Option Bool:=if (v1.Kind == 1) then lc K n true else if (v1.Kind == 6) then lc K n true else lc K n (v1.Kind == 7)
def nV(K:Kn)(n:Nat)(v1:ag)(v2:bt)(v6:(List ag)×Bool)(v19:List af)(v25:Int)(v33 v34:aM)(v35:Bool)(v39 v40 v47:Int)(L2:Int→(List af)→Option af)(v54:List af):Option af:=L2 (aa (v47+1)) v54
def pP(K:Kn)(n:Nat)(v1:ag)(v2:bt)(v6:(List ag)×Bool)(v19:List af)(v25:Int)(v33 v34:aM)(v35:Bool)(v39 v40 v47:Int)(v50:List af)(L2:Int→(List af)→Option af)(v52:Bool):Option af:=if v52 then aP (bd v47 v50.length) ((ms K n (List.getD v50 v47.toNat default) v2.Content).bind fun v53=>aP (bd v47 v50.length) (nV K n v1 v2 v6 v19 v25 v33 v34 v35 v39 v40 v47 L2 (List.set v50 v47.toNat v53))) else nV K n v1 v2 v6 v19 v25 v33 v34 v35 v39 v40 v47 L2 v50
def lN(K:Kn)(n:Nat)(v1:ag)(v2:bt)(v6:(List ag)×Bool)(v19:List af)(v25:Int)(v33 v34:aM)(v35:Bool)(v39 v40:Int)(L2:Int→(List af)→Option af)(v47:Int)(v48:List af):Option af:=if (decide (v47<(v19.length:Int))) then aP (bd v47 v48.length) (aP (bd v47 v48.length) ((some (List.set v48 v47.toNat ({ (List.getD v48 v47.toNat default)with X:=(aa (((List.getD v48 v47.toNat default).X)+(aa (v2.Border.a3+v2.Padding.a3)))) }:af))).bind fun v49=>aP (bd v47 v49.length) (aP (bd v47 v49.length) ((some (List.set v49 v47.toNat ({ (List.getD v49 v47.toNat default)with Y:=(aa (((List.getD v49 v47.toNat default).Y)+(aa ((aa (v2.Border.a0+v2.Padding.a0))+v25)))) }:af))).bind fun v50=>if v6.2=true then aP (bd v47 v6.1.length) ((lr K n (List.getD v6.1 v47.toNat default)).bind fun v51=>pP K n v1 v2 v6 v19 v25 v33 v34 v35 v39 v40 v47 v50 L2 v51) else pP K n v1 v2 v6 v19 v25 v33 v34 v35 v39 v40 v47 v50 L2 false)))) else some (⟨1,v1.Node,v2.Margin.a3,0,(aa (v2.Content+v39)),v40,0,⟨#[]⟩,v1.Style,v33,v34,v35,v48⟩:af)
def mU(K:Kn)(n:Nat)(v1:ag)(v2:bt)(v6:(List ag)×Bool)(v19:List af)(v25:Int)(v33 v34:aM)(v35:Bool)(v39 v40:Int):Nat→Int→(List af)→Option af
 | 0=>fun _ _=>none
 | m+1=>lN K n v1 v2 v6 v19 v25 v33 v34 v35 v39 v40 (mU K n v1 v2 v6 v19 v25 v33 v34 v35 v39 v40 m)
def nP(K:Kn)(n:Nat)(v1:ag)(v2:bt)(v6:(List ag)×Bool)(v19:List af)(v25:Int)(v33 v34:aM)(v35:Bool)(v38:Int):Option af:=(wB K n v2).bind fun v39=>(some (aa ((aa ((aa ((aa (v38+v2.Border.a0))+v2.Padding.a0))+v2.Border.a2))+v2.Padding.a2))).bind fun v40=>mU K n v1 v2 v6 v19 v25 v33 v34 v35 v39 v40 n 0 v19
def nY(K:Kn)(n:Nat)(v1:ag)(v2:bt)(v6:(List ag)×Bool)(v19:List af)(v25 v32:Int)(v33 v34:aM)(v35:Bool)(v36:Int×Bool)(v37:Bool):Option af:=if v37 then nP K n v1 v2 v6 v19 v25 v33 v34 v35 (max v36.1 0) else nP K n v1 v2 v6 v19 v25 v33 v34 v35 (max v32 0)
def gj(K:Kn)(n:Nat)(v1:ag)(v2:bt)(v6:(List ag)×Bool)(v19:List af)(v25 v32:Int)(v33 v34:aM)(v35:Bool):Option af:=(cS K n v1.Style.Height 0).bind fun v36=>if v36.2=true then nY K n v1 v2 v6 v19 v25 v32 v33 v34 v35 v36 (v1.Style.Height.Kind == 1) else nY K n v1 v2 v6 v19 v25 v32 v33 v34 v35 v36 false
def jP(K:Kn)(n:Nat)(v1:ag)(v2:bt)(v4:Bool)(v6:(List ag)×Bool)(v15:Int)(v16:Bool)(v17 v18:aM)(v19:List af)(v21:aM)(v25:Int)(v26:aM)(v27:Bool):Option af:=if v27 then (jb K n v26 v21).bind fun v28=>gj K n v1 v2 v6 v19 v25 0 v28 v28 true else if v16 then if v4 then (jb K n v21 v17).bind fun v29=>gj K n v1 v2 v6 v19 v25 v25 v26 v29 false else gj K n v1 v2 v6 v19 v25 v25 v26 v21 false else if v4 then (jb K n v21 v18).bind fun v30=>gj K n v1 v2 v6 v19 v25 (aa (v15+v25)) v26 v30 false else (gb K n v18).bind fun v31=>gj K n v1 v2 v6 v19 v25 (aa (v15+(aa (v25+v31)))) v26 v21 false
def jQ(K:Kn)(n:Nat)(v1:ag)(v2:bt)(v3 v4:Bool)(v6:(List ag)×Bool)(v15:Int)(v16:Bool)(v17 v18:aM)(v19:List af)(v21:aM)(v25:Int)(v26:aM):Option af:=if v16 then if v3 then jP K n v1 v2 v4 v6 v15 v16 v17 v18 v19 v21 v25 v26 v4 else jP K n v1 v2 v4 v6 v15 v16 v17 v18 v19 v21 v25 v26 false else jP K n v1 v2 v4 v6 v15 v16 v17 v18 v19 v21 v25 v26 false
def mu(K:Kn)(n:Nat)(v1:ag)(v2:bt)(v3 v4:Bool)(v6:(List ag)×Bool)(v15:Int)(v16:Bool)(v17 v18:aM)(v19:List af)(v20 v21:aM)(v23:Bool):Option af:=if v23 then (gb K n v17).bind fun v24=>jQ K n v1 v2 v3 v4 v6 v15 v16 v17 v18 v19 v21 v24 v20 else jQ K n v1 v2 v3 v4 v6 v15 v16 v17 v18 v19 v21 0 v20
def nk(K:Kn)(n:Nat)(v1:ag)(v2:bt)(v3 v4:Bool)(v6:(List ag)×Bool)(v15:Int)(v16:Bool)(v17 v18:aM)(v19:List af):Option af:=(nG K n v2.Margin.a0).bind fun v20=>(nG K n v2.Margin.a2).bind fun v21=>if v3 then (jb K n v20 v17).bind fun v22=>jQ K n v1 v2 v3 v4 v6 v15 v16 v17 v18 v19 v21 0 v22 else if (!v16) then mu K n v1 v2 v3 v4 v6 v15 v16 v17 v18 v19 v20 v21 true else mu K n v1 v2 v3 v4 v6 v15 v16 v17 v18 v19 v20 v21 (!v4)
def qZ(K:Kn)(n:Nat)(v1:ag)(v2:bt)(v3 v4:Bool)(v5:ca)(v6:(List ag)×Bool)(L1:Int→(List af)→Option af)(v9:Int)(v10:List af):Option af:=if (decide (v9<(v6.1.length:Int))) then aP (bd v9 v6.1.length) ((K.sw v5.Layout (List.getD v6.1 v9.toNat default) v2.Content).bind fun v11=>aP (fits (v10.length+([v11]:(List af)).length) 584) (L1 (aa (v9+1)) (v10++[v11]))) else (uh K n v10).bind fun v12=>nk K n v1 v2 v3 v4 v6 v12.2.1 v12.2.2.2.2 v12.2.2.1 v12.2.2.2.1 v12.1
def qY(K:Kn)(n:Nat)(v1:ag)(v2:bt)(v3 v4:Bool)(v5:ca)(v6:(List ag)×Bool):Nat→Int→(List af)→Option af
 | 0=>fun _ _=>none
 | m+1=>qZ K n v1 v2 v3 v4 v5 v6 (qY K n v1 v2 v3 v4 v5 v6 m)
def mh(K:Kn)(n:Nat)(v1:ag)(v2:bt)(v3 v4:Bool)(v5:ca):Option af:=(hI K n v1).bind fun v6=>if v6.2=true then qY K n v1 v2 v3 v4 v5 v6 n 0 [] else (K.ou v5.Lines v6.1 v1.Style v2.Content).bind fun v13=>(nW K n v13.1).bind fun v14=>nk K n v1 v2 v3 v4 v6 v13.2 ((v14.length:Int) == 0) cy cy v14
def sE(K:Kn)(n:Nat)(v1:ag)(v2:bt)(v3:ca):Option af:=(mh K n v1 v2 false false v3).bind fun v4=>some v4
def gK(K:Kn)(n:Nat)(v1:ag)(v2:Int)(v3:ca):Option aq:=(oI K n v1 v2 v3).bind fun v4=>(gt K n v1.Style v2 v4).bind fun v5=>(sE K n v1 v5 v3).bind fun v7=>(ms K n v7 v2).bind fun v8=>(gw K n v5).bind fun v9=>(gb K n v8.Before).bind fun v10=>(gb K n v8.After).bind fun v11=>some ({ co with Width:=v9,Above:=(aa ((aa (v8.H+v10))+v11)),Box:=[v8] }:aq)
def nE(K:Kn)(n:Nat)(v1:List ag)(v2:Int)(v3:ca):Option (List aq):=(mB K n v1 (Fv.c42 v2 v3.Layout v3.Widths v3.Lines v3.Spread)).bind fun v4=>some v4
def gn(K:Kn)(n:Nat)(v1:aB)(v2 v3:Int):Option Int:=if (decide (v3≥v2)) then some 0 else if (v1.TextAlign == 1) then some (aa (Int.tdiv (aa (v2-v3)) 2)) else if (v1.TextAlign == 2) then some (aa (v2-v3)) else some 0
def nj(K:Kn)(n:Nat)(v3:Bool):Option Bool:=some v3
def q8(K:Kn)(n:Nat)(v1 v2:ByteArray):Option Bool:=if (decide ((v1.size:Int)≥(v2.size:Int))) then aP (cH (aa ((v1.size:Int)-(v2.size:Int))) (v1.size:Int) v1.size) (nj K n ((ByteArray.extract v1 ((aa ((v1.size:Int)-(v2.size:Int)))).toNat ((v1.size:Int)).toNat).toList == v2.toList)) else nj K n false
def n4(K:Kn)(n:Nat)(v1 v2:ByteArray):Option Bool:=(q8 K n v1 v2).bind fun v3=>some v3
def o8(K:Kn)(n:Nat)(v1:List aq)(v2:aB)(v3 v10:Int)(L1:Int→Int→Int→Option af)(v11 v12:Int):Option af:=L1 v11 v12 (aa (v10+1))
def l9(K:Kn)(n:Nat)(v1:List aq)(v2:aB)(v3 v8 v9 v15 v78 v79:Int)(v83:aq)(L2:Int→Int→(List af)→Option af)(L3:Int→(List af)→Option af)(v104:Int)(v105:List af):Option af:=if (decide (v104<(v83.Box.length:Int))) then aP (bd v104 v83.Box.length) ((some ((List.getD v83.Box v104.toNat default).Kind)).bind fun v106=>(some ((List.getD v83.Box v104.toNat default).Node)).bind fun v107=>(some (aa (((List.getD v83.Box v104.toNat default).X)+v78))).bind fun v108=>(some ((List.getD v83.Box v104.toNat default).ay)).bind fun v109=>(some ((List.getD v83.Box v104.toNat default).Text)).bind fun v110=>(some ((List.getD v83.Box v104.toNat default).Style)).bind fun v111=>(some ((List.getD v83.Box v104.toNat default).Before)).bind fun v112=>(some ((List.getD v83.Box v104.toNat default).After)).bind fun v113=>(some ((List.getD v83.Box v104.toNat default).Empty)).bind fun v114=>(some ((List.getD v83.Box v104.toNat default).Kids)).bind fun v115=>(gb K n v113).bind fun v116=>(some (aa (((List.getD v83.Box v104.toNat default).Y)+(aa ((aa (v8-((List.getD v83.Box v104.toNat default).H)))-v116))))).bind fun v117=>aP (fits (v105.length+([(⟨v106,v107,v108,v117,(List.getD v83.Box v104.toNat default).W,(List.getD v83.Box v104.toNat default).H,v109,v110,v111,v112,v113,v114,v115⟩:af)]:(List af)).length) 584) (L3 (aa (v104+1)) (v105++[(⟨v106,v107,v108,v117,(List.getD v83.Box v104.toNat default).W,(List.getD v83.Box v104.toNat default).H,v109,v110,v111,v112,v113,v114,v115⟩:af)]))) else L2 (aa (v78+(aa (v83.Width+v83.Space)))) (aa (v79+1)) v105
def me(K:Kn)(n:Nat)(v1:List aq)(v2:aB)(v3 v8 v9 v15 v78 v79:Int)(v83:aq)(L2:Int→Int→(List af)→Option af):Nat→Int→(List af)→Option af
 | 0=>fun _ _=>none
 | m+1=>l9 K n v1 v2 v3 v8 v9 v15 v78 v79 v83 L2 (me K n v1 v2 v3 v8 v9 v15 v78 v79 v83 L2 m)
def kV(K:Kn)(n:Nat)(v1:List aq)(v2:aB)(v3 v8 v9 v15 v78 v79:Int)(v83:aq)(L2:Int→Int→(List af)→Option af)(v87:List af):Option af:=me K n v1 v2 v3 v8 v9 v15 v78 v79 v83 L2 n 0 v87
def iY(K:Kn)(n:Nat)(v1:List aq)(v2:aB)(v3 v8 v9 v15 v78 v79:Int)(v80:List af)(L2:Int→Int→(List af)→Option af)(v83:aq):Option af:=(some (!(v83.Text.toList == (⟨#[]⟩:ByteArray).toList))).bind fun v84=>if v84 then (nI K n v83.Style.FontSize).bind fun v85=>(pr K n v83.Style.FontSize).bind fun v86=>aP (fits (v80.length+([(⟨3,v83.Node,v78,(aa (v8-v85)),(aa (v83.Width+v83.Space)),v86,0,v83.Text,v83.Style,cy,cy,false,[]⟩:af)]:(List af)).length) 584) (kV K n v1 v2 v3 v8 v9 v15 v78 v79 v83 L2 (v80++[(⟨3,v83.Node,v78,(aa (v8-v85)),(aa (v83.Width+v83.Space)),v86,0,v83.Text,v83.Style,cy,cy,false,[]⟩:af)])) else kV K n v1 v2 v3 v8 v9 v15 v78 v79 v83 L2 v80
def il(K:Kn)(n:Nat)(v1:List aq)(v2:aB)(v3 v8 v9 v15 v78 v79:Int)(v80:List af)(L2:Int→Int→(List af)→Option af)(v82:Bool):Option af:=if v82 then aP (cH (0:Int) (aa ((((List.getD v1 v79.toNat default).Text).size:Int)-1)) ((List.getD v1 v79.toNat default).Text).size) (iY K n v1 v2 v3 v8 v9 v15 v78 v79 v80 L2 ({ (List.getD v1 v79.toNat default)with Text:=(ByteArray.extract ((List.getD v1 v79.toNat default).Text) (0:Int).toNat ((aa ((((List.getD v1 v79.toNat default).Text).size:Int)-1))).toNat),Space:=0 }:aq)) else iY K n v1 v2 v3 v8 v9 v15 v78 v79 v80 L2 (List.getD v1 v79.toNat default)
def mg(K:Kn)(n:Nat)(v1:List aq)(v2:aB)(v3 v8 v9 v15:Int)(L2:Int→Int→(List af)→Option af)(v78 v79:Int)(v80:List af):Option af:=if (decide (v79<(v1.length:Int))) then aP (bd v79 v1.length) (if (v79 == v15) then (n4 K n ((List.getD v1 v79.toNat default).Text) (⟨#[32]⟩)).bind fun v81=>if v81 then il K n v1 v2 v3 v8 v9 v15 v78 v79 v80 L2 ((((List.getD v1 v79.toNat default).Style).WhiteSpace) != 2) else il K n v1 v2 v3 v8 v9 v15 v78 v79 v80 L2 false else il K n v1 v2 v3 v8 v9 v15 v78 v79 v80 L2 false) else some ({ bj with Kind:=2,W:=v3,H:=(aa (v8+v9)),ay:=v8,Style:=v2,Kids:=v80 }:af)
def gX(K:Kn)(n:Nat)(v1:List aq)(v2:aB)(v3 v8 v9 v15:Int):Nat→Int→Int→(List af)→Option af
 | 0=>fun _ _ _=>none
 | m+1=>mg K n v1 v2 v3 v8 v9 v15 (gX K n v1 v2 v3 v8 v9 v15 m)
def ld(K:Kn)(n:Nat)(v1:List aq)(v2:aB)(v3:Int)(L1:Int→Int→Int→Option af)(v8 v9 v10:Int):Option af:=if (decide (v10<(v1.length:Int))) then aP (bd v10 v1.length) (if (!(List.getD v1 v10.toNat default).Forced) then o8 K n v1 v2 v3 v10 L1 (max v8 ((List.getD v1 v10.toNat default).Above)) (max v9 ((List.getD v1 v10.toNat default).Below)) else o8 K n v1 v2 v3 v10 L1 v8 v9) else (l5 K n v1).bind fun v13=>(gn K n v2 v3 v13).bind fun v14=>(jg K n v1).bind fun v15=>gX K n v1 v2 v3 v8 v9 v15 n v14 0 []
def mQ(K:Kn)(n:Nat)(v1:List aq)(v2:aB)(v3:Int):Nat→Int→Int→Int→Option af
 | 0=>fun _ _ _=>none
 | m+1=>ld K n v1 v2 v3 (mQ K n v1 v2 v3 m)
def nT(K:Kn)(n:Nat)(v1:List aq)(v2:aB)(v3:Int):Option af:=(g7 K n v2).bind fun v4=>mQ K n v1 v2 v3 n v4.1 v4.2 0
def lu(K:Kn)(n:Nat)(v2:aB)(v3:Int)(v5:List aq)(v6:List Int)(L1:Int→Int→Int→(List af)→Option ((List af)×Int))(v13 v14 v15:Int)(v16:List af):Option ((List af)×Int):=if (decide (v15<v14)) then aP (bd v15 (v6++[(v5.length:Int)]).length) (aP (bd (aa (v15+1)) (v6++[(v5.length:Int)]).length) (aP (cH (List.getD (v6++[(v5.length:Int)]) v15.toNat default) (List.getD (v6++[(v5.length:Int)]) ((aa (v15+1))).toNat default) v5.length) ((nT K n (List.drop ((List.getD (v6++[(v5.length:Int)]) v15.toNat default)).toNat (List.take ((List.getD (v6++[(v5.length:Int)]) ((aa (v15+1))).toNat default)).toNat v5)) v2 (min (max v3 0) 1048576)).bind fun v17=>aP (fits (v16.length+([({ v17 with Y:=v13 }:af)]:(List af)).length) 584) (L1 (aa (v13+v17.H)) v14 (aa (v15+1)) (v16++[({ v17 with Y:=v13 }:af)]))))) else some (v16,v13)
def ml(K:Kn)(n:Nat)(v2:aB)(v3:Int)(v5:List aq)(v6:List Int):Nat→Int→Int→Int→(List af)→Option ((List af)×Int)
 | 0=>fun _ _ _ _=>none
 | m+1=>lu K n v2 v3 v5 v6 (ml K n v2 v3 v5 v6 m)
def ix(K:Kn)(n:Nat)(v1:List ag)(v2:aB)(v3:Int)(v4:ca):Option ((List af)×Int):=(nE K n v1 (min (max v3 0) 1048576) v4).bind fun v5=>(nt K n v5 (min (max v3 0) 1048576)).bind fun v6=>aP (fits (v6.length+([(v5.length:Int)]:(List Int)).length) 8) (ml K n v2 v3 v5 v6 n 0 (aa (((v6++[(v5.length:Int)]).length:Int)-1)) 0 [])
def iy(K:Kn)(n:Nat):Option ca:=some (⟨(Fv.fn 36),(Fv.fn 37),(Fv.fn 38),(Fv.fn 39)⟩:ca)
def gZ(K:Kn)(n:Nat)(v4:Bool):Option Bool:=some v4
def m5(K:Kn)(n:Nat):Option Bool:=(g7 K n ({ bR with FontSize:=16,LineHeight:=30 }:aB)).bind fun v1=>(iy K n ).bind fun v2=>(ix K n [({ ek with Kind:=3,Style:=({ bR with FontSize:=16,LineHeight:=30 }:aB),Text:=⟨#[97,98,32,32,99,100]⟩ }:ag)] ({ bR with FontSize:=16,LineHeight:=30 }:aB) 20 v2).bind fun v3=>if (v1.1 == 21) then if (v1.2 == 9) then if ((v3.1.length:Int) == 2) then if (v3.2 == 60) then aP (bd (0:Int) v3.1.length) (if ((((List.getD v3.1 (0:Int).toNat default).Kids).length:Int) == 1) then aP (bd (0:Int) v3.1.length) (aP (bd (0:Int) ((List.getD v3.1 (0:Int).toNat default).Kids).length) (if (((List.getD ((List.getD v3.1 (0:Int).toNat default).Kids) (0:Int).toNat default).Text).toList == (⟨#[97,98]⟩:ByteArray).toList) then aP (bd (1:Int) v3.1.length) (aP (bd (0:Int) ((List.getD v3.1 (1:Int).toNat default).Kids).length) (gZ K n (((List.getD ((List.getD v3.1 (1:Int).toNat default).Kids) (0:Int).toNat default).W) == 16))) else gZ K n false)) else gZ K n false) else gZ K n false else gZ K n false else gZ K n false else gZ K n false
def na(K:Kn)(n:Nat)(v2:Bool):Option Bool:=some v2
def dn(K:Kn)(n:Nat)(v1:cV):Option Bool:=if (decide (v1.Value≥(-16777216))) then na K n (decide (v1.Value≤16777216)) else na K n false
def kL(K:Kn)(n:Nat)(v1:List bB)(v2 v23:Int)(L1:Int→Option Bool)(v43:Bool):Option Bool:=if v43 then some false else L1 (aa (v23+1))
def pR(K:Kn)(n:Nat)(v1:List bB)(v2 v23:Int)(L1:Int→Option Bool)(v40:Bool):Option Bool:=if v40 then some false else (dn K n ((((List.getD v1 v23.toNat default).Style).Margin).a3)).bind fun v41=>if (!v41) then kL K n v1 v2 v23 L1 true else (dn K n ((((List.getD v1 v23.toNat default).Style).Padding).a3)).bind fun v42=>kL K n v1 v2 v23 L1 (!v42)
def po(K:Kn)(n:Nat)(v1:List bB)(v2 v23:Int)(L1:Int→Option Bool)(v37:Bool):Option Bool:=if v37 then some false else (dn K n ((((List.getD v1 v23.toNat default).Style).Margin).a2)).bind fun v38=>if (!v38) then pR K n v1 v2 v23 L1 true else (dn K n ((((List.getD v1 v23.toNat default).Style).Padding).a2)).bind fun v39=>pR K n v1 v2 v23 L1 (!v39)
def oL(K:Kn)(n:Nat)(v1:List bB)(v2 v23:Int)(L1:Int→Option Bool)(v34:Bool):Option Bool:=if v34 then some false else (dn K n ((((List.getD v1 v23.toNat default).Style).Margin).a1)).bind fun v35=>if (!v35) then po K n v1 v2 v23 L1 true else (dn K n ((((List.getD v1 v23.toNat default).Style).Padding).a1)).bind fun v36=>po K n v1 v2 v23 L1 (!v36)
def cW(K:Kn)(n:Nat)(v1:List bB)(v2 v23:Int)(L1:Int→Option Bool)(v31:Bool):Option Bool:=if v31 then some false else (dn K n ((((List.getD v1 v23.toNat default).Style).Margin).a0)).bind fun v32=>if (!v32) then oL K n v1 v2 v23 L1 true else (dn K n ((((List.getD v1 v23.toNat default).Style).Padding).a0)).bind fun v33=>oL K n v1 v2 v23 L1 (!v33)
def gM(K:Kn)(n:Nat)(v1:List bB)(v2:Int)(L1:Int→Option Bool)(v23:Int):Option Bool:=if (decide (v23<(v1.length:Int))) then aP (bd v23 v1.length) (aP (bd v23 v1.length) (if (decide ((((List.getD v1 v23.toNat default).Text).size:Int)>60)) then cW K n v1 v2 v23 L1 true else (dn K n (((List.getD v1 v23.toNat default).Style).Left)).bind fun v24=>if (!v24) then cW K n v1 v2 v23 L1 true else (dn K n (((List.getD v1 v23.toNat default).Style).Top)).bind fun v25=>if (!v25) then cW K n v1 v2 v23 L1 true else (dn K n (((List.getD v1 v23.toNat default).Style).Width)).bind fun v26=>if (!v26) then cW K n v1 v2 v23 L1 true else (dn K n (((List.getD v1 v23.toNat default).Style).Height)).bind fun v27=>if (!v27) then cW K n v1 v2 v23 L1 true else (dn K n (((List.getD v1 v23.toNat default).Style).MinWidth)).bind fun v28=>if (!v28) then cW K n v1 v2 v23 L1 true else (dn K n (((List.getD v1 v23.toNat default).Style).MaxWidth)).bind fun v29=>if (!v29) then cW K n v1 v2 v23 L1 true else (dn K n (((List.getD v1 v23.toNat default).Style).Basis)).bind fun v30=>if (!v30) then cW K n v1 v2 v23 L1 true else if (decide ((((List.getD v1 v23.toNat default).Style).LineHeight)<0)) then cW K n v1 v2 v23 L1 true else if (decide ((((List.getD v1 v23.toNat default).Style).LineHeight)>65536)) then cW K n v1 v2 v23 L1 true else if (decide ((((List.getD v1 v23.toNat default).Style).FontSize)<0)) then cW K n v1 v2 v23 L1 true else if (decide ((((List.getD v1 v23.toNat default).Style).FontSize)>65536)) then cW K n v1 v2 v23 L1 true else if (decide ((((List.getD v1 v23.toNat default).Style).Grow)<0)) then cW K n v1 v2 v23 L1 true else if (decide ((((List.getD v1 v23.toNat default).Style).Grow)>1048576)) then cW K n v1 v2 v23 L1 true else if (decide ((((List.getD v1 v23.toNat default).Style).Shrink)<0)) then cW K n v1 v2 v23 L1 true else cW K n v1 v2 v23 L1 (decide ((((List.getD v1 v23.toNat default).Style).Shrink)>1048576)))) else some (decide ((v1.length:Int)≤v2))
def km(K:Kn)(n:Nat)(v1:List bB)(v2:Int):Nat→Int→Option Bool
 | 0=>fun _=>none
 | m+1=>gM K n v1 v2 (km K n v1 v2 m)
def rr(K:Kn)(n:Nat)(v1:List bB)(v2:Int):Option Bool:=km K n v1 v2 n 0
def ql(K:Kn)(n:Nat)(v1:List bB):Option Bool:=(rr K n v1 16).bind fun v2=>some v2
def iV(K:Kn)(n:Nat)(v1:List bB)(v3 v20:Int)(v21:List ag)(L1:Int→(List ag)→Option ((List ag)×Int))(v26 v27:Int)(v28:ByteArray)(v29:List ag):Option ((List ag)×Int):=aP (fits (v21.length+([(⟨v27,(aa (10+v20)),(List.getD v1 v20.toNat default).Style,v28,0,0,v29⟩:ag)]:(List ag)).length) 520) (L1 v26 (v21++[(⟨v27,(aa (10+v20)),(List.getD v1 v20.toNat default).Style,v28,0,0,v29⟩:ag)]))
def iQ(K:Kn)(n:Nat)(v1:List bB)(v3 v20:Int)(v21:List ag)(L1:Int→(List ag)→Option ((List ag)×Int))(v22:Bool):Option ((List ag)×Int):=if v22 then aP (bd v20 v1.length) ((some (Int.tmod ((List.getD v1 v20.toNat default).Kind) 8)).bind fun v23=>(some ((Int.tmod ((List.getD v1 v20.toNat default).Kind) 8) == 5)).bind fun v24=>if v24 then iV K n v1 v3 v20 v21 L1 (aa (v20+1)) 4 ⟨#[]⟩ [] else if (v23 == 6) then aP (fits ([({ ek with Kind:=3,Style:=(List.getD v1 v20.toNat default).Style,Text:=(List.getD v1 v20.toNat default).Text }:ag)]:(List ag)).length 520) (iV K n v1 v3 v20 v21 L1 (aa (v20+1)) 5 ⟨#[]⟩ [({ ek with Kind:=3,Style:=(List.getD v1 v20.toNat default).Style,Text:=(List.getD v1 v20.toNat default).Text }:ag)]) else if (v23 == 7) then (K.rA v1 (aa (v20+1)) (IntKind.wrap .u8 (((List.getD v1 v20.toNat default).Depth)+1))).bind fun v25=>iV K n v1 v3 v20 v21 L1 v25.2 2 ⟨#[]⟩ v25.1 else iV K n v1 v3 v20 v21 L1 (aa (v20+1)) 3 ((List.getD v1 v20.toNat default).Text) []) else some (v21,v20)
def ir(K:Kn)(n:Nat)(v1:List bB)(v3:Int)(L1:Int→(List ag)→Option ((List ag)×Int))(v20:Int)(v21:List ag):Option ((List ag)×Int):=if (decide (v20<(v1.length:Int))) then aP (bd v20 v1.length) (iQ K n v1 v3 v20 v21 L1 (decide (((List.getD v1 v20.toNat default).Depth)≥v3))) else iQ K n v1 v3 v20 v21 L1 false
def gu(K:Kn)(n:Nat)(v1:List bB)(v3:Int):Nat→Int→(List ag)→Option ((List ag)×Int)
 | 0=>fun _ _=>none
 | m+1=>ir K n v1 v3 (gu K n v1 v3 m)
def gA(K:Kn)(n:Nat)(v1:List bB)(v2 v3:Int):Option ((List ag)×Int):=gu K n v1 v3 n v2 []
def lY(K:Kn)(n:Nat)(v1:List bB):Option (List ag):=(gA K n v1 0 0).bind fun v2=>some v2.1
def lz(K:Kn)(n:Nat)(v1:List bB):Option aB:=if ((v1.length:Int) == 0) then some bR else aP (bd (0:Int) v1.length) (some (List.getD v1 (0:Int).toNat default).Style)
def oE(K:Kn)(n:Nat)(v1:af)(v6:Int)(L1:ByteArray→Int→Option ByteArray)(v8:ByteArray):Option ByteArray:=L1 v8 (aa (v6+1))
def k7(K:Kn)(n:Nat)(v1:af)(L1:ByteArray→Int→Option ByteArray)(v5:ByteArray)(v6:Int):Option ByteArray:=if (decide (v6<(v1.Kids.length:Int))) then aP (bd v6 v1.Kids.length) ((some (((List.getD v1.Kids v6.toNat default).Kind) == 3)).bind fun v7=>if v7 then aP (gS v5 ((List.getD v1.Kids v6.toNat default).Text)) (oE K n v1 v6 L1 (v5++((List.getD v1.Kids v6.toNat default).Text))) else oE K n v1 v6 L1 v5) else some v5
def jJ(K:Kn)(n:Nat)(v1:af):Nat→ByteArray→Int→Option ByteArray
 | 0=>fun _ _=>none
 | m+1=>k7 K n v1 (jJ K n v1 m)
def ot(K:Kn)(n:Nat)(v1:af):Option ByteArray:=jJ K n v1 n ⟨#[]⟩ 0
def k9(K:Kn)(n:Nat)(v1:ByteArray)(v6:Nat)(L1:ByteArray→Nat→Option ByteArray)(v8:ByteArray):Option ByteArray:=L1 v8 (v6+(Utf8.decode v1 v6).2)
def gf(K:Kn)(n:Nat)(v1 v5:ByteArray)(v6:Nat)(L1:ByteArray→Nat→Option ByteArray)(v7:Bool):Option ByteArray:=if v7 then aP (gS v5 (Utf8.encode ((Utf8.decode v1 v6).1:Int))) (k9 K n v1 v6 L1 (v5++(Utf8.encode ((Utf8.decode v1 v6).1:Int)))) else k9 K n v1 v6 L1 v5
def k8(K:Kn)(n:Nat)(v1:ByteArray)(L1:ByteArray→Nat→Option ByteArray)(v5:ByteArray)(v6:Nat):Option ByteArray:=if decide (v6<v1.size)=true then if (((Utf8.decode v1 v6).1:Int) != 9) then if (((Utf8.decode v1 v6).1:Int) != 10) then if (((Utf8.decode v1 v6).1:Int) != 13) then gf K n v1 v5 v6 L1 (((Utf8.decode v1 v6).1:Int) != 32) else gf K n v1 v5 v6 L1 false else gf K n v1 v5 v6 L1 false else gf K n v1 v5 v6 L1 false else some v5
def jc(K:Kn)(n:Nat)(v1:ByteArray):Nat→ByteArray→Nat→Option ByteArray
 | 0=>fun _ _=>none
 | m+1=>k8 K n v1 (jc K n v1 m)
def mH(K:Kn)(n:Nat)(v1:ByteArray):Option ByteArray:=jc K n v1 n ⟨#[]⟩ 0
def qu(K:Kn)(n:Nat)(v2:Bool):Option Bool:=some v2
def pS(K:Kn)(n:Nat)(v1:ag):Option Bool:=if (v1.Kind == 3) then qu K n true else qu K n (v1.Style.Position != 2)
def mA(K:Kn)(n:Nat)(v1:List ag)(v11:Int)(L1:ByteArray→Int→Option ByteArray)(v19:ByteArray):Option ByteArray:=L1 v19 (aa (v11+1))
def n9(K:Kn)(n:Nat)(v1:List ag)(v11:Int)(L1:ByteArray→Int→Option ByteArray)(v18:ByteArray):Option ByteArray:=mA K n v1 v11 L1 v18
def lH(K:Kn)(n:Nat)(v1:List ag)(v11:Int)(L1:ByteArray→Int→Option ByteArray)(v15:ByteArray):Option ByteArray:=(some (((List.getD v1 v11.toNat default).Kind) == 3)).bind fun v16=>if v16 then (mH K n ((List.getD v1 v11.toNat default).Text)).bind fun v17=>aP (gS v15 v17) (n9 K n v1 v11 L1 (v15++v17)) else n9 K n v1 v11 L1 v15
def ma(K:Kn)(n:Nat)(v1:List ag)(L1:ByteArray→Int→Option ByteArray)(v10:ByteArray)(v11:Int):Option ByteArray:=if (decide (v11<(v1.length:Int))) then aP (bd v11 v1.length) ((pS K n (List.getD v1 v11.toNat default)).bind fun v12=>if (!v12) then mA K n v1 v11 L1 v10 else (some (((List.getD v1 v11.toNat default).Kind) == 2)).bind fun v13=>if v13 then (K.qf ((List.getD v1 v11.toNat default).Kids)).bind fun v14=>aP (gS v10 v14) (lH K n v1 v11 L1 (v10++v14)) else lH K n v1 v11 L1 v10) else some v10
def iK(K:Kn)(n:Nat)(v1:List ag):Nat→ByteArray→Int→Option ByteArray
 | 0=>fun _ _=>none
 | m+1=>ma K n v1 (iK K n v1 m)
def iP(K:Kn)(n:Nat)(v1:List ag):Option ByteArray:=iK K n v1 n ⟨#[]⟩ 0
def lJ(K:Kn)(n:Nat)(v1:List bB)(v2 v7:Int)(L1:Bool→Int→Option Bool)(v8:Bool):Option Bool:=L1 v8 (aa (v7+1))
def jx(K:Kn)(n:Nat)(v6:Bool)(v9:List ag)(v12:(List af)×Int)(v15:ByteArray)(v16:Int)(v17:ByteArray)(L2:ByteArray→Int→Option Bool)(v18:Bool):Option Bool:=if v18 then some false else aP (gS v15 v17) (L2 (v15++v17) (aa (v16+1)))
def lB(K:Kn)(n:Nat)(v6:Bool)(v9:List ag)(v12:(List af)×Int)(L2:ByteArray→Int→Option Bool)(v15:ByteArray)(v16:Int):Option Bool:=if (decide (v16<(v12.1.length:Int))) then aP (bd v16 v12.1.length) ((ot K n (List.getD v12.1 v16.toNat default)).bind fun v17=>if (!v6) then if (!(v17.toList == (⟨#[]⟩:ByteArray).toList)) then aP (bd (aa ((v17.size:Int)-1)) v17.size) (jx K n v6 v9 v12 v15 v16 v17 L2 ((jD v17 ((aa ((v17.size:Int)-1))).toNat) == 32)) else jx K n v6 v9 v12 v15 v16 v17 L2 false else jx K n v6 v9 v12 v15 v16 v17 L2 false) else (mH K n v15).bind fun v19=>(iP K n v9).bind fun v20=>some (v19.toList == v20.toList)
def iW(K:Kn)(n:Nat)(v6:Bool)(v9:List ag)(v12:(List af)×Int):Nat→ByteArray→Int→Option Bool
 | 0=>fun _ _=>none
 | m+1=>lB K n v6 v9 v12 (iW K n v6 v9 v12 m)
def mM(K:Kn)(n:Nat)(v1:List bB)(v2:Int)(L1:Bool→Int→Option Bool)(v6:Bool)(v7:Int):Option Bool:=if (decide (v7<(v1.length:Int))) then aP (bd v7 v1.length) (if v6 then lJ K n v1 v2 v7 L1 true else if ((((List.getD v1 v7.toNat default).Style).WhiteSpace) == 2) then lJ K n v1 v2 v7 L1 true else lJ K n v1 v2 v7 L1 ((Int.tmod ((List.getD v1 v7.toNat default).Kind) 8) == 6)) else (lY K n v1).bind fun v9=>(lz K n v1).bind fun v10=>(iy K n ).bind fun v11=>(ix K n v9 v10 v2 v11).bind fun v12=>iW K n v6 v9 v12 n ⟨#[]⟩ 0
def kZ(K:Kn)(n:Nat)(v1:List bB)(v2:Int):Nat→Bool→Int→Option Bool
 | 0=>fun _ _=>none
 | m+1=>mM K n v1 v2 (kZ K n v1 v2 m)
def sr(K:Kn)(n:Nat)(v1:List bB)(v2:Int):Option Bool:=(m5 K n ).bind fun v3=>if (!v3) then some false else (ql K n v1).bind fun v4=>if (!v4) then some true else kZ K n v1 v2 n false 0
def kI(K:Kn)(n:Nat)(v4:bt)(v8:Int)(v13:V4 Int):Option bt:=some ({ v4 with Margin:=v13,Content:=v8 }:bt)
def qT(K:Kn)(n:Nat)(v3:Int)(v4:bt)(v8 v9:Int)(v10 v11:Int×Bool)(v12:Bool):Option bt:=if v12 then kI K n v4 v8 ⟨v4.Margin.a0,(aa ((aa (v3-v9))-(aa (Int.tdiv (aa (v3-v9)) 2)))),v4.Margin.a2,(aa (Int.tdiv (aa (v3-v9)) 2))⟩ else if (!v10.2) then kI K n v4 v8 ⟨v4.Margin.a0,v4.Margin.a1,v4.Margin.a2,(aa (v3-v9))⟩ else if (!v11.2) then kI K n v4 v8 ⟨v4.Margin.a0,(aa (v3-v9)),v4.Margin.a2,v4.Margin.a3⟩ else kI K n v4 v8 v4.Margin
def qq(K:Kn)(n:Nat)(v1:aB)(v3:Int)(v4:bt)(v7:Int):Option bt:=(iT K n v1 v3 v7).bind fun v8=>(gw K n ({ v4 with Content:=v8 }:bt)).bind fun v9=>if (decide ((aa (v3-v9))≤0)) then some ({ v4 with Content:=v8 }:bt) else (cS K n v1.Margin.a3 v3).bind fun v10=>(cS K n v1.Margin.a1 v3).bind fun v11=>if (!v10.2) then qT K n v3 v4 v8 v9 v10 v11 (!v11.2) else qT K n v3 v4 v8 v9 v10 v11 false
def uu(K:Kn)(n:Nat)(v1:aB)(v2:Int):Option bt:=(dQ K n v2).bind fun v3=>(gt K n v1 v3 0).bind fun v4=>(cS K n v1.Width v3).bind fun v5=>if (!v5.2) then (gw K n v4).bind fun v6=>qq K n v1 v3 v4 (aa (v3-v6)) else qq K n v1 v3 v4 v5.1
def lV(K:Kn)(n:Nat)(v1:ag)(v3:ca)(v4:bt)(v5 v6:Bool):Option af:=(mh K n v1 v4 v5 v6 v3).bind fun v7=>some v7
def pG(K:Kn)(n:Nat)(v1:ag)(v3:ca)(v4:bt)(v5:Bool):Option af:=if (v1.Style.Overflow == 0) then if (v4.Border.a2 == 0) then if (v4.Padding.a2 == 0) then lV K n v1 v3 v4 v5 (v1.Style.Height.Kind != 1) else lV K n v1 v3 v4 v5 false else lV K n v1 v3 v4 v5 false else lV K n v1 v3 v4 v5 false
def s9(K:Kn)(n:Nat)(v1:ag)(v2:Int)(v3:ca):Option af:=(uu K n v1.Style v2).bind fun v4=>if (v1.Style.Overflow == 0) then if (v4.Border.a0 == 0) then pG K n v1 v3 v4 (v4.Padding.a0 == 0) else pG K n v1 v3 v4 false else pG K n v1 v3 v4 false
def wt(K:Kn)(n:Nat)(v1:ag)(v2:Int):Option af:=(iy K n ).bind fun v3=>(s9 K n v1 v2 v3).bind fun v4=>some v4
def wj(K:Kn)(n:Nat)(v1:ag)(v2:ca):Option (Int×Int):=(l7 K n v1 v2).bind fun v3=>(kO K n v1.Style).bind fun v4=>(iT K n v4 0 v3.1).bind fun v5=>(gt K n v4 0 v5).bind fun v6=>(gw K n v6).bind fun v7=>(iT K n v4 0 v3.2).bind fun v8=>(gt K n v4 0 v8).bind fun v9=>(gw K n v9).bind fun v10=>some (v7,v10)
def wb(K:Kn)(n:Nat)(v1:ag):Option (Int×Int):=(iy K n ).bind fun v2=>(wj K n v1 v2).bind fun v3=>some (v3.1,v3.2)
def ky(K:Kn)(n:Nat)(v1:List ag)(v2:aB)(v3 v11:Int)(L1:Int→Int→(List af)→Option ((List af)×Int))(v14:Int)(v15:List af):Option ((List af)×Int):=L1 v14 (aa (v11+1)) v15
def ij(K:Kn)(n:Nat)(v1:List ag)(v2:aB)(v3:Int)(L1:Int→Int→(List af)→Option ((List af)×Int))(v10 v11:Int)(v12:List af):Option ((List af)×Int):=if (decide (v11<(v1.length:Int))) then aP (bd v11 v1.length) ((some (!(((List.getD v1 v11.toNat default).Text).toList == (⟨#[]⟩:ByteArray).toList))).bind fun v13=>if v13 then aP (bd v11 v1.length) (aP (fits (v12.length+([({ bj with Kind:=2,Y:=v10,W:=v3,H:=v2.LineHeight,Text:=(List.getD v1 v11.toNat default).Text }:af)]:(List af)).length) 584) (ky K n v1 v2 v3 v11 L1 (aa (v10+v2.LineHeight)) (v12++[({ bj with Kind:=2,Y:=v10,W:=v3,H:=v2.LineHeight,Text:=(List.getD v1 v11.toNat default).Text }:af)]))) else ky K n v1 v2 v3 v11 L1 v10 v12) else some (v12,v10)
def kq(K:Kn)(n:Nat)(v1:List ag)(v2:aB)(v3:Int):Nat→Int→Int→(List af)→Option ((List af)×Int)
 | 0=>fun _ _ _=>none
 | m+1=>ij K n v1 v2 v3 (kq K n v1 v2 v3 m)
def m8(K:Kn)(n:Nat)(v1:List ag)(v2:aB)(v3:Int):Option ((List af)×Int):=kq K n v1 v2 v3 n 0 0 []
def ik(K:Kn)(n:Nat)(v1:List ag)(L1:Int→Int→Int→Option (Int×Int))(v3 v4 v5:Int):Option (Int×Int):=if (decide (v5<(v1.length:Int))) then aP (bd v5 v1.length) (L1 (max v3 (aa (8*(((List.getD v1 v5.toNat default).Text).size:Int)))) (aa (v4+(aa (8*(((List.getD v1 v5.toNat default).Text).size:Int))))) (aa (v5+1))) else some (v3,v4)
def kW(K:Kn)(n:Nat)(v1:List ag):Nat→Int→Int→Int→Option (Int×Int)
 | 0=>fun _ _ _=>none
 | m+1=>ik K n v1 (kW K n v1 m)
def pi(K:Kn)(n:Nat)(v1:List ag)(v2:aB):Option (Int×Int):=kW K n v1 n 0 0 0
def KN:Nat→Kn
 | 0=>⟨fun _=>none,fun _ _ _=>none,fun _ _ _=>none,fun _ _ _ _=>none,fun _ _ _=>none,fun _ _ _=>none,fun _ _=>none,fun _ _=>none,fun _ _=>none⟩
 | n+1=>⟨fun a0=>iP (KN n) n a0, fun a0 a1 a2=>gA (KN n) n a0 a1 a2, fun a0 a1 a2=>gp (KN n) n a0 a1 a2, fun f a0 a1 a2=>match f with|.fn i=>if Nat.beq i 38=true then m8 (KN n) n a0 a1 a2 else none|.c42 x0 x1_0 x1_1 x1_2 x1_3=>none, fun f a0 a1=>match f with|.fn i=>if Nat.beq i 39=true then pi (KN n) n a0 a1 else none|.c42 x0 x1_0 x1_1 x1_2 x1_3=>none, fun f a0 a1=>match f with|.fn i=>if Nat.beq i 36=true then wt (KN n) n a0 a1 else none|.c42 x0 x1_0 x1_1 x1_2 x1_3=>none, fun f a0=>match f with|.fn i=>if Nat.beq i 81=true then lr (KN n) n a0 else none|.c42 x0 x1_0 x1_1 x1_2 x1_3=>none, fun f a0=>match f with|.fn i=>if Nat.beq i 37=true then wb (KN n) n a0 else none|.c42 x0 x1_0 x1_1 x1_2 x1_3=>none, fun f a0=>match f with|.fn i=>none|.c42 x0 x1_0 x1_1 x1_2 x1_3=>gK (KN n) n a0 x0 (⟨x1_0,x1_1,x1_2,x1_3⟩:ca)⟩
end
end Go.Proofs.Ytnpmlepplfaijaa
