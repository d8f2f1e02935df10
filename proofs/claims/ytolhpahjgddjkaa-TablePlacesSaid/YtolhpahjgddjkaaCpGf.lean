/- Layer 20's functions as plain Lean functions: K stands for calls that come back, n bounds the rounds of loops. Made by a program. -/
import Derived.Test.YtolhpahjgddjkaaCpGt
namespace Go.Proofs.Ytolhpahjgddjkaa
open Go.RowKit
set_option maxRecDepth 20000
set_option linter.all false
set_option linter.unusedVariables false
set_option linter.unusedSimpArgs false
noncomputable section
def dh (K:Kn) (n:Nat) (v1:List (List (V2 Int))) (v122:Int) (v123:List (List aa)) (v124:List TMp) (v139 v141 v142:Int) (v143:List aa) (L1:Int→Int→(List (List aa))→(List TMp)→Option ((List (List aa))×Int)) (L2:Int→Int→Int→Int→(List aa)→Option ((List (List aa))×Int)) (L3:Int→(V2 Int)→Option ((List (List aa))×Int)) (v146:Int) (v147:V2 Int):Option ((List (List aa))×Int) :=
  chk (inb v122 v124.length) (
  (some (mget (List.getD v124 (v122).toNat none) v146)).bind fun v148 =>
  if v148=true then
    L3 (w64 (v146+1)) v147
  else
    (some (min (max v147.a0 1) (w64 ((v1.length:Int) - v122)))).bind fun v149 =>
    chk (fits (v143.length+([(⟨v122,v146,v149,(min (max v147.a1 1) 100)⟩:aa)]:(List aa)).length) 32) (
    L2 (max v139 (w64 (v146+(min (max v147.a1 1) 100)))) (w64 (v146+(min (max v147.a1 1) 100))) v141 (w64 (v142+1)) (v143++[(⟨v122,v146,v149,(min (max v147.a1 1) 100)⟩:aa)])))
def cC (K:Kn) (n:Nat) (v1:List (List (V2 Int))) (v122:Int) (v123:List (List aa)) (v124:List TMp) (v139 v141 v142:Int) (v143:List aa) (L1:Int→Int→(List (List aa))→(List TMp)→Option ((List (List aa))×Int)) (L2:Int→Int→Int→Int→(List aa)→Option ((List (List aa))×Int)):Nat→Int→(V2 Int)→Option ((List (List aa))×Int)
  | 0=>fun _ _=>none
  | m+1=>dh K n v1 v122 v123 v124 v139 v141 v142 v143 L1 L2 (cC K n v1 v122 v123 v124 v139 v141 v142 v143 L1 L2 m)
def ec (K:Kn) (n:Nat) (v1:List (List (V2 Int))) (v122:Int) (v123:List (List aa)) (v139:Int) (v143:List aa) (v166 v175:Int) (L1:Int→Int→(List (List aa))→(List TMp)→Option ((List (List aa))×Int)) (L4 L5 L6:Int→(List TMp)→Option ((List (List aa))×Int)) (v181:Int) (v182:List TMp):Option ((List (List aa))×Int) :=
  (some (decide (v181<(w64 (((List.getD v143 (v166).toNat default).Col)+((List.getD v143 (v166).toNat default).Cols)))))).bind fun v183 =>
  if v183=true then
    chk (inb v175 v182.length) (
    chk (Option.isSome (List.getD v182 (v175).toNat none)) (
    L6 (w64 (v181+1)) (List.set v182 (v175).toNat (mput (List.getD v182 (v175).toNat none) v181 true))))
  else
    L5 (w64 (v175+1)) v182
def dg (K:Kn) (n:Nat) (v1:List (List (V2 Int))) (v122:Int) (v123:List (List aa)) (v139:Int) (v143:List aa) (v166 v175:Int) (L1:Int→Int→(List (List aa))→(List TMp)→Option ((List (List aa))×Int)) (L4 L5:Int→(List TMp)→Option ((List (List aa))×Int)):Nat→Int→(List TMp)→Option ((List (List aa))×Int)
  | 0=>fun _ _=>none
  | m+1=>ec K n v1 v122 v123 v139 v143 v166 v175 L1 L4 L5 (dg K n v1 v122 v123 v139 v143 v166 v175 L1 L4 L5 m)
def dz (K:Kn) (n:Nat) (v1:List (List (V2 Int))) (v122:Int) (v123:List (List aa)) (v139:Int) (v143:List aa) (v166 v175:Int) (L1:Int→Int→(List (List aa))→(List TMp)→Option ((List (List aa))×Int)) (L4 L5:Int→(List TMp)→Option ((List (List aa))×Int)) (v179:List TMp):Option ((List (List aa))×Int) :=
  dg K n v1 v122 v123 v139 v143 v166 v175 L1 L4 L5 n ((List.getD v143 (v166).toNat default).Col) v179
def ee (K:Kn) (n:Nat) (v1:List (List (V2 Int))) (v122:Int) (v123:List (List aa)) (v139:Int) (v143:List aa) (v166:Int) (L1:Int→Int→(List (List aa))→(List TMp)→Option ((List (List aa))×Int)) (L4 L5:Int→(List TMp)→Option ((List (List aa))×Int)) (v175:Int) (v176:List TMp):Option ((List (List aa))×Int) :=
  (some (decide (v175<(w64 (v122+((List.getD v143 (v166).toNat default).Rows)))))).bind fun v177 =>
  if v177=true then
    chk (inb v175 v176.length) (
    (some (Option.isNone (List.getD v176 (v175).toNat none))).bind fun v178 =>
    if v178=true then
      chk (inb v175 v176.length) (
      dz K n v1 v122 v123 v139 v143 v166 v175 L1 L4 L5 (List.set v176 (v175).toNat (some [])))
    else
      dz K n v1 v122 v123 v139 v143 v166 v175 L1 L4 L5 v176)
  else
    L4 (w64 (v166+1)) v176
def cy (K:Kn) (n:Nat) (v1:List (List (V2 Int))) (v122:Int) (v123:List (List aa)) (v139:Int) (v143:List aa) (v166:Int) (L1:Int→Int→(List (List aa))→(List TMp)→Option ((List (List aa))×Int)) (L4:Int→(List TMp)→Option ((List (List aa))×Int)):Nat→Int→(List TMp)→Option ((List (List aa))×Int)
  | 0=>fun _ _=>none
  | m+1=>ee K n v1 v122 v123 v139 v143 v166 L1 L4 (cy K n v1 v122 v123 v139 v143 v166 L1 L4 m)
def d5 (K:Kn) (n:Nat) (v1:List (List (V2 Int))) (v122:Int) (v123:List (List aa)) (v139:Int) (v143:List aa) (L1:Int→Int→(List (List aa))→(List TMp)→Option ((List (List aa))×Int)) (L4:Int→(List TMp)→Option ((List (List aa))×Int)) (v166:Int) (v167:List TMp):Option ((List (List aa))×Int) :=
  if (decide (v166<(v143.length:Int)))=true then
    chk (inb v166 v143.length) (
    cy K n v1 v122 v123 v139 v143 v166 L1 L4 n (w64 (v122+1)) v167)
  else
    chk (fits (v123.length+([v143]:(List (List aa))).length) 24) (
    L1 v139 (w64 (v122+1)) (v123++[v143]) v167)
def cA (K:Kn) (n:Nat) (v1:List (List (V2 Int))) (v122:Int) (v123:List (List aa)) (v139:Int) (v143:List aa) (L1:Int→Int→(List (List aa))→(List TMp)→Option ((List (List aa))×Int)):Nat→Int→(List TMp)→Option ((List (List aa))×Int)
  | 0=>fun _ _=>none
  | m+1=>d5 K n v1 v122 v123 v139 v143 L1 (cA K n v1 v122 v123 v139 v143 L1 m)
def eh (K:Kn) (n:Nat) (v1:List (List (V2 Int))) (v122:Int) (v123:List (List aa)) (v124:List TMp) (L1:Int→Int→(List (List aa))→(List TMp)→Option ((List (List aa))×Int)) (L2:Int→Int→Int→Int→(List aa)→Option ((List (List aa))×Int)) (v139 v140 v141 v142:Int) (v143:List aa):Option ((List (List aa))×Int) :=
  if (decide (v142<v141))=true then
    chk (inb v142 (List.getD v1 (v122).toNat default).length) (
    cC K n v1 v122 v123 v124 v139 v141 v142 v143 L1 L2 n v140 (List.getD (List.getD v1 (v122).toNat default) (v142).toNat default))
  else
    cA K n v1 v122 v123 v139 v143 L1 n 0 v124
def cR (K:Kn) (n:Nat) (v1:List (List (V2 Int))) (v122:Int) (v123:List (List aa)) (v124:List TMp) (L1:Int→Int→(List (List aa))→(List TMp)→Option ((List (List aa))×Int)):Nat→Int→Int→Int→Int→(List aa)→Option ((List (List aa))×Int)
  | 0=>fun _ _ _ _ _=>none
  | m+1=>eh K n v1 v122 v123 v124 L1 (cR K n v1 v122 v123 v124 L1 m)
def eB (K:Kn) (n:Nat) (v1:List (List (V2 Int))) (L1:Int→Int→(List (List aa))→(List TMp)→Option ((List (List aa))×Int)) (v121 v122:Int) (v123:List (List aa)) (v124:List TMp):Option ((List (List aa))×Int) :=
  if (decide (v122<(v1.length:Int)))=true then
    chk (inb v122 v1.length) (
    cR K n v1 v122 v123 v124 L1 n v121 0 ((List.getD v1 (v122).toNat default).length:Int) 0 [])
  else
    some (v123,v121)
def cJ (K:Kn) (n:Nat) (v1:List (List (V2 Int))):Nat→Int→Int→(List (List aa))→(List TMp)→Option ((List (List aa))×Int)
  | 0=>fun _ _ _ _=>none
  | m+1=>eB K n v1 (cJ K n v1 m)
def dP (K:Kn) (n:Nat) (v1:List (List (V2 Int))):Option ((List (List aa))×Int) :=
  chk (mkb (v1.length:Int) 8) (
  (some (List.replicate ((v1.length:Int)).toNat (none:TMp))).bind fun v2 =>
  cJ K n v1 n 0 0 [] v2)
def dB (K:Kn) (n:Nat) (v1:Int):Option Int :=
  some (min (max v1 0) 1048576)
def ex (K:Kn) (n:Nat) (v1 v2:Int):Option Int :=
  some (min (max v1 0) v2)
def fU (K:Kn) (n:Nat) (v2 v3:Int) (v4:Fv) (v11 v15:Int) (v16:List Int) (L1 L2:Int→(List Int)→Option (List Int)) (v18:Bool):Option (List Int) :=
  if v18=true then
    chk (inb (w64 (v15 - 1)) v16.length) (
    chk (inb v15 v16.length) (
    chk (inb v15 v16.length) (
    chk (inb (w64 (v15 - 1)) (List.set v16 (v15).toNat (List.getD v16 ((w64 (v15 - 1))).toNat default)).length) (
    L2 (w64 (v15 - 1)) (List.set (List.set v16 (v15).toNat (List.getD v16 ((w64 (v15 - 1))).toNat default)) ((w64 (v15 - 1))).toNat (List.getD v16 (v15).toNat default))))))
  else
    L1 (w64 (v11+1)) v16
def fS (K:Kn) (n:Nat) (v2 v3:Int) (v4:Fv) (v11:Int) (L1 L2:Int→(List Int)→Option (List Int)) (v15:Int) (v16:List Int):Option (List Int) :=
  if (decide (v15>v2))=true then
    chk (inb v15 v16.length) (
    chk (inb (w64 (v15 - 1)) v16.length) (
    (K.bH v4 (List.getD v16 (v15).toNat default) (List.getD v16 ((w64 (v15 - 1))).toNat default)).bind fun v17 =>
    fU K n v2 v3 v4 v11 v15 v16 L1 L2 (decide (v17<0))))
  else
    fU K n v2 v3 v4 v11 v15 v16 L1 L2 false
def fJ (K:Kn) (n:Nat) (v2 v3:Int) (v4:Fv) (v11:Int) (L1:Int→(List Int)→Option (List Int)):Nat→Int→(List Int)→Option (List Int)
  | 0=>fun _ _=>none
  | m+1=>fS K n v2 v3 v4 v11 L1 (fJ K n v2 v3 v4 v11 L1 m)
def fk (K:Kn) (n:Nat) (v2 v3:Int) (v4:Fv) (L1:Int→(List Int)→Option (List Int)) (v11:Int) (v12:List Int):Option (List Int) :=
  if (decide (v11<v3))=true then
    fJ K n v2 v3 v4 v11 L1 n v11 v12
  else
    some v12
def fm (K:Kn) (n:Nat) (v2 v3:Int) (v4:Fv):Nat→Int→(List Int)→Option (List Int)
  | 0=>fun _ _=>none
  | m+1=>fk K n v2 v3 v4 (fm K n v2 v3 v4 m)
def fN (K:Kn) (n:Nat) (v1:List Int) (v2 v3:Int) (v4:Fv):Option (List Int) :=
  fm K n v2 v3 v4 n (w64 (v2+1)) v1
def eK (K:Kn) (n:Nat) (v2 v3 v4:Int) (L1:Int→(List Int)→Option (List Int)) (v6:Int) (v7:List Int):Option (List Int) :=
  if (decide (v6<v4))=true then
    chk (inb (w64 (v3+v6)) v7.length) (
    chk (inb (w64 (v2+v6)) v7.length) (
    chk (inb (w64 (v2+v6)) v7.length) (
    chk (inb (w64 (v3+v6)) (List.set v7 ((w64 (v2+v6))).toNat (List.getD v7 ((w64 (v3+v6))).toNat default)).length) (
    L1 (w64 (v6+1)) (List.set (List.set v7 ((w64 (v2+v6))).toNat (List.getD v7 ((w64 (v3+v6))).toNat default)) ((w64 (v3+v6))).toNat (List.getD v7 ((w64 (v2+v6))).toNat default))))))
  else
    some v7
def fB (K:Kn) (n:Nat) (v2 v3 v4:Int):Nat→Int→(List Int)→Option (List Int)
  | 0=>fun _ _=>none
  | m+1=>eK K n v2 v3 v4 (fB K n v2 v3 v4 m)
def dX (K:Kn) (n:Nat) (v1:List Int) (v2 v3 v4:Int) (v5:Fv):Option (List Int) :=
  fB K n v2 v3 v4 n 0 v1
def eF (K:Kn) (n:Nat) (v3:Int) (v5:Fv) (L1:Int→Int→(List Int)→Option (List Int)) (v16 v17:Int) (v18:List Int):Option (List Int) :=
  L1 v16 v17 v18
def eV (K:Kn) (n:Nat) (v3:Int) (v5:Fv) (L1:Int→Int→(List Int)→Option (List Int)) (v11 v12:Int) (v13:List Int):Option (List Int) :=
  if (v11 != v12)=true then
    if (decide (v11>v12))=true then
      (dX K n v13 (w64 (v3 - v11)) v3 v12 v5).bind fun v14 =>
      eF K n v3 v5 L1 (w64 (v11 - v12)) v12 v14
    else
      (dX K n v13 (w64 (v3 - v11)) (w64 ((w64 (v3+v12)) - v11)) v11 v5).bind fun v15 =>
      eF K n v3 v5 L1 v11 (w64 (v12 - v11)) v15
  else
    (dX K n v13 (w64 (v3 - v11)) v3 v11 v5).bind fun v19 =>
    some v19
def eX (K:Kn) (n:Nat) (v3:Int) (v5:Fv):Nat→Int→Int→(List Int)→Option (List Int)
  | 0=>fun _ _ _=>none
  | m+1=>eV K n v3 v5 (eX K n v3 v5 m)
def gN (K:Kn) (n:Nat) (v1:List Int) (v2 v3 v4:Int) (v5:Fv):Option (List Int) :=
  eX K n v3 v5 n (w64 (v3 - v2)) (w64 (v4 - v3)) v1
def fj (K:Kn) (n:Nat) (v1:List Int) (v2:Int) (v5:Fv) (L1:Int→Int→Option (List Int)) (v14 v15:Int):Option (List Int) :=
  L1 v14 v15
def fX (K:Kn) (n:Nat) (v10:Int) (L2:Int→(List Int)→Option (List Int)) (v16:Int) (v17:List Int):Option (List Int) :=
  if (decide (v16<(w64 (v10 - 1))))=true then
    chk (inb (w64 (v16+1)) v17.length) (
    chk (inb v16 v17.length) (
    chk (inb v16 v17.length) (
    chk (inb (w64 (v16+1)) (List.set v17 (v16).toNat (List.getD v17 ((w64 (v16+1))).toNat default)).length) (
    L2 (w64 (v16+1)) (List.set (List.set v17 (v16).toNat (List.getD v17 ((w64 (v16+1))).toNat default)) ((w64 (v16+1))).toNat (List.getD v17 (v16).toNat default))))))
  else
    some v17
def eW (K:Kn) (n:Nat) (v10:Int):Nat→Int→(List Int)→Option (List Int)
  | 0=>fun _ _=>none
  | m+1=>fX K n v10 (eW K n v10 m)
def fQ (K:Kn) (n:Nat) (v1:List Int) (v2:Int) (v5:Fv) (L1:Int→Int→Option (List Int)) (v10 v11:Int):Option (List Int) :=
  if (decide (v10<v11))=true then
    (some (w64 ((IntKind.wrap .u64 (w64 (v10+v11))) / 2))).bind fun v12 =>
    chk (inb v12 v1.length) (
    chk (inb v2 v1.length) (
    (K.bH v5 (List.getD v1 (v12).toNat default) (List.getD v1 (v2).toNat default)).bind fun v13 =>
    if (decide (v13<0))=true then
      fj K n v1 v2 v5 L1 (w64 (v12+1)) v11
    else
      fj K n v1 v2 v5 L1 v10 v12))
  else
    eW K n v10 n v2 v1
def eH (K:Kn) (n:Nat) (v1:List Int) (v2:Int) (v5:Fv):Nat→Int→Int→Option (List Int)
  | 0=>fun _ _=>none
  | m+1=>fQ K n v1 v2 v5 (eH K n v1 v2 v5 m)
def fv (K:Kn) (n:Nat) (v1:List Int) (v3:Int) (v5:Fv) (L3:Int→Int→Option (List Int)) (v26 v27:Int):Option (List Int) :=
  L3 v26 v27
def fe (K:Kn) (n:Nat) (v22:Int) (L4:Int→(List Int)→Option (List Int)) (v28:Int) (v29:List Int):Option (List Int) :=
  if (decide (v28>v22))=true then
    chk (inb (w64 (v28 - 1)) v29.length) (
    chk (inb v28 v29.length) (
    chk (inb v28 v29.length) (
    chk (inb (w64 (v28 - 1)) (List.set v29 (v28).toNat (List.getD v29 ((w64 (v28 - 1))).toNat default)).length) (
    L4 (w64 (v28 - 1)) (List.set (List.set v29 (v28).toNat (List.getD v29 ((w64 (v28 - 1))).toNat default)) ((w64 (v28 - 1))).toNat (List.getD v29 (v28).toNat default))))))
  else
    some v29
def eT (K:Kn) (n:Nat) (v22:Int):Nat→Int→(List Int)→Option (List Int)
  | 0=>fun _ _=>none
  | m+1=>fe K n v22 (eT K n v22 m)
def ga (K:Kn) (n:Nat) (v1:List Int) (v3:Int) (v5:Fv) (L3:Int→Int→Option (List Int)) (v22 v23:Int):Option (List Int) :=
  if (decide (v22<v23))=true then
    (some (w64 ((IntKind.wrap .u64 (w64 (v22+v23))) / 2))).bind fun v24 =>
    chk (inb v3 v1.length) (
    chk (inb v24 v1.length) (
    (K.bH v5 (List.getD v1 (v3).toNat default) (List.getD v1 (v24).toNat default)).bind fun v25 =>
    if (!(decide (v25<0)))=true then
      fv K n v1 v3 v5 L3 (w64 (v24+1)) v23
    else
      fv K n v1 v3 v5 L3 v22 v24))
  else
    eT K n v22 n v3 v1
def fq (K:Kn) (n:Nat) (v1:List Int) (v3:Int) (v5:Fv):Nat→Int→Int→Option (List Int)
  | 0=>fun _ _=>none
  | m+1=>ga K n v1 v3 v5 (fq K n v1 v3 v5 m)
def ff (K:Kn) (n:Nat) (v1:List Int) (v2 v3 v4:Int) (v5:Fv) (v30 v31:Int) (L5:Int→Int→Option (List Int)) (v43 v44:Int):Option (List Int) :=
  L5 v43 v44
def eS (K:Kn) (n:Nat) (v53:List Int):Option (List Int) :=
  some v53
def fG (K:Kn) (n:Nat) (v4:Int) (v5:Fv) (v30 v31 v39:Int) (v50:List Int) (v51:Bool):Option (List Int) :=
  if v51=true then
    (K.dn v50 v30 (w64 (v31 - v39)) v4 v5).bind fun v52 =>
    eS K n v52
  else
    eS K n v50
def fA (K:Kn) (n:Nat) (v4:Int) (v5:Fv) (v30 v31 v39:Int) (v50:List Int):Option (List Int) :=
  if (decide (v30<(w64 (v31 - v39))))=true then
    fG K n v4 v5 v30 v31 v39 v50 (decide ((w64 (v31 - v39))<v4))
  else
    fG K n v4 v5 v30 v31 v39 v50 false
def fE (K:Kn) (n:Nat) (v2 v4:Int) (v5:Fv) (v30 v31 v39:Int) (v47:List Int) (v48:Bool):Option (List Int) :=
  if v48=true then
    (K.dn v47 v2 v39 v30 v5).bind fun v49 =>
    fA K n v4 v5 v30 v31 v39 v49
  else
    fA K n v4 v5 v30 v31 v39 v47
def fF (K:Kn) (n:Nat) (v2 v4:Int) (v5:Fv) (v30 v31 v39:Int) (v47:List Int):Option (List Int) :=
  if (decide (v2<v39))=true then
    fE K n v2 v4 v5 v30 v31 v39 v47 (decide (v39<v30))
  else
    fE K n v2 v4 v5 v30 v31 v39 v47 false
def e7 (K:Kn) (n:Nat) (v1:List Int) (v2 v3 v4:Int) (v5:Fv) (v30 v31 v39:Int) (v45:Bool):Option (List Int) :=
  if v45=true then
    (gN K n v1 v39 v3 (w64 (v31 - v39)) v5).bind fun v46 =>
    fF K n v2 v4 v5 v30 v31 v39 v46
  else
    fF K n v2 v4 v5 v30 v31 v39 v1
def e9 (K:Kn) (n:Nat) (v1:List Int) (v2 v3 v4:Int) (v5:Fv) (v30 v31:Int) (L5:Int→Int→Option (List Int)) (v39 v40:Int):Option (List Int) :=
  if (decide (v39<v40))=true then
    (some (w64 ((IntKind.wrap .u64 (w64 (v39+v40))) / 2))).bind fun v41 =>
    chk (inb (w64 ((w64 (v31 - 1)) - v41)) v1.length) (
    chk (inb v41 v1.length) (
    (K.bH v5 (List.getD v1 ((w64 ((w64 (v31 - 1)) - v41))).toNat default) (List.getD v1 (v41).toNat default)).bind fun v42 =>
    if (!(decide (v42<0)))=true then
      ff K n v1 v2 v3 v4 v5 v30 v31 L5 (w64 (v41+1)) v40
    else
      ff K n v1 v2 v3 v4 v5 v30 v31 L5 v39 v41))
  else
    if (decide (v39<v3))=true then
      e7 K n v1 v2 v3 v4 v5 v30 v31 v39 (decide (v3<(w64 (v31 - v39))))
    else
      e7 K n v1 v2 v3 v4 v5 v30 v31 v39 false
def fP (K:Kn) (n:Nat) (v1:List Int) (v2 v3 v4:Int) (v5:Fv) (v30 v31:Int):Nat→Int→Int→Option (List Int)
  | 0=>fun _ _=>none
  | m+1=>e9 K n v1 v2 v3 v4 v5 v30 v31 (fP K n v1 v2 v3 v4 v5 v30 v31 m)
def fV (K:Kn) (n:Nat) (v1:List Int) (v2 v3 v4:Int) (v5:Fv) (v30 v31 v33 v34:Int):Option (List Int) :=
  fP K n v1 v2 v3 v4 v5 v30 v31 n v33 v34
def dW (K:Kn) (n:Nat) (v1:List Int) (v2 v3 v4:Int) (v5:Fv):Option (List Int) :=
  if ((w64 (v3 - v2)) == 1)=true then
    eH K n v1 v2 v5 n v3 v4
  else
    if ((w64 (v4 - v3)) == 1)=true then
      fq K n v1 v3 v5 n v2 v3
    else
      (some (w64 ((IntKind.wrap .u64 (w64 (v2+v4))) / 2))).bind fun v30 =>
      (some (w64 ((w64 ((IntKind.wrap .u64 (w64 (v2+v4))) / 2))+v3))).bind fun v31 =>
      (some (decide (v3>(w64 ((IntKind.wrap .u64 (w64 (v2+v4))) / 2))))).bind fun v32 =>
      if v32=true then
        fV K n v1 v2 v3 v4 v5 v30 v31 (w64 (v31 - v4)) v30
      else
        fV K n v1 v2 v3 v4 v5 v30 v31 v2 v3
def fC (K:Kn) (n:Nat) (v2:Int) (v3:Fv) (v17:Int) (L2:Int→(List Int)→Option (List Int)) (v25:List Int):Option (List Int) :=
  L2 (w64 (v17*2)) v25
def fO (K:Kn) (n:Nat) (v2:Int) (v3:Fv) (v17:Int) (L2:Int→(List Int)→Option (List Int)) (L3:Int→Int→(List Int)→Option (List Int)) (v20 v21:Int) (v22:List Int):Option (List Int) :=
  if (decide (v21≤v2))=true then
    (dW K n v22 v20 (w64 (v20+v17)) v21 v3).bind fun v23 =>
    L3 v21 (w64 (v21+(w64 (2*v17)))) v23
  else
    if (decide ((w64 (v20+v17))<v2))=true then
      (dW K n v22 v20 (w64 (v20+v17)) v2 v3).bind fun v24 =>
      fC K n v2 v3 v17 L2 v24
    else
      fC K n v2 v3 v17 L2 v22
def eP (K:Kn) (n:Nat) (v2:Int) (v3:Fv) (v17:Int) (L2:Int→(List Int)→Option (List Int)):Nat→Int→Int→(List Int)→Option (List Int)
  | 0=>fun _ _ _=>none
  | m+1=>fO K n v2 v3 v17 L2 (eP K n v2 v3 v17 L2 m)
def fT (K:Kn) (n:Nat) (v2:Int) (v3:Fv) (L2:Int→(List Int)→Option (List Int)) (v17:Int) (v18:List Int):Option (List Int) :=
  if (decide (v17<v2))=true then
    eP K n v2 v3 v17 L2 n 0 (w64 (2*v17)) v18
  else
    some v18
def fK (K:Kn) (n:Nat) (v2:Int) (v3:Fv):Nat→Int→(List Int)→Option (List Int)
  | 0=>fun _ _=>none
  | m+1=>fT K n v2 v3 (fK K n v2 v3 m)
def fH (K:Kn) (n:Nat) (v2:Int) (v3:Fv) (L1:Int→Int→(List Int)→Option (List Int)) (v5 v6:Int) (v7:List Int):Option (List Int) :=
  if (decide (v6≤v2))=true then
    (fN K n v7 v5 v6 v3).bind fun v8 =>
    L1 v6 (w64 (v6+20)) v8
  else
    (fN K n v7 v5 v2 v3).bind fun v9 =>
    fK K n v2 v3 n 20 v9
def eU (K:Kn) (n:Nat) (v2:Int) (v3:Fv):Nat→Int→Int→(List Int)→Option (List Int)
  | 0=>fun _ _ _=>none
  | m+1=>fH K n v2 v3 (eU K n v2 v3 m)
def gK (K:Kn) (n:Nat) (v1:List Int) (v2:Int) (v3:Fv):Option (List Int) :=
  eU K n v2 v3 n 0 20 v1
def gk (K:Kn) (n:Nat) (v1:List Int) (v2:Fv):Option (List Int) :=
  (gK K n v1 (v1.length:Int) v2).bind fun v3 =>
  some v3
def fZ (K:Kn) (n:Nat) (v1:Int):Option Bool :=
  some (v1 != v1)
def gi (K:Kn) (n:Nat) (v1 v2:Int):Option Int :=
  (fZ K n v1).bind fun v3 =>
  (fZ K n v2).bind fun v4 =>
  if v3=true then
    if v4=true then
      some 0
    else
      some (-1)
  else
    if v4=true then
      some 1
    else
      if (decide (v1<v2))=true then
        some (-1)
      else
        if (decide (v1>v2))=true then
          some 1
        else
          some 0
def ge (K:Kn) (n:Nat) (v1 v2:Int) (v3:List Int):Option Int :=
  chk (inb v2 v3.length) (
  chk (inb v1 v3.length) (
  (gi K n (List.getD v3 (v2).toNat default) (List.getD v3 (v1).toNat default)).bind fun v4 =>
  some v4))
def fI (K:Kn) (n:Nat) (L3:(List Int)→Int→Int→(List Int)→Option (List Int)) (v26:List Int) (v27 v28:Int) (v29:List Int):Option (List Int) :=
  if (decide (v28<v27))=true then
    chk (inb v28 v26.length) (
    chk (inb (List.getD v26 (v28).toNat default) v29.length) (
    chk (inb (List.getD v26 (v28).toNat default) v29.length) (
    L3 v26 v27 (w64 (v28+1)) (List.set v29 ((List.getD v26 (v28).toNat default)).toNat (w64 ((List.getD v29 ((List.getD v26 (v28).toNat default)).toNat default)+1))))))
  else
    some v29
def fd (K:Kn) (n:Nat):Nat→(List Int)→Int→Int→(List Int)→Option (List Int)
  | 0=>fun _ _ _ _=>none
  | m+1=>fI K n (fd K n m)
def fu (K:Kn) (n:Nat) (v2:List Int) (v3 v8:Int) (L2:Int→Int→(List Int)→(List Int)→(List Int)→Option (List Int)) (v14 v15:Int) (v16 v17 v18:List Int):Option (List Int) :=
  if (decide (v15<(v2.length:Int)))=true then
    chk (inb v15 v2.length) (
    (ex K n (List.getD v2 (v15).toNat default) 2147483647).bind fun v19 =>
    chk ((v8 != 0)) (
    chk ((v8 != 0)) (
    chk (inb v15 v16.length) (
    chk (inb v15 v17.length) (
    chk (inb v15 v18.length) (
    (some (List.set v16 (v15).toNat (w64 (Int.tdiv (w64 (v3*v19)) v8)))).bind fun v20 =>
    (some (List.set v17 (v15).toNat (Int.tmod (w64 (v3*v19)) v8))).bind fun v21 =>
    chk (inb v15 v20.length) (
    L2 (w64 (v14 - (List.getD v20 (v15).toNat default))) (w64 (v15+1)) v20 v21 (List.set v18 (v15).toNat v15))))))))
  else
    (gk K n v18 (Fv.c59 v17)).bind fun v22 =>
    chk (slb (0:Int) v14 v22.length) (
    fd K n n (List.drop ((0:Int)).toNat (List.take (v14).toNat v22)) ((List.drop ((0:Int)).toNat (List.take (v14).toNat v22)).length:Int) 0 v16)
def eG (K:Kn) (n:Nat) (v2:List Int) (v3 v8:Int):Nat→Int→Int→(List Int)→(List Int)→(List Int)→Option (List Int)
  | 0=>fun _ _ _ _ _=>none
  | m+1=>fu K n v2 v3 v8 (eG K n v2 v3 v8 m)
def eO (K:Kn) (n:Nat) (v2:List Int) (v3:Int) (v4 v5 v6:List Int) (L1:Int→Int→Option (List Int)) (v8 v9:Int):Option (List Int) :=
  if (decide (v9<(v2.length:Int)))=true then
    chk (inb v9 v2.length) (
    (ex K n (List.getD v2 (v9).toNat default) 2147483647).bind fun v10 =>
    L1 (w64 (v8+v10)) (w64 (v9+1)))
  else
    if (v8 == 0)=true then
      some v4
    else
      eG K n v2 v3 v8 n v3 0 v4 v5 v6
def eZ (K:Kn) (n:Nat) (v2:List Int) (v3:Int) (v4 v5 v6:List Int):Nat→Int→Int→Option (List Int)
  | 0=>fun _ _=>none
  | m+1=>eO K n v2 v3 v4 v5 v6 (eZ K n v2 v3 v4 v5 v6 m)
def fY (K:Kn) (n:Nat) (v1:Int) (v2:List Int):Option (List Int) :=
  (ex K n v1 2147483647).bind fun v3 =>
  chk (mkb (v2.length:Int) 8) (
  (some (List.replicate ((v2.length:Int)).toNat (0:Int))).bind fun v4 =>
  chk (mkb (v2.length:Int) 8) (
  (some (List.replicate ((v2.length:Int)).toNat (0:Int))).bind fun v5 =>
  chk (mkb (v2.length:Int) 8) (
  (some (List.replicate ((v2.length:Int)).toNat (0:Int))).bind fun v6 =>
  eZ K n v2 v3 v4 v5 v6 n 0 0)))
def fh (K:Kn) (n:Nat) (v1:List Int) (v2:Fv) (L1:Int→Option Int) (v4:Int):Option Int :=
  if (decide (v4<(v1.length:Int)))=true then
    chk (inb v4 v1.length) (
    (K.eN v2 (List.getD v1 (v4).toNat default)).bind fun v5 =>
    if v5=true then
      some v4
    else
      L1 (w64 (v4+1)))
  else
    some (-1)
def fp (K:Kn) (n:Nat) (v1:List Int) (v2:Fv):Nat→Int→Option Int
  | 0=>fun _=>none
  | m+1=>fh K n v1 v2 (fp K n v1 v2 m)
def gz (K:Kn) (n:Nat) (v1:List Int) (v2:Fv):Option Int :=
  fp K n v1 v2 n 0
def gl (K:Kn) (n:Nat) (v1:List Int) (v2:Fv):Option Bool :=
  (gz K n v1 v2).bind fun v3 =>
  some (decide (v3≥0))
def gE (K:Kn) (n:Nat) (v1 v2:Int):Option (Int×Int) :=
  some ((IntKind.wrap .u64 ((IntKind.wrap .u64 ((IntKind.wrap .u64 ((v1 / 4294967296)*(v2 / 4294967296)))+((IntKind.wrap .u64 ((IntKind.wrap .u64 ((v1 / 4294967296)*(iand .u64 v2 4294967295)))+((IntKind.wrap .u64 ((iand .u64 v1 4294967295)*(iand .u64 v2 4294967295))) / 4294967296))) / 4294967296)))+((IntKind.wrap .u64 ((iand .u64 (IntKind.wrap .u64 ((IntKind.wrap .u64 ((v1 / 4294967296)*(iand .u64 v2 4294967295)))+((IntKind.wrap .u64 ((iand .u64 v1 4294967295)*(iand .u64 v2 4294967295))) / 4294967296))) 4294967295)+(IntKind.wrap .u64 ((iand .u64 v1 4294967295)*(v2 / 4294967296))))) / 4294967296))),(IntKind.wrap .u64 (v1*v2)))
def gu (K:Kn) (n:Nat) (v1 v2:Int):Option (Int×Int) :=
  (gE K n v1 v2).bind fun v3 =>
  some (v3.1,v3.2)
def fl (K:Kn) (n:Nat) (L1:Int→(List Int)→Option (List Int)) (v7:Int) (v8:List Int):Option (List Int) :=
  if (decide (v7<(v8.length:Int)))=true then
    chk (slb v7 (v8.length:Int) v8.length) (
    chk (slb (0:Int) v7 v8.length) (
    chk (cpb ((v7).toNat) (((v8.length:Int)).toNat - (v7).toNat) v8.length ((0:Int).toNat) ((v7).toNat - (0:Int).toNat) v8.length) (
    L1 (w64 (v7+((min ((v7).toNat - (0:Int).toNat) (((v8.length:Int)).toNat - (v7).toNat):Nat):Int))) (cpy v8 ((v7).toNat) (((v8.length:Int)).toNat - (v7).toNat) v8 ((0:Int).toNat) ((v7).toNat - (0:Int).toNat)))))
  else
    some v8
def fg (K:Kn) (n:Nat):Nat→Int→(List Int)→Option (List Int)
  | 0=>fun _ _=>none
  | m+1=>fl K n (fg K n m)
def fr (K:Kn) (n:Nat) (v1:List Int) (v3:Int×Int) (v4:Bool):Option (List Int) :=
  if v4=true then
    none
  else
    chk (mkb (w64 v3.2) 8) (
    (some (List.replicate ((w64 v3.2)).toNat (0:Int))).bind fun v5 =>
    chk (cpb 0 v5.length v5.length 0 v1.length v1.length) (
    fg K n n ((min v1.length v5.length:Nat):Int) (cpy v5 0 v5.length v1 0 v1.length)))
def gw (K:Kn) (n:Nat) (v1:List Int) (v2:Int):Option (List Int) :=
  if (decide (v2<0))=true then
    none
  else
    (gu K n (IntKind.wrap .u64 (v1.length:Int)) (IntKind.wrap .u64 v2)).bind fun v3 =>
    if (decide (v3.1>0))=true then
      fr K n v1 v3 true
    else
      fr K n v1 v3 (decide (v3.2>9223372036854775807))
def fD (K:Kn) (n:Nat) (v1:Int) (v5:List Int):Option (List Int) :=
  (fY K n v1 v5).bind fun v6 =>
  some v6
def gf (K:Kn) (n:Nat) (v1:Int) (v2:List Int):Option (List Int) :=
  (gl K n v2 (Fv.fn 62)).bind fun v3 =>
  if (!v3)=true then
    (gw K n [1] (v2.length:Int)).bind fun v4 =>
    fD K n v1 v4
  else
    fD K n v1 v2
def gc (K:Kn) (n:Nat) (v27:List Int) (L2:Int→(List Int)→Option (List Int)) (v28:Int) (v29:List Int):Option (List Int) :=
  if (decide (v28<(v27.length:Int)))=true then
    chk (inb v28 v27.length) (
    chk (inb v28 v29.length) (
    chk (inb v28 v29.length) (
    L2 (w64 (v28+1)) (List.set v29 (v28).toNat (w64 ((List.getD v29 (v28).toNat default)+(List.getD v27 (v28).toNat default)))))))
  else
    some v29
def fc (K:Kn) (n:Nat) (v27:List Int):Nat→Int→(List Int)→Option (List Int)
  | 0=>fun _ _=>none
  | m+1=>gc K n v27 (fc K n v27 m)
def fz (K:Kn) (n:Nat) (v26 v27:List Int):Option (List Int) :=
  fc K n v27 n 0 v26
def eR (K:Kn) (n:Nat) (v1:List bS) (v2:Int) (L1:Int→Int→Int→(List Int)→(List Int)→(List Int)→Option (List Int)) (v11 v12 v13:Int) (v14 v15 v16:List Int):Option (List Int) :=
  if (decide (v13<(v1.length:Int)))=true then
    chk (inb v13 v1.length) (
    (dB K n ((List.getD v1 (v13).toNat default).Least)).bind fun v17 =>
    chk (inb v13 v14.length) (
    (dB K n ((List.getD v1 (v13).toNat default).Most)).bind fun v18 =>
    chk (inb v13 (List.set v14 (v13).toNat v17).length) (
    chk (inb v13 v15.length) (
    (some (List.set v15 (v13).toNat (max v18 (List.getD (List.set v14 (v13).toNat v17) (v13).toNat default)))).bind fun v19 =>
    chk (inb v13 v19.length) (
    chk (inb v13 (List.set v14 (v13).toNat v17).length) (
    chk (inb v13 v16.length) (
    (some (List.set v16 (v13).toNat (w64 ((List.getD v19 (v13).toNat default) - (List.getD (List.set v14 (v13).toNat v17) (v13).toNat default))))).bind fun v20 =>
    chk (inb v13 (List.set v14 (v13).toNat v17).length) (
    (some (w64 (v11+(List.getD (List.set v14 (v13).toNat v17) (v13).toNat default)))).bind fun v21 =>
    chk (inb v13 v19.length) (
    L1 v21 (w64 (v12+(List.getD v19 (v13).toNat default))) (w64 (v13+1)) (List.set v14 (v13).toNat v17) v19 v20)))))))))
  else
    if (decide (v2≤v11))=true then
      some v14
    else
      if (decide (v2<v12))=true then
        (dB K n (w64 (v2 - v11))).bind fun v22 =>
        (fY K n v22 v16).bind fun v23 =>
        fz K n v14 v23
      else
        (dB K n (w64 (v2 - v12))).bind fun v24 =>
        (gf K n v24 v15).bind fun v25 =>
        fz K n v15 v25
def fM (K:Kn) (n:Nat) (v1:List bS) (v2:Int):Nat→Int→Int→Int→(List Int)→(List Int)→(List Int)→Option (List Int)
  | 0=>fun _ _ _ _ _ _=>none
  | m+1=>eR K n v1 v2 (fM K n v1 v2 m)
def gM (K:Kn) (n:Nat) (v1:List bS) (v2:Int):Option (List Int) :=
  chk (mkb (v1.length:Int) 8) (
  (some (List.replicate ((v1.length:Int)).toNat (0:Int))).bind fun v3 =>
  chk (mkb (v1.length:Int) 8) (
  (some (List.replicate ((v1.length:Int)).toNat (0:Int))).bind fun v4 =>
  chk (mkb (v1.length:Int) 8) (
  (some (List.replicate ((v1.length:Int)).toNat (0:Int))).bind fun v5 =>
  fM K n v1 v2 n 0 0 0 v3 v4 v5)))
def co (K:Kn) (n:Nat) (v3:Bool):Option Bool :=
  some v3
def er (K:Kn) (n:Nat):Option Bool :=
  (dP K n [[⟨2,1⟩,⟨1,1⟩],[⟨1,1⟩]]).bind fun v1 =>
  (gM K n [(⟨10,30⟩:bS),(⟨20,40⟩:bS)] 50).bind fun v2 =>
  if (v1.2 == 2)=true then
    if ((v1.1.length:Int) == 2)=true then
      chk (inb (1:Int) v1.1.length) (
      if (((List.getD v1.1 (1:Int).toNat default).length:Int) == 1)=true then
        chk (inb (1:Int) v1.1.length) (
        chk (inb (0:Int) (List.getD v1.1 (1:Int).toNat default).length) (
        if (bw (List.getD (List.getD v1.1 (1:Int).toNat default) (0:Int).toNat default) (⟨1,1,1,1⟩:aa))=true then
          if ((v2.length:Int) == 2)=true then
            chk (inb (0:Int) v2.length) (
            if ((List.getD v2 (0:Int).toNat default) == 20)=true then
              chk (inb (1:Int) v2.length) (
              co K n ((List.getD v2 (1:Int).toNat default) == 30))
            else
              co K n false)
          else
            co K n false
        else
          co K n false))
      else
        co K n false)
    else
      co K n false
  else
    co K n false
def cS (K:Kn) (n:Nat) (v4:Bool):Option Bool :=
  some v4
def d7 (K:Kn) (n:Nat) (v1:aa) (v2 v3:Int):Option Bool :=
  if (decide (v2≥v1.Row))=true then
    if (decide (v2<(w64 (v1.Row+v1.Rows))))=true then
      if (decide (v3≥v1.Col))=true then
        cS K n (decide (v3<(w64 (v1.Col+v1.Cols))))
      else
        cS K n false
    else
      cS K n false
  else
    cS K n false
def d8 (K:Kn) (n:Nat) (v1:List (List (V2 Int))) (v98:Int) (v99:List aa) (v100:List (List aa)) (v143 v145:Int) (v146:List aa) (v155 v160:Int) (L1:Int→Int→(List aa)→(List (List aa))→Option ((List (List aa))×Int)) (L2:Int→Int→Int→(List aa)→Option ((List (List aa))×Int)) (L3:Int→Bool→Option ((List (List aa))×Int)) (L4:Bool→Int→Option ((List (List aa))×Int)) (v162:Bool):Option ((List (List aa))×Int) :=
  L4 v162 (w64 (v160+1))
def ep (K:Kn) (n:Nat) (v1:List (List (V2 Int))) (v98:Int) (v99:List aa) (v100:List (List aa)) (v143 v145:Int) (v146:List aa) (v159:Bool) (L1:Int→Int→(List aa)→(List (List aa))→Option ((List (List aa))×Int)) (L2:Int→Int→Int→(List aa)→Option ((List (List aa))×Int)) (L3:Int→Bool→Option ((List (List aa))×Int)) (v163:Int):Option ((List (List aa))×Int) :=
  L3 v163 v159
def eu (K:Kn) (n:Nat) (v1:List (List (V2 Int))) (v98:Int) (v99:List aa) (v100:List (List aa)) (v143 v145:Int) (v146:List aa) (v155:Int) (L1:Int→Int→(List aa)→(List (List aa))→Option ((List (List aa))×Int)) (L2:Int→Int→Int→(List aa)→Option ((List (List aa))×Int)) (L3:Int→Bool→Option ((List (List aa))×Int)) (L4:Bool→Int→Option ((List (List aa))×Int)) (v159:Bool) (v160:Int):Option ((List (List aa))×Int) :=
  if (decide (v160<(v99.length:Int)))=true then
    chk (inb v160 v99.length) (
    (d7 K n (List.getD v99 (v160).toNat default) v98 v155).bind fun v161 =>
    if v161=true then
      d8 K n v1 v98 v99 v100 v143 v145 v146 v155 v160 L1 L2 L3 L4 false
    else
      d8 K n v1 v98 v99 v100 v143 v145 v146 v155 v160 L1 L2 L3 L4 v159)
  else
    if (!v159)=true then
      ep K n v1 v98 v99 v100 v143 v145 v146 v159 L1 L2 L3 (w64 (v155+1))
    else
      ep K n v1 v98 v99 v100 v143 v145 v146 v159 L1 L2 L3 v155
def dQ (K:Kn) (n:Nat) (v1:List (List (V2 Int))) (v98:Int) (v99:List aa) (v100:List (List aa)) (v143 v145:Int) (v146:List aa) (v155:Int) (L1:Int→Int→(List aa)→(List (List aa))→Option ((List (List aa))×Int)) (L2:Int→Int→Int→(List aa)→Option ((List (List aa))×Int)) (L3:Int→Bool→Option ((List (List aa))×Int)):Nat→Bool→Int→Option ((List (List aa))×Int)
  | 0=>fun _ _=>none
  | m+1=>eu K n v1 v98 v99 v100 v143 v145 v146 v155 L1 L2 L3 (dQ K n v1 v98 v99 v100 v143 v145 v146 v155 L1 L2 L3 m)
def dG (K:Kn) (n:Nat) (v1:List (List (V2 Int))) (v98:Int) (v99:List aa) (v100:List (List aa)) (v143 v145:Int) (v146:List aa) (L1:Int→Int→(List aa)→(List (List aa))→Option ((List (List aa))×Int)) (L2:Int→Int→Int→(List aa)→Option ((List (List aa))×Int)) (L3:Int→Bool→Option ((List (List aa))×Int)) (v155:Int) (v156:Bool):Option ((List (List aa))×Int) :=
  if (!v156)=true then
    dQ K n v1 v98 v99 v100 v143 v145 v146 v155 L1 L2 L3 n true 0
  else
    chk (inb v98 v1.length) (
    chk (inb v145 (List.getD v1 (v98).toNat default).length) (
    (some (min (max ((List.getD (List.getD v1 (v98).toNat default) (v145).toNat default).a0) 1) (w64 ((v1.length:Int) - v98)))).bind fun v164 =>
    chk (inb v98 v1.length) (
    chk (inb v145 (List.getD v1 (v98).toNat default).length) (
    (some (max v143 (w64 (v155+(min (max ((List.getD (List.getD v1 (v98).toNat default) (v145).toNat default).a1) 1) 100))))).bind fun v165 =>
    (some (w64 (v155+(min (max ((List.getD (List.getD v1 (v98).toNat default) (v145).toNat default).a1) 1) 100)))).bind fun v166 =>
    (some (min (max ((List.getD (List.getD v1 (v98).toNat default) (v145).toNat default).a1) 1) 100)).bind fun v167 =>
    chk (fits (v146.length+([(⟨v98,v155,v164,v167⟩:aa)]:(List aa)).length) 32) (
    L2 v165 v166 (w64 (v145+1)) (v146++[(⟨v98,v155,v164,v167⟩:aa)]))))))
def b5 (K:Kn) (n:Nat) (v1:List (List (V2 Int))) (v98:Int) (v99:List aa) (v100:List (List aa)) (v143 v145:Int) (v146:List aa) (L1:Int→Int→(List aa)→(List (List aa))→Option ((List (List aa))×Int)) (L2:Int→Int→Int→(List aa)→Option ((List (List aa))×Int)):Nat→Int→Bool→Option ((List (List aa))×Int)
  | 0=>fun _ _=>none
  | m+1=>dG K n v1 v98 v99 v100 v143 v145 v146 L1 L2 (b5 K n v1 v98 v99 v100 v143 v145 v146 L1 L2 m)
def ed (K:Kn) (n:Nat) (v1:List (List (V2 Int))) (v98:Int) (v99:List aa) (v100:List (List aa)) (L1:Int→Int→(List aa)→(List (List aa))→Option ((List (List aa))×Int)) (L2:Int→Int→Int→(List aa)→Option ((List (List aa))×Int)) (v143 v144 v145:Int) (v146:List aa):Option ((List (List aa))×Int) :=
  chk (inb v98 v1.length) (
  (some (decide (v145<((List.getD v1 (v98).toNat default).length:Int)))).bind fun v147 =>
  if v147=true then
    b5 K n v1 v98 v99 v100 v143 v145 v146 L1 L2 n v144 false
  else
    chk (fits (v99.length+v146.length) 32) (
    chk (fits (v100.length+([v146]:(List (List aa))).length) 24) (
    L1 v143 (w64 (v98+1)) (v99++v146) (v100++[v146]))))
def cV (K:Kn) (n:Nat) (v1:List (List (V2 Int))) (v98:Int) (v99:List aa) (v100:List (List aa)) (L1:Int→Int→(List aa)→(List (List aa))→Option ((List (List aa))×Int)):Nat→Int→Int→Int→(List aa)→Option ((List (List aa))×Int)
  | 0=>fun _ _ _ _=>none
  | m+1=>ed K n v1 v98 v99 v100 L1 (cV K n v1 v98 v99 v100 L1 m)
def eo (K:Kn) (n:Nat) (v1:List (List (V2 Int))) (L1:Int→Int→(List aa)→(List (List aa))→Option ((List (List aa))×Int)) (v97 v98:Int) (v99:List aa) (v100:List (List aa)):Option ((List (List aa))×Int) :=
  if (decide (v98<(v1.length:Int)))=true then
    cV K n v1 v98 v99 v100 L1 n v97 0 0 []
  else
    some (v100,v97)
def cQ (K:Kn) (n:Nat) (v1:List (List (V2 Int))):Nat→Int→Int→(List aa)→(List (List aa))→Option ((List (List aa))×Int)
  | 0=>fun _ _ _ _=>none
  | m+1=>eo K n v1 (cQ K n v1 m)
def eg (K:Kn) (n:Nat) (v1:List (List (V2 Int))):Option ((List (List aa))×Int) :=
  cQ K n v1 n 0 0 [] []
def cU (K:Kn) (n:Nat) (v1:List (List (V2 Int))) (v6 v7:(List (List aa))×Int) (v37:Int) (v38:List aa) (v47 v48:Int) (v49:aa) (v52:Int) (L2:Int→(List aa)→Option Bool) (L3:Int→Int→Option Bool) (L4:Int→Option Bool) (v53:Bool):Option Bool :=
  if v53=true then
    some false
  else
    L4 (w64 (v52+1))
def d4 (K:Kn) (n:Nat) (v1:List (List (V2 Int))) (v6 v7:(List (List aa))×Int) (v37:Int) (v38:List aa) (v47 v48:Int) (v49:aa) (L2:Int→(List aa)→Option Bool) (L3:Int→Int→Option Bool) (L4:Int→Option Bool) (v52:Int):Option Bool :=
  if (decide (v52<(v38.length:Int)))=true then
    chk (inb v52 v38.length) (
    if (decide (v37<(w64 (((List.getD v38 (v52).toNat default).Row)+((List.getD v38 (v52).toNat default).Rows)))))=true then
      if (decide (v49.Col≥((List.getD v38 (v52).toNat default).Col)))=true then
        cU K n v1 v6 v7 v37 v38 v47 v48 v49 v52 L2 L3 L4 (decide (v49.Col<(w64 (((List.getD v38 (v52).toNat default).Col)+((List.getD v38 (v52).toNat default).Cols)))))
      else
        cU K n v1 v6 v7 v37 v38 v47 v48 v49 v52 L2 L3 L4 false
    else
      cU K n v1 v6 v7 v37 v38 v47 v48 v49 v52 L2 L3 L4 false)
  else
    L3 v47 (w64 (v48+1))
def dc (K:Kn) (n:Nat) (v1:List (List (V2 Int))) (v6 v7:(List (List aa))×Int) (v37:Int) (v38:List aa) (v47 v48:Int) (v49:aa) (L2:Int→(List aa)→Option Bool) (L3:Int→Int→Option Bool):Nat→Int→Option Bool
  | 0=>fun _=>none
  | m+1=>d4 K n v1 v6 v7 v37 v38 v47 v48 v49 L2 L3 (dc K n v1 v6 v7 v37 v38 v47 v48 v49 L2 L3 m)
def ch (K:Kn) (n:Nat) (v1:List (List (V2 Int))) (v6 v7:(List (List aa))×Int) (v37:Int) (v38:List aa) (v47 v48:Int) (v49:aa) (L2:Int→(List aa)→Option Bool) (L3:Int→Int→Option Bool) (v50:Bool):Option Bool :=
  if v50=true then
    some false
  else
    dc K n v1 v6 v7 v37 v38 v47 v48 v49 L2 L3 n 0
def ez (K:Kn) (n:Nat) (v1:List (List (V2 Int))) (v6 v7:(List (List aa))×Int) (v37:Int) (v38:List aa) (L2:Int→(List aa)→Option Bool) (L3:Int→Int→Option Bool) (v47 v48:Int):Option Bool :=
  if (decide (v48<v47))=true then
    chk (inb v48 (List.getD v6.1 (v37).toNat default).length) (
    (some (List.getD (List.getD v6.1 (v37).toNat default) (v48).toNat default)).bind fun v49 =>
    chk (inb v37 v7.1.length) (
    chk (inb v48 (List.getD v7.1 (v37).toNat default).length) (
    if (!(bw v49 (List.getD (List.getD v7.1 (v37).toNat default) (v48).toNat default)))=true then
      ch K n v1 v6 v7 v37 v38 v47 v48 v49 L2 L3 true
    else
      if (v49.Row != v37)=true then
        ch K n v1 v6 v7 v37 v38 v47 v48 v49 L2 L3 true
      else
        if (decide ((w64 (v49.Row+v49.Rows))>(v1.length:Int)))=true then
          ch K n v1 v6 v7 v37 v38 v47 v48 v49 L2 L3 true
        else
          if (decide ((w64 (v49.Col+v49.Cols))>v6.2))=true then
            ch K n v1 v6 v7 v37 v38 v47 v48 v49 L2 L3 true
          else
            if (decide (v48>0))=true then
              chk (inb (w64 (v48 - 1)) (List.getD v6.1 (v37).toNat default).length) (
              chk (inb (w64 (v48 - 1)) (List.getD v6.1 (v37).toNat default).length) (
              ch K n v1 v6 v7 v37 v38 v47 v48 v49 L2 L3 (decide (v49.Col<(w64 (((List.getD (List.getD v6.1 (v37).toNat default) ((w64 (v48 - 1))).toNat default).Col)+((List.getD (List.getD v6.1 (v37).toNat default) ((w64 (v48 - 1))).toNat default).Cols)))))))
            else
              ch K n v1 v6 v7 v37 v38 v47 v48 v49 L2 L3 false)))
  else
    chk (fits (v38.length+(List.getD v6.1 (v37).toNat default).length) 32) (
    L2 (w64 (v37+1)) (v38++(List.getD v6.1 (v37).toNat default)))
def cL (K:Kn) (n:Nat) (v1:List (List (V2 Int))) (v6 v7:(List (List aa))×Int) (v37:Int) (v38:List aa) (L2:Int→(List aa)→Option Bool):Nat→Int→Int→Option Bool
  | 0=>fun _ _=>none
  | m+1=>ez K n v1 v6 v7 v37 v38 L2 (cL K n v1 v6 v7 v37 v38 L2 m)
def ey (K:Kn) (n:Nat) (v1:List (List (V2 Int))) (v6 v7:(List (List aa))×Int) (L2:Int→(List aa)→Option Bool) (v37:Int) (v38:List aa):Option Bool :=
  if (decide (v37<(v6.1.length:Int)))=true then
    chk (inb v37 v6.1.length) (
    chk (inb v37 v7.1.length) (
    (some (((List.getD v6.1 (v37).toNat default).length:Int) != ((List.getD v7.1 (v37).toNat default).length:Int))).bind fun v39 =>
    if v39=true then
      some false
    else
      cL K n v1 v6 v7 v37 v38 L2 n ((List.getD v6.1 (v37).toNat default).length:Int) 0))
  else
    some true
def cX (K:Kn) (n:Nat) (v1:List (List (V2 Int))) (v6 v7:(List (List aa))×Int):Nat→Int→(List aa)→Option Bool
  | 0=>fun _ _=>none
  | m+1=>ey K n v1 v6 v7 (cX K n v1 v6 v7 m)
def eA (K:Kn) (n:Nat) (v1:List (List (V2 Int))) (v6 v7:(List (List aa))×Int) (v8:Bool):Option Bool :=
  if v8=true then
    some false
  else
    cX K n v1 v6 v7 n 0 []
def ef (K:Kn) (n:Nat) (v1:List (List (V2 Int))) (L1:Int→Option Bool) (v4:Int):Option Bool :=
  if (decide (v4<(v1.length:Int)))=true then
    chk (inb v4 v1.length) (
    (some (decide (((List.getD v1 (v4).toNat default).length:Int)>8))).bind fun v5 =>
    if v5=true then
      some true
    else
      L1 (w64 (v4+1)))
  else
    (dP K n v1).bind fun v6 =>
    (eg K n v1).bind fun v7 =>
    if (v6.2 != v7.2)=true then
      eA K n v1 v6 v7 true
    else
      eA K n v1 v6 v7 ((v6.1.length:Int) != (v7.1.length:Int))
def dH (K:Kn) (n:Nat) (v1:List (List (V2 Int))):Nat→Int→Option Bool
  | 0=>fun _=>none
  | m+1=>ef K n v1 (dH K n v1 m)
def fi (K:Kn) (n:Nat) (v1:List (List (V2 Int))):Option Bool :=
  (er K n ).bind fun v2 =>
  if (!v2)=true then
    some false
  else
    if (decide ((v1.length:Int)>10))=true then
      some true
    else
      dH K n v1 n 0
def gV (K:Kn) (n:Nat) (v1:Int):Option Bool :=
  some (decide (v1>0))
def KN:Nat→Kn
  | 0=>⟨fun _ _ _ _ _=>none,fun _ _ _=>none,fun _ _=>none⟩
  | n+1=>⟨fun a0 a1 a2 a3 a4=>dW (KN n) n a0 a1 a2 a3 a4,
    fun f a0 a1=>match f with | .fn i=>none | .c59 x0=>ge (KN n) n a0 a1 x0,
    fun f a0=>match f with | .fn i=>if Nat.beq i 62=true then gV (KN n) n a0 else none | .c59 x0=>none⟩
end
end Go.Proofs.Ytolhpahjgddjkaa
